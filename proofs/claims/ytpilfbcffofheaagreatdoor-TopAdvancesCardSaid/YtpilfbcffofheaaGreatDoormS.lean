/- The contracts of the standard library, in plain words. -/
import Derived.Below
import Derived.ChangeOld
import Derived.Deep.DeepHandedRow
import Derived.Ground.GgzProg
import Derived.Ground.Names2Prog
import Derived.Ground.SlgmProg
import Derived.Ground.SlgnProg
import Derived.Ground.SlsfProg
import Derived.ProofKit
import Derived.Shelf.Bits.Mul64
import Derived.Shelf.Bytes.SlEqualAll
import Derived.Shelf.Bytes.SlSearch0
import Derived.Shelf.Bytes.Small
import Derived.Shelf.SlIter.Nil
import Derived.Shelf.SlSortCmp.HeapSort1
import Derived.Shelf.SlSortCmp.Insertion
import Derived.Shelf.SlSortCmp.Insertion1
import Derived.Shelf.SlSortCmp.Median1
import Derived.Shelf.SlSortCmp.NoneTotal
import Derived.Shelf.SlSortCmp.PartialInsertion1
import Derived.Shelf.SlSortCmp.Partition1
import Derived.Shelf.SlSortCmp.PartitionEqual1
import Derived.Shelf.SlSortCmp.Pdq1
import Derived.Shelf.SlSortCmp.Pivot1
import Derived.Shelf.SlSortCmp.ReverseRange1
import Derived.Shelf.SlSortCmp.SiftDown1
import Derived.Shelf.SlSortCmp.Whole1
import Derived.Shelf.Slices.Cells
import Derived.Shelf.Slices.Clone
import Derived.Shelf.Slices.CompactS
import Derived.Shelf.Slices.Empties2
import Derived.Shelf.Slices.Equal
import Derived.Shelf.Slices.In.SortNone
import Derived.Shelf.Slices.ReverseS
import Derived.Shelf.Slices.SearchI
import Derived.Shelf.SlicesE.Clone
import Derived.Shelf.SlicesE.Reverse
import Derived.Shelf.Small.Bits
import Derived.Shelf.Sort.Plain
import Derived.Shelf.SortM.Plain
import Derived.Shelf.SortM.SortNone
import Derived.Shelf.Spec.SearchS
import Derived.Shelf.Strconv.Itoa0
import Derived.Test.YtpilfbcffofheaaGreatDoorm
set_option linter.all false
namespace Go.Proofs
open Go.Shelf Tryz
theorem kt {α:Type} {x:Option α} {a b:α} (h:x=some a) (e:some a=some b:=by kernel_rfl):x=some b:=h.trans e
def Tryz.lays190_ren:Go.Shelf.Ren:=⟨fun|190=>168|125=>229|258=>228|128=>298|129=>299|302=>290|303=>291|304=>292|305=>293|306=>294|307=>295|308=>237|309=>296|310=>297|333=>316|329=>317|330=>318|334=>319|335=>320|336=>269|344=>336|n=>n,fun|31=>143|9=>9|3=>3|46=>310|0=>0|51=>314|53=>328|4=>4|183=>382|182=>381|131=>270|5=>5|218=>402|222=>406|228=>420|229=>330|n=>n,fun|n=>n⟩
theorem Tryz.lays190:Go.Proofs.Lays.n190 Tryz.prog Tryz.lays190_ren:={
 mixed:=by kernel_rfl
 f125:=kt func229
 f128:=kt func298
 f129:=kt func299
 f190:=kt func168
 f258:=kt func228
 f302:=kt func290
 f303:=kt func291
 f304:=kt func292
 f305:=kt func293
 f306:=kt func294
 f307:=kt func295
 f308:=kt func237
 f309:=kt func296
 f310:=kt func297
 f329:=kt func317
 f330:=kt func318
 f333:=kt func316
 f334:=kt func319
 f335:=kt func320
 f336:=kt func269
 f344:=kt func336
 t0:=underlying0
 a0:=isAgg0
 z0:=sizeOf0
 v0:=zeroValue0
 t3:=underlying3
 a3:=isAgg3
 z3:=sizeOf3
 v3:=zeroValue3
 t4:=underlying4
 a4:=isAgg4
 z4:=sizeOf4
 v4:=zeroValue4
 t5:=underlying5
 a5:=isAgg5
 z5:=sizeOf5
 v5:=zeroValue5
 t9:=underlying9
 a9:=isAgg9
 z9:=sizeOf9
 v9:=zeroValue9
 t31:=underlying143
 a31:=isAgg143
 z31:=sizeOf143
 v31:=zeroValue143
 t46:=underlying310
 a46:=isAgg310
 z46:=sizeOf310
 v46:=zeroValue310
 t51:=underlying314
 a51:=isAgg314
 z51:=sizeOf314
 v51:=zeroValue314
 t53:=underlying328
 a53:=isAgg328
 z53:=sizeOf328
 v53:=zeroValue328
 t131:=underlying270
 a131:=isAgg270
 z131:=sizeOf270
 v131:=zeroValue270
 t182:=underlying381
 a182:=isAgg381
 z182:=sizeOf381
 v182:=zeroValue381
 t183:=underlying382
 a183:=isAgg382
 z183:=sizeOf382
 v183:=zeroValue382
 t218:=underlying402
 a218:=isAgg402
 z218:=sizeOf402
 v218:=zeroValue402
 t222:=underlying406
 a222:=isAgg406
 z222:=sizeOf406
 v222:=zeroValue406
 t228:=underlying420
 a228:=isAgg420
 z228:=sizeOf420
 v228:=zeroValue420
 t229:=underlying330
 a229:=isAgg330
 z229:=sizeOf330
 v229:=zeroValue330}
def Tryz.lays111_ren:Go.Shelf.Ren:=⟨fun|111=>67|n=>n,fun|28=>23|3=>3|4=>4|0=>0|n=>n,fun|n=>n⟩
theorem Tryz.lays111:Go.Proofs.Lays.n111 Tryz.prog Tryz.lays111_ren:={
 mixed:=by kernel_rfl
 f111:=kt func67
 t0:=underlying0
 a0:=isAgg0
 z0:=sizeOf0
 v0:=zeroValue0
 t3:=underlying3
 a3:=isAgg3
 z3:=sizeOf3
 v3:=zeroValue3
 t4:=underlying4
 a4:=isAgg4
 z4:=sizeOf4
 v4:=zeroValue4
 t28:=underlying23
 a28:=isAgg23
 z28:=sizeOf23
 v28:=zeroValue23}
def Tryz.laysNm217_ren:Go.Shelf.Ren:=⟨fun|17=>137|n=>n,fun|24=>143|9=>9|3=>3|4=>4|0=>0|n=>n,fun|n=>n⟩
theorem Tryz.laysNm217:Go.Proofs.Lays2.n17 Tryz.prog Tryz.laysNm217_ren:={
 mixed:=by kernel_rfl
 f17:=kt func137
 t0:=underlying0
 a0:=isAgg0
 z0:=sizeOf0
 v0:=zeroValue0
 t3:=underlying3
 a3:=isAgg3
 z3:=sizeOf3
 v3:=zeroValue3
 t4:=underlying4
 a4:=isAgg4
 z4:=sizeOf4
 v4:=zeroValue4
 t9:=underlying9
 a9:=isAgg9
 z9:=sizeOf9
 v9:=zeroValue9
 t24:=underlying143
 a24:=isAgg143
 z24:=sizeOf143
 v24:=zeroValue143}
def Tryz.lays194_ren:Go.Shelf.Ren:=⟨fun|194=>169|n=>n,fun|31=>143|9=>9|3=>3|4=>4|0=>0|n=>n,fun|n=>n⟩
theorem Tryz.lays194:Go.Proofs.Lays.n194 Tryz.prog Tryz.lays194_ren:={
 mixed:=by kernel_rfl
 f194:=kt func169
 t0:=underlying0
 a0:=isAgg0
 z0:=sizeOf0
 v0:=zeroValue0
 t3:=underlying3
 a3:=isAgg3
 z3:=sizeOf3
 v3:=zeroValue3
 t4:=underlying4
 a4:=isAgg4
 z4:=sizeOf4
 v4:=zeroValue4
 t9:=underlying9
 a9:=isAgg9
 z9:=sizeOf9
 v9:=zeroValue9
 t31:=underlying143
 a31:=isAgg143
 z31:=sizeOf143
 v31:=zeroValue143}
def Tryz.laysSlE041_f264_ren:Go.Shelf.Ren:=⟨fun|41=>264|n=>n,fun|22=>143|23=>9|4=>4|n=>n,fun|n=>n⟩
theorem Tryz.laysSlE041_f264:Go.Proofs.SlLaysE0.n41 Tryz.prog Tryz.laysSlE041_f264_ren:={
 mixed:=by kernel_rfl
 f41:=⟨Tryz.f264.name,by decide,func264.trans (congrArg some (by kernel_rfl))⟩
 t4:=underlying4
 a4:=isAgg4
 z4:=sizeOf4
 v4:=zeroValue4
 t22:=underlying143
 a22:=isAgg143
 z22:=sizeOf143
 v22:=zeroValue143}
def Tryz.laysSlF6_f265_ren:Go.Shelf.Ren:=⟨fun|6=>265|15=>229|14=>309|28=>298|29=>299|20=>324|21=>325|22=>326|23=>327|24=>328|25=>329|26=>330|27=>331|46=>337|47=>317|48=>318|49=>338|50=>339|57=>343|n=>n,fun|22=>143|24=>9|25=>305|3=>3|39=>310|0=>0|53=>314|55=>328|4=>4|46=>382|45=>381|50=>270|5=>5|9=>9|66=>402|70=>406|76=>420|77=>330|n=>n,fun|n=>n⟩
theorem Tryz.laysSlF6_f265:Go.Proofs.SlLaysF.n6 Tryz.prog Tryz.laysSlF6_f265_ren:={
 mixed:=by kernel_rfl
 f6:=⟨Tryz.f265.name,by decide,func265.trans (congrArg some (by kernel_rfl))⟩
 f14:=⟨Tryz.f309.name,by decide,func309.trans (congrArg some (by kernel_rfl))⟩
 f15:=kt func229
 f20:=⟨Tryz.f324.name,by decide,func324.trans (congrArg some (by kernel_rfl))⟩
 f21:=⟨Tryz.f325.name,by decide,func325.trans (congrArg some (by kernel_rfl))⟩
 f22:=⟨Tryz.f326.name,by decide,func326.trans (congrArg some (by kernel_rfl))⟩
 f23:=⟨Tryz.f327.name,by decide,func327.trans (congrArg some (by kernel_rfl))⟩
 f24:=⟨Tryz.f328.name,by decide,func328.trans (congrArg some (by kernel_rfl))⟩
 f25:=⟨Tryz.f329.name,by decide,func329.trans (congrArg some (by kernel_rfl))⟩
 f26:=⟨Tryz.f330.name,by decide,func330.trans (congrArg some (by kernel_rfl))⟩
 f27:=⟨Tryz.f331.name,by decide,func331.trans (congrArg some (by kernel_rfl))⟩
 f28:=kt func298
 f29:=kt func299
 f46:=⟨Tryz.f337.name,by decide,func337.trans (congrArg some (by kernel_rfl))⟩
 f47:=kt func317
 f48:=kt func318
 f49:=⟨Tryz.f338.name,by decide,func338.trans (congrArg some (by kernel_rfl))⟩
 f50:=⟨Tryz.f339.name,by decide,func339.trans (congrArg some (by kernel_rfl))⟩
 f57:=⟨Tryz.f343.name,by decide,func343.trans (congrArg some (by kernel_rfl))⟩
 t0:=underlying0
 a0:=isAgg0
 z0:=sizeOf0
 v0:=zeroValue0
 t3:=underlying3
 a3:=isAgg3
 z3:=sizeOf3
 v3:=zeroValue3
 t4:=underlying4
 a4:=isAgg4
 z4:=sizeOf4
 v4:=zeroValue4
 t5:=underlying5
 a5:=isAgg5
 z5:=sizeOf5
 v5:=zeroValue5
 t9:=underlying9
 a9:=isAgg9
 z9:=sizeOf9
 v9:=zeroValue9
 t22:=underlying143
 a22:=isAgg143
 z22:=sizeOf143
 v22:=zeroValue143
 a24:=isAgg9
 z24:=sizeOf9
 t25:=underlying305
 a25:=isAgg305
 z25:=sizeOf305
 v25:=zeroValue305
 t39:=underlying310
 a39:=isAgg310
 z39:=sizeOf310
 v39:=zeroValue310
 t45:=underlying381
 a45:=isAgg381
 z45:=sizeOf381
 v45:=zeroValue381
 t46:=underlying382
 a46:=isAgg382
 z46:=sizeOf382
 v46:=zeroValue382
 t50:=underlying270
 a50:=isAgg270
 z50:=sizeOf270
 v50:=zeroValue270
 t53:=underlying314
 a53:=isAgg314
 z53:=sizeOf314
 v53:=zeroValue314
 t55:=underlying328
 a55:=isAgg328
 z55:=sizeOf328
 v55:=zeroValue328
 t66:=underlying402
 a66:=isAgg402
 z66:=sizeOf402
 v66:=zeroValue402
 t70:=underlying406
 a70:=isAgg406
 z70:=sizeOf406
 v70:=zeroValue406
 t76:=underlying420
 a76:=isAgg420
 z76:=sizeOf420
 v76:=zeroValue420
 t77:=underlying330
 a77:=isAgg330
 z77:=sizeOf330
 v77:=zeroValue330}
def Tryz.laysSlF06_f265_ren:Go.Shelf.Ren:=⟨fun|6=>265|15=>229|14=>309|28=>298|29=>299|20=>324|21=>325|22=>326|23=>327|24=>328|25=>329|26=>330|27=>331|46=>337|47=>317|48=>318|49=>338|50=>339|57=>343|n=>n,fun|22=>143|24=>9|25=>305|3=>3|39=>310|0=>0|53=>314|55=>328|4=>4|46=>382|45=>381|50=>270|5=>5|9=>9|66=>402|70=>406|76=>420|77=>330|n=>n,fun|n=>n⟩
theorem Tryz.laysSlF06_f265:Go.Proofs.SlLaysF0.n6 Tryz.prog Tryz.laysSlF06_f265_ren:={
 mixed:=by kernel_rfl
 f6:=⟨Tryz.f265.name,by decide,func265.trans (congrArg some (by kernel_rfl))⟩
 f14:=⟨Tryz.f309.name,by decide,func309.trans (congrArg some (by kernel_rfl))⟩
 f15:=kt func229
 f20:=⟨Tryz.f324.name,by decide,func324.trans (congrArg some (by kernel_rfl))⟩
 f21:=⟨Tryz.f325.name,by decide,func325.trans (congrArg some (by kernel_rfl))⟩
 f22:=⟨Tryz.f326.name,by decide,func326.trans (congrArg some (by kernel_rfl))⟩
 f23:=⟨Tryz.f327.name,by decide,func327.trans (congrArg some (by kernel_rfl))⟩
 f24:=⟨Tryz.f328.name,by decide,func328.trans (congrArg some (by kernel_rfl))⟩
 f25:=⟨Tryz.f329.name,by decide,func329.trans (congrArg some (by kernel_rfl))⟩
 f26:=⟨Tryz.f330.name,by decide,func330.trans (congrArg some (by kernel_rfl))⟩
 f27:=⟨Tryz.f331.name,by decide,func331.trans (congrArg some (by kernel_rfl))⟩
 f28:=kt func298
 f29:=kt func299
 f46:=⟨Tryz.f337.name,by decide,func337.trans (congrArg some (by kernel_rfl))⟩
 f47:=kt func317
 f48:=kt func318
 f49:=⟨Tryz.f338.name,by decide,func338.trans (congrArg some (by kernel_rfl))⟩
 f50:=⟨Tryz.f339.name,by decide,func339.trans (congrArg some (by kernel_rfl))⟩
 f57:=⟨Tryz.f343.name,by decide,func343.trans (congrArg some (by kernel_rfl))⟩
 t0:=underlying0
 a0:=isAgg0
 z0:=sizeOf0
 v0:=zeroValue0
 t3:=underlying3
 a3:=isAgg3
 z3:=sizeOf3
 v3:=zeroValue3
 t4:=underlying4
 a4:=isAgg4
 z4:=sizeOf4
 v4:=zeroValue4
 t5:=underlying5
 a5:=isAgg5
 z5:=sizeOf5
 v5:=zeroValue5
 t9:=underlying9
 a9:=isAgg9
 z9:=sizeOf9
 v9:=zeroValue9
 t22:=underlying143
 a22:=isAgg143
 z22:=sizeOf143
 v22:=zeroValue143
 t25:=underlying305
 a25:=isAgg305
 z25:=sizeOf305
 v25:=zeroValue305
 t39:=underlying310
 a39:=isAgg310
 z39:=sizeOf310
 v39:=zeroValue310
 t45:=underlying381
 a45:=isAgg381
 z45:=sizeOf381
 v45:=zeroValue381
 t46:=underlying382
 a46:=isAgg382
 z46:=sizeOf382
 v46:=zeroValue382
 t50:=underlying270
 a50:=isAgg270
 z50:=sizeOf270
 v50:=zeroValue270
 t53:=underlying314
 a53:=isAgg314
 z53:=sizeOf314
 v53:=zeroValue314
 t55:=underlying328
 a55:=isAgg328
 z55:=sizeOf328
 v55:=zeroValue328
 t66:=underlying402
 a66:=isAgg402
 z66:=sizeOf402
 v66:=zeroValue402
 t70:=underlying406
 a70:=isAgg406
 z70:=sizeOf406
 v70:=zeroValue406
 t76:=underlying420
 a76:=isAgg420
 z76:=sizeOf420
 v76:=zeroValue420
 t77:=underlying330
 a77:=isAgg330
 z77:=sizeOf330
 v77:=zeroValue330}
open Go.Sort Go.RowKit in
theorem Tryz.slices_Sort_string (blk off cap:Nat) (ss:List (List UInt8)) (w:World) (hH:Holds encStr w blk off ss.toArray) (hblk:blk<w.heap.size) (hsz:ss.length<4611686018427387904) :
  Calls Tryz.prog 168 #[.slice (some ⟨blk,off,none⟩) ss.length cap] w fun e w' =>
   e=.returned (.tuple #[])∧∃ n os,w'=grow (putRow encStr (Sort.ahead w n) blk off (ss.mergeSort fun x y=>decide (x≤y)).toArray) os:=Any.slices_Sort_string Tryz.lays190 blk off cap ss w hH hblk hsz
open Go.RowKit Go.Lib in
theorem Tryz.slices_Equal_int (b1 o1 n c b2 o2 m d:Nat) (xs ys:List Int) (w:World) (hx:n≤xs.length) (hy:m≤ys.length) (hbig:n≤9223372036854775807) (hbig2:m≤9223372036854775807) (hc1:∀ j,j<xs.length→w.cell? ⟨b1,o1+j,none⟩=some (.int .i64 (xs.getD j 0))) (hc2:∀ j,j<ys.length→w.cell? ⟨b2,o2+j,none⟩=some (.int .i64 (ys.getD j 0))) :
  Calls Tryz.prog 67 #[.slice (some ⟨b1,o1,none⟩) n c,.slice (some ⟨b2,o2,none⟩) m d] w fun e w'=>e=.returned (.bool (xs.take n==ys.take m))∧∃ q,w'=w.drewN q:=Any.slices_Equal_int Tryz.lays111 b1 o1 n c b2 o2 m d xs ys w hx hy hbig hbig2 hc1 hc2
open Go.RowKit Go.Lib in
theorem Tryz.slices_Equal_int_empty (a1 a2:Option Addr) (c m d:Nat) (w:World) (hbig2:m≤9223372036854775807) :
  Calls Tryz.prog 67 #[.slice a1 0 c,.slice a2 m d] w fun e w'=>e=.returned (.bool (decide (m=0)))∧w'=w:=Any.slices_Equal_int_empty Tryz.lays111 a1 a2 c m d w hbig2
open Go.RowKit Go.Lib Go.Sort in
theorem Tryz.slices_Reverse_string (blk off cap:Nat) (zs:List (List UInt8)) (w:World) (hH:Holds encStr w blk off zs.toArray) (hsz:zs.length≤9223372036854775807) :
  Calls Tryz.prog 137 #[.slice (some ⟨blk,off,none⟩) zs.length cap] w fun e w'=>e=.returned (.tuple #[])∧∃ n,w'=putRow encStr (Sort.ahead w n) blk off zs.reverse.toArray:=Any.slices_Reverse_string Tryz.laysNm217 blk off cap zs w hH hsz
open Go.RowKit Go.Lib Go.Sort in
theorem Tryz.slices_Reverse_string_empty (a:Option Addr) (cap:Nat) (w:World) :
  Calls Tryz.prog 137 #[.slice a 0 cap] w fun e w'=>e=.returned (.tuple #[])∧w'=w:=Any.slices_Reverse_string_empty Tryz.laysNm217 a cap w
open Go.RowKit Go.Lib Go.Sort in
theorem Tryz.slices_Compact_string (blk off cap:Nat) (zs:List (List UInt8)) (w:World) (hH:Holds encStr w blk off zs.toArray) (hsz:zs.length≤9223372036854775807) (hcap:zs.length≤cap) :
  Calls Tryz.prog 169 #[.slice (some ⟨blk,off,none⟩) zs.length cap] w fun e w'=>e=.returned (.slice (some ⟨blk,off,none⟩) (Lib.compact zs).length cap)∧∃ q,w'=putRow encStr (Sort.ahead w q) blk off (Lib.compact zs++List.replicate (zs.length - (Lib.compact zs).length) []).toArray:=Any.slices_Compact_string Tryz.lays194 blk off cap zs w hH hsz hcap
open Go.RowKit Go.Lib Go.Sort in
theorem Tryz.slices_Compact_string_empty (a:Option Addr) (cap:Nat) (w:World) :
  Calls Tryz.prog 169 #[.slice a 0 cap] w fun e w'=>e=.returned (.slice a 0 cap)∧w'=w:=Any.slices_Compact_string_empty Tryz.lays194 a cap w
open Go.RowKit Go.Sort in
theorem Tryz.slices_Sort_string_none (p:Option Addr) (cap:Nat) (w:World) :
  Calls Tryz.prog 168 #[.slice p 0 cap] w fun e w'=>e=.returned (.tuple #[])∧w'=w:=Any.slices_Sort_string_none Tryz.lays190 p cap w
open Go.RowKit Go.Lib in
theorem Tryz.slices_Clone (i0:TypeInfo) (z:Value) (size bytes:Nat) (hi:Tryz.prog.info? 9=some i0) (hz0:i0.zero=some z) (hz1:i0.size=size) (hz2:i0.bytes=bytes) (hzs:z.cells.size=size) (hsz:0<size) (z23:∀ w,(Go.sizeOf 9).run Tryz.prog w=.ok size w) (b off n c:Nat) (news:List Value) (w:World) (hl:news.length=n*size) (hn:n≤maxLen) (hbig:n*bytes≤140737488355328) (hc:∀ j u,news[j]?=some u→w.cell? ⟨b,off+j,none⟩=some u) (h1:∀ u∈news,u.oneCell'=true) :
  Calls Tryz.prog 264 #[.slice (some ⟨b,off,none⟩) n c] w fun e w'=>∃ v',e=.returned v'∧w'.ownsRow w.heap.size 9 size v' n news∧v'≠.slice none 0 0∧Below w.heap.size w w':=AnyE.slices_Clone Tryz.laysSlE041_f264 i0 z size bytes hi hz0 hz1 hz2 hzs hsz z23 b off n c news w hl hn hbig hc h1
open Go.RowKit Go.Lib in
theorem Tryz.slices_Clone_nil (n c:Nat) (w:World) :
  Calls Tryz.prog 264 #[.slice none n c] w fun e w'=>e=.returned (.slice none 0 0)∧w'=w:=AnyE.slices_Clone_nil Tryz.laysSlE041_f264 n c w
open Go.RowKit Go.Lib Go.Sort in
theorem Tryz.slices_SortFunc_none {α:Type} [Inhabited α] (p:Option Addr) (cap:Nat) (fv:Value) (w:World) :
  Calls Tryz.prog 265 #[.slice p 0 cap,fv] w fun e w'=>e=.returned (.tuple #[])∧w'=w:=AnyF.slices_SortFunc_none Tryz.laysSlF06_f265 p cap fv w
open Go.RowKit Go.Lib Go.Sort in
theorem Tryz.slices_SortFunc_total {α:Type} [Inhabited α] (enc:α→Value) (h1:OneCell enc) (cf:α→α→Int) (hO:SWO (ltOf cf)) (g:Nat) (cb:Array Value) (blk off cap:Nat) (d:Array α) (w:World) (eg:∀ args w,(callFunc g args).run Tryz.prog w=.ok (.enter g args) w) (hcmp:CmpLays1 Tryz.prog g cb enc cf blk off d.size w) (hH:Holds enc w blk off d) (hblk:blk<w.heap.size) (hsz:d.size<4611686018427387904) (hT:∀ x y,(ltOf cf) x y=false→(ltOf cf) y x=false→x=y) :
  Calls Tryz.prog 265 #[.slice (some ⟨blk,off,none⟩) d.size cap,.func (.func g) #[] cb] w fun e w' =>
   e=.returned (.tuple #[])∧∃ n os,w'=sortWorld enc w blk off n (d.toList.mergeSort fun x y=>!(ltOf cf) y x).toArray os:=Any.slices_SortFunc_total Tryz.laysSlF6_f265 enc h1 cf hO g cb blk off cap d w eg hcmp hH hblk hsz hT
def Tryz.keysM_ren:Go.Shelf.Ren:=⟨fun|7=>123|10=>202|n=>n,fun|23=>219|26=>9|3=>23|28=>223|0=>0|27=>222|33=>266|4=>4|n=>n,fun|n=>n⟩
theorem Tryz.keysM:Go.Proofs.SlLaysZ.n7 Tryz.prog Tryz.keysM_ren:={
 mixed:=by kernel_rfl
 f7:=⟨Tryz.f123.name,by decide,func123.trans (congrArg some (by kernel_rfl))⟩
 f10:=⟨Tryz.f202.name,by decide,func202.trans (congrArg some (by kernel_rfl))⟩
 t0:=underlying0
 a0:=isAgg0
 z0:=sizeOf0
 v0:=zeroValue0
 t4:=underlying4
 a4:=isAgg4
 z4:=sizeOf4
 v4:=zeroValue4
 t23:=underlying219
 a23:=isAgg219
 z23:=sizeOf219
 v23:=zeroValue219
 t26:=underlying9
 a26:=isAgg9
 z26:=sizeOf9
 v26:=zeroValue9
 t27:=underlying222
 a27:=isAgg222
 z27:=sizeOf222
 v27:=zeroValue222
 t28:=underlying223
 a28:=isAgg223
 z28:=sizeOf223
 v28:=zeroValue223
 t33:=underlying266
 a33:=isAgg266
 z33:=sizeOf266
 v33:=zeroValue266}
def Tryz.sortedM_ren:Go.Shelf.Ren:=⟨fun|6=>122|8=>201|9=>168|11=>270|13=>229|12=>228|23=>298|24=>299|14=>290|15=>291|16=>292|17=>293|18=>294|19=>295|20=>237|21=>296|22=>297|25=>316|26=>317|27=>318|28=>319|29=>320|30=>269|31=>336|n=>n,fun|26=>9|28=>223|24=>143|0=>0|3=>3|37=>310|48=>314|50=>328|4=>4|40=>382|39=>381|45=>270|5=>5|9=>9|51=>402|55=>406|57=>420|58=>330|33=>266|n=>n,fun|n=>n⟩
theorem Tryz.sortedM:Go.Proofs.SlLaysZ.n6 Tryz.prog Tryz.sortedM_ren:={
 mixed:=by kernel_rfl
 f6:=⟨Tryz.f122.name,by decide,func122.trans (congrArg some (by kernel_rfl))⟩
 f8:=⟨Tryz.f201.name,by decide,func201.trans (congrArg some (by kernel_rfl))⟩
 f11:=⟨Tryz.f270.name,by decide,func270.trans (congrArg some (by kernel_rfl))⟩
 t0:=underlying0
 a0:=isAgg0
 z0:=sizeOf0
 v0:=zeroValue0
 t24:=underlying143
 a24:=isAgg143
 z24:=sizeOf143
 v24:=zeroValue143
 t26:=underlying9
 a26:=isAgg9
 z26:=sizeOf9
 v26:=zeroValue9
 t28:=underlying223
 a28:=isAgg223
 z28:=sizeOf223
 v28:=zeroValue223
 i26:=by kernel_rfl}
def Tryz.sortM_ren:Go.Shelf.Ren:=⟨fun|6=>168|8=>229|9=>228|19=>298|20=>299|21=>290|22=>291|23=>292|24=>293|25=>294|26=>295|27=>237|28=>296|29=>297|36=>316|31=>317|32=>318|37=>319|38=>320|39=>269|41=>336|n=>n,fun|27=>143|29=>9|3=>3|32=>310|26=>143|0=>0|44=>314|46=>328|4=>4|36=>382|35=>381|41=>270|5=>5|9=>9|53=>402|57=>406|63=>420|64=>330|n=>n,fun|n=>n⟩
theorem Tryz.sortM:Go.Proofs.SlLaysM.n6 Tryz.prog Tryz.sortM_ren:={
 mixed:=by kernel_rfl
 f6:=⟨Tryz.f168.name,by decide,func168.trans (congrArg some (by kernel_rfl))⟩
 f8:=kt func229
 f9:=⟨Tryz.f228.name,by decide,func228.trans (congrArg some (by kernel_rfl))⟩
 f19:=kt func298
 f20:=kt func299
 f21:=⟨Tryz.f290.name,by decide,func290.trans (congrArg some (by kernel_rfl))⟩
 f22:=⟨Tryz.f291.name,by decide,func291.trans (congrArg some (by kernel_rfl))⟩
 f23:=⟨Tryz.f292.name,by decide,func292.trans (congrArg some (by kernel_rfl))⟩
 f24:=⟨Tryz.f293.name,by decide,func293.trans (congrArg some (by kernel_rfl))⟩
 f25:=⟨Tryz.f294.name,by decide,func294.trans (congrArg some (by kernel_rfl))⟩
 f26:=⟨Tryz.f295.name,by decide,func295.trans (congrArg some (by kernel_rfl))⟩
 f27:=⟨Tryz.f237.name,by decide,func237.trans (congrArg some (by kernel_rfl))⟩
 f28:=⟨Tryz.f296.name,by decide,func296.trans (congrArg some (by kernel_rfl))⟩
 f29:=⟨Tryz.f297.name,by decide,func297.trans (congrArg some (by kernel_rfl))⟩
 f31:=kt func317
 f32:=kt func318
 f36:=⟨Tryz.f316.name,by decide,func316.trans (congrArg some (by kernel_rfl))⟩
 f37:=⟨Tryz.f319.name,by decide,func319.trans (congrArg some (by kernel_rfl))⟩
 f38:=⟨Tryz.f320.name,by decide,func320.trans (congrArg some (by kernel_rfl))⟩
 f39:=⟨Tryz.f269.name,by decide,func269.trans (congrArg some (by kernel_rfl))⟩
 f41:=⟨Tryz.f336.name,by decide,func336.trans (congrArg some (by kernel_rfl))⟩
 t0:=underlying0
 a0:=isAgg0
 z0:=sizeOf0
 v0:=zeroValue0
 t3:=underlying3
 a3:=isAgg3
 z3:=sizeOf3
 v3:=zeroValue3
 t4:=underlying4
 a4:=isAgg4
 z4:=sizeOf4
 v4:=zeroValue4
 t5:=underlying5
 a5:=isAgg5
 z5:=sizeOf5
 v5:=zeroValue5
 t9:=underlying9
 a9:=isAgg9
 z9:=sizeOf9
 v9:=zeroValue9
 t26:=underlying143
 a26:=isAgg143
 z26:=sizeOf143
 v26:=zeroValue143
 t27:=underlying143
 a27:=isAgg143
 z27:=sizeOf143
 v27:=zeroValue143
 t29:=underlying9
 a29:=isAgg9
 z29:=sizeOf9
 v29:=zeroValue9
 t32:=underlying310
 a32:=isAgg310
 z32:=sizeOf310
 v32:=zeroValue310
 t35:=underlying381
 a35:=isAgg381
 z35:=sizeOf381
 v35:=zeroValue381
 t36:=underlying382
 a36:=isAgg382
 z36:=sizeOf382
 v36:=zeroValue382
 t41:=underlying270
 a41:=isAgg270
 z41:=sizeOf270
 v41:=zeroValue270
 t44:=underlying314
 a44:=isAgg314
 z44:=sizeOf314
 v44:=zeroValue314
 t46:=underlying328
 a46:=isAgg328
 z46:=sizeOf328
 v46:=zeroValue328
 t53:=underlying402
 a53:=isAgg402
 z53:=sizeOf402
 v53:=zeroValue402
 t57:=underlying406
 a57:=isAgg406
 z57:=sizeOf406
 v57:=zeroValue406
 t63:=underlying420
 a63:=isAgg420
 z63:=sizeOf420
 v63:=zeroValue420
 t64:=underlying330
 a64:=isAgg330
 z64:=sizeOf330
 v64:=zeroValue330}
def Tryz.laysNm2B6_ren:Go.Shelf.Ren:=⟨fun|26=>182|33=>237|34=>238|38=>269|n=>n,fun|24=>143|9=>9|3=>3|4=>4|40=>310|0=>0|n=>n,fun|n=>n⟩
theorem Tryz.laysNm2B6:Go.Proofs.Lays2.n26 Tryz.prog Tryz.laysNm2B6_ren:={
 mixed:=by kernel_rfl
 f26:=kt func182
 f33:=kt func237
 f34:=kt func238
 f38:=kt func269
 t0:=underlying0
 a0:=isAgg0
 z0:=sizeOf0
 v0:=zeroValue0
 t3:=underlying3
 a3:=isAgg3
 z3:=sizeOf3
 v3:=zeroValue3
 t4:=underlying4
 a4:=isAgg4
 z4:=sizeOf4
 v4:=zeroValue4
 t9:=underlying9
 a9:=isAgg9
 z9:=sizeOf9
 v9:=zeroValue9
 t24:=underlying143
 a24:=isAgg143
 z24:=sizeOf143
 v24:=zeroValue143
 t40:=underlying310
 a40:=isAgg310
 z40:=sizeOf310
 v40:=zeroValue310}
open Go.RowKit Go.Lib in
theorem Tryz.slices_BinarySearch_string (b off n c:Nat) (Sx:Nat→ByteArray) (x:ByteArray) (w:World) (hbig:n<4611686018427387904) (hc:∀ j,j<n→w.cell? ⟨b,off+j,none⟩=some (.string (Sx j))) :
  Calls Tryz.prog 182 #[.slice (some ⟨b,off,none⟩) n c,.string x] w fun e w' =>
   e=.returned (.tuple #[.int .i64 (Lib.bsGo (fun t=>Op.bytesLess (Sx t).toList x.toList) n 0 n:Nat),.bool (decide (Lib.bsGo (fun t=>Op.bytesLess (Sx t).toList x.toList) n 0 n<n∧Sx (Lib.bsGo (fun t=>Op.bytesLess (Sx t).toList x.toList) n 0 n)=x))])∧∃ q,w'=w.drewN q:=Any2.slices_BinarySearch_string Tryz.laysNm2B6 b off n c Sx x w hbig hc
open Go.RowKit Go.Lib in
theorem Tryz.slices_BinarySearch_string_empty (a:Option Addr) (c:Nat) (x:ByteArray) (w:World) :
  Calls Tryz.prog 182 #[.slice a 0 c,.string x] w fun e w'=>e=.returned (.tuple #[.int .i64 0,.bool false])∧w'=w:=Any2.slices_BinarySearch_string_empty Tryz.laysNm2B6 a c x w
