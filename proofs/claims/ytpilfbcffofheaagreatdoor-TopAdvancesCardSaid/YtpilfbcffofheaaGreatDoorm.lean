/- Closing scripts and names of laws, by short names. -/
import Derived.BigQuiet
import Derived.Deep.AppendSrc
import Derived.Deep.Cut
import Derived.Deep.DeepCutAuto
import Derived.Deep.LoopGhost
import Derived.Deep.OwnRows
import Derived.Deep.RegionHeld3
import Derived.Deep.RegionLaw
import Derived.Deep.SlicePairs
import Derived.Handy
import Derived.Laws.BitsLemmas
import Derived.Laws.CopyOwn
import Derived.Laws.EntriesVeiled
import Derived.Laws.IdiomStrings
import Derived.Lib.ConvBytes
import Derived.Lib.Hide
import Derived.Lib.LaidTab
import Derived.Lib.MakeNoZero
import Derived.Lib.OwnBridge
import Derived.Lib.QuietBelow
import Derived.Lib.SlBytesConst
import Derived.Lib.SlicesCompact
import Derived.Lib.SmallJoins
import Derived.Maps.GroupsBeside
import Derived.Maps.Own
import Derived.Maps.OwnOps
import Derived.Maps.OwnRows
import Derived.Maps.Views
import Derived.OpenShut
import Derived.Outline
import Derived.OwnWalk
import Derived.Shelf.Abstract
import Derived.ShutString
import Derived.Sort.KeysCollected
import Derived.Sort.LotA
import Derived.Sort.Walk0
import Derived.WalkKit
import Derived.WalkLawsBesides
import Derived.WalkMore
import Derived.WalkSpells
import Derived.Test.YtpilfbcffofheaaGreatDoorProg
set_option linter.all false
namespace Go.RowKit
theorem Hid.o {p:Prop} (h:Hid p):p:=h
theorem Below.t {w v u:World} (h:Below w.heap.size w v) (g:Below v.heap.size v u):Below w.heap.size w u:=h.trans (g.mono h.size)
theorem Below.al {w v:World} (h:Below w.heap.size w v) (o:Obj):Below w.heap.size w (v.alloc o):=h.alloc h.size o
def Below.M:=@Below.mono
def Below.A:=@Below.alloc
def Below.S:=@Below.setCell
end Go.RowKit
namespace Go
def Calls.M:=@Calls.mono
def World.ownsRow.A:=@World.ownsRow.alloc
end Go
namespace Go.Proofs.YtpilfbcffofheaaGreatDoor
open Go.RowKit Go.Sort Go.Proofs.Tryz
abbrev γ:=List UInt8
abbrev β:=World
abbrev ε:=Value
abbrev ζ:=@cell_later
abbrev κ:=@if_neg
abbrev μ:=@if_pos
abbrev ξ:=@cell_of_row
abbrev ς:=@lt_of_block
abbrev υ:=@heap_setCell_same
abbrev ρ:=@Below.refl
abbrev φ:=@heap_alloc_new
abbrev Γ:=@heap_setCell_other
abbrev σ:=@List.length_append
abbrev Ν:=@And.intro
abbrev Ζ:=@Nat.zero_le
abbrev Χ:=@Value.slice.injEq
abbrev Φ:=@Option.some.injEq
abbrev Ρ:=@List.getElem?_eq_getElem
abbrev Ψ:=@List.getElem_mem
abbrev Ω:=@bodyPost_ret
abbrev ϧ:=@frozen_of_row
abbrev ϥ:=@List.length_cons
abbrev ϵ:=@true_and
abbrev Ϩ:=@info_parts
abbrev Ι:=@cell_regrown
abbrev fX:=@List.getD_eq_getElem?_getD
abbrev gi:=@List.getElem?_set_ne
abbrev fT:=@List.length_drop
abbrev gj:=@Nat.le_trans
abbrev fU:=@beq_eq_false_iff_ne
abbrev gu:=@Nat.le_add_right
abbrev gt:=@Bool.and_eq_true
abbrev gv:=@underlying31
abbrev gO:=@List.length_nil
abbrev gP:=@List.append_assoc
abbrev gp:=@List.length_take
abbrev hL:=@List.getElem?_append_right
abbrev hH:=@List.mem_cons
abbrev gF:=@List.take_of_length_le
abbrev hM:=@Below.heap_alloc
abbrev jO:=@cell_of_one
abbrev ih:=@List.mem_map
abbrev iH:=@List.getElem?_take
abbrev it:=@and_true
abbrev gQ:=@World.ownsRow_nil
abbrev hP:=@decide_eq_true_eq
abbrev ii:=@World.block_lt_of_cell?
abbrev hR:=@ownsRow_setCell_below
abbrev iy:=@List.append_nil
abbrev hU:=@List.length_map
abbrev ij:=@List.map_cons
abbrev iW:=@enters_of
abbrev kE:=@decide_eq_false
abbrev iX:=@Nat.add_assoc
abbrev je:=@List.getElem?_append_left
abbrev jp:=@congrArg
abbrev ui:=@wp_region_quiet_below
abbrev ru:=@wpQuiet_nil
abbrev oV:=@below_regrown
abbrev gl:=@underlying23
abbrev jq:=@Nat.pow_succ
abbrev jr:=@List.getElem?_drop
abbrev js:=@List.nil_append
abbrev ni:=@free_of_one
abbrev iI:=@Nat.zero_add
abbrev jP:=@List.getElem?_map
abbrev kF:=@List.mem_singleton
abbrev jf:=@results_cell_row
abbrev kS:=@List.eq_nil_of_length_eq_zero
abbrev kT:=@List.all_eq_true
abbrev jW:=@List.cons_append
abbrev kU:=@decide_eq_true
abbrev ki:=@Nat.mul_comm
abbrev kV:=@Nat.pow_pos
abbrev jt:=@List.take_succ_eq_append_getElem
abbrev kj:=@Nat.sub_self
abbrev lq:=@Option.some.inj
abbrev yA:=@Nat.div_one
abbrev kG:=@Nat.add_zero
abbrev lr:=@Nat.add_mul
abbrev nM:=@underlying29
abbrev ls:=@List.getElem?_eq_none
abbrev jQ:=@List.map_nil
abbrev lF:=@List.flatMap_cons
abbrev lG:=@underlying44
abbrev lH:=@wpOp_step
abbrev mh:=@World.size_alloc
abbrev mB:=@List.getElem?_set_self
abbrev lI:=@Nat.mod_lt
abbrev kH:=@underlying9
abbrev ju:=@underlying143
abbrev lJ:=@List.length_eq_zero_iff
abbrev lK:=@List.getElem?_eq_some_iff
abbrev mC:=@Nat.le_of_lt
abbrev mi:=@Nat.min_eq_left
abbrev nj:=@List.mem_append
abbrev lL:=@List.drop_eq_getElem_cons
abbrev nk:=@ownsRow_setCell_other
abbrev mD:=@List.getElem?_toArray
abbrev nl:=@underlying3
abbrev nN:=@underlying42
abbrev nm:=@beq_iff_eq
abbrev nO:=@Below.heap_setCell
abbrev mZ:=@wpOp_mono
abbrev nJ:=@Nat.lt_succ_self
abbrev nc:=@World.size_setCell
abbrev mg:=@List.drop_of_length_le
abbrev ol:=@List.getElem?_cons_succ
abbrev mz:=@List.mem_of_mem_take
abbrev om:=@Nat.lt_of_lt_of_le
abbrev nf:=@Bool.eq_false_iff
abbrev mA:=@underlying5
abbrev oQ:=@List.mem_cons_of_mem
abbrev oR:=@Nat.mul_one
abbrev oT:=@List.pairwise_cons
abbrev pz:=@Nat.mul_assoc
abbrev nK:=@Nat.eq_zero_or_pos
abbrev oo:=@Bool.or_eq_true
abbrev pA:=@List.length_pos_iff
abbrev pB:=@List.getElem?_cons_zero
abbrev oU:=@List.getElem_cons_zero
abbrev pC:=@Nat.lt_or_ge
abbrev ng:=@List.map_append
abbrev pD:=@ntmps332
abbrev pE:=@List.mem_cons_self
abbrev rh:=@List.getElem_take
abbrev qh:=@underlying41
abbrev qi:=@List.flatten_cons
abbrev pF:=@Nat.one_mul
abbrev nL:=@List.take_length
abbrev qj:=@underlying211
abbrev pG:=@List.take_append_drop
abbrev qk:=@List.size_toArray
abbrev ri:=@run_underlying
abbrev ql:=@ready_mono
abbrev qm:=@List.getElem_append_left
abbrev qn:=@List.length_reverse
abbrev qo:=@Nat.add_sub_cancel
abbrev rj:=@Nat.zero_mul
abbrev rk:=@List.getElem_of_mem
abbrev pH:=@Result.andThen_ok
abbrev rm:=@List.mem_range
abbrev rn:=@List.getElem_cons_succ
abbrev qp:=@Nat.mul_le_mul_right
abbrev qq:=@underlying48
abbrev ro:=@Below.drew
abbrev rp:=@List.pairwise_iff_getElem
abbrev iV:=@IntKind.wrap_u32
abbrev qr:=@List.length_singleton
abbrev sw:=@Array.length_toList
abbrev qs:=@List.map_toArray
abbrev qt:=@List.drop_drop
abbrev rq:=@List.take_zero
abbrev pI:=@List.flatMap_append
abbrev tQ:=@wpList_make_full
abbrev tR:=@underlying39
abbrev tS:=@underlying155
abbrev nh:=@Bool.true_and
abbrev rr:=@underlying90
abbrev kD:=@IntKind.wrap_i64
abbrev tT:=@List.take_left
abbrev qu:=@List.mem_of_mem_drop
abbrev sx:=@List.drop_eq_nil_of_le
abbrev tU:=@List.take_take
abbrev tV:=@Option.bind_some
abbrev tW:=@underlying171
abbrev tX:=@World.cell?_of_block
abbrev rt:=@decide_eq_false_iff_not
abbrev tY:=@setRow_other
abbrev tZ:=@underlying167
abbrev ub:=@List.length_mergeSort
abbrev ud:=@List.mem_filter
abbrev ue:=@underlying181
abbrev uf:=@underlying344
abbrev ug:=@Below.setCell
abbrev vR:=@run_loadVar_row
abbrev vS:=@List.getElem?_take_of_lt
abbrev vT:=@Nat.pow_lt_pow_iff_right
abbrev vU:=@beq_self_eq_true
abbrev vV:=@List.getElem_map
abbrev vW:=@List.map_congr_left
abbrev vX:=@List.set_cons_zero
abbrev vY:=@List.set_cons_succ
abbrev vZ:=@Int.toNat_natCast
abbrev wb:=@grownCap_le_maxLen
abbrev we:=@Option.isSome_iff_exists
abbrev ym:=@Nat.mod_two_eq_zero_or_one
abbrev wg:=@Nat.pow_le_pow_right
abbrev yn:=@UInt8.toNat_ofNat'
abbrev yo:=@List.take_succ_cons
abbrev wh:=@List.mem_iff_getElem
abbrev yp:=@List.getElem_range
abbrev yq:=@Array.getElem?_eq_none
abbrev yr:=@Array.setIfInBounds_comm
abbrev yt:=@Region.noSelect_spec
abbrev yu:=@Array.toArray_toList
abbrev yw:=@run_firstCells_none
abbrev yx:=@Lib.holds_of_ownsRow
abbrev yy:=@Lib.ownsRow_putRow
abbrev yz:=@List.flatten_append
abbrev Bv:=@ByteArray.toList_eq
abbrev uh:=@List.setIfInBounds_toArray
abbrev Bw:=@List.take_append_of_le_length
abbrev GS:=@List.getElem_append_right
abbrev GU:=@Classical.byContradiction
theorem U {p:Prop} (h:p:=by omega):p:=h
theorem ϋ {p:Prop} (h:p:=by kernel_rfl):p:=h
theorem ό {p:Prop} (h:p:=by simp;omega):p:=h
theorem ύ {p:Prop} (h:p:=by simp):p:=h
theorem ώ {p:Prop} (h:p:=by unfold maxLen;omega):p:=h
theorem Ϗ {p:Prop} (h:p:=by rw[IntKind.wrap_i64];omega):p:=h
theorem ϐ {p:Prop} (h:p:=by decide):p:=h
theorem ϑ {p:Prop} (h:p:=by simp only;omega):p:=h
theorem ϒ {p:Prop} (h:p:=by first|rfl|kernel_rfl):p:=h
theorem ϓ {p:Prop} (h:p:=by simp only[World.size_alloc];omega):p:=h
theorem ϔ {p:Prop} (h:p:=by simp[Act.eval,Act.put]):p:=h
theorem ϕ {p:Prop} (h:p:=by go_num):p:=h
theorem ϖ {p:Prop} (h:p:=by rw[bne_eq_false_iff_eq];omega):p:=h
theorem ϗ {p:Prop} (h:p:=by simp[Value.oneCell']):p:=h
theorem Ϙ {p:Prop} (h:p:=by assumption):p:=h
theorem ϙ {p:Prop} (h:p:=by intro u hu;simp at hu;rcases hu with rfl|rfl|rfl<;>rfl):p:=h
theorem Ϛ {p:Prop} (h:p:=by intro u hu;simp at hu;rcases hu with rfl|rfl<;>rfl):p:=h
theorem ϛ {p:Prop} (h:p:=by intro k hk;simp[Value.ownBlock]at hk;omega):p:=h
theorem Ϝ {p:Prop} (h:p:=by rw[List.length_take];omega):p:=h
theorem ϝ {p:Prop} (h:p:=by dsimp only;omega):p:=h
theorem Ϟ {p:Prop} (h:p:=by decide+kernel):p:=h
theorem Zh {p:Prop} (h:p):Hid p:=h
structure ϫ (p:Prop):Prop where
 o:p
theorem Zx {p:Prop} (h:p):ϫ p:=⟨h⟩
theorem Zp:(∀ (a:Act) (d:Tmp) (v:ε),a.put (some d) v={a with tmps:=a.tmps.setIfInBounds d v})/\(∀ (a:Act) (v:ε),a.put none v=a)/\(∀ (l:List ε) (i:Nat) (v:ε),l.toArray.setIfInBounds i v=(l.set i v).toArray)/\(∀ (x y:ε) (l:List ε),(x::l).set 0 y=y::l)/\∀ (x y:ε) (l:List ε) (n:Nat),(x::l).set (n+1) y=x::l.set n y:=⟨fun _ _ _=>rfl,fun _ _=>rfl,fun _ _ _=>List.setIfInBounds_toArray ..,fun _ _ _=>rfl,fun _ _ _ _=>rfl⟩
abbrev BQ (w w':β):Prop:=Below w.heap.size w w'
theorem RZ {B:Nat} {w:β}:Below B w w:=Below.refl B w
theorem NZ {n:Nat}:n<=n:=Nat.le_refl n
abbrev G (k:Int):ε:=.int .i64 k
theorem gc {P:Program} {ops:Array Oper} {C:β->Prop} {Q:Act->β->Prop} {a:Act} {w:β} (h:∀ v,Below w.heap.size w v->Q a v):wpQuiet P ops C (fun a'=>∀ w',(∃ p:Regrown,w'=grow (redrawn w p.d) p.os)->Q a' w') [] a:=fun _ ⟨p,e⟩=>h _ (e ▸ below_regrown w p.d p.os)
theorem fY {id:Nat} {Q:Exit->Act->β->Prop} {a:Act} {w:β} {l:List Oper} (h:wpQuiet prog l.toArray (fun w'=>∃ p:Regrown,w'=grow (redrawn w p.d) p.os) (fun a'=>∀ w',(∃ p:Regrown,w'=grow (redrawn w p.d) p.os)->Q .normal a' w') l a) (hB:Region.lexB .any l.toArray=true:=by kernel_rfl):(Code.region id l.toArray true).wp prog Q a w:=wp_region_quiet_below (by kernel_rfl) hB h
theorem ι {p q:Prop} (a:q) (h:q->p:=by intro h;omega):p:=h a
theorem gw {p q r:Prop} (a:q) (b:r) (h:q->r->p:=by intro h g;omega):p:=h a b
theorem ω {p:Prop} (h:p:=by simp[intOf];omega):p:=h
theorem gG {p:Prop} (h:p:=by simp[intOf]):p:=h
theorem π {p q:Prop} (a:p) (b:q):Hid p/\Hid q:=⟨Zh a,Zh b⟩
theorem ϲ {p q r:Prop} (a:p) (b:q) (c:r):Hid p/\Hid q/\Hid r:=⟨Zh a,π b c⟩
theorem hV {p q r s:Prop} (a:p) (b:q) (c:r) (d:s):Hid p/\Hid q/\Hid r/\Hid s:=⟨Zh a,ϲ b c d⟩
theorem kW {p q r s t:Prop} (a:p) (b:q) (c:r) (d:s) (e:t):Hid p/\Hid q/\Hid r/\Hid s/\Hid t:=⟨Zh a,hV b c d e⟩
theorem ϟ {p q:Prop} (a:p) (b:q):ϫ p/\ϫ q:=⟨Zx a,Zx b⟩
theorem iQ {p q r:Prop} (a:p) (b:q) (c:r):ϫ p/\ϫ q/\ϫ r:=⟨Zx a,ϟ b c⟩
theorem kX {p q r s:Prop} (a:p) (b:q) (c:r) (d:s):ϫ p/\ϫ q/\ϫ r/\ϫ s:=⟨Zx a,iQ b c d⟩
theorem lM {p q r s t:Prop} (a:p) (b:q) (c:r) (d:s) (e:t):ϫ p/\ϫ q/\ϫ r/\ϫ s/\ϫ t:=⟨Zx a,kX b c d e⟩
theorem gx {p:Prop} (h:p:=by go_simp;try with_reducible rfl):p:=h
theorem gH {p:Prop} (h:p:=by go_ret;exact⟨rfl,rfl⟩):p:=h
theorem ġ {w:World} {o:Obj}:Below w.heap.size w (w.alloc o):=RZ.alloc NZ _
end Go.Proofs.YtpilfbcffofheaaGreatDoor
