/- Part 18 of the proof. -/
import Derived.Test.YtpilfbcffofheaaGreatDoormS
set_option linter.unusedVariables false
set_option linter.unusedSimpArgs false
set_option maxHeartbeats 1000000
namespace Go.Proofs
open Go.RowKit Go.Sort
section
open Go.RowKit Go.Maps Go.Sort Go.Shelf
theorem Tryz.sortsM (m:Nat):AnyZ.SortsIn Tryz.prog Tryz.sortedM_ren Fence.wide m:=
 ⟨fun c off b h a d e f=>callsIn_wide.2 (AnyM.slices_Sort_string Tryz.sortM c off b h a d e f),
  fun g b a=>callsIn_wide.2 (AnyM.slices_Sort_string_none Tryz.sortM g b a)⟩
theorem Tryz.maps_Keys_M (b:Option Nat) (a:World):CallsIn Fence.wide 5 Tryz.prog 123 #[.map b] a fun e w'=>e=.returned (.func (.func 202) #[] #[.pointer (some ⟨a.heap.size,0,none⟩)])/\w'=a.alloc (.cells #[.map b] 219):=
 AnyZ.keys_in Tryz.keysM Fence.wide 5 trivial rfl b a
theorem Tryz.slices_Sorted_keys_M {H:Type} (b f:Nat) (a:DataW H) (R:Value->Option (DataW H×List MemPlace)) (w:World) (d:w.ownsMap Tryz.prog 9 R b f a) (n:Maps.size a<=maxLen) (m:Maps.size a*16<=140737488355328) :
  CallsIn Fence.wide 5 Tryz.prog 122 #[.func (.func 202) #[] #[.pointer (some ⟨w.heap.size,0,none⟩)]] (w.alloc (.cells #[.map (some b)] 219)) fun e w'=>∃ (v:Value) (c:List (List UInt8)),e=.returned v/\c.Perm (strKeys a) /\
   w'.ownsRow (w.alloc (.cells #[.map (some b)] 219)).heap.size 9 1 v c.length ((c.mergeSort (fun x y=>decide (x<=y))).map encStr)/\(v=.slice none 0 0↔c=[])/\Below (w.alloc (.cells #[.map (some b)] 219)).heap.size (w.alloc (.cells #[.map (some b)] 219)) w':=by
 have l:=d.lt;have p:SeqGives Fence.wide 2 Tryz.prog 202 #[.pointer (some ⟨w.heap.size,0,none⟩)] encStr (fun c=>c.Perm (strKeys a)) (Maps.size a) (w.alloc (.cells #[.map (some b)] 219)):=
  AnyZ.keys_gives (ρ:=Tryz.keysM_ren) {Tryz.keysM with} Fence.wide _ trivial rfl (by omega) w.heap.size b f a _ (by simp) (by simp) (by
   obtain⟨i,h,k,g,o,j⟩:=d
   exact⟨i,h,(Below.heap_alloc _ _ b l).trans k,g,o,j⟩)
 exact AnyZ.sorted_in Tryz.sortedM Fence.wide 5 trivial trivial trivial trivial rfl (by omega) (Tryz.sortsM _) (enters_of Tryz.func168 (by kernel_rfl) rfl) 202 #[.pointer (some ⟨w.heap.size,0,none⟩)] trivial (enters_of Tryz.func202 (by kernel_rfl) rfl) _ _ n m _ p
end
