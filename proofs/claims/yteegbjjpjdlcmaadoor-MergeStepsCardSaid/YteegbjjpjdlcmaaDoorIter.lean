/- slices.Sorted(maps.Keys(m)): the contracts. -/
import Derived.Test.YteegbjjpjdlcmaaDoorShelfI
namespace Go.Proofs
open Go.RowKit Go.Maps Go.Sort Go.Shelf

/-- slices.Sort's two contracts at this dump, at the fence that asks nothing. -/
theorem Tryd.sortsM (m : Nat) : AnyZ.SortsIn Tryd.prog Tryd.sortedM_ren Fence.wide m :=
  ⟨fun blk off cap ss W hH hblk hsz => callsIn_wide.2 (AnyM.slices_Sort_string Tryd.sortM blk off cap ss W hH hblk hsz),
   fun p cap W => callsIn_wide.2 (AnyM.slices_Sort_string_none Tryd.sortM p cap W)⟩

/-- **maps.Keys[map[string][]int,string,[]int], at whatever map, the nil one too:** a function value over ONE NEW BLOCK, which holds the map. -/
theorem Tryd.maps_Keys_M (mb : Option Nat) (W : World) : CallsIn Fence.wide 5 Tryd.prog 113 #[.map mb] W fun e w' => e = .returned (.func (.func 133) #[] #[.pointer (some ⟨W.heap.size, 0, none⟩)]) ∧ w' = W.alloc (.cells #[.map mb] 139) :=
  AnyZ.keys_in Tryd.keysM Fence.wide 5 trivial rfl mb W

set_option maxHeartbeats 1000000 in
/-- **slices.Sorted[string] AT WHAT maps.Keys[map[string][]int,string,[]int] HANDED BACK FOR A MAP THAT IS NOT nil** ('w': the world AHEAD of maps.Keys' call): A NEW SLICE THAT HOLDS THE MAP's KEYS, SORTED; nil just where it has none; nothing that lay before has turned. -/
theorem Tryd.slices_Sorted_keys_M {H : Type} (b nn : Nat) (D0 : DataW H) (R : Value → Option (DataW H × List MemPlace)) (w : World) (hown : w.ownsMap Tryd.prog 9 R b nn D0) (hmax : Maps.size D0 ≤ maxLen) (hbytes : Maps.size D0 * 16 ≤ 140737488355328) :
    CallsIn Fence.wide 5 Tryd.prog 112 #[.func (.func 133) #[] #[.pointer (some ⟨w.heap.size, 0, none⟩)]] (w.alloc (.cells #[.map (some b)] 139)) fun e w' => ∃ (v : Value) (ss : List (List UInt8)), e = .returned v ∧ ss.Perm (strKeys D0) ∧
      w'.ownsRow (w.alloc (.cells #[.map (some b)] 139)).heap.size 9 1 v ss.length ((ss.mergeSort (fun x y => decide (x ≤ y))).map encStr) ∧ (v = .slice none 0 0 ↔ ss = []) ∧ Below (w.alloc (.cells #[.map (some b)] 139)).heap.size (w.alloc (.cells #[.map (some b)] 139)) w' := by
  have hbl := hown.lt
  have hseq : SeqGives Fence.wide 2 Tryd.prog 133 #[.pointer (some ⟨w.heap.size, 0, none⟩)] encStr (fun ss => ss.Perm (strKeys D0)) (Maps.size D0) (w.alloc (.cells #[.map (some b)] 139)) :=
    AnyZ.keys_gives (ρ := Tryd.keysM_ren) { Tryd.keysM with } Fence.wide _ trivial rfl (by omega) w.heap.size b nn D0 _ (by simp) (by simp) (by
      obtain ⟨es, clock, hb, Ft, hs, hD⟩ := hown
      exact ⟨es, clock, (Below.heap_alloc _ _ b hbl).trans hb, Ft, hs, hD⟩)
  exact AnyZ.sorted_in Tryd.sortedM Fence.wide 5 trivial trivial trivial trivial rfl (by omega) (Tryd.sortsM _) (enters_of Tryd.func63 (by kernel_rfl) rfl) 133 #[.pointer (some ⟨w.heap.size, 0, none⟩)] trivial (enters_of Tryd.func133 (by kernel_rfl) rfl) _ _ hmax hbytes _ hseq

set_option maxHeartbeats 1000000 in
/-- **.. AND FOR THE nil MAP: nil.** -/
theorem Tryd.slices_Sorted_keys_nil_M (w : World) :
    CallsIn Fence.wide 5 Tryd.prog 112 #[.func (.func 133) #[] #[.pointer (some ⟨w.heap.size, 0, none⟩)]] (w.alloc (.cells #[.map none] 139)) fun e w' => ∃ (v : Value) (ss : List (List UInt8)), e = .returned v ∧ ss = [] ∧
      w'.ownsRow (w.alloc (.cells #[.map none] 139)).heap.size 9 1 v ss.length ((ss.mergeSort (fun x y => decide (x ≤ y))).map encStr) ∧ (v = .slice none 0 0 ↔ ss = []) ∧ Below (w.alloc (.cells #[.map none] 139)).heap.size (w.alloc (.cells #[.map none] 139)) w' := by
  have hseq : SeqGives Fence.wide 2 Tryd.prog 133 #[.pointer (some ⟨w.heap.size, 0, none⟩)] encStr (fun ss : List (List UInt8) => ss = []) 0 (w.alloc (.cells #[.map none] 139)) :=
    AnyZ.keys_gives_nil (ρ := Tryd.keysM_ren) { Tryd.keysM with } Fence.wide _ trivial rfl w.heap.size _ (by simp) (by simp)
  exact AnyZ.sorted_in Tryd.sortedM Fence.wide 5 trivial trivial trivial trivial rfl (by omega) (Tryd.sortsM _) (enters_of Tryd.func63 (by kernel_rfl) rfl) 133 #[.pointer (some ⟨w.heap.size, 0, none⟩)] trivial (enters_of Tryd.func133 (by kernel_rfl) rfl) _ 0 (Nat.zero_le _) (by omega) _ hseq
end Go.Proofs
