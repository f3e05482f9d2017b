/- rubrickref10.Fair, of all documents. -/
import Derived.Test.YteegbjjpjdlcmaaGreatDoorDocs
set_option linter.unusedVariables false
namespace Go.Proofs.YteegbjjpjdlcmaaGreatDoor
open Go.RowKit Go.Sort

def fair10 (docs : List (List UInt8)) : Bool := docs.all fun d => decide (d.length ≤ 2000)

set_option maxRecDepth 100000 in
set_option maxHeartbeats 1000000 in
theorem fair10_any (v : Value) (docs : List (List UInt8)) (w : World) (h : DocsRd w v docs) (hn : docs.length ≤ 1000) :
    Calls Tryz.prog 5 #[v, .agg #[.int .i64 0, .int .i64 docs.length]] w fun e w' => e = .returned (.bool (fair10 docs)) ∧ Below w.heap.size w w' := by
  have hb0 : Below w.heap.size w (w.alloc (.cells #[.int .i64 0, .int .i64 docs.length] 26)) := (Below.refl _ _).alloc (Nat.le_refl _) _
  have hnew := heap_alloc_new w (.cells #[.int .i64 0, .int .i64 docs.length] 26)
  have hh := h.below hb0
  obtain ⟨ao, c, rfl, hm, HC⟩ := docs_cells hh
  have hn' : (docs.length : Int) ≤ 1000 := by omega
  clear h hh
  go_enter Tryz.func5, Tryz.ntmps5
  go_wp2
  generalize hW1 : (w.alloc (.cells #[.int .i64 0, .int .i64 docs.length] 26)) = W1 at *
  have hc0 : W1.cell? ⟨w.heap.size, 0, none⟩ = some (.int .i64 0) := by rw [cell_of_row _ _ _ _ _ _ hnew]; rfl
  have hc1 : W1.cell? ⟨w.heap.size, 1, none⟩ = some (.int .i64 docs.length) := by rw [cell_of_row _ _ _ _ _ _ hnew]; rfl
  clear hW1 hnew
  go_loopw [5] (fun i wr => ∃ (k : Nat), k ≤ docs.length ∧ i = .int .i64 k ∧ Hid (∀ j (hj : j < docs.length), j < k → docs[j].length ≤ 2000) ∧ wr = W1) (fun i _ => docs.length - (intOf i).toNat)
  case atStart => exact ⟨0, Nat.zero_le _, rfl, fun j hj h => by omega, by first | rfl | trivial⟩
  case round =>
    obtain ⟨k, hk, rfl, HA, rfl⟩ := hrel
    by_cases hlt : k < docs.length
    · obtain ⟨b, off, da, dc, rfl, c1, -⟩ := HC.out k hlt
      have ki : (k : Int) < (docs.length : Int) := by omega
      have k0 : (0 : Int) ≤ (k : Int) := by omega
      have HY : Hid (2000 < docs[k].length → fair10 docs = false) := fun h => by
        unfold fair10
        rw [List.all_eq_false]
        exact ⟨docs[k], List.getElem_mem _, by simpa using h⟩
      have HN : Hid (docs[k].length ≤ 2000 → ∀ j (hj : j < docs.length), j < k + 1 → docs[j].length ≤ 2000) := fun g j hj h => by
        by_cases e : j = k
        · subst e; exact g
        · exact HA.out j hj (by omega)
      generalize docs[k].length = m at *
      by_cases h1 : 2000 < m
      · have i1 : (2000 : Int) < (m : Int) := by omega
        have HR := Lib.hid (HY.out h1)
        go_wp2
        go_ret
        exact ⟨by rw [HR.out]; rfl, hb0⟩
      · have i1 : ¬ (2000 : Int) < (m : Int) := by omega
        have HR := Lib.hid (HN.out (by omega))
        go_wp2
        go_roundw
        case rel => exact ⟨k + 1, by omega, by go_num, HR.out, by first | rfl | trivial⟩
        case measure => simp [intOf]; omega
    · have ki : ¬ (k : Int) < (docs.length : Int) := by omega
      have HR : Hid (fair10 docs = true) := by
        show _ = _
        unfold fair10
        rw [List.all_eq_true]
        intro d hd
        obtain ⟨j, hj, rfl⟩ := List.mem_iff_getElem.1 hd
        have := HA.out j hj (by omega)
        simpa using this
      have z0 : (0 : Int) ≤ (docs.length : Int) := by omega
      go_wp2
      go_ret
      exact ⟨by rw [HR.out]; first | rfl | simp [z0, hn'], hb0⟩
end Go.Proofs.YteegbjjpjdlcmaaGreatDoor
