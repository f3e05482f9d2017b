/- token.Right. -/
import Derived.Test.YteegbjjpjdlcmaaGreatDoorTerms
set_option linter.unusedVariables false
namespace Go.Proofs.YteegbjjpjdlcmaaGreatDoor
open Go.RowKit

/-- the bytes of a string, as a new slice: what it reads as. -/
theorem rd_bytes (w : World) (l : List UInt8) (e : TypeId) (hm : l.length ≤ maxLen) : Rd (w.drew.alloc (.cells (bytesRow (bstr l) (grownCap w (bstr l).size 0 e)) e ((bytesRow (bstr l) (grownCap w (bstr l).size 0 e)).size, (bytesRow (bstr l) (grownCap w (bstr l).size 0 e)).size + 1))) (.slice (some ⟨w.heap.size, 0, none⟩) (bstr l).size (grownCap w (bstr l).size 0 e)) l.length 1 (bcells l) := by
  have hs := size_bstr l
  have hge := grownCap_ge w (bstr l).size 0 e
  have hle := grownCap_le_maxLen w (bstr l).size 0 e (by rw [hs]; exact hm)
  generalize grownCap w (bstr l).size 0 e = cap at *
  refine ⟨by rw [bcells_len]; omega, hm, ?_⟩
  rcases Nat.eq_zero_or_pos l.length with h0 | h0
  · exact .inl ⟨_, cap, by rw [hs, h0], h0⟩
  · refine .inr ⟨w.heap.size, 0, cap, by rw [hs], h0, by omega, hle, fun i u hu => ?_⟩
    have hb : (w.drew.alloc (.cells (bytesRow (bstr l) cap) e ((bytesRow (bstr l) cap).size, (bytesRow (bstr l) cap).size + 1))).heap[w.heap.size]? = some (.cells (bytesRow (bstr l) cap) e ((bytesRow (bstr l) cap).size, (bytesRow (bstr l) cap).size + 1)) := heap_alloc_new w.drew _
    rw [show 0 + i = i from by omega, cell_of_row _ w.heap.size i _ e _ hb]
    have hi : i < l.length := by rw [← bcells_len]; exact (List.getElem?_eq_some_iff.1 hu).1
    unfold bytesRow
    rw [Array.getElem?_append_left (by simp [bstr]; exact hi)]
    rw [← hu]
    simp [bstr, bcells, ch]

theorem btoList (l : List UInt8) : (bstr l).toList = l := by rw [ByteArray.toList_eq]; simp [bstr]

def rightTok (l : List UInt8) : Bool := terms l == [l]

theorem rightTok_len {t : List UInt8} (h : rightTok t = true) : t.length ≤ 64 := by
  have h1 := eq_of_beq h
  exact terms_le t t (by rw [h1]; simp)

set_option maxHeartbeats 1000000 in
theorem tokright_any (l : List UInt8) (w : World) (ht : Tabs w) (hn : l.length ≤ 100000) :
    Calls Tryz.prog 35 #[.string (bstr l)] w fun e w' => e = .returned (.bool (rightTok l)) ∧ Below w.heap.size w w' := by
  have hconv := run_bytes_of_string (P := Tryz.prog) w 9 42 5 (bstr l) Tryz.underlying9 Tryz.underlying42 Tryz.underlying5
  have hrd := rd_bytes w l 5 (by unfold maxLen; omega)
  generalize hW : (w.drew.alloc (.cells (bytesRow (bstr l) (grownCap w (bstr l).size 0 5)) 5 ((bytesRow (bstr l) (grownCap w (bstr l).size 0 5)).size, (bytesRow (bstr l) (grownCap w (bstr l).size 0 5)).size + 1))) = W at *
  have hbW : Below w.heap.size w W := by rw [← hW]; exact ((Below.refl _ _).drew).alloc (Nat.le_refl _) _
  clear hW
  generalize (Value.slice (some ⟨w.heap.size, 0, none⟩) (bstr l).size (grownCap w (bstr l).size 0 5)) = v at *
  have hT := terms_any v l W (ht.below hbW) hrd hn
  have hlen : (terms l).length ≤ 100000 := by have := terms_len l; omega
  have hr : rightTok l = (terms l == [l]) := rfl
  generalize terms l = ts at *
  have HT := Lib.hid hT
  have HR := Lib.hid hr
  clear hT hrd hr
  by_cases h1 : ts.length = 1
  · obtain ⟨t, rfl⟩ := List.length_eq_one_iff.1 h1
    clear h1
    go_enter Tryz.func35, Tryz.ntmps35
    go_wp2_with (go_at_call 42; refine HT.out.mono ?_; rintro e w1 ⟨v1, rfl, hown1, hb1⟩; obtain ⟨g1, c1, rfl⟩ := own_form hown1 (by simp); have hc := hown1.cellAt 0 (by simp); simp [scells, str] at hc)
    go_ret
    refine ⟨ret_bool ?_, hbW.trans (hb1.mono hbW.size)⟩
    rw [HR.out]
    simp [btoList]
  · have h2 : ((ts.length : Int) == 1) = false := beq_eq_false_iff_ne.2 (by omega)
    go_enter Tryz.func35, Tryz.ntmps35
    go_wp2_with (go_at_call 42; refine HT.out.mono ?_; rintro e w1 ⟨v1, rfl, hown1, hb1⟩; obtain ⟨a1, c1, rfl⟩ := own_shape hown1)
    go_ret
    refine ⟨ret_bool ?_, hbW.trans (hb1.mono hbW.size)⟩
    rw [HR.out]
    symm
    rw [Bool.eq_false_iff]
    intro h
    have := eq_of_beq h
    rw [this] at h1
    exact h1 rfl
end Go.Proofs.YteegbjjpjdlcmaaGreatDoor
