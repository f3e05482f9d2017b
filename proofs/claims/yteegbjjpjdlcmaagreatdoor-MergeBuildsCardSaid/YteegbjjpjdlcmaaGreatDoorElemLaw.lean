/- The elements of a text, as a plain function. No program. -/
import Derived.Test.YteegbjjpjdlcmaaGreatDoorTokLaw
namespace Go.Proofs.YteegbjjpjdlcmaaGreatDoor

theorem first_enc_len (b : List UInt8) (h : b ≠ []) (hne : (first b).1 ≠ 65533) : (first b).2 = (enc (first b).1).length := by
  rcases b with _ | ⟨b0, _ | ⟨b1, _ | ⟨b2, _ | ⟨b3, r⟩⟩⟩⟩
  · exact absurd rfl h
  all_goals
    have h0 := chBd b0
    revert hne
    simp only [first, first2, first3, first4, bad]
    (repeat' split) <;> intro hne <;> first
      | exact absurd rfl hne
      | (unfold enc; rw [if_pos (by omega)]; rfl)
      | (rename_i h; simp only [Bool.and_eq_true, Bool.or_eq_true, isChar, decide_eq_true_eq, cont] at h; unfold enc; rw [if_neg (by omega), if_pos (by omega)]; rfl)
      | (rename_i h; simp only [Bool.and_eq_true, Bool.or_eq_true, isChar, decide_eq_true_eq, cont] at h; unfold enc; rw [if_neg (by omega), if_neg (by omega), if_pos (by omega)]; rfl)
      | (rename_i h; simp only [Bool.and_eq_true, Bool.or_eq_true, isChar, decide_eq_true_eq, cont] at h; unfold enc; rw [if_neg (by omega), if_neg (by omega), if_neg (by omega)]; rfl)

theorem bad_out : inWord 65533 = false := by decide

/-- a character of a text: its bytes. -/
theorem decode_cons {b : List UInt8} {c : Int} {r : List Int} (h : decode b = c :: r) (hne : c ≠ 65533) : (enc c).length ≤ b.length ∧ r = decode (b.drop (enc c).length) := by
  by_cases hb : b = []
  · subst hb; simp [decode_nil] at h
  · have h1 := decode_step b hb
    rw [h] at h1
    simp only [List.cons.injEq] at h1
    have h2 := first_enc_len b hb (by rw [← h1.1]; exact hne)
    have h3 := first_len b hb
    rw [← h1.1] at h2
    exact ⟨by omega, by rw [h1.2, h2]⟩
end Go.Proofs.YteegbjjpjdlcmaaGreatDoor
