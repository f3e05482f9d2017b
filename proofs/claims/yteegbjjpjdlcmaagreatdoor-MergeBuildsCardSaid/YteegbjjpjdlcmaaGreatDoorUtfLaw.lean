/- Plain laws on characters and their bytes. No program. -/
import Derived.Test.YteegbjjpjdlcmaaGreatDoorUtfDefs
namespace Go.Proofs.YteegbjjpjdlcmaaGreatDoor

theorem chBd (b : UInt8) : 0 ≤ ch b ∧ ch b ≤ 255 := by unfold ch; have := b.toNat_lt; omega

theorem first_len (b : List UInt8) (h : b ≠ []) : 1 ≤ (first b).2 ∧ (first b).2 ≤ b.length := by
  rcases b with _ | ⟨b0, _ | ⟨b1, _ | ⟨b2, _ | ⟨b3, r⟩⟩⟩⟩
  · exact absurd rfl h
  all_goals
    simp only [first, first2, first3, first4, bad]
    (repeat' split) <;> (simp only [List.length_cons]; omega)

theorem decodeF_fuel : ∀ (f : Nat) (b : List UInt8), b.length ≤ f → decodeF f b = decodeF b.length b := by
  intro f
  induction f using Nat.strongRecOn with
  | ind f ih =>
    intro b hb
    cases f with
    | zero => have : b = [] := List.length_eq_zero_iff.1 (by omega); subst this; rfl
    | succ f =>
      by_cases he : b = []
      · subst he; simp [decodeF]
      · obtain ⟨n, hn⟩ : ∃ n, b.length = n + 1 := ⟨b.length - 1, by have := List.length_pos_iff.2 he; omega⟩
        have h1 := first_len b he
        rw [hn]
        simp only [decodeF]
        rw [if_neg he, if_neg he]
        congr 1
        have hl : (b.drop (first b).2).length ≤ n := by rw [List.length_drop]; omega
        rw [ih f (by omega) _ (by omega), ih n (by omega) _ hl]

theorem decode_nil : decode [] = [] := rfl
theorem decode_step (b : List UInt8) (h : b ≠ []) : decode b = (first b).1 :: decode (b.drop (first b).2) := by
  obtain ⟨n, hn⟩ : ∃ n, b.length = n + 1 := ⟨b.length - 1, by have := List.length_pos_iff.2 h; omega⟩
  unfold decode
  rw [hn]
  simp only [decodeF]
  rw [if_neg h]
  congr 1
  have h1 := first_len b h
  exact decodeF_fuel n _ (by rw [List.length_drop]; omega)

theorem decode_len (b : List UInt8) : (decode b).length ≤ b.length := by
  generalize hn : b.length = n
  induction n using Nat.strongRecOn generalizing b with
  | ind n ih =>
    by_cases h : b = []
    · subst h; simp [decode_nil]
    · have h1 := first_len b h
      rw [decode_step b h]
      have := ih (b.drop (first b).2).length (by rw [List.length_drop]; omega) _ rfl
      rw [List.length_drop] at this
      simp only [List.length_cons]
      omega

/-- every character is at most the greatest, and not negative. -/
theorem first_bd (b : List UInt8) : 0 ≤ (first b).1 ∧ (first b).1 ≤ 1114111 := by
  rcases b with _ | ⟨b0, _ | ⟨b1, _ | ⟨b2, _ | ⟨b3, r⟩⟩⟩⟩
  · exact ⟨by decide, by decide⟩
  all_goals
    have h0 := chBd b0
    simp only [first, first2, first3, first4, bad]
    (repeat' split) <;> first
      | (simp only; omega)
      | (rename_i h; simp only [Bool.and_eq_true, isChar, decide_eq_true_eq, cont] at h; simp only; omega)

theorem decode_bd (b : List UInt8) : ∀ c ∈ decode b, 0 ≤ c ∧ c ≤ 1114111 := by
  generalize hn : b.length = n
  induction n using Nat.strongRecOn generalizing b with
  | ind n ih =>
    intro c hc
    by_cases h : b = []
    · subst h; simp [decode_nil] at hc
    · have h1 := first_len b h
      rw [decode_step b h] at hc
      rcases List.mem_cons.1 hc with rfl | hc
      · exact first_bd b
      · exact ih (b.drop (first b).2).length (by rw [List.length_drop]; omega) _ rfl c hc
end Go.Proofs.YteegbjjpjdlcmaaGreatDoor
