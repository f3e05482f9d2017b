/- Plain laws on words and terms. No program. -/
import Derived.Test.YteegbjjpjdlcmaaGreatDoorUtfLaw
namespace Go.Proofs.YteegbjjpjdlcmaaGreatDoor

theorem first_char (b : List UInt8) : isChar (first b).1 = true := by
  rcases b with _ | ⟨b0, _ | ⟨b1, _ | ⟨b2, _ | ⟨b3, r⟩⟩⟩⟩
  · exact (by decide)
  all_goals
    have h0 := chBd b0
    simp only [first, first2, first3, first4, bad]
    (repeat' split) <;> first
      | (exact (by decide))
      | (simp only [isChar, Bool.and_eq_true, Bool.or_eq_true, decide_eq_true_eq]; omega)
      | (rename_i h; simp only [Bool.and_eq_true, Bool.or_eq_true, isChar, decide_eq_true_eq, cont] at h ⊢; omega)

theorem decode_char (b : List UInt8) : ∀ c ∈ decode b, isChar c = true := by
  generalize hn : b.length = n
  induction n using Nat.strongRecOn generalizing b with
  | ind n ih =>
    intro c hc
    by_cases h : b = []
    · subst h; simp [decode_nil] at hc
    · have h1 := first_len b h
      rw [decode_step b h] at hc
      rcases List.mem_cons.1 hc with rfl | hc
      · exact first_char b
      · exact ih (b.drop (first b).2).length (by rw [List.length_drop]; omega) _ rfl c hc

theorem words_in (cur : List Int) (c : Int) (r : List Int) (h : inWord c = true) : wordsGo cur (c :: r) = wordsGo (cur ++ [c]) r := by
  simp only [wordsGo]; rw [if_pos h]
theorem words_out (c : Int) (r : List Int) (h : inWord c = false) : wordsGo [] (c :: r) = wordsGo [] r := by
  simp only [wordsGo]; rw [if_neg (by simp [h]), if_pos trivial]
theorem words_cut (cur : List Int) (c : Int) (r : List Int) (h : inWord c = false) (hc : cur ≠ []) : wordsGo cur (c :: r) = cur :: wordsGo [] r := by
  simp only [wordsGo]; rw [if_neg (by simp [h]), if_neg hc]
theorem words_end (cur : List Int) : wordsGo cur [] = if cur = [] then [] else [cur] := rfl
theorem words_len (cs : List Int) : ∀ cur, (wordsGo cur cs).length ≤ cs.length + (if cur = [] then 0 else 1) := by
  induction cs with
  | nil => intro cur; rw [words_end]; split <;> simp
  | cons c cs ih =>
    intro cur
    cases h : inWord c with
    | true =>
      rw [words_in _ _ _ h]
      have := ih (cur ++ [c])
      simp at this ⊢
      split <;> omega
    | false =>
      by_cases hc : cur = []
      · subst hc
        rw [words_out _ _ h]
        have := ih []
        simp at this ⊢
        omega
      · rw [words_cut _ _ _ h hc]
        have := ih []
        simp [hc] at this ⊢
        omega

theorem terms_len (b : List UInt8) : (terms b).length ≤ b.length := by
  unfold terms words
  rw [List.length_map]
  have h1 := words_len (decode b) []
  have h2 := decode_len b
  simp at h1
  omega

theorem term_le (t : List UInt8) (l : List Int) (h : t.length ≤ 64) : (termGo t l).length ≤ 64 := by
  induction l generalizing t with
  | nil => exact h
  | cons c l ih =>
    simp only [termGo]
    split
    · exact h
    · exact ih _ (by simp; omega)

theorem terms_le (b : List UInt8) : ∀ t ∈ terms b, t.length ≤ 64 := by
  intro t ht
  unfold terms at ht
  obtain ⟨w, _, rfl⟩ := List.mem_map.1 ht
  exact term_le [] w (by simp)
end Go.Proofs.YteegbjjpjdlcmaaGreatDoor
