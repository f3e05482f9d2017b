/- Plain laws of characters and words: what is encoded is decoded; the term of a term. -/
import Derived.Test.YteegbjjpjdlcmaaGreatDoorElemA
set_option linter.unusedVariables false
namespace Go.Proofs.YteegbjjpjdlcmaaGreatDoor

theorem u8_ch (b : UInt8) : u8 (ch b) = b := by
  unfold u8 ch
  simp

theorem inWord_lt {c : Int} (h : inWord c = true) : 48 ≤ c ∧ c < 1120 := by
  unfold inWord isLetter isDigit at h
  simp [spans] at h
  omega

theorem small_table : (List.range 1120).all (fun n => !(inWord (n : Int)) || (inWord (small (n : Int)) && (small (small (n : Int)) == small (n : Int)))) = true := by decide +kernel

theorem small_in {c : Int} (h : inWord c = true) : inWord (small c) = true ∧ small (small c) = small c := by
  obtain ⟨h1, h2⟩ := inWord_lt h
  obtain ⟨n, rfl⟩ : ∃ n : Nat, c = n := ⟨c.toNat, by omega⟩
  have := List.all_eq_true.1 small_table n (List.mem_range.2 (by omega))
  rw [h] at this
  simpa using this

theorem enc_len_in {c : Int} (h : inWord c = true) : (enc c).length = 1 ∨ (enc c).length = 2 := by
  obtain ⟨h1, h2⟩ := inWord_lt h
  unfold enc
  split
  · exact .inl rfl
  · rw [if_pos (by omega)]; exact .inr rfl

theorem first_enc {c : Int} (h0 : 0 ≤ c) (h1 : c < 2048) (r : List UInt8) : first (enc c ++ r) = (c, (enc c).length) := by
  by_cases h : c < 128
  · have he : enc c = [u8 c] := by unfold enc; rw [if_pos h]
    rw [he]
    have hc := ch_u8 c h0 (by omega)
    simp only [List.cons_append, List.nil_append, first]
    rw [hc, if_pos h]
    rfl
  · have he : enc c = [u8 (192 + c / 64), u8 (128 + c % 64)] := by unfold enc; rw [if_neg h, if_pos h1]
    rw [he]
    have a1 := ch_u8 (192 + c / 64) (by omega) (by omega)
    have a2 := ch_u8 (128 + c % 64) (by omega) (by omega)
    have hct : cont (u8 (128 + c % 64)) = true := by unfold cont; rw [a2]; simp; omega
    simp only [List.cons_append, List.nil_append, first, first2]
    rw [if_neg (show ¬ ch (u8 (192 + c / 64)) < 128 by omega), if_neg (show ¬ ch (u8 (192 + c / 64)) < 192 by omega), if_pos (show ch (u8 (192 + c / 64)) < 224 by omega), hct, a1, a2, Bool.true_and, if_pos (decide_eq_true (by omega))]
    simp only [List.length_cons, List.length_nil, Prod.mk.injEq]
    exact ⟨by omega, by first | rfl | trivial⟩

theorem enc_ne {c : Int} (h1 : c < 2048) : enc c ≠ [] := by
  unfold enc; split
  · simp
  · simp

theorem decode_enc {c : Int} (h0 : 0 ≤ c) (h1 : c < 2048) (r : List UInt8) : decode (enc c ++ r) = c :: decode r := by
  rw [decode_step _ (by simp [enc_ne h1]), first_enc h0 h1]
  simp

/-- the bytes of characters. -/
def encs (l : List Int) : List UInt8 := l.flatMap enc
theorem decode_encs (l : List Int) (h : ∀ c ∈ l, inWord c = true) (r : List UInt8) : decode (encs l ++ r) = l ++ decode r := by
  induction l with
  | nil => rfl
  | cons c l ih =>
    have hc := inWord_lt (h c (by simp))
    simp only [encs, List.flatMap_cons, List.append_assoc, List.cons_append]
    rw [decode_enc (by omega) (by omega)]
    have := ih (fun x hx => h x (by simp [hx]))
    simp only [encs] at this
    rw [this]

theorem decode_byte {b : UInt8} (h : b.toNat < 128) (r : List UInt8) : decode (b :: r) = (b.toNat : Int) :: decode r := by
  rw [decode_step _ (by simp)]
  have : first (b :: r) = ((b.toNat : Int), 1) := by
    have hc : ch b < 128 := by unfold ch; omega
    simp only [first]
    rw [if_pos hc]
    rfl
  rw [this]
  simp

/-- a term's characters, cut at 64 bytes. -/
theorem termGo_encs : ∀ (l : List Int) (t : List UInt8), (∀ c ∈ l, inWord c = true) → ∃ m, termGo t l = t ++ encs m ∧ (∀ c ∈ m, inWord c = true ∧ small c = c) ∧ (m = [] → l = [] ∨ 62 < t.length) := by
  intro l
  induction l with
  | nil => intro t h; exact ⟨[], by simp [termGo, encs], by simp, fun _ => .inl rfl⟩
  | cons c l ih =>
    intro t h
    have hs := small_in (h c (by simp))
    simp only [termGo]
    split
    · rename_i hlt
      refine ⟨[], by simp [encs], by simp, fun _ => .inr ?_⟩
      have := enc_len_in hs.1
      omega
    · obtain ⟨m, h1, h2, h3⟩ := ih (t ++ enc (small c)) (fun x hx => h x (by simp [hx]))
      refine ⟨small c :: m, ?_, ?_, fun e => by simp at e⟩
      · rw [h1]; simp [encs]
      · intro x hx
        simp only [List.mem_cons] at hx
        rcases hx with rfl | hx
        · exact hs
        · exact h2 x hx

theorem words_mem : ∀ (l cur : List Int), (∀ c ∈ cur, inWord c = true) → ∀ w ∈ wordsGo cur l, w ≠ [] ∧ ∀ c ∈ w, inWord c = true := by
  intro l
  induction l with
  | nil =>
    intro cur hc w hw
    rw [words_end] at hw
    split at hw
    · simp at hw
    · simp only [List.mem_singleton] at hw; subst hw; exact ⟨by assumption, hc⟩
  | cons c l ih =>
    intro cur hc w hw
    by_cases hin : inWord c = true
    · rw [words_in _ _ _ hin] at hw
      refine ih _ ?_ w hw
      intro x hx
      simp only [List.mem_append, List.mem_singleton] at hx
      rcases hx with hx | rfl
      · exact hc x hx
      · exact hin
    · have hin' : inWord c = false := by simpa using hin
      by_cases hce : cur = []
      · subst hce
        rw [words_out _ _ hin'] at hw
        exact ih [] (by simp) w hw
      · rw [words_cut _ _ _ hin' hce] at hw
        simp only [List.mem_cons] at hw
        rcases hw with rfl | hw
        · exact ⟨hce, hc⟩
        · exact ih [] (by simp) w hw

/-- a term that is right: its characters. -/
theorem rightTok_chars {t : List UInt8} (h : rightTok t = true) : ∃ m, t = encs m ∧ m ≠ [] ∧ (∀ c ∈ m, inWord c = true ∧ small c = c) ∧ termOf t = t := by
  have he := eq_of_beq h
  have hto : termOf t = t := by unfold termOf; rw [he]; rfl
  unfold terms at he
  obtain ⟨w, ws, hw, hwt, _⟩ := List.map_eq_cons_iff.1 he
  have hmem : w ∈ words (decode t) := by rw [hw]; simp
  obtain ⟨hne, hin⟩ := words_mem (decode t) [] (by simp) w hmem
  obtain ⟨m, h1, h2, h3⟩ := termGo_encs w [] hin
  have h1' : t = encs m := by rw [← hwt]; unfold term; rw [h1]; simp
  refine ⟨m, h1', ?_, h2, hto⟩
  intro e
  rcases h3 e with h | h
  · exact hne h
  · simp at h
end Go.Proofs.YteegbjjpjdlcmaaGreatDoor
