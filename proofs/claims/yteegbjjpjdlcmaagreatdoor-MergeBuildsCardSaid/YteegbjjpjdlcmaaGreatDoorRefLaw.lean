/- The plain laws of characters: the first character is the one whose bytes these are. -/
import Derived.Test.YteegbjjpjdlcmaaGreatDoorCharLaw
import Derived.Test.YteegbjjpjdlcmaaGreatDoorElemLaw
set_option linter.unusedVariables false
namespace Go.Proofs.YteegbjjpjdlcmaaGreatDoor

theorem first_enc_all {c : Int} (h : isChar c = true) (r : List UInt8) : first (enc c ++ r) = (c, (enc c).length) := by
  have hc := h
  simp only [isChar, Bool.and_eq_true, Bool.or_eq_true, decide_eq_true_eq] at hc
  by_cases h1 : c < 2048
  · exact first_enc (by omega) h1 r
  · by_cases h2 : c < 65536
    · have he : enc c = [u8 (224 + c / 4096), u8 (128 + c / 64 % 64), u8 (128 + c % 64)] := by unfold enc; rw [if_neg (by omega), if_neg (by omega), if_pos h2]
      rw [he]
      have a1 := ch_u8 (224 + c / 4096) (by omega) (by omega)
      have a2 := ch_u8 (128 + c / 64 % 64) (by omega) (by omega)
      have a3 := ch_u8 (128 + c % 64) (by omega) (by omega)
      have hct2 : cont (u8 (128 + c / 64 % 64)) = true := by unfold cont; rw [a2]; simp; omega
      have hct3 : cont (u8 (128 + c % 64)) = true := by unfold cont; rw [a3]; simp; omega
      have hx : (((224 + c / 4096) - 224) * 64 + ((128 + c / 64 % 64) - 128)) * 64 + ((128 + c % 64) - 128) = c := by omega
      simp only [List.cons_append, List.nil_append, first, first3]
      rw [if_neg (show ¬ ch (u8 (224 + c / 4096)) < 128 by omega), if_neg (show ¬ ch (u8 (224 + c / 4096)) < 192 by omega), if_neg (show ¬ ch (u8 (224 + c / 4096)) < 224 by omega), if_pos (show ch (u8 (224 + c / 4096)) < 240 by omega), hct2, hct3, a1, a2, a3, hx, h, Bool.true_and, Bool.true_and, Bool.true_and, if_pos (decide_eq_true (by omega))]
      rfl
    · have he : enc c = [u8 (240 + c / 262144), u8 (128 + c / 4096 % 64), u8 (128 + c / 64 % 64), u8 (128 + c % 64)] := by unfold enc; rw [if_neg (by omega), if_neg (by omega), if_neg h2]
      rw [he]
      have a1 := ch_u8 (240 + c / 262144) (by omega) (by omega)
      have a2 := ch_u8 (128 + c / 4096 % 64) (by omega) (by omega)
      have a3 := ch_u8 (128 + c / 64 % 64) (by omega) (by omega)
      have a4 := ch_u8 (128 + c % 64) (by omega) (by omega)
      have hct2 : cont (u8 (128 + c / 4096 % 64)) = true := by unfold cont; rw [a2]; simp; omega
      have hct3 : cont (u8 (128 + c / 64 % 64)) = true := by unfold cont; rw [a3]; simp; omega
      have hct4 : cont (u8 (128 + c % 64)) = true := by unfold cont; rw [a4]; simp; omega
      have hx : ((((240 + c / 262144) - 240) * 64 + ((128 + c / 4096 % 64) - 128)) * 64 + ((128 + c / 64 % 64) - 128)) * 64 + ((128 + c % 64) - 128) = c := by omega
      simp only [List.cons_append, List.nil_append, first, first4]
      rw [if_neg (show ¬ ch (u8 (240 + c / 262144)) < 128 by omega), if_neg (show ¬ ch (u8 (240 + c / 262144)) < 192 by omega), if_neg (show ¬ ch (u8 (240 + c / 262144)) < 224 by omega), if_neg (show ¬ ch (u8 (240 + c / 262144)) < 240 by omega), if_pos (show ch (u8 (240 + c / 262144)) < 248 by omega), hct2, hct3, hct4, a1, a2, a3, a4, hx, h, Bool.true_and, Bool.true_and, Bool.true_and, Bool.true_and, if_pos (decide_eq_true (by omega))]
      rfl

theorem enc_lens (c : Int) : (enc c).length = if c < 128 then 1 else if c < 2048 then 2 else if c < 65536 then 3 else 4 := by
  unfold enc; repeat' split
  all_goals rfl

/-- the first character is a bad byte's, or its bytes are these. -/
theorem first_is (b : List UInt8) (h : b ≠ []) : first b = (65533, 1) ∨ (isChar (first b).1 = true ∧ b.take (first b).2 = enc (first b).1) := by
  rcases b with _ | ⟨b0, _ | ⟨b1, _ | ⟨b2, _ | ⟨b3, r⟩⟩⟩⟩
  · exact absurd rfl h
  all_goals
    have h0 := chBd b0
    simp only [first, first2, first3, first4, bad]
    repeat' split
  all_goals first
    | exact .inl rfl
    | (right; rename_i hh; constructor
       · simp only [isChar, Bool.and_eq_true, Bool.or_eq_true, decide_eq_true_eq]; omega
       · unfold enc; rw [if_pos (by assumption), u8_ch]; rfl)
    | (right; rename_i hh; simp only [Bool.and_eq_true, decide_eq_true_eq, cont] at hh; refine ⟨by simp only [isChar, Bool.and_eq_true, Bool.or_eq_true, decide_eq_true_eq]; omega, ?_⟩; unfold enc; rw [if_neg (by omega), if_pos (by omega), show 192 + ((ch b0 - 192) * 64 + (ch b1 - 128)) / 64 = ch b0 from by omega, show 128 + ((ch b0 - 192) * 64 + (ch b1 - 128)) % 64 = ch b1 from by omega, u8_ch, u8_ch]; rfl)
    | (right; rename_i hh; simp only [Bool.and_eq_true, decide_eq_true_eq, cont] at hh; refine ⟨hh.1.2, ?_⟩; unfold enc; rw [if_neg (by omega), if_neg (by omega), if_pos (by omega), show 224 + (((ch b0 - 224) * 64 + (ch b1 - 128)) * 64 + (ch b2 - 128)) / 4096 = ch b0 from by omega, show 128 + (((ch b0 - 224) * 64 + (ch b1 - 128)) * 64 + (ch b2 - 128)) / 64 % 64 = ch b1 from by omega, show 128 + (((ch b0 - 224) * 64 + (ch b1 - 128)) * 64 + (ch b2 - 128)) % 64 = ch b2 from by omega, u8_ch, u8_ch, u8_ch]; rfl)
    | (right; rename_i hh; simp only [Bool.and_eq_true, decide_eq_true_eq, cont] at hh; refine ⟨hh.1.2, ?_⟩; unfold enc; rw [if_neg (by omega), if_neg (by omega), if_neg (by omega), show 240 + ((((ch b0 - 240) * 64 + (ch b1 - 128)) * 64 + (ch b2 - 128)) * 64 + (ch b3 - 128)) / 262144 = ch b0 from by omega, show 128 + ((((ch b0 - 240) * 64 + (ch b1 - 128)) * 64 + (ch b2 - 128)) * 64 + (ch b3 - 128)) / 4096 % 64 = ch b1 from by omega, show 128 + ((((ch b0 - 240) * 64 + (ch b1 - 128)) * 64 + (ch b2 - 128)) * 64 + (ch b3 - 128)) / 64 % 64 = ch b2 from by omega, show 128 + ((((ch b0 - 240) * 64 + (ch b1 - 128)) * 64 + (ch b2 - 128)) * 64 + (ch b3 - 128)) % 64 = ch b3 from by omega, u8_ch, u8_ch, u8_ch, u8_ch]; rfl)

/-- the number that bytes would begin with, if they were of so many bytes: the document's way. -/
def lead (n : Nat) : Int := if n = 2 then 192 else if n = 3 then 224 else if n = 4 then 240 else 0
def beg (l : List UInt8) (n : Nat) : Nat → Int
  | 0 => ch (l.getD 0 0) - lead n
  | i + 1 => beg l n i * 64 + ch (l.getD (i + 1) 0) - 128
def begins (l : List UInt8) (n : Nat) : Int := if l.length < n then -1 else beg l n (n - 1)

/-- is it one of so many bytes? -/
def fitsN (l : List UInt8) (k : Nat) : Bool := isChar (begins l k) && enc (begins l k) == l.take k
def refFirst (l : List UInt8) : Nat → Int × Nat
  | 0 => (65533, 1)
  | k + 1 => if fitsN l (k + 1) then (begins l (k + 1), k + 1) else refFirst l k

theorem fits_first (l : List UInt8) (k : Nat) (hk : 1 ≤ k) (h : fitsN l k = true) : first l = (begins l k, k) := by
  unfold fitsN at h
  simp only [Bool.and_eq_true, beq_iff_eq] at h
  obtain ⟨h1, h2⟩ := h
  have hlen : ¬ l.length < k := by
    intro hlt
    unfold begins at h1
    rw [if_pos hlt] at h1
    exact absurd h1 (by decide)
  have hn : (enc (begins l k)).length = k := by rw [h2, List.length_take]; omega
  have hf := first_enc_all h1 (l.drop k)
  rw [h2, List.take_append_drop, ← h2, hn] at hf
  exact hf

theorem enc_begins (c : Int) (h : isChar c = true) (l : List UInt8) (hl : l.take (enc c).length = enc c) : begins l (enc c).length = c := by
  have hc := h
  simp only [isChar, Bool.and_eq_true, Bool.or_eq_true, decide_eq_true_eq] at hc
  have hlen : ¬ l.length < (enc c).length := by
    have := congrArg List.length hl
    rw [List.length_take] at this
    omega
  have hg : ∀ i, i < (enc c).length → l.getD i 0 = (enc c).getD i 0 := by
    intro i hi
    rw [← hl]
    simp only [List.getD, List.getElem?_take]
    rw [if_pos hi]
  unfold begins
  rw [if_neg hlen]
  by_cases h1 : c < 128
  · have he : enc c = [u8 c] := by unfold enc; rw [if_pos h1]
    rw [he] at hg ⊢
    simp only [List.length_singleton, Nat.sub_self, beg]
    rw [hg 0 (by simp)]
    simp only [List.getD_cons_zero, lead]
    rw [ch_u8 _ (by omega) (by omega)]
    simp
  · by_cases h2 : c < 2048
    · have he : enc c = [u8 (192 + c / 64), u8 (128 + c % 64)] := by unfold enc; rw [if_neg h1, if_pos h2]
      rw [he] at hg ⊢
      simp only [List.length_cons, List.length_nil, Nat.zero_add, Nat.reduceAdd, Nat.add_one_sub_one, beg]
      rw [hg 0 (by simp), hg 1 (by simp)]
      simp only [List.getD_cons_zero, List.getD_cons_succ, lead]
      rw [ch_u8 _ (by omega) (by omega), ch_u8 _ (by omega) (by omega)]
      simp
      omega
    · by_cases h3 : c < 65536
      · have he : enc c = [u8 (224 + c / 4096), u8 (128 + c / 64 % 64), u8 (128 + c % 64)] := by unfold enc; rw [if_neg h1, if_neg h2, if_pos h3]
        rw [he] at hg ⊢
        simp only [List.length_cons, List.length_nil, Nat.zero_add, Nat.reduceAdd, Nat.add_one_sub_one, beg]
        rw [hg 0 (by simp), hg 1 (by simp), hg 2 (by simp)]
        simp only [List.getD_cons_zero, List.getD_cons_succ, lead]
        rw [ch_u8 _ (by omega) (by omega), ch_u8 _ (by omega) (by omega), ch_u8 _ (by omega) (by omega)]
        simp
        omega
      · have he : enc c = [u8 (240 + c / 262144), u8 (128 + c / 4096 % 64), u8 (128 + c / 64 % 64), u8 (128 + c % 64)] := by unfold enc; rw [if_neg h1, if_neg h2, if_neg h3]
        rw [he] at hg ⊢
        simp only [List.length_cons, List.length_nil, Nat.zero_add, Nat.reduceAdd, Nat.add_one_sub_one, beg]
        rw [hg 0 (by simp), hg 1 (by simp), hg 2 (by simp), hg 3 (by simp)]
        simp only [List.getD_cons_zero, List.getD_cons_succ, lead]
        rw [ch_u8 _ (by omega) (by omega), ch_u8 _ (by omega) (by omega), ch_u8 _ (by omega) (by omega), ch_u8 _ (by omega) (by omega)]
        simp
        omega

theorem refFirst_is (l : List UInt8) (h : l ≠ []) : refFirst l 4 = first l := by
  have key : ∀ k, refFirst l k = first l ∨ (refFirst l k = (65533, 1) ∧ ∀ j, 1 ≤ j → j ≤ k → fitsN l j = false) := by
    intro k
    induction k with
    | zero => exact .inr ⟨rfl, fun j h1 h2 => by omega⟩
    | succ k ih =>
      simp only [refFirst]
      by_cases hf : fitsN l (k + 1) = true
      · left; rw [if_pos hf, fits_first l (k + 1) (by omega) hf]
      · rw [if_neg hf]
        rcases ih with ih | ⟨i1, i2⟩
        · exact .inl ih
        · right
          refine ⟨i1, fun j h1 h2 => ?_⟩
          by_cases hj : j = k + 1
          · subst hj; simpa using hf
          · exact i2 j h1 (by omega)
  rcases key 4 with k | ⟨k1, k2⟩
  · exact k
  · rcases first_is l h with hf | ⟨h1, h2⟩
    · rw [k1, hf]
    · exfalso
      have hfl := first_len l h
      have hn : (enc (first l).1).length = (first l).2 := by rw [← h2, List.length_take]; omega
      have hb := enc_begins _ h1 l (by rw [hn]; exact h2)
      rw [hn] at hb
      have h4 : (first l).2 ≤ 4 := by rw [← hn, enc_lens]; repeat' split
                                      all_goals omega
      have := k2 (first l).2 hfl.1 h4
      unfold fitsN at this
      rw [hb, h1, h2] at this
      simp at this

/-- which texts are terms: the document's way. -/
def refTok (s : List UInt8) : Bool := (decode s).all (fun c => inWord c && small c == c) && decide (0 < (decode s).length) && decide (s.length ≤ 64)

theorem bytes_encs : ∀ (n : Nat) (s : List UInt8), s.length ≤ n → (∀ c ∈ decode s, inWord c = true) → s = encs (decode s) := by
  intro n
  induction n with
  | zero => intro s hs h; have : s = [] := List.eq_nil_of_length_eq_zero (by omega); subst this; rfl
  | succ n ih =>
    intro s hs h
    by_cases h0 : s = []
    · subst h0; rfl
    · have hd := decode_step s h0
      have hfl := first_len s h0
      have hin : inWord (first s).1 = true := h _ (by rw [hd]; simp)
      rcases first_is s h0 with hf | ⟨h1, h2⟩
      · rw [hf] at hin; simp [bad_out] at hin
      · have hr : s.drop (first s).2 = encs (decode (s.drop (first s).2)) := ih _ (by rw [List.length_drop]; omega) (fun c hc => h c (by rw [hd]; simp [hc]))
        rw [hd]
        have h3 : encs ((first s).1 :: decode (s.drop (first s).2)) = enc (first s).1 ++ encs (decode (s.drop (first s).2)) := by simp [encs]
        rw [h3, ← hr, ← h2]
        exact (List.take_append_drop _ _).symm

theorem termGo_fit : ∀ (l : List Int) (t : List UInt8), (∀ c ∈ l, small c = c) → (t ++ encs l).length ≤ 64 → termGo t l = t ++ encs l := by
  intro l
  induction l with
  | nil => intro t _ _; simp [termGo, encs]
  | cons c l ih =>
    intro t h hl
    have hc := h c (by simp)
    simp only [termGo]
    rw [hc]
    have hlen : (t ++ encs (c :: l)).length = t.length + (enc c).length + (encs l).length := by simp [encs]; omega
    rw [if_neg (by omega), ih _ (fun x hx => h x (by simp [hx])) (by rw [List.length_append, List.length_append]; omega)]
    simp [encs]

theorem wordsGo_all : ∀ (l cur : List Int), (∀ c ∈ l, inWord c = true) → wordsGo cur l = if cur ++ l = [] then [] else [cur ++ l] := by
  intro l
  induction l with
  | nil => intro cur _; rw [words_end, List.append_nil]
  | cons c l ih =>
    intro cur h
    rw [words_in _ _ _ (h c (by simp)), ih _ (fun x hx => h x (by simp [hx]))]
    simp

theorem refTok_is (s : List UInt8) : refTok s = rightTok s := by
  rw [Bool.eq_iff_iff]
  constructor
  · intro h
    unfold refTok at h
    simp only [Bool.and_eq_true, List.all_eq_true, decide_eq_true_eq, beq_iff_eq] at h
    obtain ⟨⟨h1, h2⟩, h3⟩ := h
    have hb := bytes_encs _ s (Nat.le_refl _) (fun c hc => (h1 c hc).1)
    unfold rightTok terms words
    rw [wordsGo_all _ _ (fun c hc => (h1 c hc).1), List.nil_append, if_neg (by intro e; rw [e] at h2; simp at h2)]
    simp only [List.map_cons, List.map_nil, term]
    rw [termGo_fit _ _ (fun c hc => (h1 c hc).2) (by rw [List.nil_append, ← hb]; exact h3), List.nil_append, ← hb]
    simp
  · intro h
    obtain ⟨m, h1, h2, h3, h4⟩ := rightTok_chars h
    have hd : decode s = m := by
      have := decode_encs m (fun c hc => (h3 c hc).1) []
      rw [List.append_nil, ← h1, decode_nil, List.append_nil] at this
      exact this
    unfold refTok
    rw [hd]
    simp only [Bool.and_eq_true, List.all_eq_true, decide_eq_true_eq, beq_iff_eq]
    exact ⟨⟨h3, List.length_pos_iff.2 h2⟩, rightTok_len h⟩
end Go.Proofs.YteegbjjpjdlcmaaGreatDoor
