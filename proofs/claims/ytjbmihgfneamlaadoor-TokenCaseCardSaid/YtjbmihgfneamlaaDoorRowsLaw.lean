/- Terms of bytes, a byte of no word, and further bytes; terms do not tell great letters from small ones. Plain laws, no program. -/
import Derived.Test.YtjbmihgfneamlaaDoorCharLaw
namespace Go.Proofs.YtjbmihgfneamlaaDoor

/-! ### a mark between -/
theorem first_mark (a : List UInt8) (m : UInt8) (r : List UInt8) (ha : a ≠ []) (hm : ch m < 128) : first (a ++ m :: r) = first a := by
  have hc : cont m = false := by simp only [cont, Bool.and_eq_false_iff, decide_eq_false_iff_not]; omega
  rcases a with _ | ⟨b0, _ | ⟨b1, _ | ⟨b2, _ | ⟨b3, t⟩⟩⟩⟩
  · exact absurd rfl ha
  · cases r with
    | nil => simp [first, first2, first3, first4, hc]
    | cons r0 r => cases r with
      | nil => simp [first, first2, first3, first4, hc]
      | cons r1 r => simp [first, first2, first3, first4, hc]
  · cases r with
    | nil => simp [first, first2, first3, first4, hc]
    | cons r0 r => simp [first, first2, first3, first4, hc]
  · simp [first, first2, first3, first4, hc]
  · simp [first, first2, first3, first4]

theorem decode_mark (m : UInt8) (r : List UInt8) (hm : m.toNat < 128) (a : List UInt8) : decode (a ++ m :: r) = decode a ++ ch m :: decode r := by
  generalize hn : a.length = n
  induction n using Nat.strongRecOn generalizing a with
  | ind n ih =>
    by_cases h : a = []
    · subst h
      rw [List.nil_append, decode_byte hm, decode_nil]
      rfl
    · have h1 := first_len a h
      have hf := first_mark a m r h (by unfold ch; omega)
      rw [decode_step _ (by simp), decode_step a h, hf, List.drop_append_of_le_length h1.2, ih (a.drop (first a).2).length (by rw [List.length_drop]; omega) _ rfl]
      rfl

theorem wordsGo_mark (c : Int) (hc : inWord c = false) (r : List Int) : ∀ (l cur : List Int), wordsGo cur (l ++ c :: r) = wordsGo cur l ++ wordsGo [] r := by
  intro l
  induction l with
  | nil =>
    intro cur
    rw [List.nil_append, words_end]
    by_cases h : cur = []
    · subst h; rw [words_out _ _ hc]; simp
    · rw [words_cut _ _ _ hc h, if_neg h]; rfl
  | cons x l ih =>
    intro cur
    rw [List.cons_append]
    cases hx : inWord x with
    | true => rw [words_in _ _ _ hx, words_in _ _ _ hx, ih]
    | false =>
      by_cases h : cur = []
      · subst h; rw [words_out _ _ hx, words_out _ _ hx, ih]
      · rw [words_cut _ _ _ hx h, words_cut _ _ _ hx h, ih]; rfl

/-- the terms of bytes, a byte that is of no word, and further bytes. -/
theorem terms_mark (a : List UInt8) (m : UInt8) (r : List UInt8) (hm : m.toNat < 128) (hc : inWord (ch m) = false) : terms (a ++ m :: r) = terms a ++ terms r := by
  unfold terms words
  rw [decode_mark m r hm, wordsGo_mark _ hc, List.map_append]

/-! ### great and small -/
/-- two bytes: one, or two letters from a to z, great and small. -/
def likeB (x y : UInt8) : Prop := x = y ∨ ((65 ≤ ch x ∧ ch x ≤ 90) ∨ (97 ≤ ch x ∧ ch x ≤ 122)) ∧ (ch y = ch x + 32 ∧ ch x ≤ 90 ∨ ch y = ch x - 32 ∧ 97 ≤ ch x)
def likeC (x y : Int) : Prop := x = y ∨ ((65 ≤ x ∧ x ≤ 90) ∨ (97 ≤ x ∧ x ≤ 122)) ∧ (y = x + 32 ∧ x ≤ 90 ∨ y = x - 32 ∧ 97 ≤ x)

theorem likeB.cont {x y : UInt8} (h : likeB x y) : cont x = cont y := by
  rcases h with rfl | h
  · rfl
  · have h1 : Proofs.YtjbmihgfneamlaaDoor.cont x = false := by simp only [Proofs.YtjbmihgfneamlaaDoor.cont, Bool.and_eq_false_iff, decide_eq_false_iff_not]; omega
    have h2 : Proofs.YtjbmihgfneamlaaDoor.cont y = false := by simp only [Proofs.YtjbmihgfneamlaaDoor.cont, Bool.and_eq_false_iff, decide_eq_false_iff_not]; omega
    rw [h1, h2]
theorem likeB.eq_of_ge {x y : UInt8} (h : likeB x y) (h1 : 128 ≤ ch x) : x = y := by
  rcases h with rfl | h
  · rfl
  · omega
theorem likeB.eq_of_cont {x y : UInt8} (h : likeB x y) (h1 : Proofs.YtjbmihgfneamlaaDoor.cont x = true) : x = y := by
  refine h.eq_of_ge ?_
  simp only [Proofs.YtjbmihgfneamlaaDoor.cont, Bool.and_eq_true, decide_eq_true_eq] at h1
  omega

inductive LikeL : List UInt8 → List UInt8 → Prop
  | nil : LikeL [] []
  | cons {x y : UInt8} {a b : List UInt8} : likeB x y → LikeL a b → LikeL (x :: a) (y :: b)

theorem LikeL.len {a b : List UInt8} (h : LikeL a b) : a.length = b.length := by
  induction h with
  | nil => rfl
  | cons _ _ ih => simp [ih]
theorem LikeL.drop {a b : List UInt8} (h : LikeL a b) : ∀ n, LikeL (a.drop n) (b.drop n) := by
  induction h with
  | nil => intro n; simp; exact .nil
  | cons h1 h2 ih =>
    intro n
    cases n with
    | zero => exact .cons h1 h2
    | succ n => exact ih n

theorem like_first2 (x : Int) {a b : List UInt8} (h : LikeL a b) : first2 x a = first2 x b := by
  cases h with
  | nil => rfl
  | cons h1 h2 =>
    simp only [first2, ← h1.cont]
    split
    · rename_i hc
      simp only [Bool.and_eq_true] at hc
      rw [← h1.eq_of_cont hc.1, if_pos (by simp [hc])]
    · rename_i hc
      split
      · rename_i y hc2
        simp only [Bool.and_eq_true] at hc2
        rw [← h1.eq_of_cont hc2.1] at hc2
        exact absurd (by simp [hc2]) hc
      · rfl
theorem like_first3 (x : Int) {a b : List UInt8} (h : LikeL a b) : first3 x a = first3 x b := by
  cases h with
  | nil => rfl
  | cons h1 h =>
    rename_i x1 y1 a1 b1
    cases h with
    | nil => rfl
    | cons h2 h3 =>
      rename_i x2 y2 a2 b2
      simp only [first3, ← h1.cont, ← h2.cont]
      cases e1 : Proofs.YtjbmihgfneamlaaDoor.cont x1 with
      | false => simp
      | true =>
        obtain rfl := h1.eq_of_cont e1
        cases e2 : Proofs.YtjbmihgfneamlaaDoor.cont x2 with
        | false => simp
        | true =>
          obtain rfl := h2.eq_of_cont e2
          rfl
theorem like_first4 (x : Int) {a b : List UInt8} (h : LikeL a b) : first4 x a = first4 x b := by
  cases h with
  | nil => rfl
  | cons h1 h =>
    rename_i x1 y1 a1 b1
    cases h with
    | nil => rfl
    | cons h2 h =>
      rename_i x2 y2 a2 b2
      cases h with
      | nil => rfl
      | cons h3 h4 =>
        rename_i x3 y3 a3 b3
        simp only [first4, ← h1.cont, ← h2.cont, ← h3.cont]
        cases e1 : Proofs.YtjbmihgfneamlaaDoor.cont x1 with
        | false => simp
        | true =>
          obtain rfl := h1.eq_of_cont e1
          cases e2 : Proofs.YtjbmihgfneamlaaDoor.cont x2 with
          | false => simp
          | true =>
            obtain rfl := h2.eq_of_cont e2
            cases e3 : Proofs.YtjbmihgfneamlaaDoor.cont x3 with
            | false => simp
            | true =>
              obtain rfl := h3.eq_of_cont e3
              rfl

theorem like_first {a b : List UInt8} (h : LikeL a b) : (first a).2 = (first b).2 ∧ likeC (first a).1 (first b).1 := by
  cases h with
  | nil => exact ⟨rfl, .inl rfl⟩
  | cons h1 h2 =>
    rename_i x y a b
    by_cases hx : 128 ≤ ch x
    · obtain rfl := h1.eq_of_ge hx
      simp only [first, like_first2 _ h2, like_first3 _ h2, like_first4 _ h2]
      first | exact ⟨rfl, .inl rfl⟩ | exact ⟨trivial, .inl rfl⟩ | exact .inl rfl
    · have hy : ch y < 128 := by
        rcases h1 with rfl | h1
        · omega
        · omega
      simp only [first]
      rw [if_pos (by omega), if_pos hy]
      refine ⟨rfl, ?_⟩
      rcases h1 with rfl | h1
      · exact .inl rfl
      · exact .inr h1

inductive LikeCs : List Int → List Int → Prop
  | nil : LikeCs [] []
  | cons {x y : Int} {a b : List Int} : likeC x y → LikeCs a b → LikeCs (x :: a) (y :: b)

theorem like_decode {a b : List UInt8} (h : LikeL a b) : LikeCs (decode a) (decode b) := by
  generalize hn : a.length = n
  induction n using Nat.strongRecOn generalizing a b with
  | ind n ih =>
    by_cases ha : a = []
    · subst ha
      cases h
      exact .nil
    · have hb : b ≠ [] := by
        intro e
        have := h.len
        rw [e] at this
        exact ha (List.length_eq_zero_iff.1 this)
      have h1 := first_len a ha
      obtain ⟨f1, f2⟩ := like_first h
      rw [decode_step a ha, decode_step b hb]
      refine .cons f2 ?_
      rw [← f1]
      exact ih _ (by rw [List.length_drop]; omega) (h.drop _) rfl

theorem likeC.word {x y : Int} (h : likeC x y) : inWord x = inWord y := by
  rcases h with rfl | h
  · rfl
  · have h1 : inWord x = true := by unfold inWord; rw [Bool.or_eq_true]; left; simp only [isLetter, spans, List.any_cons, List.any_nil, Bool.or_eq_true, Bool.and_eq_true, decide_eq_true_eq]; omega
    have h2 : inWord y = true := by unfold inWord; rw [Bool.or_eq_true]; left; simp only [isLetter, spans, List.any_cons, List.any_nil, Bool.or_eq_true, Bool.and_eq_true, decide_eq_true_eq]; omega
    rw [h1, h2]
theorem small_low {c : Int} (h : 65 ≤ c ∧ c ≤ 90) : small c = c + 32 := by
  unfold small shifts
  rw [List.find?_cons_of_pos (by simp [h.1, h.2])]
theorem small_stay {c : Int} (h : 97 ≤ c ∧ c ≤ 122) : small c = c := by
  unfold small
  have : (shifts.find? fun s => decide (s.1 ≤ c) && decide (c ≤ s.2.1)) = none := by
    rw [List.find?_eq_none]
    intro s hs
    simp only [shifts, List.mem_cons, List.not_mem_nil, or_false] at hs
    simp only [Bool.and_eq_true, decide_eq_true_eq]
    rcases hs with rfl | rfl | rfl | rfl | rfl | rfl | rfl <;> simp only <;> omega
  rw [this]
theorem likeC.small {x y : Int} (h : likeC x y) : Proofs.YtjbmihgfneamlaaDoor.small x = Proofs.YtjbmihgfneamlaaDoor.small y := by
  rcases h with rfl | ⟨_, ⟨h, h'⟩ | ⟨h, h'⟩⟩
  · rfl
  · rw [small_low (by omega), small_stay (by omega), h]
  · rw [small_stay (by omega), small_low (by omega), h]; omega

theorem like_termGo {a b : List Int} (h : LikeCs a b) : ∀ t, termGo t a = termGo t b := by
  induction h with
  | nil => intro t; rfl
  | cons h1 _ ih => intro t; simp only [termGo, ← h1.small, ih]
inductive LikeWs : List (List Int) → List (List Int) → Prop
  | nil : LikeWs [] []
  | cons {x y : List Int} {a b : List (List Int)} : LikeCs x y → LikeWs a b → LikeWs (x :: a) (y :: b)
theorem LikeCs.snoc {a b : List Int} (h : LikeCs a b) {x y : Int} (hx : likeC x y) : LikeCs (a ++ [x]) (b ++ [y]) := by
  induction h with
  | nil => exact .cons hx .nil
  | cons h1 _ ih => exact .cons h1 ih
theorem LikeCs.nil_iff {a b : List Int} (h : LikeCs a b) : a = [] ↔ b = [] := by cases h <;> simp
theorem like_words {a b : List Int} (h : LikeCs a b) : ∀ {c d : List Int}, LikeCs c d → LikeWs (wordsGo c a) (wordsGo d b) := by
  induction h with
  | nil =>
    intro c d hc
    rw [words_end, words_end]
    by_cases e : c = []
    · rw [if_pos e, if_pos (hc.nil_iff.1 e)]; exact .nil
    · rw [if_neg e, if_neg (fun e' => e (hc.nil_iff.2 e'))]; exact .cons hc .nil
  | cons h1 _ ih =>
    rename_i x y _ _ _
    intro c d hc
    cases hx : inWord x with
    | true => rw [words_in _ _ _ hx, words_in _ _ _ (h1.word ▸ hx)]; exact ih (hc.snoc h1)
    | false =>
      by_cases e : c = []
      · obtain rfl := hc.nil_iff.1 e
        subst e
        rw [words_out _ _ hx, words_out _ _ (h1.word ▸ hx)]; exact ih .nil
      · rw [words_cut _ _ _ hx e, words_cut _ _ _ (h1.word ▸ hx) (fun e' => e (hc.nil_iff.2 e'))]; exact .cons hc (ih .nil)
theorem like_terms {a b : List UInt8} (h : LikeL a b) : terms a = terms b := by
  unfold terms words
  have := like_words (like_decode h) LikeCs.nil
  revert this
  generalize wordsGo [] (decode a) = x
  generalize wordsGo [] (decode b) = y
  intro h
  induction h with
  | nil => rfl
  | cons h1 _ ih => rw [List.map_cons, List.map_cons, ih]; congr 1; exact like_termGo h1 []
end Go.Proofs.YtjbmihgfneamlaaDoor
