/- The plain law: brackets of bytes are brackets of elements; what is parsed in further brackets. -/
import Derived.Test.YtjbmihgfneamlaaDoorBracketLaw
set_option linter.unusedVariables false
namespace Go.Proofs.YtjbmihgfneamlaaDoor

theorem first_bytes (b : List UInt8) (h : b ≠ []) (hne : (first b).1 ≠ 65533) (h128 : 128 ≤ (first b).1) : ∀ x ∈ b.take (first b).2, 128 ≤ ch x := by
  rcases b with _ | ⟨b0, _ | ⟨b1, _ | ⟨b2, _ | ⟨b3, r⟩⟩⟩⟩
  · exact absurd rfl h
  all_goals
    have h0 := chBd b0
    revert hne h128
    simp only [first, first2, first3, first4, bad]
    (repeat' split) <;> intro hne h128 <;> first
      | exact absurd rfl hne
      | (exfalso; omega)
      | (rename_i hh; simp only [Bool.and_eq_true, decide_eq_true_eq, cont] at hh; intro x hx; simp at hx; rcases hx with rfl | rfl <;> omega)
      | (rename_i hh; simp only [Bool.and_eq_true, decide_eq_true_eq, cont] at hh; intro x hx; simp at hx; rcases hx with rfl | rfl | rfl <;> omega)
      | (rename_i hh; simp only [Bool.and_eq_true, decide_eq_true_eq, cont] at hh; intro x hx; simp at hx; rcases hx with rfl | rfl | rfl | rfl <;> omega)

theorem u8_ch (b : UInt8) : u8 (ch b) = b := by
  unfold u8 ch
  simp

theorem first_small (b : List UInt8) (h : b ≠ []) (hlt : (first b).1 < 128) : ∃ r, b = u8 (first b).1 :: r := by
  rcases b with _ | ⟨b0, r⟩
  · exact absurd rfl h
  · refine ⟨r, ?_⟩
    have key : (first (b0 :: r)).1 = ch b0 := by
      revert hlt
      rcases r with _ | ⟨b1, _ | ⟨b2, _ | ⟨b3, r⟩⟩⟩
      all_goals
        have h0 := chBd b0
        simp only [first, first2, first3, first4, bad]
        (repeat' split) <;> intro hlt <;> first
          | rfl
          | (exfalso; omega)
          | (exfalso; rename_i hh; simp only [Bool.and_eq_true, decide_eq_true_eq, cont] at hh; omega)
    rw [key, u8_ch]

theorem char_bytes {b : List UInt8} {c : Int} {r : List Int} (h : decode b = c :: r) (hne : c ≠ 65533) :
    b = b.take (enc c).length ++ b.drop (enc c).length ∧ ((c < 128 ∧ b.take (enc c).length = [u8 c]) ∨ (∀ x ∈ b.take (enc c).length, x ≠ 40 ∧ x ≠ 41)) := by
  refine ⟨(List.take_append_drop _ _).symm, ?_⟩
  have hb : b ≠ [] := by rintro rfl; simp [decode_nil] at h
  have h1 := decode_step b hb
  rw [h] at h1
  simp only [List.cons.injEq] at h1
  have h2 := first_enc_len b hb (by rw [← h1.1]; exact hne)
  rw [← h1.1] at h2
  by_cases hc : c < 128
  · left
    obtain ⟨t, ht⟩ := first_small b hb (by rw [← h1.1]; exact hc)
    rw [← h1.1] at ht
    have he : (enc c).length = 1 := by unfold enc; rw [if_pos hc]; rfl
    rw [he]
    refine ⟨hc, ?_⟩
    rw [ht]
    rfl
  · right
    intro x hx
    rw [← h2] at hx
    have := first_bytes b hb (by rw [← h1.1]; exact hne) (by rw [← h1.1]; omega) x hx
    constructor
    · rintro rfl; exact absurd this (by decide)
    · rintro rfl; exact absurd this (by decide)

theorem dE_flat (F : List El) (hF : ∀ x ∈ F, x.kind ≠ 40 ∧ x.kind ≠ 41) : ∀ (m n : Int) (E : List El), n ≤ m → dE m n (F ++ E) = dE m n E := by
  induction F with
  | nil => intro m n E h; rfl
  | cons x F ih =>
    intro m n E h
    have hx := hF x (by simp)
    simp only [List.cons_append, dE]
    have : dN n x.kind = n := by unfold dN; rw [if_neg hx.1, if_neg hx.2]
    rw [this, if_neg (by omega)]
    exact ih (fun y hy => hF y (by simp [hy])) m n E h

theorem flush_app (b : List UInt8) (st : Int) (p : Nat) (acc : List El) : ∃ F, flush b st p acc = acc ++ F ∧ ∀ x ∈ F, x.kind ≠ 40 ∧ x.kind ≠ 41 := by
  unfold flush
  split
  · exact ⟨[], by simp, by simp⟩
  · refine ⟨_, rfl, ?_⟩
    intro x hx
    simp only [List.mem_singleton] at hx
    subst hx
    exact ⟨fun e => by simp only at e; omega, fun e => by simp only at e; omega⟩

theorem deep_el (b : List UInt8) : ∀ (cs : List Int) (p : Nat) (st : Int) (acc : List El), p ≤ b.length → cs = decode (b.drop p) →
    ∃ E, elGo b p st acc cs = acc ++ E ∧ ((∃ x ∈ E, x.kind = -3) ∨ ∀ m n : Int, n ≤ m → dE m n E = deepGo m n (b.drop p)) := by
  intro cs
  induction cs with
  | nil =>
    intro p st acc hp hcs
    obtain ⟨F, h1, h2⟩ := flush_app b st p acc
    refine ⟨F ++ [⟨-2, b.length, []⟩], by simp only [elGo]; rw [h1, List.append_assoc], .inr ?_⟩
    intro m n hmn
    rw [dE_flat F h2 m n _ hmn, decode_nil_iff hcs.symm]
    simp only [dE, deepGo]
    have : dN n (-2) = n := by unfold dN; rw [if_neg (by decide), if_neg (by decide)]
    rw [this, if_neg (by omega)]
  | cons c cs ih =>
    intro p st acc hp hcs
    have hstep : ∀ n, c ≠ 65533 → (enc c).length = n → p + n ≤ b.length ∧ cs = decode (b.drop (p + n)) := by
      intro n hne hn
      obtain ⟨h1, h2⟩ := decode_cons hcs.symm hne
      rw [List.length_drop] at h1
      rw [hn] at h1 h2
      exact ⟨by omega, by rw [h2, List.drop_drop]⟩
    simp only [elGo]
    by_cases hin : inWord c = true
    · have hne : c ≠ 65533 := by rintro rfl; simp [bad_out] at hin
      obtain ⟨h1, h2⟩ := hstep _ hne rfl
      rw [if_pos hin]
      obtain ⟨E, e1, e2⟩ := ih (p + (enc c).length) (if st < 0 then p else st) acc h1 h2
      refine ⟨E, e1, ?_⟩
      rcases e2 with e2 | e2
      · exact .inl e2
      · right
        intro m n hmn
        obtain ⟨g1, g2⟩ := char_bytes hcs.symm hne
        have hpl : ∀ x ∈ (b.drop p).take (enc c).length, x ≠ 40 ∧ x ≠ 41 := by
          rcases g2 with ⟨hc, g2⟩ | g2
          · have := inWord_lt hin
            intro x hx
            rw [g2] at hx
            simp only [List.mem_singleton] at hx
            have hu := ch_u8 c (by omega) (by omega)
            subst hx
            constructor
            · intro e; rw [e] at hu; exact absurd hu (by show (40 : Int) ≠ c; omega)
            · intro e; rw [e] at hu; exact absurd hu (by show (41 : Int) ≠ c; omega)
          · exact g2
        rw [g1, deepGo_plain _ _ _ _ hpl hmn, e2 m n hmn, List.drop_drop]
    · rw [if_neg hin]
      obtain ⟨F, f1, f2⟩ := flush_app b st p acc
      by_cases h32 : c = 32
      · subst h32
        obtain ⟨h1, h2⟩ := hstep 1 (by omega) rfl
        rw [if_pos rfl]
        obtain ⟨E, e1, e2⟩ := ih (p + 1) (-1) (flush b st p acc) h1 h2
        refine ⟨F ++ E, by rw [e1, f1, List.append_assoc], ?_⟩
        rcases e2 with ⟨x, hx, e2⟩ | e2
        · exact .inl ⟨x, by simp [hx], e2⟩
        · right
          intro m n hmn
          obtain ⟨g1, g2⟩ := char_bytes hcs.symm (by omega)
          have hpl : ∀ x ∈ (b.drop p).take (enc 32).length, x ≠ 40 ∧ x ≠ 41 := by
            rcases g2 with ⟨hc, g2⟩ | g2
            · intro x hx
              rw [g2] at hx
              simp only [List.mem_singleton] at hx
              subst hx
              decide
            · exact g2
          rw [dE_flat F f2 m n E hmn, g1, deepGo_plain _ _ _ _ hpl hmn, e2 m n hmn, List.drop_drop]
          rfl
      · rw [if_neg h32]
        by_cases hs : sepChar c = true
        · obtain ⟨_, g2, g3, g4⟩ := sep_kinds hs
          obtain ⟨h1, h2⟩ := hstep 1 g2 g3
          rw [if_pos hs]
          obtain ⟨E, e1, e2⟩ := ih (p + 1) (-1) (flush b st p acc ++ [⟨c, p, []⟩]) h1 h2
          refine ⟨F ++ (⟨c, p, []⟩ :: E), by rw [e1, f1]; simp, ?_⟩
          rcases e2 with ⟨x, hx, e2⟩ | e2
          · exact .inl ⟨x, by simp [hx], e2⟩
          · right
            intro m n hmn
            have hb1 : b.drop p = u8 c :: b.drop (p + 1) := by
              have hb : b.drop p ≠ [] := by intro e; rw [e] at hcs; simp [decode_nil] at hcs
              have h1 := decode_step _ hb
              rw [← hcs] at h1
              simp only [List.cons.injEq] at h1
              obtain ⟨t, ht⟩ := first_small _ hb (by rw [← h1.1]; omega)
              rw [← h1.1] at ht
              rw [← List.drop_drop, ht]
              rfl
            have hd : deepN n (u8 c) = dN n c := by
              rcases g4 with rfl | rfl | rfl | rfl | rfl <;> rfl
            rw [dE_flat F f2 m n _ hmn, hb1]
            simp only [dE, deepGo]
            rw [hd]
            exact e2 _ _ (by split <;> omega)
        · rw [if_neg hs]
          exact ⟨F ++ [⟨-3, p, []⟩], by rw [f1, List.append_assoc], .inl ⟨⟨-3, p, []⟩, by simp, rfl⟩⟩

theorem deepest_elems (b : List UInt8) (h : ∀ x ∈ elems b, x.kind ≠ -3) : dE 0 0 (elems b) = deepest b := by
  obtain ⟨E, e1, e2⟩ := deep_el b (decode b) 0 (-1) [] (Nat.zero_le _) rfl
  have he : elems b = E := by unfold elems; rw [e1]; rfl
  rcases e2 with ⟨x, hx, hk⟩ | e2
  · exact absurd hk (h x (by rw [he]; exact hx))
  · rw [he, e2 0 0 (by omega)]
    rfl

theorem elGo_acc (b : List UInt8) (A : List El) : ∀ (cs : List Int) (p : Nat) (st : Int) (acc : List El), elGo b p st (A ++ acc) cs = A ++ elGo b p st acc cs := by
  have hf : ∀ p st acc, flush b st p (A ++ acc) = A ++ flush b st p acc := by
    intro p st acc
    unfold flush
    split
    · rfl
    · rw [List.append_assoc]
  intro cs
  induction cs with
  | nil => intro p st acc; simp only [elGo]; rw [hf, List.append_assoc]
  | cons c cs ih =>
    intro p st acc
    simp only [elGo]
    split
    · exact ih _ _ _
    · split
      · rw [hf]; exact ih _ _ _
      · split
        · rw [hf, List.append_assoc]; exact ih _ _ _
        · rw [hf, List.append_assoc]

/-- the elements of a text in brackets. -/
theorem elems_bracket (b : List UInt8) : (∃ X, (elems b).map strip = X ++ [(-3, [])] ∧ ∀ x ∈ X, x.1 ≠ -2) ∨
    (∃ X, (elems b).map strip = X ++ [(-2, [])] ∧ (elems ([40] ++ b ++ [41])).map strip = (40, []) :: (X ++ [(41, []), (-2, [])]) ∧ ∀ x ∈ X, x.1 ≠ -2 ∧ x.1 ≠ -3) := by
  have hs := el_sim [40] b [41] [41] (decode b) 0 (-1) (-1) [] [] (Nat.zero_le _) rfl (.inl ⟨by omega, by omega⟩) rfl (by simp)
  rcases hs with ⟨X, h1, h2, h3⟩ | ⟨acc2, st2, h1, h2, h3⟩
  · exact .inl ⟨X, h1, h3⟩
  · right
    have hd : decode ([40] ++ b ++ [41]) = 40 :: (decode b ++ [41]) := by
      simp only [List.cons_append, List.nil_append]
      rw [decode_byte (by decide), decode_more 41 [] (by decide) _ b (Nat.le_refl _)]
      rfl
    have h0 : elems ([40] ++ b ++ [41]) = [⟨40, 0, []⟩] ++ elGo ([40] ++ b ++ [41]) (0 + ([40] : List UInt8).length) (-1) [] (decode b ++ [41]) := by
      rw [← elGo_acc]
      unfold elems
      rw [hd]
      simp only [elGo]
      rw [if_neg (by decide), if_neg (by decide), if_pos (by decide), flush_neg]
      rfl
    refine ⟨_, h1, ?_, ?_⟩
    · rw [h0, h2]
      simp only [elGo]
      rw [if_neg (by decide), if_neg (by decide), if_pos (by decide), flush_neg]
      simp [strip]
    · intro x hx
      obtain ⟨y, hy, rfl⟩ := List.mem_map.1 hx
      exact h3 y hy

theorem br_of (b : List UInt8) (X : List (Int × List UInt8)) (h1 : (elems b).map strip = X ++ [(-2, [])]) (h2 : (elems ([40] ++ b ++ [41])).map strip = (40, []) :: (X ++ [(41, []), (-2, [])])) (h3 : ∀ x ∈ X, x.1 ≠ -2 ∧ x.1 ≠ -3) :
    Br (elems b) (elems ([40] ++ b ++ [41])) := by
  have l1 : (elems b).length = X.length + 1 := by have := congrArg List.length h1; simpa using this
  have l2 : (elems ([40] ++ b ++ [41])).length = X.length + 3 := by have := congrArg List.length h2; simpa using this
  constructor
  · omega
  · intro n hn
    have hnx : n < X.length := by omega
    rw [knd_kl, knd_kl, trm_tl, trm_tl, h1, h2]
    have e1 : (X ++ [((-2 : Int), ([] : List UInt8))])[n]? = some X[n] := by rw [List.getElem?_append_left hnx, List.getElem?_eq_getElem hnx]
    have e2 : (((40 : Int), ([] : List UInt8)) :: (X ++ [(41, []), (-2, [])]))[n + 1]? = some X[n] := by rw [List.getElem?_cons_succ, List.getElem?_append_left hnx, List.getElem?_eq_getElem hnx]
    unfold kl tl
    rw [e1, e2]
    exact ⟨rfl, rfl, (h3 _ (List.getElem_mem hnx)).1⟩
  · rw [knd_kl, h1, l1]
    unfold kl
    rw [List.getElem?_append_right (by omega)]
    simp
  · rw [knd_kl, h2, l1]
    unfold kl
    rw [List.getElem?_cons_succ, List.getElem?_append_right (by omega)]
    simp
  · rw [knd_kl, h2, l1]
    unfold kl
    rw [List.getElem?_cons_succ, List.getElem?_append_right (by omega)]
    simp
  · omega
  · rw [knd_kl, h2]
    rfl

theorem around_law (b : List UInt8) (hb : b.length ≤ 1900) (h : parseErr b = 0) :
    (parseErr ([40] ++ b ++ [41]) = 0 ∧ (parsed ([40] ++ b ++ [41])).2.ops = (parsed b).2.ops) ∨ (parseErr ([40] ++ b ++ [41]) = 8 ∧ deepest b = 8) := by
  have hl1 : ¬ 2000 < b.length := by omega
  have hl2 : ¬ 2000 < ([40] ++ b ++ [41] : List UInt8).length := by simp only [List.length_append, List.length_cons, List.length_nil]; omega
  have klt := (parsed_kept b).lt
  have hpe := h
  unfold parseErr at hpe
  rw [if_neg hl1] at hpe
  by_cases he : (parsed b).1 = 0
  · rw [if_pos he] at hpe
    by_cases hk : knd (elems b) (parsed b).2.nx = -2
    · rcases elems_bracket b with ⟨X, h1, h3⟩ | ⟨X, h1, h2, h3⟩
      · exfalso
        have l1 : (elems b).length = X.length + 1 := by have := congrArg List.length h1; simpa using this
        rw [knd_kl, h1] at hk
        unfold kl at hk
        by_cases hn : (parsed b).2.nx < X.length
        · rw [List.getElem?_append_left hn, List.getElem?_eq_getElem hn] at hk
          exact h3 _ (List.getElem_mem hn) hk
        · rw [List.getElem?_append_right (by omega), show (parsed b).2.nx - X.length = 0 from by omega] at hk
          simp at hk
      · have B := br_of b X h1 h2 h3
        have hr : queryP (unitP (elems b) (elems b).length 8) (elems b) (elems b).length ⟨0, 0, []⟩ = (0, (parsed b).2) := by
          show parsed b = _
          rw [← he]
        rcases bracket_sim B (elems_ended b) (parsed b).2 hr hk with ⟨g1, g2⟩ | ⟨g1, g2⟩
        · left
          have hp : parsed ([40] ++ b ++ [41]) = (0, ⟨(parsed b).2.nx + 2, (parsed b).2.wd, (parsed b).2.ops⟩) := g1
          refine ⟨?_, by rw [hp]⟩
          unfold parseErr
          rw [if_neg hl2, hp, if_pos rfl, if_pos g2]
        · right
          have hp : (parsed ([40] ++ b ++ [41])).1 = 8 := g1
          refine ⟨?_, ?_⟩
          · unfold parseErr
            rw [if_neg hl2, hp, if_neg (by decide)]
          · rw [← deepest_elems b, g2]
            intro x hx e3
            have : strip x ∈ (elems b).map strip := List.mem_map_of_mem hx
            rw [h1] at this
            simp only [List.mem_append, List.mem_singleton] at this
            rcases this with this | this
            · exact (h3 _ this).2 e3
            · simp only [strip, Prod.mk.injEq] at this
              omega
    · rw [if_neg hk] at hpe
      exact absurd hpe (by decide)
  · rw [if_neg he] at hpe
    exact absurd hpe he
end Go.Proofs.YtjbmihgfneamlaaDoor
