/- The plain law: what is parsed is right. -/
import Derived.Test.YtjbmihgfneamlaaDoorRefLaw
import Derived.Test.YtjbmihgfneamlaaDoorQTerms
set_option linter.unusedVariables false
namespace Go.Proofs.YtjbmihgfneamlaaDoor

theorem term_right {m : List Int} (h : ∀ c ∈ m, inWord c = true) (hne : m ≠ []) : termOf (encs m) = term m ∧ rightTok (term m) = true := by
  have hd : decode (encs m) = m := by
    have := decode_encs m h []
    rw [List.append_nil, decode_nil, List.append_nil] at this
    exact this
  constructor
  · unfold termOf terms words
    rw [hd, wordsGo_all _ _ h, List.nil_append, if_neg hne]
    rfl
  · obtain ⟨m', h1, h2, h3⟩ := termGo_encs m [] h
    have ht : term m = encs m' := by unfold term; rw [h1]; rfl
    have hl : (term m).length ≤ 64 := term_le [] m (by decide)
    rw [ht] at hl ⊢
    rw [← refTok_is]
    have hd' : decode (encs m') = m' := by
      have := decode_encs m' (fun c hc => (h2 c hc).1) []
      rw [List.append_nil, decode_nil, List.append_nil] at this
      exact this
    unfold refTok
    rw [hd']
    simp only [Bool.and_eq_true, List.all_eq_true, decide_eq_true_eq, beq_iff_eq]
    refine ⟨⟨h2, ?_⟩, hl⟩
    apply List.length_pos_iff.2
    intro e
    rcases h3 e with h | h
    · exact hne h
    · simp at h

/-- each word of a text has a term that is right. -/
theorem elGo_right (b : List UInt8) : ∀ (cs : List Int) (p : Nat) (st : Int) (acc : List El), p ≤ b.length → cs = decode (b.drop p) →
    (st < 0 ∨ ∃ (s : Nat) (m : List Int), st = s ∧ s ≤ p ∧ m ≠ [] ∧ (∀ c ∈ m, inWord c = true) ∧ (b.drop s).take (p - s) = encs m) → (∀ x ∈ acc, x.kind = -1 → rightTok x.term = true) →
    ∀ x ∈ elGo b p st acc cs, x.kind = -1 → rightTok x.term = true := by
  have hfl : ∀ (p : Nat) (st : Int) (acc : List El), (st < 0 ∨ ∃ (s : Nat) (m : List Int), st = s ∧ s ≤ p ∧ m ≠ [] ∧ (∀ c ∈ m, inWord c = true) ∧ (b.drop s).take (p - s) = encs m) → (∀ x ∈ acc, x.kind = -1 → rightTok x.term = true) → ∀ x ∈ flush b st p acc, x.kind = -1 → rightTok x.term = true := by
    intro p st acc hst hacc x hx hk
    unfold flush at hx
    rcases hst with h | ⟨s, m, rfl, hsp, hne, hin, hb⟩
    · rw [if_pos h] at hx; exact hacc x hx hk
    · rw [if_neg (by omega)] at hx
      simp only [List.mem_append, List.mem_singleton] at hx
      rcases hx with hx | rfl
      · exact hacc x hx hk
      · simp only
        rw [show ((s : Int)).toNat = s from by omega, hb]
        obtain ⟨t1, t2⟩ := term_right hin hne
        rw [t1]; exact t2
  have hsn : ∀ (l : List El) (y : El), y.kind ≠ -1 → (∀ x ∈ l, x.kind = -1 → rightTok x.term = true) → ∀ x ∈ l ++ [y], x.kind = -1 → rightTok x.term = true := by
    intro l y hy hl x hx hk
    simp only [List.mem_append, List.mem_singleton] at hx
    rcases hx with hx | rfl
    · exact hl x hx hk
    · exact absurd hk hy
  intro cs
  induction cs with
  | nil =>
    intro p st acc hp hcs hst hacc
    simp only [elGo]
    exact hsn _ _ (fun e => by simp only at e; omega) (hfl p st acc hst hacc)
  | cons c cs ih =>
    intro p st acc hp hcs hst hacc
    have hstep : ∀ n, c ≠ 65533 → (enc c).length = n → p + n ≤ b.length ∧ cs = decode (b.drop (p + n)) := by
      intro n hne hn
      obtain ⟨h1, h2⟩ := decode_cons hcs.symm hne
      rw [List.length_drop] at h1
      rw [hn] at h1 h2
      exact ⟨by omega, by rw [h2, List.drop_drop]⟩
    simp only [elGo]
    by_cases hin : inWord c = true
    · have hne : c ≠ 65533 := by rintro rfl; simp [bad_out] at hin
      obtain ⟨h1, h2⟩ := hstep _ hne rfl
      rw [if_pos hin]
      have hbne : b.drop p ≠ [] := by intro e; rw [e] at hcs; simp [decode_nil] at hcs
      have hds := decode_step _ hbne
      rw [← hcs] at hds
      simp only [List.cons.injEq] at hds
      have htk : (b.drop p).take (enc c).length = enc c := by
        rcases first_is _ hbne with hf | ⟨_, hf⟩
        · rw [hf] at hds; exact absurd hds.1 hne
        · have hfl2 := first_enc_len _ hbne (by rw [← hds.1]; exact hne)
          rw [hfl2, ← hds.1] at hf
          exact hf
      refine ih _ _ _ h1 h2 (.inr ?_) hacc
      rcases hst with h | ⟨s, m, rfl, hsp, hmne, hmin, hb⟩
      · refine ⟨p, [c], by rw [if_pos h], by omega, by simp, by simpa using hin, ?_⟩
        rw [show p + (enc c).length - p = (enc c).length from by omega, htk]
        simp [encs]
      · refine ⟨s, m ++ [c], by rw [if_neg (by omega)], by omega, by simp, ?_, ?_⟩
        · intro x hx
          simp only [List.mem_append, List.mem_singleton] at hx
          rcases hx with hx | rfl
          · exact hmin x hx
          · exact hin
        · rw [show p + (enc c).length - s = (p - s) + (enc c).length from by omega, List.take_add, hb, List.drop_drop, show s + (p - s) = p from by omega, htk]
          simp [encs]
    · rw [if_neg hin]
      by_cases h32 : c = 32
      · obtain ⟨h1, h2⟩ := hstep 1 (by omega) (by subst h32; rfl)
        rw [if_pos h32]
        exact ih _ _ _ h1 h2 (.inl (by omega)) (hfl p st acc hst hacc)
      · rw [if_neg h32]
        by_cases hs : sepChar c = true
        · obtain ⟨g1, g2, g3, g4⟩ := sep_kinds hs
          obtain ⟨h1, h2⟩ := hstep 1 g2 g3
          rw [if_pos hs]
          exact ih _ _ _ h1 h2 (.inl (by omega)) (hsn _ _ (fun e => by simp only at e; omega) (hfl p st acc hst hacc))
        · rw [if_neg hs]
          exact hsn _ _ (fun e => by simp only at e; omega) (hfl p st acc hst hacc)

theorem elems_right (b : List UInt8) : ∀ x ∈ elems b, x.kind = -1 → rightTok x.term = true :=
  elGo_right b _ 0 (-1) [] (Nat.zero_le _) rfl (.inl (by omega)) (by simp)

/-- steps that are a whole question, of n words. -/
structure Comp (X : List QOp) (n : Nat) : Prop where
  words : (wordsOf X).length = n
  pos : 1 ≤ n
  go : ∀ (h w : Int) (rest : List QOp), 0 ≤ h → rightGo h w (X ++ rest) = rightGo (h + 1) (w + n) rest

theorem wordsOf_app (a b : List QOp) : wordsOf (a ++ b) = wordsOf a ++ wordsOf b := by simp [wordsOf]

theorem Comp.word {t : List UInt8} (ht : rightTok t = true) : Comp [(0, t)] 1 := by
  refine ⟨rfl, by omega, ?_⟩
  intro h w rest hh
  simp only [List.cons_append, List.nil_append, rightGo]
  rw [if_pos trivial, if_pos ht]
  rfl

theorem Comp.join {X Y : List QOp} {n m : Nat} (hX : Comp X n) (hY : Comp Y m) {k : Int} (hk : k = 1 ∨ k = 2 ∨ k = 3) : Comp ((X ++ Y) ++ [(k, [])]) (n + m) := by
  have hk0 : k ≠ 0 := by omega
  refine ⟨?_, by have := hX.pos; omega, ?_⟩
  · rw [wordsOf_snoc, if_neg (by simpa using hk0), wordsOf_app, List.length_append, hX.words, hY.words]
  · intro h w rest hh
    rw [List.append_assoc, List.append_assoc, hX.go h w _ hh, hY.go (h + 1) (w + n) _ (by omega)]
    simp only [List.cons_append, List.nil_append, rightGo]
    rw [if_neg hk0, if_pos hk, if_neg (by simp; omega)]
    congr 1
    · omega
    · omega

def UnitR (u : PS → Int × PS) : Prop := ∀ s s2, u s = (0, s2) → ∃ X n, Comp X n ∧ s2.ops = s.ops ++ X ∧ s2.wd = s.wd + n

theorem clauseLoop_right {es : List El} {u : PS → Int × PS} (hu : UnitR u) : ∀ (g : Nat) (s s2 : PS) (o : List QOp) (d : Nat) (X : List QOp) (n : Nat), Comp X n → s.ops = o ++ X → s.wd = d + n → clauseLoop u es g s = (0, s2) →
    ∃ X n, Comp X n ∧ s2.ops = o ++ X ∧ s2.wd = d + n := by
  intro g
  induction g with
  | zero =>
    intro s s2 o d X n hX h1 h2 he
    simp only [clauseLoop, Prod.mk.injEq, true_and] at he
    subst he
    exact ⟨X, n, hX, h1, h2⟩
  | succ g ih =>
    intro s s2 o d X n hX h1 h2 he
    simp only [clauseLoop] at he
    by_cases hop : knd es s.nx = 38 ∨ knd es s.nx = 33
    · rw [if_pos hop] at he
      rcases hr : u { s with nx := s.nx + 1 } with ⟨e, r⟩
      rw [hr] at he
      by_cases h0 : e = 0
      · subst h0
        rw [if_neg (by simp)] at he
        obtain ⟨Y, m, hY, y1, y2⟩ := hu _ r hr
        simp only at y1 y2
        refine ih _ s2 o d _ (n + m) (hX.join hY (k := if knd es s.nx = 38 then 1 else 3) (by split <;> simp)) ?_ ?_ he
        · simp only; rw [y1, h1]; simp
        · simp only; omega
      · rw [if_pos h0] at he
        simp only [Prod.mk.injEq] at he
        exact absurd he.1 h0
    · rw [if_neg hop] at he
      simp only [Prod.mk.injEq, true_and] at he
      subst he
      exact ⟨X, n, hX, h1, h2⟩

theorem clauseP_right {es : List El} {u : PS → Int × PS} (hu : UnitR u) (G : Nat) : UnitR (clauseP u es G) := by
  intro s s2 he
  unfold clauseP at he
  rcases hr : u s with ⟨e, r⟩
  rw [hr] at he
  by_cases h0 : e = 0
  · subst h0
    rw [if_neg (by simp)] at he
    obtain ⟨Y, m, hY, y1, y2⟩ := hu _ r hr
    exact clauseLoop_right hu G r s2 s.ops s.wd Y m hY y1 y2 he
  · rw [if_pos h0] at he
    simp only [Prod.mk.injEq] at he
    exact absurd he.1 h0

theorem queryLoop_right {es : List El} {u : PS → Int × PS} (hu : UnitR u) (G : Nat) : ∀ (g : Nat) (s s2 : PS) (o : List QOp) (d : Nat) (X : List QOp) (n : Nat), Comp X n → s.ops = o ++ X → s.wd = d + n → queryLoop u es G g s = (0, s2) →
    ∃ X n, Comp X n ∧ s2.ops = o ++ X ∧ s2.wd = d + n := by
  intro g
  induction g with
  | zero =>
    intro s s2 o d X n hX h1 h2 he
    simp only [queryLoop, Prod.mk.injEq, true_and] at he
    subst he
    exact ⟨X, n, hX, h1, h2⟩
  | succ g ih =>
    intro s s2 o d X n hX h1 h2 he
    simp only [queryLoop] at he
    by_cases hop : knd es s.nx = 124
    · rw [if_pos hop] at he
      rcases hr : clauseP u es G { s with nx := s.nx + 1 } with ⟨e, r⟩
      rw [hr] at he
      by_cases h0 : e = 0
      · subst h0
        rw [if_neg (by simp)] at he
        obtain ⟨Y, m, hY, y1, y2⟩ := clauseP_right hu G _ r hr
        simp only at y1 y2
        refine ih _ s2 o d _ (n + m) (hX.join hY (k := 2) (by simp)) ?_ ?_ he
        · simp only; rw [y1, h1]; simp
        · simp only; omega
      · rw [if_pos h0] at he
        simp only [Prod.mk.injEq] at he
        exact absurd he.1 h0
    · rw [if_neg hop] at he
      simp only [Prod.mk.injEq, true_and] at he
      subst he
      exact ⟨X, n, hX, h1, h2⟩

theorem queryP_right {es : List El} {u : PS → Int × PS} (hu : UnitR u) (G : Nat) : UnitR (queryP u es G) := by
  intro s s2 he
  unfold queryP at he
  rcases hr : clauseP u es G s with ⟨e, r⟩
  rw [hr] at he
  by_cases h0 : e = 0
  · subst h0
    rw [if_neg (by simp)] at he
    obtain ⟨Y, m, hY, y1, y2⟩ := clauseP_right hu G _ r hr
    exact queryLoop_right hu G G r s2 s.ops s.wd Y m hY y1 y2 he
  · rw [if_pos h0] at he
    simp only [Prod.mk.injEq] at he
    exact absurd he.1 h0

theorem wordP_right {es : List El} (hes : ∀ x ∈ es, x.kind = -1 → rightTok x.term = true) (s s2 : PS) (hk : knd es s.nx = -1) (he : wordP es s = (0, s2)) : ∃ X n, Comp X n ∧ s2.ops = s.ops ++ X ∧ s2.wd = s.wd + n := by
  unfold wordP at he
  by_cases hw : 16 ≤ s.wd
  · rw [if_pos hw] at he; simp at he
  · rw [if_neg hw] at he
    simp only [Prod.mk.injEq, true_and] at he
    subst he
    refine ⟨[(0, trm es s.nx)], 1, Comp.word ?_, rfl, rfl⟩
    unfold knd at hk
    unfold trm
    cases hx : es[s.nx]? with
    | none => rw [hx] at hk; exact absurd hk (by decide)
    | some x =>
      rw [hx] at hk
      exact hes x (List.mem_of_getElem? hx) hk

theorem other_no (es : List El) (s s2 : PS) : otherP es s ≠ (0, s2) := by
  unfold otherP
  split <;> simp

theorem unitP_right {es : List El} (hes : ∀ x ∈ es, x.kind = -1 → rightTok x.term = true) (G : Nat) : ∀ k, UnitR (unitP es G k) := by
  intro k
  induction k with
  | zero =>
    intro s s2 he
    simp only [unitP] at he
    by_cases hw : knd es s.nx = -1
    · rw [if_pos hw] at he; exact wordP_right hes s s2 hw he
    · rw [if_neg hw] at he
      by_cases h40 : knd es s.nx = 40
      · rw [if_pos h40] at he; simp at he
      · rw [if_neg h40] at he; exact absurd he (other_no _ _ _)
  | succ k ih =>
    intro s s2 he
    simp only [unitP] at he
    by_cases hw : knd es s.nx = -1
    · rw [if_pos hw] at he; exact wordP_right hes s s2 hw he
    · rw [if_neg hw] at he
      by_cases h40 : knd es s.nx = 40
      · rw [if_pos h40] at he
        unfold bracketP at he
        rcases hr : queryP (unitP es G k) es G { s with nx := s.nx + 1 } with ⟨e, r⟩
        rw [hr] at he
        simp only at he
        by_cases h0 : e = 0
        · subst h0
          rw [if_neg (by simp)] at he
          by_cases h41 : knd es r.nx = 41
          · rw [if_neg (by simpa using h41)] at he
            simp only [Prod.mk.injEq, true_and] at he
            subst he
            obtain ⟨Y, m, hY, y1, y2⟩ := queryP_right ih G _ r hr
            exact ⟨Y, m, hY, y1, y2⟩
          · rw [if_pos h41] at he; simp at he
        · rw [if_pos h0] at he
          simp only [Prod.mk.injEq] at he
          exact absurd he.1 h0
      · rw [if_neg h40] at he; exact absurd he (other_no _ _ _)

/-- what is parsed is right, and has 1 to 16 words. -/
theorem parse_right (b : List UInt8) (h : parseErr b = 0) : qRight (parsed b).2.ops = true ∧ 1 ≤ (wordsOf (parsed b).2.ops).length ∧ (wordsOf (parsed b).2.ops).length ≤ 16 := by
  have he : (parsed b).1 = 0 := by
    unfold parseErr at h
    by_cases hl : 2000 < b.length
    · rw [if_pos hl] at h; exact absurd h (by decide)
    · rw [if_neg hl] at h
      by_cases h0 : (parsed b).1 = 0
      · exact h0
      · rw [if_neg h0] at h; exact h
  have hp : queryP (unitP (elems b) (elems b).length 8) (elems b) (elems b).length ⟨0, 0, []⟩ = (0, (parsed b).2) := by
    show parsed b = _
    rw [← he]
  obtain ⟨X, n, hX, h1, h2⟩ := queryP_right (unitP_right (elems_right b) _ 8) _ _ _ hp
  have hwd := (parsed_kept b).wd
  simp only [List.nil_append, Nat.zero_add] at h1 h2
  simp only at hwd
  have h16 : n ≤ 16 := by omega
  rw [h1]
  refine ⟨?_, by rw [hX.words]; exact hX.pos, by rw [hX.words]; exact h16⟩
  unfold qRight
  have := hX.go 0 0 [] (by omega)
  rw [List.append_nil] at this
  rw [this]
  simp only [rightGo]
  simp
  omega
end Go.Proofs.YtjbmihgfneamlaaDoor
