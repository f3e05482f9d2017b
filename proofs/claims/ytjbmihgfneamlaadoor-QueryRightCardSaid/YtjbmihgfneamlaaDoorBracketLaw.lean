/- The plain law: further brackets around. -/
import Derived.Test.YtjbmihgfneamlaaDoorAroundLaw
set_option linter.unusedVariables false
namespace Go.Proofs.YtjbmihgfneamlaaDoor

/-- brackets of elements. -/
def dN (n : Int) (k : Int) : Int := if k = 40 then n + 1 else if k = 41 then n - 1 else n
def dE : Int → Int → List El → Int
  | m, _, [] => m
  | m, n, e :: r => dE (if m < dN n e.kind then dN n e.kind else m) (dN n e.kind) r

theorem dE_step (es : List El) (i : Nat) (h : i < es.length) (m n : Int) : dE m n (es.drop i) = dE (if m < dN n (knd es i) then dN n (knd es i) else m) (dN n (knd es i)) (es.drop (i + 1)) := by
  rw [List.drop_eq_getElem_cons h]
  have : knd es i = es[i].kind := by unfold knd; rw [List.getElem?_eq_getElem h]
  rw [this]
  rfl

def Scan (es : List El) (h : Nat) (i j : Nat) : Prop := ∀ m n : Int, n ≤ m → dE m n (es.drop i) = dE (if m < n + h then n + h else m) n (es.drop j)

theorem Scan.refl (es : List El) (i : Nat) : Scan es 0 i i := by
  intro m n h
  rw [if_neg (by omega)]
theorem Scan.trans {es : List El} {h1 h2 i j k : Nat} (a : Scan es h1 i j) (b : Scan es h2 j k) : Scan es (max h1 h2) i k := by
  intro m n hn
  rw [a m n hn, b _ n (by split <;> omega)]
  congr 1
  split <;> split <;> split <;> omega
theorem Scan.flat {es : List El} {i : Nat} (h : i < es.length) (h1 : knd es i ≠ 40) (h2 : knd es i ≠ 41) : Scan es 0 i (i + 1) := by
  intro m n hn
  rw [dE_step es i h]
  have : dN n (knd es i) = n := by unfold dN; rw [if_neg h1, if_neg h2]
  rw [this, if_neg (by omega), if_neg (by omega)]

/-- es, with a bracket ahead and one behind. -/
structure Br (es es' : List El) : Prop where
  pos : 0 < es.length
  mid : ∀ n, n + 1 < es.length → knd es' (n + 1) = knd es n ∧ trm es' (n + 1) = trm es n ∧ knd es n ≠ -2
  last : knd es (es.length - 1) = -2
  close : knd es' es.length = 41
  fin : knd es' (es.length + 1) = -2
  len : es'.length = es.length + 2
  opn : knd es' 0 = 40

theorem Br.same {es es' : List El} (B : Br es es') (n : Nat) (h : n < es.length) : knd es' (n + 1) = knd es n ∨ (knd es n = -2 ∧ knd es' (n + 1) = 41) := by
  by_cases hn : n + 1 < es.length
  · exact .inl (B.mid n hn).1
  · have e : n = es.length - 1 := by omega
    subst e
    exact .inr ⟨B.last, by rw [show es.length - 1 + 1 = es.length from by omega]; exact B.close⟩

def sh (s : PS) : PS := { s with nx := s.nx + 1 }

def SimU (es : List El) (K : Nat) (u : PS → Int × PS) (v : Nat → PS → Int × PS) : Prop :=
  ∀ s s2, s.nx < es.length → u s = (0, s2) → ∃ h : Nat, h ≤ K ∧ Scan es h s.nx s2.nx ∧ (∀ k, h ≤ k → v k (sh s) = (0, sh s2)) ∧ (∀ k, k < h → (v k (sh s)).1 = 8)

theorem clauseLoop_sim {es es' : List El} (B : Br es es') (hE : Ended es) {K : Nat} {u : PS → Int × PS} {v : Nat → PS → Int × PS} (hu : SimU es K u v) (hk : Keeps es u) :
    ∀ (g g' : Nat) (s s2 : PS), s.nx < es.length → es.length ≤ g + s.nx → es.length + 2 ≤ g' + (s.nx + 1) → clauseLoop u es g s = (0, s2) →
    ∃ h : Nat, h ≤ K ∧ Scan es h s.nx s2.nx ∧ (∀ k, h ≤ k → clauseLoop (v k) es' g' (sh s) = (0, sh s2)) ∧ (∀ k, k < h → (clauseLoop (v k) es' g' (sh s)).1 = 8) := by
  intro g
  induction g with
  | zero => intro g' s s2 h1 h2; omega
  | succ g ih =>
    intro g' s s2 hs hg hg' he
    obtain ⟨g1, rfl⟩ : ∃ g1, g' = g1 + 1 := ⟨g' - 1, by omega⟩
    have hsame := B.same s.nx hs
    simp only [clauseLoop] at he ⊢
    have hsh : (sh s).nx = s.nx + 1 := rfl
    by_cases hop : knd es s.nx = 38 ∨ knd es s.nx = 33
    · have hop' : knd es' (sh s).nx = knd es s.nx := by rw [hsh]; omega
      have hs1 := hE s.nx hs (by rcases hop with h | h; exact .inr (.inl h); exact .inr (.inr (.inl h)))
      rw [if_pos hop] at he
      by_cases h0 : (u { s with nx := s.nx + 1 }).1 = 0
      · rw [if_neg (by simpa using h0)] at he
        have kp := hk { s with nx := s.nx + 1 } hs1
        rcases hr : u { s with nx := s.nx + 1 } with ⟨e, r⟩
        rw [hr] at h0 he kp
        simp only at h0
        subst h0
        have kn := (kp.ok rfl).1
        have kl := kp.lt
        simp only at kn kl he
        obtain ⟨h1, hK1, sc1, y1, n1⟩ := hu _ r hs1 hr
        obtain ⟨h2, hK2, sc2, y2, n2⟩ := ih g1 { r with ops := r.ops ++ [(if knd es s.nx = 38 then 1 else 3, [])] } s2 kl (by simp only; omega) (by simp only; omega) he
        have hsc : Scan es (max h1 h2) s.nx s2.nx := by
          have := ((Scan.flat hs (by omega) (by omega)).trans sc1).trans sc2
          rw [show max (max 0 h1) h2 = max h1 h2 from by omega] at this
          exact this
        refine ⟨max h1 h2, by omega, hsc, ?_, ?_⟩
        · intro k hkk
          rw [hop', if_pos hop]
          have e1 : v k { sh s with nx := (sh s).nx + 1 } = (0, sh r) := y1 k (by omega)
          rw [e1, if_neg (by simp)]
          exact y2 k (by omega)
        · intro k hkk
          rw [hop', if_pos hop]
          by_cases hk1 : k < h1
          · have e1 : (v k { sh s with nx := (sh s).nx + 1 }).1 = 8 := n1 k hk1
            rw [if_pos (by rw [e1]; decide), e1]
          · have e1 : v k { sh s with nx := (sh s).nx + 1 } = (0, sh r) := y1 k (by omega)
            rw [e1, if_neg (by simp)]
            exact n2 k (by omega)
      · rw [if_pos h0] at he
        rw [he] at h0
        exact absurd rfl h0
    · rw [if_neg hop] at he
      simp only [Prod.mk.injEq, true_and] at he
      subst he
      have hop' : ¬ (knd es' (sh s).nx = 38 ∨ knd es' (sh s).nx = 33) := by rw [hsh]; omega
      refine ⟨0, by omega, Scan.refl es _, fun k _ => by rw [if_neg hop'], fun k hk => by omega⟩

theorem clauseP_sim {es es' : List El} (B : Br es es') (hE : Ended es) {K : Nat} {u : PS → Int × PS} {v : Nat → PS → Int × PS} (hu : SimU es K u v) (hk : Keeps es u) : SimU es K (clauseP u es es.length) (fun k => clauseP (v k) es' es'.length) := by
  intro s s2 hs he
  unfold clauseP at he ⊢
  by_cases h0 : (u s).1 = 0
  · rw [if_neg (by simpa using h0)] at he
    have kp := hk s hs
    rcases hr : u s with ⟨e, r⟩
    rw [hr] at h0 he kp
    simp only at h0
    subst h0
    have kn := (kp.ok rfl).1
    have kl := kp.lt
    simp only at kn kl he
    obtain ⟨h1, hK1, sc1, y1, n1⟩ := hu s r hs hr
    obtain ⟨h2, hK2, sc2, y2, n2⟩ := clauseLoop_sim B hE hu hk es.length es'.length r s2 kl (by omega) (by have := B.len; omega) he
    refine ⟨max h1 h2, by omega, sc1.trans sc2, ?_, ?_⟩
    · intro k hkk
      simp only
      rw [y1 k (by omega), if_neg (by simp)]
      exact y2 k (by omega)
    · intro k hkk
      simp only
      by_cases hk1 : k < h1
      · have e1 := n1 k hk1
        rw [if_pos (by rw [e1]; decide), e1]
      · rw [y1 k (by omega), if_neg (by simp)]
        exact n2 k (by omega)
  · rw [if_pos h0] at he
    rw [he] at h0
    exact absurd rfl h0

theorem queryLoop_sim {es es' : List El} (B : Br es es') (hE : Ended es) {K : Nat} {u : PS → Int × PS} {v : Nat → PS → Int × PS} (hu : SimU es K u v) (hk : Keeps es u) :
    ∀ (g g' : Nat) (s s2 : PS), s.nx < es.length → es.length ≤ g + s.nx → es.length + 2 ≤ g' + (s.nx + 1) → queryLoop u es es.length g s = (0, s2) →
    ∃ h : Nat, h ≤ K ∧ Scan es h s.nx s2.nx ∧ (∀ k, h ≤ k → queryLoop (v k) es' es'.length g' (sh s) = (0, sh s2)) ∧ (∀ k, k < h → (queryLoop (v k) es' es'.length g' (sh s)).1 = 8) := by
  have hcu := clauseP_sim B hE hu hk
  have hck := clauseP_keeps hE hk es.length
  intro g
  induction g with
  | zero => intro g' s s2 h1 h2; omega
  | succ g ih =>
    intro g' s s2 hs hg hg' he
    obtain ⟨g1, rfl⟩ : ∃ g1, g' = g1 + 1 := ⟨g' - 1, by omega⟩
    have hsame := B.same s.nx hs
    simp only [queryLoop] at he ⊢
    have hsh : (sh s).nx = s.nx + 1 := rfl
    by_cases hop : knd es s.nx = 124
    · have hop' : knd es' (sh s).nx = knd es s.nx := by rw [hsh]; omega
      have hs1 := hE s.nx hs (.inr (.inr (.inr (.inr (.inr hop)))))
      rw [if_pos hop] at he
      by_cases h0 : (clauseP u es es.length { s with nx := s.nx + 1 }).1 = 0
      · rw [if_neg (by simpa using h0)] at he
        have kp := hck { s with nx := s.nx + 1 } hs1
        rcases hr : clauseP u es es.length { s with nx := s.nx + 1 } with ⟨e, r⟩
        rw [hr] at h0 he kp
        simp only at h0
        subst h0
        have kn := (kp.ok rfl).1
        have kl := kp.lt
        simp only at kn kl he
        obtain ⟨h1, hK1, sc1, y1, n1⟩ := hcu _ r hs1 hr
        obtain ⟨h2, hK2, sc2, y2, n2⟩ := ih g1 { r with ops := r.ops ++ [(2, [])] } s2 kl (by simp only; omega) (by simp only; omega) he
        have hsc : Scan es (max h1 h2) s.nx s2.nx := by
          have := ((Scan.flat hs (by omega) (by omega)).trans sc1).trans sc2
          rw [show max (max 0 h1) h2 = max h1 h2 from by omega] at this
          exact this
        refine ⟨max h1 h2, by omega, hsc, ?_, ?_⟩
        · intro k hkk
          rw [hop', if_pos hop]
          have e1 : clauseP (v k) es' es'.length { sh s with nx := (sh s).nx + 1 } = (0, sh r) := y1 k (by omega)
          rw [e1, if_neg (by simp)]
          exact y2 k (by omega)
        · intro k hkk
          rw [hop', if_pos hop]
          by_cases hk1 : k < h1
          · have e1 : (clauseP (v k) es' es'.length { sh s with nx := (sh s).nx + 1 }).1 = 8 := n1 k hk1
            rw [if_pos (by rw [e1]; decide), e1]
          · have e1 : clauseP (v k) es' es'.length { sh s with nx := (sh s).nx + 1 } = (0, sh r) := y1 k (by omega)
            rw [e1, if_neg (by simp)]
            exact n2 k (by omega)
      · rw [if_pos h0] at he
        rw [he] at h0
        exact absurd rfl h0
    · rw [if_neg hop] at he
      simp only [Prod.mk.injEq, true_and] at he
      subst he
      have hop' : ¬ (knd es' (sh s).nx = 124) := by rw [hsh]; omega
      refine ⟨0, by omega, Scan.refl es _, fun k _ => by rw [if_neg hop'], fun k hk => by omega⟩

theorem queryP_sim {es es' : List El} (B : Br es es') (hE : Ended es) {K : Nat} {u : PS → Int × PS} {v : Nat → PS → Int × PS} (hu : SimU es K u v) (hk : Keeps es u) : SimU es K (queryP u es es.length) (fun k => queryP (v k) es' es'.length) := by
  have hcu := clauseP_sim B hE hu hk
  have hck := clauseP_keeps hE hk es.length
  intro s s2 hs he
  unfold queryP at he ⊢
  by_cases h0 : (clauseP u es es.length s).1 = 0
  · rw [if_neg (by simpa using h0)] at he
    have kp := hck s hs
    rcases hr : clauseP u es es.length s with ⟨e, r⟩
    rw [hr] at h0 he kp
    simp only at h0
    subst h0
    have kn := (kp.ok rfl).1
    have kl := kp.lt
    simp only at kn kl he
    obtain ⟨h1, hK1, sc1, y1, n1⟩ := hcu s r hs hr
    obtain ⟨h2, hK2, sc2, y2, n2⟩ := queryLoop_sim B hE hu hk es.length es'.length r s2 kl (by omega) (by have := B.len; omega) he
    simp only at y1 n1
    refine ⟨max h1 h2, by omega, sc1.trans sc2, ?_, ?_⟩
    · intro k hkk
      simp only
      rw [y1 k (by omega), if_neg (by simp)]
      exact y2 k (by omega)
    · intro k hkk
      simp only
      by_cases hk1 : k < h1
      · have e1 := n1 k hk1
        rw [if_pos (by rw [e1]; decide), e1]
      · rw [y1 k (by omega), if_neg (by simp)]
        exact n2 k (by omega)
  · rw [if_pos h0] at he
    rw [he] at h0
    exact absurd rfl h0

theorem word_sim {es es' : List El} (B : Br es es') (hE : Ended es) (G' K : Nat) (s s2 : PS) (hs : s.nx < es.length) (hk : knd es s.nx = -1) (he : wordP es s = (0, s2)) :
    ∃ h : Nat, h ≤ K ∧ Scan es h s.nx s2.nx ∧ (∀ k, h ≤ k → unitP es' G' k (sh s) = (0, sh s2)) ∧ (∀ k, k < h → (unitP es' G' k (sh s)).1 = 8) := by
  have hs1 := hE s.nx hs (.inl hk)
  obtain ⟨m1, m2, m3⟩ := B.mid s.nx hs1
  have hk' : knd es' (sh s).nx = -1 := by show knd es' (s.nx + 1) = -1; omega
  unfold wordP at he
  by_cases hw : 16 ≤ s.wd
  · rw [if_pos hw] at he; simp at he
  · rw [if_neg hw] at he
    simp only [Prod.mk.injEq, true_and] at he
    subst he
    have hw' : wordP es' (sh s) = (0, sh ⟨s.nx + 1, s.wd + 1, s.ops ++ [(0, trm es s.nx)]⟩) := by
      unfold wordP
      rw [if_neg (show ¬ 16 ≤ (sh s).wd from hw), show trm es' (sh s).nx = trm es s.nx from m2]
      rfl
    refine ⟨0, by omega, Scan.flat hs (by omega) (by omega), fun k _ => ?_, fun k hk => by omega⟩
    cases k with
    | zero => simp only [unitP]; rw [if_pos hk', hw']
    | succ k => simp only [unitP]; rw [if_pos hk', hw']

theorem other_not (es : List El) (s s2 : PS) : otherP es s ≠ (0, s2) := by
  unfold otherP
  split <;> simp

theorem unit_sim {es es' : List El} (B : Br es es') (hE : Ended es) : ∀ K, SimU es K (unitP es es.length K) (fun k => unitP es' es'.length k) := by
  intro K
  induction K with
  | zero =>
    intro s s2 hs he
    simp only [unitP] at he
    by_cases hw : knd es s.nx = -1
    · rw [if_pos hw] at he
      exact word_sim B hE _ 0 s s2 hs hw he
    · rw [if_neg hw] at he
      by_cases h40 : knd es s.nx = 40
      · rw [if_pos h40] at he; simp at he
      · rw [if_neg h40] at he; exact absurd he (other_not _ _ _)
  | succ K ih =>
    intro s s2 hs he
    simp only [unitP] at he
    by_cases hw : knd es s.nx = -1
    · rw [if_pos hw] at he
      exact word_sim B hE _ _ s s2 hs hw he
    · rw [if_neg hw] at he
      by_cases h40 : knd es s.nx = 40
      · rw [if_pos h40] at he
        have hs1 := hE s.nx hs (.inr (.inr (.inr (.inl h40))))
        have hqk := queryP_keeps hE (unitP_keeps hE es.length K) es.length { s with nx := s.nx + 1 } hs1
        unfold bracketP at he
        rcases hr : queryP (unitP es es.length K) es es.length { s with nx := s.nx + 1 } with ⟨e, r⟩
        rw [hr] at he hqk
        simp only at he
        by_cases h0 : e = 0
        · subst h0
          rw [if_neg (by simp)] at he
          by_cases h41 : knd es r.nx = 41
          · rw [if_neg (by simpa using h41)] at he
            simp only [Prod.mk.injEq, true_and] at he
            subst he
            have kn := (hqk.ok rfl).1
            have kl := hqk.lt
            simp only at kn kl
            have kl1 := hE r.nx kl (.inr (.inr (.inr (.inr (.inl h41)))))
            obtain ⟨h, hK, sc, y, nn⟩ := queryP_sim B hE ih (unitP_keeps hE es.length K) _ r hs1 hr
            simp only at sc y nn
            have m40 : knd es' (sh s).nx = 40 := by
              have := B.same s.nx hs
              show knd es' (s.nx + 1) = 40
              omega
            have m41 : knd es' (sh r).nx = 41 := by
              have := B.same r.nx kl
              show knd es' (r.nx + 1) = 41
              omega
            refine ⟨h + 1, by omega, ?_, ?_, ?_⟩
            · intro m n hn
              rw [dE_step es s.nx hs, h40]
              have d1 : dN n 40 = n + 1 := by unfold dN; rw [if_pos rfl]
              rw [d1, sc _ (n + 1) (by split <;> omega), dE_step es r.nx kl, h41]
              have d2 : dN (n + 1) 41 = n := by unfold dN; rw [if_neg (by decide), if_pos rfl]; omega
              rw [d2]
              congr 1
              repeat' split
              all_goals omega
            · intro k hk
              obtain ⟨k1, rfl⟩ : ∃ k1, k = k1 + 1 := ⟨k - 1, by omega⟩
              simp only [unitP]
              rw [if_neg (by rw [m40]; decide), if_pos m40]
              have e1 : queryP (unitP es' es'.length k1) es' es'.length { sh s with nx := (sh s).nx + 1 } = (0, sh r) := y k1 (by omega)
              unfold bracketP
              rw [e1, if_neg (by simp), if_neg (by simpa using m41)]
              rfl
            · intro k hk
              cases k with
              | zero => simp only [unitP]; rw [if_neg (by rw [m40]; decide), if_pos m40]
              | succ k1 =>
                simp only [unitP]
                rw [if_neg (by rw [m40]; decide), if_pos m40]
                have e1 : (queryP (unitP es' es'.length k1) es' es'.length { sh s with nx := (sh s).nx + 1 }).1 = 8 := nn k1 (by omega)
                unfold bracketP
                rw [if_pos (by rw [e1]; decide), e1]
          · rw [if_pos h41] at he; simp at he
        · rw [if_pos h0] at he
          simp only [Prod.mk.injEq] at he
          exact absurd he.1 h0
      · rw [if_neg h40] at he; exact absurd he (other_not _ _ _)

/-- what is parsed, in further brackets: the same, or too deep. -/
theorem bracket_sim {es es' : List El} (B : Br es es') (hE : Ended es) (r : PS) (hr : queryP (unitP es es.length 8) es es.length ⟨0, 0, []⟩ = (0, r)) (hend : knd es r.nx = -2) :
    (queryP (unitP es' es'.length 8) es' es'.length ⟨0, 0, []⟩ = (0, ⟨r.nx + 2, r.wd, r.ops⟩) ∧ knd es' (r.nx + 2) = -2) ∨
    ((queryP (unitP es' es'.length 8) es' es'.length ⟨0, 0, []⟩).1 = 8 ∧ dE 0 0 es = 8) := by
  have kp := queryP_keeps hE (unitP_keeps hE es.length 8) es.length ⟨0, 0, []⟩ B.pos
  rw [hr] at kp
  have kl := kp.lt
  simp only at kl
  have hn : r.nx = es.length - 1 := by
    apply Classical.byContradiction
    intro hne
    exact (B.mid r.nx (by omega)).2.2 hend
  obtain ⟨h, hK, sc, y, nn⟩ := queryP_sim B hE (unit_sim B hE 8) (unitP_keeps hE es.length 8) ⟨0, 0, []⟩ r B.pos hr
  simp only at sc y nn
  have hdE : dE 0 0 es = h := by
    have := sc 0 0 (by omega)
    rw [List.drop_zero] at this
    rw [this, hn, dE_step es _ (by have := B.pos; omega), B.last, show es.length - 1 + 1 = es.length from by have := B.pos; omega, List.drop_length]
    have : dN 0 (-2) = 0 := by unfold dN; rw [if_neg (by decide), if_neg (by decide)]
    rw [this]
    simp only [dE]
    repeat' split
    all_goals omega
  have hnil : ∀ x : PS, (x.nx = es.length + 1) → clauseLoop (unitP es' es'.length 8) es' es'.length x = (0, x) := by
    intro x hx
    exact clauseLoop_end _ _ _ _ (by rw [hx, B.fin]; decide) (by rw [hx, B.fin]; decide)
  have hu : unitP es' es'.length 8 ⟨0, 0, []⟩ = bracketP es' (queryP (unitP es' es'.length 7) es' es'.length ⟨1, 0, []⟩) := by
    simp only [unitP]
    rw [if_neg (by rw [B.opn]; decide), if_pos B.opn]
  by_cases h7 : h ≤ 7
  · left
    have e1 : queryP (unitP es' es'.length 7) es' es'.length ⟨1, 0, []⟩ = (0, sh r) := y 7 h7
    have m41 : knd es' (sh r).nx = 41 := by
      show knd es' (r.nx + 1) = 41
      rw [hn, show es.length - 1 + 1 = es.length from by have := B.pos; omega]
      exact B.close
    have hu2 : unitP es' es'.length 8 ⟨0, 0, []⟩ = (0, ⟨r.nx + 2, r.wd, r.ops⟩) := by
      rw [hu, e1]
      unfold bracketP
      rw [if_neg (by simp), if_neg (by simpa using m41)]
      rfl
    have hf : r.nx + 2 = es.length + 1 := by have := B.pos; omega
    have hc : clauseP (unitP es' es'.length 8) es' es'.length ⟨0, 0, []⟩ = (0, ⟨r.nx + 2, r.wd, r.ops⟩) := by
      unfold clauseP
      rw [hu2, if_neg (by simp)]
      exact hnil _ hf
    refine ⟨?_, by rw [hf]; exact B.fin⟩
    unfold queryP
    rw [hc, if_neg (by simp)]
    exact queryLoop_end _ _ _ _ _ (by simp only; rw [hf, B.fin]; decide)
  · right
    refine ⟨?_, by rw [hdE]; omega⟩
    have e1 : (queryP (unitP es' es'.length 7) es' es'.length ⟨1, 0, []⟩).1 = 8 := nn 7 (by omega)
    have hu2 : (unitP es' es'.length 8 ⟨0, 0, []⟩).1 = 8 := by
      rw [hu]
      unfold bracketP
      rw [if_pos (by rw [e1]; decide), e1]
    have hc : (clauseP (unitP es' es'.length 8) es' es'.length ⟨0, 0, []⟩).1 = 8 := by
      unfold clauseP
      rw [if_pos (by rw [hu2]; decide), hu2]
    unfold queryP
    rw [if_pos (by rw [hc]; decide), hc]
end Go.Proofs.YtjbmihgfneamlaaDoor
