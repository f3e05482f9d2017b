/- What settling keeps: plain laws on lists of spans. -/
import Derived.Test.YtoojjdppecghgaaRow
namespace Go.Proofs.Ytoojjdppecghgaa

def Chain : Int → List (Int × Int) → Int → Prop
  | a, [], b => a = b
  | a, s :: r, b => s.1 = a ∧ a < s.2 ∧ Chain s.2 r b

theorem chain_row (ks : List Int) (h : ∀ x ∈ ks, 1 ≤ x) : ∀ a, Chain a (rowOf a ks) (a + sumOf ks) := by
  induction ks with
  | nil => intro a; simp [rowOf, sumOf, Chain]
  | cons x ks ih =>
    intro a
    have h1 := h x (by simp)
    have h2 := ih (fun y hy => h y (by simp [hy])) (a + x)
    refine ⟨rfl, by omega, ?_⟩
    simp only [sumOf]
    rw [show a + (x + sumOf ks) = a + x + sumOf ks from by omega]
    exact h2

theorem chain_le {ys : List (Int × Int)} : ∀ {a b : Int}, Chain a ys b → a ≤ b := by
  induction ys with
  | nil => intro a b h; simp only [Chain] at h; omega
  | cons s r ih => intro a b h; obtain ⟨_, h2, h3⟩ := h; have := ih h3; omega

theorem chain_append {xs ys : List (Int × Int)} : ∀ {a b : Int}, Chain a (xs ++ ys) b ↔ ∃ m, Chain a xs m ∧ Chain m ys b := by
  induction xs with
  | nil => intro a b; simp [Chain]
  | cons s r ih =>
    intro a b
    simp only [List.cons_append, Chain, ih]
    constructor
    · rintro ⟨h1, h2, m, h3, h4⟩; exact ⟨m, ⟨h1, h2, h3⟩, h4⟩
    · rintro ⟨m, ⟨h1, h2, h3⟩, h4⟩; exact ⟨h1, h2, m, h3, h4⟩

theorem chain_merge {ys : List (Int × Int)} {a b : Int} (i : Nat) (hi : i + 1 < ys.length) (h : Chain a ys b) : Chain a (mergeAt ys i) b := by
  rw [mergeAt_eq ys i hi]
  have he : ys = ys.take i ++ (ys[i] :: ys[i + 1] :: ys.drop (i + 2)) := by
    conv => lhs; rw [← List.take_append_drop i ys]
    rw [List.drop_eq_getElem_cons (by omega), List.drop_eq_getElem_cons (by omega)]
  rw [he] at h
  obtain ⟨m, h1, h2, h3, h4, h5, h6⟩ := chain_append.1 h
  exact chain_append.2 ⟨m, h1, h2, by simp only at *; omega, h6⟩

theorem settleF_chain (f : Nat) : ∀ (ys : List (Int × Int)) (a b : Int), Chain a ys b → Chain a (settleF f ys) b := by
  induction f with
  | zero => intro ys a b h; exact h
  | succ f ih =>
    intro ys a b h
    simp only [settleF]
    split
    · rename_i hm
      obtain ⟨i, h1, h2, -⟩ := nextOf_true ys hm
      rw [h1]
      exact ih _ _ _ (chain_merge i h2 h)
    · exact h

theorem settleF_done (f : Nat) : ∀ (ys : List (Int × Int)), ys.length ≤ f → (nextOf (settleF f ys)).2 = false := by
  induction f with
  | zero => intro ys h; have : ys = [] := List.length_eq_zero_iff.1 (by omega); subst this; rfl
  | succ f ih =>
    intro ys h
    simp only [settleF]
    split
    · rename_i hm
      obtain ⟨i, h1, h2, -⟩ := nextOf_true ys hm
      rw [h1]
      exact ih _ (by have := mergeAt_len ys i h2; simp only [Int.toNat_natCast]; omega)
    · rename_i hm; simpa using hm

theorem settleF_le (f : Nat) : ∀ (ys : List (Int × Int)), (settleF f ys).length ≤ ys.length := by
  induction f with
  | zero => intro ys; exact Nat.le_refl _
  | succ f ih =>
    intro ys
    simp only [settleF]
    split
    · rename_i hm
      obtain ⟨i, h1, h2, -⟩ := nextOf_true ys hm
      have h3 := ih (mergeAt ys i)
      have h4 := mergeAt_len ys i h2
      rw [h1]
      simp only [Int.toNat_natCast]
      omega
    · exact Nat.le_refl _

theorem halve_lt : ∀ (k f : Nat) (n : Int), n < 2 ^ k → halve f n ≤ k - 1 + (if k = 0 then 1 else 0) := by
  intro k
  induction k with
  | zero => intro f n h; rw [halve_stop f n (by simp at h; omega)]; simp
  | succ k ih =>
    intro f n h
    cases f with
    | zero => simp [halve]
    | succ f =>
      simp only [halve]
      split
      · rename_i h1
        cases k with
        | zero => simp at h; omega
        | succ k =>
          have := ih f (n / 2) (by rw [Int.pow_succ] at h; omega)
          simp at this ⊢
          omega
      · simp

theorem tier_small (a b : Int) (h0 : 0 ≤ a) (h1 : a < b) (h2 : b - a ≤ 1000) : 0 ≤ tierOf a b ∧ tierOf a b ≤ 9 := by
  unfold tierOf
  rw [if_neg (by omega)]
  have h3 := halve_le 64 (b - a)
  have h4 := halve_lt 10 64 (b - a) (by omega)
  simp at h4
  omega

theorem chain_get {ys : List (Int × Int)} : ∀ {a b : Int}, Chain a ys b → ∀ (i : Nat) (hi : i < ys.length), a ≤ ys[i].1 ∧ ys[i].1 < ys[i].2 ∧ ys[i].2 ≤ b := by
  induction ys with
  | nil => intro a b _ i hi; simp at hi
  | cons s r ih =>
    intro a b h i hi
    obtain ⟨h1, h2, h3⟩ := h
    have := chain_le h3
    cases i with
    | zero => simp only [List.getElem_cons_zero]; omega
    | succ i =>
      have := ih h3 i (by simpa using hi)
      simp only [List.getElem_cons_succ]
      omega

/-- strictly falling tiers from 9 down: at most ten. -/
theorem falls (ys : List (Int × Int)) (h : ∀ i, i < ys.length - 1 → tierAt ys (i + 1) < tierAt ys i) (hb : ∀ i, i < ys.length → 0 ≤ tierAt ys i ∧ tierAt ys i ≤ 9) : ys.length ≤ 10 := by
  have key : ∀ i : Nat, i < ys.length → tierAt ys i ≤ 9 - (i : Int) := by
    intro i
    induction i with
    | zero => intro hi; have := hb 0 hi; omega
    | succ i ih => intro hi; have h1 := ih (by omega); have h2 := h i (by omega); omega
  rcases Nat.lt_or_ge 10 ys.length with h1 | h1
  · have h2 := key 10 h1
    have h3 := hb 10 h1
    omega
  · exact h1

/-- where the span number i begins. -/
def startAt (ys : List (Int × Int)) : Nat → Int
  | 0 => 0
  | i + 1 => match ys[i]? with | some s => s.2 | none => 0

theorem chain_start {ys : List (Int × Int)} : ∀ {a b : Int}, Chain a ys b → ∀ (i : Nat) (hi : i < ys.length), ys[i].1 = (match i with | 0 => a | j + 1 => match ys[j]? with | some s => s.2 | none => 0) := by
  induction ys with
  | nil => intro a b _ i hi; simp at hi
  | cons s r ih =>
    intro a b h i hi
    obtain ⟨h1, h2, h3⟩ := h
    cases i with
    | zero => simpa using h1
    | succ i =>
      have := ih h3 i (by simpa using hi)
      simp only [List.getElem_cons_succ]
      rw [this]
      cases i with
      | zero => simp
      | succ i => simp

theorem chain_end {ys : List (Int × Int)} : ∀ {a b : Int}, Chain a ys b → (match ys.length with | 0 => a | j + 1 => match ys[j]? with | some s => s.2 | none => 0) = b := by
  induction ys with
  | nil => intro a b h; exact h
  | cons s r ih =>
    intro a b h
    obtain ⟨h1, h2, h3⟩ := h
    have := ih h3
    simp only [List.length_cons]
    cases hr : r.length with
    | zero =>
      have : r = [] := List.length_eq_zero_iff.1 hr
      subst this
      simp only [Chain] at h3
      simpa using h3
    | succ n =>
      rw [hr] at this
      simpa using this

/-- all that the law asks of what is settled. -/
structure Settled (ks : List Int) (ys : List (Int × Int)) : Prop where
  next : nextOf ys = (0, false)
  short : ys.length ≤ 11
  empty : ys.length = 0 ↔ ks.length = 0
  begins : ∀ (i : Nat) (hi : i < ys.length), ys[i].1 = startAt ys i
  grows : ∀ (i : Nat) (hi : i < ys.length), startAt ys i < ys[i].2
  bound : ∀ (i : Nat) (hi : i < ys.length), 0 ≤ ys[i].1 ∧ ys[i].2 ≤ 1000
  falls : ∀ (i : Nat) (hi : i + 1 < ys.length), tierOf ys[i + 1].1 ys[i + 1].2 < tierOf ys[i].1 ys[i].2
  ends : startAt ys ys.length = sumOf ks

theorem settled (ks : List Int) (h1 : ∀ x ∈ ks, 1 ≤ x) (h2 : sumOf ks ≤ 1000) : Settled ks (settleF ks.length (rowOf 0 ks)) := by
  have hc0 := chain_row ks h1 0
  have hc := settleF_chain ks.length _ _ _ hc0
  have hd := settleF_done ks.length (rowOf 0 ks) (by rw [rowOf_len]; exact Nat.le_refl _)
  have hle := settleF_le ks.length (rowOf 0 ks)
  rw [rowOf_len] at hle
  generalize hy : settleF ks.length (rowOf 0 ks) = ys at *
  have hf := nextFrom_false ys _ hd
  have hg := fun i hi => chain_get hc i hi
  have hst : ∀ (i : Nat) (hi : i < ys.length), ys[i].1 = startAt ys i := by
    intro i hi
    rw [chain_start hc i hi]
    cases i <;> rfl
  have htb : ∀ i, i < ys.length → 0 ≤ tierAt ys i ∧ tierAt ys i ≤ 9 := by
    intro i hi
    rw [tierAt_of ys i hi]
    have := hg i hi
    exact tier_small _ _ (by omega) (by omega) (by omega)
  refine ⟨?_, ?_, ?_, hst, ?_, ?_, ?_, ?_⟩
  · have h := hf.1; have h' : (nextOf ys).1 = 0 := h; exact Prod.ext h' hd
  · have := falls ys hf.2 htb; omega
  · constructor
    · intro h
      have : ys = [] := List.length_eq_zero_iff.1 h
      subst this
      simp only [Chain] at hc
      cases ks with
      | nil => rfl
      | cons x ks =>
        have h3 := h1 x (by simp)
        have h4 : 0 ≤ sumOf ks := by
          have := chain_le (chain_row ks (fun y hy => h1 y (by simp [hy])) 0); omega
        simp only [sumOf] at hc
        omega
    · intro h; omega
  · intro i hi; rw [← hst i hi]; exact (hg i hi).2.1
  · intro i hi; have := hg i hi; omega
  · intro i hi
    have := hf.2 i (by omega)
    rw [tierAt_of ys i (by omega), tierAt_of ys (i + 1) hi] at this
    exact this
  · have := chain_end hc
    rw [show (0 : Int) + sumOf ks = sumOf ks from by omega] at this
    rw [← this]
    cases ys.length <;> rfl
end Go.Proofs.Ytoojjdppecghgaa
