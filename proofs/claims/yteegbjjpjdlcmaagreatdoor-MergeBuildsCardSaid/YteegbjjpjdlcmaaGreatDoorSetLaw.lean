/- Rows that rise, each element once: what sorting and striking neighbours gives. Plain laws, no program. -/
import Derived.Test.YteegbjjpjdlcmaaGreatDoorTokLaw
import Derived.Lib.SlicesCompact
import Derived.Sort.LotA
namespace Go.Proofs.YteegbjjpjdlcmaaGreatDoor
open Go.Sort

section
variable {α : Type} [Inhabited α] [DecidableEq α] {lt : α → α → Bool}

def Rises (lt : α → α → Bool) (l : List α) : Prop := l.Pairwise fun x y => lt x y = true

omit [Inhabited α] in
theorem rises_unique (hO : SWO lt) : ∀ {a b : List α}, Rises lt a → Rises lt b → (∀ x, x ∈ a ↔ x ∈ b) → a = b := by
  intro a
  induction a with
  | nil =>
    intro b _ _ h
    cases b with
    | nil => rfl
    | cons y b => exact absurd ((h y).2 (by simp)) (by simp)
  | cons x a ih =>
    intro b ha hb h
    cases b with
    | nil => exact absurd ((h x).1 (by simp)) (by simp)
    | cons y b =>
      obtain ⟨h1, h2⟩ := List.pairwise_cons.1 ha
      obtain ⟨h3, h4⟩ := List.pairwise_cons.1 hb
      have hxy : x = y := by
        by_cases e : x = y
        · exact e
        · have g1 : x ∈ b := by have := (h x).1 (by simp); simpa [e] using this
          have g2 : y ∈ a := by have := (h y).2 (by simp); simpa [Ne.symm e] using this
          have k1 := h3 x g1
          have k2 := h1 y g2
          rw [hO.asymmA k1] at k2
          cases k2
      subst hxy
      congr 1
      refine ih h2 h4 fun z => ?_
      have hz := h z
      simp only [List.mem_cons] at hz
      constructor
      · intro g
        rcases hz.1 (.inr g) with rfl | g'
        · have := h1 z g; rw [hO.irrefl] at this; cases this
        · exact g'
      · intro g
        rcases hz.2 (.inr g) with rfl | g'
        · have := h3 z g; rw [hO.irrefl] at this; cases this
        · exact g'

/-- sorted, and each once. -/
def rise (lt : α → α → Bool) (l : List α) : List α := Lib.compact (l.mergeSort fun x y => !lt y x)

theorem mem_rise (l : List α) (x : α) : x ∈ rise lt l ↔ x ∈ l := by
  unfold rise
  generalize hs : (l.mergeSort fun x y => !lt y x) = s
  have hm : x ∈ l ↔ x ∈ s := by rw [← hs]; exact (List.mem_mergeSort).symm
  rw [hm]
  unfold Lib.compact Lib.compactUpTo
  simp only [List.mem_map, List.mem_filter, List.mem_range]
  constructor
  · rintro ⟨j, ⟨h1, _⟩, rfl⟩
    simp [h1]
  · intro hx
    obtain ⟨i, hi, rfl⟩ := List.mem_iff_getElem.1 hx
    have key : ∀ i, i < s.length → ∃ j, j ≤ i ∧ Lib.keeps s.toArray j = true ∧ s.toArray[j]! = s.toArray[i]! := by
      intro i
      induction i with
      | zero => intro _; exact ⟨0, Nat.le_refl _, Lib.keeps_lt_one _ 0 (by decide), rfl⟩
      | succ i ih =>
        intro hi
        cases hk : Lib.keeps s.toArray (i + 1) with
        | true => exact ⟨_, Nat.le_refl _, hk, rfl⟩
        | false =>
          obtain ⟨j, h1, h2, h3⟩ := ih (by omega)
          refine ⟨j, by omega, h2, ?_⟩
          have : s.toArray[i + 1]! = s.toArray[i]! := by
            simp only [Lib.keeps, decide_eq_false_iff_not, not_or, Nat.add_sub_cancel] at hk
            exact Classical.not_not.1 hk.2
          rw [h3, this]
    obtain ⟨j, h1, h2, h3⟩ := key i hi
    exact ⟨j, ⟨by omega, h2⟩, by rw [h3]; simp [hi]⟩

theorem rises_rise (hO : SWO lt) (hT : ∀ x y, lt x y = false → lt y x = false → x = y) (l : List α) : Rises lt (rise lt l) := by
  unfold rise
  generalize hs : (l.mergeSort fun x y => !lt y x) = s
  have hp : s.Pairwise fun x y => lt y x = false := by
    have := List.pairwise_mergeSort (le := fun x y => !lt y x) (fun a b c h1 h2 => by
      simp only [Bool.not_eq_true'] at h1 h2 ⊢
      exact hO.ntrans c b a h2 h1) (fun a b => by
      cases h : lt b a with
      | false => simp
      | true => simp [hO.asymmA h]) l
    rw [hs] at this
    exact this.imp fun h => by simpa using h
  have hg : ∀ i j, i < j → j < s.length → lt s.toArray[j]! s.toArray[i]! = false := by
    intro i j h1 h2
    have := List.pairwise_iff_getElem.1 hp i j (by omega) h2 h1
    simpa [getElem!_pos, h2, show i < s.length by omega] using this
  unfold Rises Lib.compact Lib.compactUpTo
  refine List.Pairwise.map _ (R := fun i j => i < j ∧ j < s.length ∧ Lib.keeps s.toArray j = true) ?_ ?_
  · rintro i j ⟨h1, h2, h3⟩
    have hne : s.toArray[j]! ≠ s.toArray[j - 1]! := by
      simp only [Lib.keeps, decide_eq_true_eq] at h3
      rcases h3 with h | h
      · omega
      · exact h
    have hlt : lt s.toArray[j - 1]! s.toArray[j]! = true := by
      cases h : lt s.toArray[j - 1]! s.toArray[j]! with
      | true => rfl
      | false => exact absurd (hT _ _ (hg (j - 1) j (by omega) h2) h) hne
    by_cases e : i = j - 1
    · rw [e]; exact hlt
    · have h4 := hg i (j - 1) (by omega) (by omega)
      cases h : lt s.toArray[i]! s.toArray[j]! with
      | true => rfl
      | false => rw [hO.ntrans _ _ _ h4 h] at hlt; cases hlt
  · rw [List.pairwise_iff_getElem]
    intro i j hi hj hij
    have hm := List.mem_filter.1 (List.getElem_mem hj)
    refine ⟨?_, List.mem_range.1 hm.1, hm.2⟩
    have hpw : ((List.range s.length).filter (Lib.keeps s.toArray)).Pairwise (· < ·) := List.Pairwise.filter _ List.pairwise_lt_range
    exact List.pairwise_iff_getElem.1 hpw i j hi hj hij
end

/-! ### texts; texts with the places of their words -/
theorem totStr (x y : List UInt8) (h1 : ltStr x y = false) (h2 : ltStr y x = false) : x = y := by
  simp only [ltStr, decide_eq_false_iff_not, List.not_lt] at h1 h2
  exact List.le_antisymm h2 h1

def ltAt (x y : List UInt8 × Int) : Bool := ltStr x.1 y.1 || (decide (x.1 = y.1) && decide (x.2 < y.2))
theorem swoAt : SWO ltAt where
  irrefl x := by simp [ltAt, swo_ltStr.irrefl]
  trans x y z h1 h2 := by
    simp only [ltAt, Bool.or_eq_true, Bool.and_eq_true, decide_eq_true_eq] at *
    rcases h1 with h1 | ⟨e1, h1⟩ <;> rcases h2 with h2 | ⟨e2, h2⟩
    · exact .inl (swo_ltStr.trans _ _ _ h1 h2)
    · exact .inl (by rw [← e2]; exact h1)
    · exact .inl (by rw [e1]; exact h2)
    · exact .inr ⟨e1.trans e2, by omega⟩
  ntrans x y z h1 h2 := by
    simp only [ltAt, Bool.or_eq_false_iff, Bool.and_eq_false_iff, decide_eq_false_iff_not] at *
    obtain ⟨a1, a2⟩ := h1
    obtain ⟨b1, b2⟩ := h2
    refine ⟨swo_ltStr.ntrans _ _ _ a1 b1, ?_⟩
    by_cases e : x.1 = z.1
    · right
      have e1 : x.1 = y.1 := by
        refine totStr _ _ a1 ?_
        rw [e]
        exact b1
      have e2 : y.1 = z.1 := e1.symm.trans e
      rcases a2 with a2 | a2
      · exact absurd e1 a2
      · rcases b2 with b2 | b2
        · exact absurd e2 b2
        · omega
    · exact .inl e
theorem totAt (x y : List UInt8 × Int) (h1 : ltAt x y = false) (h2 : ltAt y x = false) : x = y := by
  simp only [ltAt, Bool.or_eq_false_iff, Bool.and_eq_false_iff, decide_eq_false_iff_not] at *
  have e := totStr _ _ h1.1 h2.1
  refine Prod.ext e ?_
  rcases h1.2 with a | a
  · exact absurd e a
  · rcases h2.2 with b | b
    · exact absurd e.symm b
    · omega

def setOf (l : List (List UInt8)) : List (List UInt8) := rise ltStr l
theorem mem_setOf {l : List (List UInt8)} {t : List UInt8} : t ∈ setOf l ↔ t ∈ l := mem_rise l t
theorem rises_setOf (l : List (List UInt8)) : Rises ltStr (setOf l) := rises_rise swo_ltStr totStr l
theorem setOf_unique {l r : List (List UInt8)} (hr : Rises ltStr r) (h : ∀ t, t ∈ r ↔ t ∈ l) : r = setOf l :=
  rises_unique swo_ltStr hr (rises_setOf l) fun t => (h t).trans mem_setOf.symm

/-- each text with the place of its word. -/
def atsFrom (k : Nat) : List (List UInt8) → List (List UInt8 × Int)
  | [] => []
  | t :: r => (t, (k : Int)) :: atsFrom (k + 1) r
theorem atsFrom_len (l : List (List UInt8)) : ∀ k, (atsFrom k l).length = l.length := by
  induction l with
  | nil => intro k; rfl
  | cons t l ih => intro k; simp [atsFrom, ih]
theorem atsFrom_app (a b : List (List UInt8)) : ∀ k, atsFrom k (a ++ b) = atsFrom k a ++ atsFrom (k + a.length) b := by
  induction a with
  | nil => intro k; rfl
  | cons t a ih => intro k; simp [atsFrom, ih, Nat.add_assoc, Nat.add_comm 1]
/-- the places of a text, counted from k. -/
def placesFrom (k : Nat) (t : List UInt8) : List (List UInt8) → List Int
  | [] => []
  | x :: r => if x = t then (k : Int) :: placesFrom (k + 1) t r else placesFrom (k + 1) t r
theorem placesFrom_app (t : List UInt8) (a b : List (List UInt8)) : ∀ k, placesFrom k t (a ++ b) = placesFrom k t a ++ placesFrom (k + a.length) t b := by
  induction a with
  | nil => intro k; rfl
  | cons x a ih =>
    intro k
    simp only [List.cons_append, placesFrom, ih, List.length_cons, Nat.add_assoc, Nat.add_comm 1]
    split <;> simp
theorem placesFrom_len (t : List UInt8) (l : List (List UInt8)) : ∀ k, (placesFrom k t l).length ≤ l.length := by
  induction l with
  | nil => intro k; simp [placesFrom]
  | cons x l ih => intro k; simp only [placesFrom]; split <;> simp <;> have := ih (k + 1) <;> omega
theorem mem_placesFrom (t : List UInt8) (l : List (List UInt8)) : ∀ k (i : Int), i ∈ placesFrom k t l ↔ (t, i) ∈ atsFrom k l := by
  induction l with
  | nil => intro k i; simp [placesFrom, atsFrom]
  | cons x l ih =>
    intro k i
    simp only [placesFrom, atsFrom, List.mem_cons, Prod.mk.injEq]
    split
    · rename_i h; subst h; simp [ih]
    · rename_i h
      rw [ih]
      constructor
      · exact .inr
      · rintro (⟨h1, _⟩ | h1)
        · exact absurd h1.symm h
        · exact h1
theorem atsFrom_ge (l : List (List UInt8)) : ∀ k, ∀ x ∈ atsFrom k l, (k : Int) ≤ x.2 ∧ x.1 ∈ l := by
  induction l with
  | nil => intro k x hx; simp [atsFrom] at hx
  | cons t l ih =>
    intro k x hx
    simp only [atsFrom, List.mem_cons] at hx
    rcases hx with rfl | hx
    · exact ⟨Int.le_refl _, by simp⟩
    · have := ih _ x hx
      exact ⟨by omega, by simp [this.2]⟩
theorem placesFrom_rises (t : List UInt8) (l : List (List UInt8)) : ∀ k, (placesFrom k t l).Pairwise (· < ·) ∧ ∀ i ∈ placesFrom k t l, (k : Int) ≤ i := by
  induction l with
  | nil => intro k; simp [placesFrom]
  | cons x l ih =>
    intro k
    obtain ⟨h1, h2⟩ := ih (k + 1)
    simp only [placesFrom]
    split
    · refine ⟨List.pairwise_cons.2 ⟨fun i hi => ?_, h1⟩, fun i hi => ?_⟩
      · have := h2 i hi; omega
      · rcases List.mem_cons.1 hi with rfl | hi
        · exact Int.le_refl _
        · have := h2 i hi; omega
    · exact ⟨h1, fun i hi => by have := h2 i hi; omega⟩
theorem placesFrom_pos {t : List UInt8} {l : List (List UInt8)} (h : t ∈ l) : ∀ k, placesFrom k t l ≠ [] := by
  induction l with
  | nil => simp at h
  | cons x l ih =>
    intro k
    simp only [placesFrom]
    split
    · simp
    · rename_i hx
      exact ih (by simpa [Ne.symm hx] using h) (k + 1)

def positions (l : List (List UInt8)) : List (List UInt8 × Int) := rise ltAt (atsFrom 0 l)

/-- the places, text for text of the set: the same. -/
theorem positions_flat (l : List (List UInt8)) : (setOf l).flatMap (fun t => (placesFrom 0 t l).map fun i => (t, i)) = positions l := by
  refine rises_unique swoAt ?_ (rises_rise swoAt totAt _) fun x => ?_
  · have hs := rises_setOf l
    generalize setOf l = s at hs
    induction s with
    | nil => simp [Rises]
    | cons t s ih =>
      obtain ⟨h1, h2⟩ := List.pairwise_cons.1 hs
      rw [List.flatMap_cons]
      refine List.pairwise_append.2 ⟨?_, ih h2, ?_⟩
      · refine List.Pairwise.map _ (R := fun (i j : Int) => i < j) ?_ (placesFrom_rises t l 0).1
        intro i j hij
        simp [ltAt, hij]
      · intro x hx y hy
        simp only [List.mem_map] at hx
        obtain ⟨i, _, rfl⟩ := hx
        simp only [List.mem_flatMap, List.mem_map] at hy
        obtain ⟨t', ht', j, _, rfl⟩ := hy
        simp [ltAt, h1 t' ht']
  · have hmem : x ∈ positions l ↔ x ∈ atsFrom 0 l := mem_rise _ x
    rw [hmem]
    simp only [List.mem_flatMap, List.mem_map]
    constructor
    · rintro ⟨t, _, i, hi, rfl⟩
      exact (mem_placesFrom t l 0 i).1 hi
    · intro hx
      obtain ⟨t, i⟩ := x
      exact ⟨t, mem_setOf.2 (atsFrom_ge l 0 _ hx).2, i, (mem_placesFrom t l 0 i).2 hx, rfl⟩
end Go.Proofs.YteegbjjpjdlcmaaGreatDoor
