/- Posting lists: which are right, what is picked of two. Plain laws, no program. -/
namespace Go.Proofs.YteegbjjpjdlcmaaGreatDoor

def postGo (p : Int) : List Int → Bool
  | [] => true
  | n :: r => if n ≤ p ∨ 1000 ≤ n then false else postGo n r
/-- rising, from 0 to 999. -/
def postRight (l : List Int) : Bool := postGo (-1) l

theorem postGo_cons (p n : Int) (r : List Int) : postGo p (n :: r) = (decide (p < n) && decide (n < 1000) && postGo n r) := by
  simp only [postGo]
  by_cases h1 : n ≤ p
  · rw [if_pos (.inl h1), decide_eq_false (by omega)]; rfl
  · by_cases h2 : 1000 ≤ n
    · rw [if_pos (.inr h2), decide_eq_false (show ¬ n < 1000 by omega)]; simp
    · rw [if_neg (by omega), decide_eq_true (show p < n by omega), decide_eq_true (show n < 1000 by omega)]; rfl

theorem postGo_iff (l : List Int) : ∀ p, postGo p l = true ↔ (l.Pairwise (· < ·) ∧ ∀ x ∈ l, p < x ∧ x < 1000) := by
  induction l with
  | nil => intro p; simp [postGo]
  | cons n r ih =>
    intro p
    rw [postGo_cons]
    simp only [Bool.and_eq_true, decide_eq_true_eq, ih, List.pairwise_cons, List.mem_cons]
    constructor
    · rintro ⟨⟨h1, h2⟩, h3, h4⟩
      refine ⟨⟨fun x hx => (h4 x hx).1, h3⟩, ?_⟩
      rintro x (rfl | hx)
      · exact ⟨h1, h2⟩
      · have := h4 x hx; omega
    · rintro ⟨⟨h1, h2⟩, h3⟩
      have hn := h3 n (.inl rfl)
      exact ⟨⟨hn.1, hn.2⟩, h2, fun x hx => ⟨h1 x hx, (h3 x (.inr hx)).2⟩⟩

theorem postRight_iff (l : List Int) : postRight l = true ↔ (l.Pairwise (· < ·) ∧ ∀ x ∈ l, 0 ≤ x ∧ x < 1000) := by
  unfold postRight
  rw [postGo_iff]
  constructor
  · rintro ⟨h1, h2⟩; exact ⟨h1, fun x hx => by have := h2 x hx; omega⟩
  · rintro ⟨h1, h2⟩; exact ⟨h1, fun x hx => by have := h2 x hx; omega⟩

/-- up to place k all is well: what the two loops hold. -/
theorem postGo_take (l : List Int) : ∀ (p : Int) (k : Nat), postGo p l = true → postGo p (l.take k) = true := by
  induction l with
  | nil => intro p k h; simp [postGo]
  | cons n r ih =>
    intro p k h
    cases k with
    | zero => rfl
    | succ k =>
      rw [postGo_cons] at h
      simp only [Bool.and_eq_true] at h
      rw [List.take_succ_cons, postGo_cons]
      simp only [Bool.and_eq_true]
      exact ⟨h.1, ih n k h.2⟩

/-! ### what is picked of two lists -/
def pickGo (keep : Int → Bool → Bool → Bool) : Nat → List Int → List Int → List Int
  | 0, _, _ => []
  | _ + 1, [], [] => []
  | f + 1, x :: a, [] => (if keep x true false then [x] else []) ++ pickGo keep f a []
  | f + 1, [], y :: b => (if keep y false true then [y] else []) ++ pickGo keep f [] b
  | f + 1, x :: a, y :: b =>
    if x < y then (if keep x true false then [x] else []) ++ pickGo keep f a (y :: b)
    else if y < x then (if keep y false true then [y] else []) ++ pickGo keep f (x :: a) b
    else (if keep y true true then [y] else []) ++ pickGo keep f a b
theorem pickGo_fuel (keep : Int → Bool → Bool → Bool) : ∀ (f g : Nat) (a b : List Int), a.length + b.length ≤ f → a.length + b.length ≤ g → pickGo keep f a b = pickGo keep g a b := by
  intro f
  induction f with
  | zero =>
    intro g a b h1 h2
    have ha : a = [] := List.length_eq_zero_iff.1 (by omega)
    have hb : b = [] := List.length_eq_zero_iff.1 (by omega)
    subst ha
    subst hb
    cases g <;> rfl
  | succ f ih =>
    intro g a b h1 h2
    cases g with
    | zero =>
      have ha : a = [] := List.length_eq_zero_iff.1 (by omega)
      have hb : b = [] := List.length_eq_zero_iff.1 (by omega)
      subst ha
      subst hb
      rfl
    | succ g =>
      cases a with
      | nil =>
        cases b with
        | nil => rfl
        | cons y b =>
          simp only [pickGo]
          rw [ih g [] b (by simp at h1 ⊢; omega) (by simp at h2 ⊢; omega)]
      | cons x a =>
        cases b with
        | nil =>
          simp only [pickGo]
          rw [ih g a [] (by simp at h1 ⊢; omega) (by simp at h2 ⊢; omega)]
        | cons y b =>
          simp only [pickGo, List.length_cons] at h1 h2 ⊢
          rw [ih g a (y :: b) (by simp; omega) (by simp; omega), ih g (x :: a) b (by simp; omega) (by simp; omega), ih g a b (by omega) (by omega)]

def pickL (keep : Int → Bool → Bool → Bool) (a b : List Int) : List Int := pickGo keep (a.length + b.length) a b
theorem pickL_nil (keep : Int → Bool → Bool → Bool) : pickL keep [] [] = [] := rfl
theorem pickL_a (keep : Int → Bool → Bool → Bool) (x : Int) (a : List Int) : pickL keep (x :: a) [] = (if keep x true false then [x] else []) ++ pickL keep a [] := by
  unfold pickL
  rw [show (x :: a).length + ([] : List Int).length = a.length + 1 from by simp]
  simp only [pickGo]
  rw [pickGo_fuel keep a.length (a.length + ([] : List Int).length) a [] (by simp) (by simp)]
theorem pickL_b (keep : Int → Bool → Bool → Bool) (y : Int) (b : List Int) : pickL keep [] (y :: b) = (if keep y false true then [y] else []) ++ pickL keep [] b := by
  unfold pickL
  rw [show ([] : List Int).length + (y :: b).length = b.length + 1 from by simp]
  simp only [pickGo]
  rw [pickGo_fuel keep b.length (([] : List Int).length + b.length) [] b (by simp) (by simp)]
theorem pickL_lt (keep : Int → Bool → Bool → Bool) {x y : Int} (a b : List Int) (h : x < y) : pickL keep (x :: a) (y :: b) = (if keep x true false then [x] else []) ++ pickL keep a (y :: b) := by
  unfold pickL
  rw [show (x :: a).length + (y :: b).length = (a.length + b.length + 1) + 1 from by simp; omega]
  simp only [pickGo]
  rw [if_pos h, pickGo_fuel keep (a.length + b.length + 1) (a.length + (y :: b).length) a (y :: b) (by simp; omega) (by simp)]
theorem pickL_gt (keep : Int → Bool → Bool → Bool) {x y : Int} (a b : List Int) (h : y < x) : pickL keep (x :: a) (y :: b) = (if keep y false true then [y] else []) ++ pickL keep (x :: a) b := by
  unfold pickL
  rw [show (x :: a).length + (y :: b).length = (a.length + b.length + 1) + 1 from by simp; omega]
  simp only [pickGo]
  rw [if_neg (by omega), if_pos h, pickGo_fuel keep (a.length + b.length + 1) ((x :: a).length + b.length) (x :: a) b (by simp; omega) (by simp)]
theorem pickL_eq (keep : Int → Bool → Bool → Bool) (x : Int) (a b : List Int) : pickL keep (x :: a) (x :: b) = (if keep x true true then [x] else []) ++ pickL keep a b := by
  unfold pickL
  rw [show (x :: a).length + (x :: b).length = (a.length + b.length + 1) + 1 from by simp; omega]
  simp only [pickGo]
  rw [if_neg (by omega), if_neg (by omega), pickGo_fuel keep (a.length + b.length + 1) (a.length + b.length) a b (by omega) (by omega)]

theorem pickGo_one (keep : Int → Bool → Bool → Bool) (a : List Int) : ∀ f, a.length ≤ f → pickGo keep f a [] = a.filter fun x => keep x true false := by
  induction a with
  | nil => intro f _; cases f <;> rfl
  | cons x a ih =>
    intro f hf
    cases f with
    | zero => simp at hf
    | succ f =>
      simp only [pickGo]
      rw [ih f (by simpa using hf), List.filter_cons]
      split <;> simp

/-- what is in a span. -/
def inSpan (f t : Int) (n : Int) : Bool := decide (f ≤ n) && decide (n < t)
theorem pick_span (f t : Int) (l : List Int) : pickL (fun n _ _ => inSpan f t n) l [] = l.filter (inSpan f t) := pickGo_one _ _ _ (by simp)
end Go.Proofs.YteegbjjpjdlcmaaGreatDoor

