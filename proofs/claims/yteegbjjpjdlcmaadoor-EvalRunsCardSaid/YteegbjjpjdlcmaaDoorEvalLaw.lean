/- Questions, step by step, on a stack; the tree behind them. Plain laws, no program. -/
import Derived.Test.YteegbjjpjdlcmaaDoorQRight
set_option linter.unusedVariables false
namespace Go.Proofs.YteegbjjpjdlcmaaDoor

/-! ### the tree of a question -/
inductive QT where
  | leaf (t : List UInt8)
  | node (k : Int) (a b : QT)
def QT.steps : QT → List QOp
  | .leaf t => [(0, t)]
  | .node k a b => a.steps ++ (b.steps ++ [(k, [])])
def QT.ok : QT → Prop
  | .leaf t => rightTok t = true
  | .node k a b => (k = 1 ∨ k = 2 ∨ k = 3) ∧ a.ok ∧ b.ok
def QT.leaves : QT → Nat
  | .leaf _ => 1
  | .node _ a b => a.leaves + b.leaves
def qtSteps : List QT → List QOp
  | [] => []
  | x :: r => qtSteps r ++ x.steps
def qtLeaves : List QT → Nat
  | [] => 0
  | x :: r => x.leaves + qtLeaves r

theorem right_qt_go : ∀ (r : List QOp) (st : List QT) (w : Int), (∀ T ∈ st, T.ok) → rightGo st.length w r = true → (qtLeaves st : Int) = w →
    ∃ T : QT, T.ok ∧ T.steps = qtSteps st ++ r ∧ T.leaves ≤ 16 := by
  intro r
  induction r with
  | nil =>
    intro st w hok hr hw
    simp only [rightGo, Bool.and_eq_true, decide_eq_true_eq] at hr
    obtain ⟨h1, h2⟩ := hr
    match st, h1 with
    | [T], _ =>
      refine ⟨T, hok T (by simp), by simp [qtSteps], ?_⟩
      simp [qtLeaves] at hw
      omega
    | [], h => simp at h
    | _ :: _ :: _, h => simp at h; omega
  | cons o r ih =>
    intro st w hok hr hw
    obtain ⟨k, t⟩ := o
    simp only [rightGo] at hr
    split at hr
    · rename_i hk
      subst hk
      split at hr
      · rename_i ht
        obtain ⟨T, h1, h3, h4⟩ := ih (.leaf t :: st) (w + 1) (by intro T hT; simp only [List.mem_cons] at hT; rcases hT with rfl | hT; exact ht; exact hok T hT) (by rw [List.length_cons]; exact hr) (by simp [qtLeaves, QT.leaves]; omega)
        exact ⟨T, h1, by rw [h3]; simp [qtSteps, QT.steps], h4⟩
      · simp at hr
    · rename_i hk
      split at hr
      · rename_i hk3
        split at hr
        · simp at hr
        · rename_i hb
          have ht : t = [] := Classical.byContradiction fun e => hb (.inl e)
          have hl : ¬ (st.length : Int) < 2 := fun e => hb (.inr e)
          subst ht
          match st, hl with
          | y :: x :: s, _ =>
            obtain ⟨T, h1, h3, h4⟩ := ih (.node k x y :: s) w (by intro T hT; simp only [List.mem_cons] at hT; rcases hT with rfl | hT; exact ⟨hk3, hok x (by simp), hok y (by simp)⟩; exact hok T (by simp [hT])) (by rw [← hr]; congr 1; simp only [List.length_cons]; omega) (by simp [qtLeaves, QT.leaves] at hw ⊢; omega)
            exact ⟨T, h1, by rw [h3]; simp [qtSteps, QT.steps], h4⟩
          | [], h => simp at h
          | [_], h => simp at h
      · simp at hr

/-- steps that are a question are a tree's. -/
theorem right_qt {l : List QOp} (h : qRight l = true) : ∃ T : QT, T.ok ∧ T.steps = l ∧ T.leaves ≤ 16 := by
  obtain ⟨T, h1, h2, h3⟩ := right_qt_go l [] 0 (by simp) h (by simp [qtLeaves])
  exact ⟨T, h1, by simpa [qtSteps] using h2, h3⟩

theorem rightGo_qt : ∀ (T : QT), T.ok → ∀ (h w : Int) (r : List QOp), 0 ≤ h → rightGo h w (T.steps ++ r) = rightGo (h + 1) (w + T.leaves) r := by
  intro T
  induction T with
  | leaf t =>
    intro hok h w r _
    simp only [QT.steps, List.cons_append, List.nil_append, rightGo]
    rw [if_pos trivial, if_pos (show rightTok t = true from hok)]
    rfl
  | node k a b iha ihb =>
    intro hok h w r hh
    obtain ⟨hk, ha, hb⟩ := hok
    simp only [QT.steps, List.append_assoc]
    rw [iha ha h w _ hh, ihb hb _ _ _ (by omega)]
    have hk0 : k ≠ 0 := by omega
    simp only [List.cons_append, List.nil_append, rightGo]
    rw [if_neg hk0, if_pos hk, if_neg (by simp; omega)]
    congr 1
    · omega
    · simp only [QT.leaves]; omega

theorem qright_node {A B : QT} (ha : A.ok) (hb : B.ok) {k : Int} (hk : k = 1 ∨ k = 2 ∨ k = 3) : qRight (A.steps ++ (B.steps ++ [(k, [])])) = decide (A.leaves + B.leaves ≤ 16) := by
  have := rightGo_qt (.node k A B) ⟨hk, ha, hb⟩ 0 0 [] (by omega)
  simp only [QT.steps, List.append_nil] at this
  unfold qRight
  rw [this]
  simp only [rightGo, QT.leaves]
  rw [show decide ((0 : Int) + 1 = 1) = true from by decide, Bool.true_and]
  congr 1
  rw [eq_iff_iff]
  omega

/-! ### a stack -/
section
variable {α : Type} (find : List UInt8 → α) (op : Int → α → α → α)
def evGo : List α → List QOp → List α
  | st, [] => st
  | st, (k, t) :: r => if k = 0 then evGo (find t :: st) r else match st with
    | y :: x :: s => evGo (op k x y :: s) r
    | _ => st
def QT.ev : QT → α
  | .leaf t => find t
  | .node k a b => op k a.ev b.ev
theorem evGo_qt : ∀ (T : QT), T.ok → ∀ (st : List α) (r : List QOp), evGo find op st (T.steps ++ r) = evGo find op (T.ev find op :: st) r := by
  intro T
  induction T with
  | leaf t =>
    intro _ st r
    simp only [QT.steps, List.cons_append, List.nil_append, evGo]
    rw [if_pos trivial]
    rfl
  | node k a b iha ihb =>
    intro hok st r
    obtain ⟨hk, ha, hb⟩ := hok
    simp only [QT.steps, List.append_assoc]
    rw [iha ha, ihb hb]
    simp only [List.cons_append, List.nil_append, evGo]
    rw [if_neg (by omega)]
    rfl
/-- what a question comes to. -/
def evL (d : α) (l : List QOp) : α := (evGo find op [] l).headD d
theorem evL_qt {T : QT} (h : T.ok) (d : α) : evL find op d T.steps = T.ev find op := by
  have := evGo_qt find op T h [] []
  simp only [List.append_nil] at this
  unfold evL
  rw [this]
  rfl
theorem evL_node {A B : QT} (ha : A.ok) (hb : B.ok) {k : Int} (hk : k = 1 ∨ k = 2 ∨ k = 3) (d : α) : evL find op d (A.steps ++ (B.steps ++ [(k, [])])) = op k (evL find op d A.steps) (evL find op d B.steps) := by
  rw [evL_qt find op ha, evL_qt find op hb]
  exact evL_qt find op (T := .node k A B) ⟨hk, ha, hb⟩ d
end

/-! ### which documents fit -/
def opB (k : Int) (x y : Bool) : Bool := if k = 1 then x && y else if k = 2 then x || y else x && !y
/-- the numbers of those that fit. -/
def pickFrom {β : Type} (p : β → Bool) : Nat → List β → List Int
  | _, [] => []
  | n, x :: r => (if p x then [(n : Int)] else []) ++ pickFrom p (n + 1) r
theorem pickFrom_append {β : Type} (p : β → Bool) : ∀ (a : List β) (n : Nat) (b : List β), pickFrom p n (a ++ b) = pickFrom p n a ++ pickFrom p (n + a.length) b := by
  intro a
  induction a with
  | nil => intro n b; rfl
  | cons x a ih =>
    intro n b
    simp only [List.cons_append, pickFrom, List.length_cons, List.append_assoc]
    rw [ih, show n + 1 + a.length = n + (a.length + 1) from by omega]
theorem pickFrom_shift {β : Type} (p : β → Bool) (k : Nat) : ∀ (b : List β) (n : Nat), pickFrom p (k + n) b = (pickFrom p n b).map fun x => (k : Int) + x := by
  intro b
  induction b with
  | nil => intro n; rfl
  | cons x b ih =>
    intro n
    simp only [pickFrom, List.map_append]
    rw [show k + n + 1 = k + (n + 1) from by omega, ih]
    congr 1
    by_cases h : p x = true
    · rw [if_pos h, if_pos h]; simp
    · rw [if_neg h, if_neg h]; rfl
theorem pickFrom_mem {β : Type} (p : β → Bool) : ∀ (b : List β) (n : Nat) (z : Int), z ∈ pickFrom p n b ↔ ∃ i, ∃ h : i < b.length, z = ((n + i : Nat) : Int) ∧ p b[i] = true := by
  intro b
  induction b with
  | nil => intro n z; simp [pickFrom]
  | cons x b ih =>
    intro n z
    simp only [pickFrom, List.mem_append, ih]
    constructor
    · rintro (h | ⟨i, hi, h1, h2⟩)
      · by_cases hp : p x = true
        · rw [if_pos hp] at h
          simp at h
          exact ⟨0, by simp, by simpa using h, by simpa using hp⟩
        · rw [if_neg hp] at h; cases h
      · exact ⟨i + 1, by simpa using hi, by rw [h1]; congr 1; omega, by simpa using h2⟩
    · rintro ⟨i, hi, h1, h2⟩
      cases i with
      | zero =>
        left
        simp at h2
        rw [if_pos h2]
        simpa using h1
      | succ i => exact .inr ⟨i, by simpa using hi, by rw [h1]; congr 1; omega, by simpa using h2⟩
theorem pickFrom_len {β : Type} (p : β → Bool) : ∀ (b : List β) (n : Nat), (pickFrom p n b).length ≤ b.length := by
  intro b
  induction b with
  | nil => intro n; simp [pickFrom]
  | cons x b ih =>
    intro n
    simp only [pickFrom, List.length_append, List.length_cons]
    have := ih (n + 1)
    split <;> simp <;> omega
theorem pickFrom_congr {β : Type} {p q : β → Bool} : ∀ (b : List β) (n : Nat), (∀ x ∈ b, p x = q x) → pickFrom p n b = pickFrom q n b := by
  intro b
  induction b with
  | nil => intro n _; rfl
  | cons x b ih =>
    intro n h
    simp only [pickFrom]
    rw [h x (by simp), ih (n + 1) (fun y hy => h y (by simp [hy]))]
theorem pickFrom_none {β : Type} {p : β → Bool} (b : List β) (n : Nat) (h : ∀ x ∈ b, p x = false) : pickFrom p n b = [] := by
  rw [pickFrom_congr (q := fun _ => false) b n h]
  induction b generalizing n with
  | nil => rfl
  | cons x b ih => simp only [pickFrom]; rw [ih (n + 1) (fun y hy => h y (by simp [hy]))]; rfl
theorem pickFrom_take {β : Type} (p : β → Bool) (b : List β) (k : Nat) (hk : k < b.length) : pickFrom p 0 (b.take (k + 1)) = pickFrom p 0 (b.take k) ++ (if p b[k] then [(k : Int)] else []) := by
  rw [List.take_succ_eq_append_getElem hk, pickFrom_append]
  congr 1
  simp only [pickFrom, List.append_nil]
  rw [List.length_take, Nat.min_eq_left (Nat.le_of_lt hk), Nat.zero_add]
end Go.Proofs.YteegbjjpjdlcmaaDoor
