/- Dictionaries and segments: which are right; the union. Plain laws, no program. -/
import Derived.Test.YteegbjjpjdlcmaaGreatDoorPostLaw
import Derived.Test.YteegbjjpjdlcmaaGreatDoorSetLaw
import Derived.Test.YteegbjjpjdlcmaaGreatDoorTokRight
namespace Go.Proofs.YteegbjjpjdlcmaaGreatDoor
open Go.Sort

abbrev Ent := List UInt8 × List Int
def entOK (e : Ent) : Bool := !e.2.isEmpty && postRight e.2 && rightTok e.1
def risesB : List Ent → Bool
  | [] => true
  | [_] => true
  | a :: b :: r => ltStr a.1 b.1 && risesB (b :: r)
def dictRight (d : List Ent) : Bool := d.all entOK && risesB d

theorem risesB_iff : ∀ d : List Ent, risesB d = true ↔ ∀ i (h : i + 1 < d.length), ltStr (d[i]'(by omega)).1 d[i + 1].1 = true
  | [] => by simp [risesB]
  | [a] => by simp [risesB]
  | a :: b :: r => by
    rw [risesB, Bool.and_eq_true, risesB_iff (b :: r)]
    constructor
    · rintro ⟨h1, h2⟩ i hi
      cases i with
      | zero => exact h1
      | succ i => exact h2 i (by simpa using hi)
    · intro h
      exact ⟨h 0 (by simp), fun i hi => h (i + 1) (by simpa using hi)⟩

theorem dictRight_yes {d : List Ent} (h1 : ∀ i (hi : i < d.length), entOK d[i] = true) (h2 : ∀ i (h : i + 1 < d.length), ltStr (d[i]'(by omega)).1 d[i + 1].1 = true) : dictRight d = true := by
  unfold dictRight
  rw [Bool.and_eq_true, List.all_eq_true, risesB_iff]
  refine ⟨fun e he => ?_, h2⟩
  obtain ⟨i, hi, rfl⟩ := List.mem_iff_getElem.1 he
  exact h1 i hi
theorem dictRight_no1 {d : List Ent} (i : Nat) (hi : i < d.length) (h : entOK d[i] = false) : dictRight d = false := by
  rw [Bool.eq_false_iff]
  intro hd
  unfold dictRight at hd
  rw [Bool.and_eq_true, List.all_eq_true] at hd
  rw [hd.1 _ (List.getElem_mem hi)] at h
  cases h
theorem dictRight_no2 {d : List Ent} (i : Nat) (hi : i + 1 < d.length) (h : ltStr (d[i]'(by omega)).1 d[i + 1].1 = false) : dictRight d = false := by
  rw [Bool.eq_false_iff]
  intro hd
  unfold dictRight at hd
  rw [Bool.and_eq_true, risesB_iff] at hd
  rw [hd.2 i hi] at h
  cases h
theorem dictRight_ent {d : List Ent} (h : dictRight d = true) (i : Nat) (hi : i < d.length) : entOK d[i] = true := by
  unfold dictRight at h
  rw [Bool.and_eq_true, List.all_eq_true] at h
  exact h.1 _ (List.getElem_mem hi)
theorem dictRight_lt {d : List Ent} (h : dictRight d = true) (i : Nat) (hi : i + 1 < d.length) : ltStr (d[i]'(by omega)).1 d[i + 1].1 = true := by
  unfold dictRight at h
  rw [Bool.and_eq_true, risesB_iff] at h
  exact h.2 i hi
theorem entOK_iff (e : Ent) : entOK e = true ↔ e.2 ≠ [] ∧ postRight e.2 = true ∧ rightTok e.1 = true := by
  unfold entOK
  simp [and_assoc]

/-! ### segments -/
def wholeB (f t : Int) : Bool := decide (0 ≤ f) && decide (f < t) && decide (t ≤ 1000)
def segRight (f t : Int) (d : List Ent) : Bool := wholeB f t && dictRight d && d.all fun e => e.2.all (inSpan f t)

theorem filter_len_all (p : Int → Bool) (l : List Int) : ((l.filter p).length = l.length) ↔ l.all p = true := by
  rw [List.all_eq_true]
  constructor
  · intro h
    exact List.length_filter_eq_length_iff.1 h
  · intro h
    exact List.length_filter_eq_length_iff.2 h

/-- all between, if the first and the last one are. -/
theorem rising_span {l : List Int} (hl : l ≠ []) (hp : l.Pairwise (· < ·)) (f t : Int) : l.all (inSpan f t) = (decide (f ≤ l.head hl) && decide (l.getLast hl < t)) := by
  rw [Bool.eq_iff_iff]
  simp only [List.all_eq_true, Bool.and_eq_true, decide_eq_true_eq, inSpan]
  constructor
  · intro h
    exact ⟨(h _ (List.head_mem hl)).1, (h _ (List.getLast_mem hl)).2⟩
  · rintro ⟨h1, h2⟩ x hx
    have hhead : l.head hl ≤ x := by
      cases l with
      | nil => exact absurd rfl hl
      | cons y r =>
        rcases List.mem_cons.1 hx with rfl | hx
        · exact Int.le_refl _
        · have := (List.pairwise_cons.1 hp).1 x hx; simp only [List.head_cons]; omega
    have hlast : x ≤ l.getLast hl := by
      obtain ⟨i, hi, rfl⟩ := List.mem_iff_getElem.1 hx
      rw [List.getLast_eq_getElem]
      by_cases e : i = l.length - 1
      · simp [e]
      · have := List.pairwise_iff_getElem.1 hp i (l.length - 1) hi (by omega) (by omega)
        omega
    omega

/-! ### the union -/
def minHead : List (List Ent) → Option (List UInt8)
  | [] => none
  | [] :: r => minHead r
  | (e :: _) :: r => match minHead r with
    | none => some e.1
    | some u => some (if ltStr u e.1 then u else e.1)
def docsOf (t : List UInt8) : List (List Ent) → List Int
  | [] => []
  | [] :: r => docsOf t r
  | (e :: _) :: r => if e.1 = t then e.2 ++ docsOf t r else docsOf t r
def dropOf (t : List UInt8) : List Ent → List Ent
  | [] => []
  | e :: d => if e.1 = t then d else e :: d
def unionF : Nat → List (List Ent) → List Ent
  | 0, _ => []
  | f + 1, ds => match minHead ds with
    | none => []
    | some t => (t, docsOf t ds) :: unionF f (ds.map (dropOf t))

theorem union_one : ∀ (d : List Ent) (f : Nat), d.length ≤ f → unionF f [d] = d := by
  intro d
  induction d with
  | nil => intro f _; cases f <;> rfl
  | cons e d ih =>
    intro f hf
    cases f with
    | zero => simp at hf
    | succ f =>
      have h1 : minHead [e :: d] = some e.1 := rfl
      have h2 : docsOf e.1 [e :: d] = e.2 := by simp [docsOf]
      have h3 : [e :: d].map (dropOf e.1) = [d] := by simp [dropOf]
      simp only [unionF, h1, h2, h3]
      rw [ih f (by simpa using hf)]
end Go.Proofs.YteegbjjpjdlcmaaGreatDoor
