/- The parser as plain functions. No function of the program is entered here. -/
import Derived.Test.YtjbmihgfneamlaaDoorPeek
set_option linter.unusedVariables false
namespace Go.Proofs.YtjbmihgfneamlaaDoor

/-- what the parser holds: the next element, the words so far, the steps so far. -/
structure PS where
  nx : Nat
  wd : Nat
  ops : List QOp

def knd (es : List El) (n : Nat) : Int := match es[n]? with | some e => e.kind | none => -2
def trm (es : List El) (n : Nat) : List UInt8 := match es[n]? with | some e => e.term | none => []
def posAt (es : List El) (n : Nat) : Int := match es[n]? with | some e => e.pos | none => 0

def clauseLoop (u : PS → Int × PS) (es : List El) : Nat → PS → Int × PS
  | 0, s => (0, s)
  | g + 1, s =>
    if knd es s.nx = 38 ∨ knd es s.nx = 33 then
      if (u { s with nx := s.nx + 1 }).1 ≠ 0 then u { s with nx := s.nx + 1 }
      else clauseLoop u es g { (u { s with nx := s.nx + 1 }).2 with ops := (u { s with nx := s.nx + 1 }).2.ops ++ [(if knd es s.nx = 38 then 1 else 3, [])] }
    else (0, s)
def clauseP (u : PS → Int × PS) (es : List El) (G : Nat) (s : PS) : Int × PS := if (u s).1 ≠ 0 then u s else clauseLoop u es G (u s).2
def queryLoop (u : PS → Int × PS) (es : List El) (G : Nat) : Nat → PS → Int × PS
  | 0, s => (0, s)
  | g + 1, s =>
    if knd es s.nx = 124 then
      if (clauseP u es G { s with nx := s.nx + 1 }).1 ≠ 0 then clauseP u es G { s with nx := s.nx + 1 }
      else queryLoop u es G g { (clauseP u es G { s with nx := s.nx + 1 }).2 with ops := (clauseP u es G { s with nx := s.nx + 1 }).2.ops ++ [(2, [])] }
    else (0, s)
def queryP (u : PS → Int × PS) (es : List El) (G : Nat) (s : PS) : Int × PS := if (clauseP u es G s).1 ≠ 0 then clauseP u es G s else queryLoop u es G G (clauseP u es G s).2
def bracketP (es : List El) (r : Int × PS) : Int × PS := if r.1 ≠ 0 then r else if knd es r.2.nx ≠ 41 then (2, r.2) else (0, { r.2 with nx := r.2.nx + 1 })
def wordP (es : List El) (s : PS) : Int × PS := if 16 ≤ s.wd then (8, s) else (0, ⟨s.nx + 1, s.wd + 1, s.ops ++ [(0, trm es s.nx)]⟩)
def otherP (es : List El) (s : PS) : Int × PS := if knd es s.nx = 33 then (9, s) else (2, s)
/-- a unit, so many more brackets being let. -/
def unitP (es : List El) (G : Nat) : Nat → PS → Int × PS
  | 0, s => if knd es s.nx = -1 then wordP es s else if knd es s.nx = 40 then (8, s) else otherP es s
  | k + 1, s => if knd es s.nx = -1 then wordP es s else if knd es s.nx = 40 then bracketP es (queryP (unitP es G k) es G { s with nx := s.nx + 1 }) else otherP es s

/-- elements: the last one is the end, or none of a text. -/
def Ended (es : List El) : Prop := ∀ i, i < es.length → (knd es i = -1 ∨ knd es i = 38 ∨ knd es i = 33 ∨ knd es i = 40 ∨ knd es i = 41 ∨ knd es i = 124) → i + 1 < es.length

/-- what is kept by each part of the parser. -/
structure Kept (es : List El) (s : PS) (r : Int × PS) : Prop where
  lt : r.2.nx < es.length
  le : s.nx ≤ r.2.nx
  ok : r.1 = 0 → s.nx < r.2.nx ∧ r.2.ops.length + 2 * s.nx + 1 ≤ s.ops.length + 2 * r.2.nx
  wd : r.2.wd ≤ 16 ∨ r.2.wd ≤ s.wd
  few : r.2.ops.length + 2 * s.nx ≤ s.ops.length + 2 * r.2.nx

def Keeps (es : List El) (u : PS → Int × PS) : Prop := ∀ s, s.nx < es.length → Kept es s (u s)

theorem clauseLoop_keeps {es : List El} (hE : Ended es) {u : PS → Int × PS} (hu : Keeps es u) : ∀ (g : Nat) (s : PS), s.nx < es.length →
    (clauseLoop u es g s).2.nx < es.length ∧ s.nx ≤ (clauseLoop u es g s).2.nx ∧ ((clauseLoop u es g s).2.wd ≤ 16 ∨ (clauseLoop u es g s).2.wd ≤ s.wd) ∧ (clauseLoop u es g s).2.ops.length + 2 * s.nx ≤ s.ops.length + 2 * (clauseLoop u es g s).2.nx := by
  intro g
  induction g with
  | zero => intro s hs; exact ⟨hs, Nat.le_refl _, .inr (Nat.le_refl _), Nat.le_refl _⟩
  | succ g ih =>
    intro s hs
    simp only [clauseLoop]
    split
    · rename_i hk
      have hs1 := hE s.nx hs (by rcases hk with h | h; exact .inr (.inl h); exact .inr (.inr (.inl h)))
      have k := hu { s with nx := s.nx + 1 } hs1
      generalize u { s with nx := s.nx + 1 } = r at *
      obtain ⟨k1, k2, k3, k4, k5⟩ := k
      simp only at k1 k2 k3 k4 k5
      split
      · exact ⟨k1, by omega, k4, by omega⟩
      · rename_i h0
        have k6 := k3 (Classical.not_not.1 h0)
        obtain ⟨i1, i2, i3, i4⟩ := ih { r.2 with ops := r.2.ops ++ [(if knd es s.nx = 38 then 1 else 3, [])] } k1
        simp only [List.length_append, List.length_singleton] at i2 i3 i4
        refine ⟨i1, by omega, by omega, by omega⟩
    · exact ⟨hs, Nat.le_refl _, .inr (Nat.le_refl _), Nat.le_refl _⟩

theorem clauseP_keeps {es : List El} (hE : Ended es) {u : PS → Int × PS} (hu : Keeps es u) (G : Nat) : Keeps es (clauseP u es G) := by
  intro s hs
  have k := hu s hs
  unfold clauseP
  generalize u s = r at *
  split
  · exact k
  · rename_i h0
    have h00 := Classical.not_not.1 h0
    obtain ⟨k1, k2, k3, k4, k5⟩ := k
    have k6 := k3 h00
    obtain ⟨i1, i2, i3, i4⟩ := clauseLoop_keeps hE hu G r.2 k1
    exact ⟨i1, by omega, fun _ => ⟨by omega, by omega⟩, by omega, by omega⟩

theorem queryLoop_keeps {es : List El} (hE : Ended es) {u : PS → Int × PS} (hu : Keeps es u) (G : Nat) : ∀ (g : Nat) (s : PS), s.nx < es.length →
    (queryLoop u es G g s).2.nx < es.length ∧ s.nx ≤ (queryLoop u es G g s).2.nx ∧ ((queryLoop u es G g s).2.wd ≤ 16 ∨ (queryLoop u es G g s).2.wd ≤ s.wd) ∧ (queryLoop u es G g s).2.ops.length + 2 * s.nx ≤ s.ops.length + 2 * (queryLoop u es G g s).2.nx := by
  intro g
  induction g with
  | zero => intro s hs; exact ⟨hs, Nat.le_refl _, .inr (Nat.le_refl _), Nat.le_refl _⟩
  | succ g ih =>
    intro s hs
    simp only [queryLoop]
    split
    · rename_i hk
      have hs1 := hE s.nx hs (.inr (.inr (.inr (.inr (.inr hk)))))
      have k := clauseP_keeps hE hu G { s with nx := s.nx + 1 } hs1
      generalize clauseP u es G { s with nx := s.nx + 1 } = r at *
      obtain ⟨k1, k2, k3, k4, k5⟩ := k
      simp only at k1 k2 k3 k4 k5
      split
      · exact ⟨k1, by omega, k4, by omega⟩
      · rename_i h0
        have k6 := k3 (Classical.not_not.1 h0)
        obtain ⟨i1, i2, i3, i4⟩ := ih { r.2 with ops := r.2.ops ++ [(2, [])] } k1
        simp only [List.length_append, List.length_singleton] at i2 i3 i4
        refine ⟨i1, by omega, by omega, by omega⟩
    · exact ⟨hs, Nat.le_refl _, .inr (Nat.le_refl _), Nat.le_refl _⟩

theorem queryP_keeps {es : List El} (hE : Ended es) {u : PS → Int × PS} (hu : Keeps es u) (G : Nat) : Keeps es (queryP u es G) := by
  intro s hs
  have k := clauseP_keeps hE hu G s hs
  unfold queryP
  generalize clauseP u es G s = r at *
  split
  · exact k
  · rename_i h0
    obtain ⟨k1, k2, k3, k4, k5⟩ := k
    have k6 := k3 (Classical.not_not.1 h0)
    obtain ⟨i1, i2, i3, i4⟩ := queryLoop_keeps hE hu G G r.2 k1
    exact ⟨i1, by omega, fun _ => ⟨by omega, by omega⟩, by omega, by omega⟩

theorem wordP_kept {es : List El} (hE : Ended es) (s : PS) (hs : s.nx < es.length) (hk : knd es s.nx = -1) : Kept es s (wordP es s) := by
  unfold wordP
  split
  · exact ⟨hs, Nat.le_refl _, fun h => by simp at h, .inr (Nat.le_refl _), Nat.le_refl _⟩
  · exact ⟨hE _ hs (.inl hk), by simp only; omega, fun _ => ⟨by simp only; omega, by simp; omega⟩, by simp only; omega, by simp; omega⟩

theorem otherP_kept {es : List El} (s : PS) (hs : s.nx < es.length) : Kept es s (otherP es s) := by
  unfold otherP
  split <;> exact ⟨hs, Nat.le_refl _, fun h => by simp at h, .inr (Nat.le_refl _), Nat.le_refl _⟩

theorem unitP_keeps {es : List El} (hE : Ended es) (G : Nat) : ∀ k, Keeps es (unitP es G k) := by
  intro k
  induction k with
  | zero =>
    intro s hs
    simp only [unitP]
    split
    · rename_i h; exact wordP_kept hE s hs h
    · split
      · exact ⟨hs, Nat.le_refl _, fun h => by simp at h, .inr (Nat.le_refl _), Nat.le_refl _⟩
      · exact otherP_kept s hs
  | succ k ih =>
    intro s hs
    simp only [unitP]
    split
    · rename_i h; exact wordP_kept hE s hs h
    · split
      · rename_i h40
        have hs1 := hE s.nx hs (.inr (.inr (.inr (.inl h40))))
        have k := queryP_keeps hE ih G { s with nx := s.nx + 1 } hs1
        generalize queryP (unitP es G _) es G { s with nx := s.nx + 1 } = r at *
        obtain ⟨k1, k2, k3, k4, k5⟩ := k
        simp only at k1 k2 k3 k4 k5
        unfold bracketP
        split
        · rename_i h0; exact ⟨k1, by omega, fun h => absurd h h0, k4, by omega⟩
        · rename_i h0
          have k6 := k3 (Classical.not_not.1 h0)
          split
          · exact ⟨k1, by simp only; omega, fun h => by simp at h, k4, by simp only; omega⟩
          · rename_i h41
            have hs2 := hE r.2.nx k1 (.inr (.inr (.inr (.inr (.inl (Classical.not_not.1 h41))))))
            exact ⟨hs2, by simp only; omega, fun _ => ⟨by simp only; omega, by simp only; omega⟩, k4, by simp only; omega⟩
      · exact otherP_kept s hs
end Go.Proofs.YtjbmihgfneamlaaDoor
