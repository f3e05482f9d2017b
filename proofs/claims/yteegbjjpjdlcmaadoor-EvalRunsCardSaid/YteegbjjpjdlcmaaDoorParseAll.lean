/- Peek, ParseDefs, Unit, Clause, Query, Units, Parse: in one text. -/
import Derived.Test.YteegbjjpjdlcmaaDoorElements
/- (*query.parser).peek. -/
set_option linter.unusedVariables false
namespace Go.Proofs.YteegbjjpjdlcmaaDoor
open Go.RowKit

theorem elcells_from (xs : List El) (k : Nat) (h : k < xs.length) : (elcells xs)[k * 3]? = some (.int .i64 xs[k].kind) ∧ (elcells xs)[k * 3 + 1]? = some (.int .i64 xs[k].pos) ∧ (elcells xs)[k * 3 + 2]? = some (.string (bstr xs[k].term)) := by
  induction xs generalizing k with
  | nil => simp at h
  | cons x xs ih =>
    cases k with
    | zero => simp [elcells]
    | succ k =>
      have := ih k (by simpa using h)
      simp only [List.getElem_cons_succ]
      rw [← this.1, ← this.2.1, ← this.2.2]
      simp only [elcells, List.flatMap_cons]
      refine ⟨?_, ?_, ?_⟩
      · rw [show (k + 1) * 3 = k * 3 + 3 from by omega]; simp
      · rw [show (k + 1) * 3 + 1 = (k * 3 + 1) + 3 from by omega]; simp
      · rw [show (k + 1) * 3 + 2 = (k * 3 + 2) + 3 from by omega]; simp

/-- the parser in memory: its four fields. -/
def PM (w : World) (B : Nat) (ev : Value) (nx wd : Int) (ov : Value) : Prop := w.heap[B]? = some (.cells #[ev, .int .i64 nx, .int .i64 wd, ov] 98 (0, 0))

theorem PM.cells {w : World} {B : Nat} {ev ov : Value} {nx wd : Int} (h : PM w B ev nx wd ov) : w.cell? ⟨B, 0, none⟩ = some ev ∧ w.cell? ⟨B, 1, none⟩ = some (.int .i64 nx) ∧ w.cell? ⟨B, 2, none⟩ = some (.int .i64 wd) ∧ w.cell? ⟨B, 3, none⟩ = some ov := by
  unfold PM at h
  refine ⟨?_, ?_, ?_, ?_⟩ <;> (rw [cell_of_row w B _ _ _ (0, 0) h]; rfl)
theorem PM.free {w : World} {B : Nat} {ev ov : Value} {nx wd : Int} (h : PM w B ev nx wd ov) (j : Nat) : w.frozen? ⟨B, j, none⟩ = false := frozen_of_row w B j _ _ h

/-- the elements as they are read. -/
structure EV (w : World) (ev : Value) (es : List El) : Prop where
  rd : Rd w ev es.length 3 (elcells es)
  few : es.length ≤ 100000

set_option maxRecDepth 100000 in
set_option maxHeartbeats 1000000 in
theorem peek_any (B : Nat) (ev ov : Value) (es : List El) (nx : Nat) (wd : Int) (w : World) (h : PM w B ev nx wd ov) (hE : EV w ev es) (hnx : nx < es.length) :
    Calls Tryd.prog 61 #[.pointer (some ⟨B, 0, none⟩)] w fun e w' => e = .returned (.agg #[.int .i64 es[nx].kind, .int .i64 es[nx].pos, .string (bstr es[nx].term)]) ∧ Below w.heap.size w w' := by
  obtain ⟨c0, c1, c2, c3⟩ := h.cells
  have hfew := hE.few
  obtain ⟨-, hm, ⟨ao, c, rfl, h0⟩ | ⟨b, off, c, rfl, -, hnc, hcm, hcell⟩⟩ := hE.rd
  · omega
  have e1 := hcell _ _ (elcells_from es nx hnx).1
  have e2 := hcell _ _ (elcells_from es nx hnx).2.1
  have e3 := hcell _ _ (elcells_from es nx hnx).2.2
  rw [← Nat.add_assoc] at e2 e3
  have n0 := World.new_ne w _ c0
  have n1 := World.new_ne w _ e1
  have i1 : (0 : Int) ≤ (nx : Int) := by omega
  have i2 : (nx : Int) < (es.length : Int) := by omega
  obtain ⟨⟨kk, pp, tt⟩, hx⟩ : ∃ x, x = es[nx] := ⟨_, rfl⟩
  rw [← hx] at e1 e2 e3 ⊢
  simp only at e1 e2 e3 n0 n1 ⊢
  clear hx hcell h hE
  go_enter Tryd.func61, Tryd.ntmps61
  go_wp2_with fail
  have hb0 : Below w.heap.size w (w.alloc (.cells #[.int .i64 0, .int .i64 0, .string { data := #[] }] 101)) := (Below.refl _ _).alloc (Nat.le_refl _) _
  have hnew : (w.alloc (.cells #[.int .i64 0, .int .i64 0, .string { data := #[] }] 101)).heap[w.heap.size]? = some (.cells #[.int .i64 0, .int .i64 0, .string { data := #[] }] 101 (0, 0)) := heap_alloc_new w _
  generalize w.alloc (.cells #[.int .i64 0, .int .i64 0, .string { data := #[] }] 101) = W at *
  have d0 := cell_later hb0 c0
  have d1 := cell_later hb0 c1
  have d2 := cell_later hb0 e1
  have d3 := cell_later hb0 e2
  have d4 := cell_later hb0 e3
  have q0 : W.cell? ⟨w.heap.size, 0, none⟩ = some (.int .i64 0) := by rw [cell_of_row W _ _ _ _ (0, 0) hnew]; rfl
  have q1 : W.cell? ⟨w.heap.size, 1, none⟩ = some (.int .i64 0) := by rw [cell_of_row W _ _ _ _ (0, 0) hnew]; rfl
  have q2 : W.cell? ⟨w.heap.size, 2, none⟩ = some (.string { data := #[] }) := by rw [cell_of_row W _ _ _ _ (0, 0) hnew]; rfl
  have g0 : W.frozen? ⟨w.heap.size, 0, none⟩ = false := frozen_of_row W _ _ _ _ hnew
  have g1 : W.frozen? ⟨w.heap.size, 1, none⟩ = false := frozen_of_row W _ _ _ _ hnew
  have g2 : W.frozen? ⟨w.heap.size, 2, none⟩ = false := frozen_of_row W _ _ _ _ hnew
  clear c0 c1 c2 c3 e1 e2 e3
  go_region_held3 (fun w' => w'.cell? ⟨B, 0, none⟩ = some (.slice (some ⟨b, off, none⟩) es.length c) ∧ w'.cell? ⟨B, 1, none⟩ = some (.int .i64 nx) ∧ w'.cell? ⟨b, off + nx * 3, none⟩ = some (.int .i64 kk) ∧ w'.cell? ⟨b, off + nx * 3 + 1, none⟩ = some (.int .i64 pp) ∧ w'.cell? ⟨b, off + nx * 3 + 2, none⟩ = some (.string (bstr tt)))
    (first | exact ⟨d0, d1, d2, d3, d4⟩ | go_keep)
    (fail)
  go_wp2_with fail
  have h1 := heap_setCell_same W w.heap.size 0 _ _ (.int .i64 kk) hnew
  have h2 := heap_setCell_same _ w.heap.size 1 _ _ (.int .i64 pp) h1
  have h3 := heap_setCell_same _ w.heap.size 2 _ _ (.string (bstr tt)) h2
  have hbf : Below w.heap.size w (((W.setCell ⟨w.heap.size, 0, none⟩ (.int .i64 kk)).setCell ⟨w.heap.size, 1, none⟩ (.int .i64 pp)).setCell ⟨w.heap.size, 2, none⟩ (.string (bstr tt))).drew := (((hb0.setCell (Nat.le_refl _) _).setCell (Nat.le_refl _) _).setCell (Nat.le_refl _) _).drew
  exact bodyPost_ret (v := .agg #[.int .i64 kk, .int .i64 pp, .string (bstr tt)]) (results_cell_row (p := 2) (ty := 101) rfl _ _ w.heap.size 101 _ (0, 0) _ rfl h3 Tryd.underlying101 rfl (by kernel_rfl)) rfl ⟨rfl, hbf⟩
end Go.Proofs.YteegbjjpjdlcmaaDoor

/- The parser as plain functions. No function of the program is entered here. -/
set_option linter.unusedVariables false
namespace Go.Proofs.YteegbjjpjdlcmaaDoor

/-- what the parser holds: the next element, the words so far, the steps so far. -/
structure PS where
  nx : Nat
  wd : Nat
  ops : List QOp

def knd (es : List El) (n : Nat) : Int := match es[n]? with | some e => e.kind | none => -2
def trm (es : List El) (n : Nat) : List UInt8 := match es[n]? with | some e => e.term | none => []
def posAt (es : List El) (n : Nat) : Int := match es[n]? with | some e => e.pos | none => 0

def clauseLoop (u : PS → Int × PS) (es : List El) : Nat → PS → Int × PS
  | 0, s => (0, s)
  | g + 1, s =>
    if knd es s.nx = 38 ∨ knd es s.nx = 33 then
      if (u { s with nx := s.nx + 1 }).1 ≠ 0 then u { s with nx := s.nx + 1 }
      else clauseLoop u es g { (u { s with nx := s.nx + 1 }).2 with ops := (u { s with nx := s.nx + 1 }).2.ops ++ [(if knd es s.nx = 38 then 1 else 3, [])] }
    else (0, s)
def clauseP (u : PS → Int × PS) (es : List El) (G : Nat) (s : PS) : Int × PS := if (u s).1 ≠ 0 then u s else clauseLoop u es G (u s).2
def queryLoop (u : PS → Int × PS) (es : List El) (G : Nat) : Nat → PS → Int × PS
  | 0, s => (0, s)
  | g + 1, s =>
    if knd es s.nx = 124 then
      if (clauseP u es G { s with nx := s.nx + 1 }).1 ≠ 0 then clauseP u es G { s with nx := s.nx + 1 }
      else queryLoop u es G g { (clauseP u es G { s with nx := s.nx + 1 }).2 with ops := (clauseP u es G { s with nx := s.nx + 1 }).2.ops ++ [(2, [])] }
    else (0, s)
def queryP (u : PS → Int × PS) (es : List El) (G : Nat) (s : PS) : Int × PS := if (clauseP u es G s).1 ≠ 0 then clauseP u es G s else queryLoop u es G G (clauseP u es G s).2
def bracketP (es : List El) (r : Int × PS) : Int × PS := if r.1 ≠ 0 then r else if knd es r.2.nx ≠ 41 then (2, r.2) else (0, { r.2 with nx := r.2.nx + 1 })
def wordP (es : List El) (s : PS) : Int × PS := if 16 ≤ s.wd then (8, s) else (0, ⟨s.nx + 1, s.wd + 1, s.ops ++ [(0, trm es s.nx)]⟩)
def otherP (es : List El) (s : PS) : Int × PS := if knd es s.nx = 33 then (9, s) else (2, s)
/-- a unit, so many more brackets being let. -/
def unitP (es : List El) (G : Nat) : Nat → PS → Int × PS
  | 0, s => if knd es s.nx = -1 then wordP es s else if knd es s.nx = 40 then (8, s) else otherP es s
  | k + 1, s => if knd es s.nx = -1 then wordP es s else if knd es s.nx = 40 then bracketP es (queryP (unitP es G k) es G { s with nx := s.nx + 1 }) else otherP es s

/-- elements: the last one is the end, or none of a text. -/
def Ended (es : List El) : Prop := ∀ i, i < es.length → (knd es i = -1 ∨ knd es i = 38 ∨ knd es i = 33 ∨ knd es i = 40 ∨ knd es i = 41 ∨ knd es i = 124) → i + 1 < es.length

/-- what is kept by each part of the parser. -/
structure Kept (es : List El) (s : PS) (r : Int × PS) : Prop where
  lt : r.2.nx < es.length
  le : s.nx ≤ r.2.nx
  ok : r.1 = 0 → s.nx < r.2.nx ∧ r.2.ops.length + 2 * s.nx + 1 ≤ s.ops.length + 2 * r.2.nx
  wd : r.2.wd ≤ 16 ∨ r.2.wd ≤ s.wd
  few : r.2.ops.length + 2 * s.nx ≤ s.ops.length + 2 * r.2.nx

def Keeps (es : List El) (u : PS → Int × PS) : Prop := ∀ s, s.nx < es.length → Kept es s (u s)

theorem clauseLoop_keeps {es : List El} (hE : Ended es) {u : PS → Int × PS} (hu : Keeps es u) : ∀ (g : Nat) (s : PS), s.nx < es.length →
    (clauseLoop u es g s).2.nx < es.length ∧ s.nx ≤ (clauseLoop u es g s).2.nx ∧ ((clauseLoop u es g s).2.wd ≤ 16 ∨ (clauseLoop u es g s).2.wd ≤ s.wd) ∧ (clauseLoop u es g s).2.ops.length + 2 * s.nx ≤ s.ops.length + 2 * (clauseLoop u es g s).2.nx := by
  intro g
  induction g with
  | zero => intro s hs; exact ⟨hs, Nat.le_refl _, .inr (Nat.le_refl _), Nat.le_refl _⟩
  | succ g ih =>
    intro s hs
    simp only [clauseLoop]
    split
    · rename_i hk
      have hs1 := hE s.nx hs (by rcases hk with h | h; exact .inr (.inl h); exact .inr (.inr (.inl h)))
      have k := hu { s with nx := s.nx + 1 } hs1
      generalize u { s with nx := s.nx + 1 } = r at *
      obtain ⟨k1, k2, k3, k4, k5⟩ := k
      simp only at k1 k2 k3 k4 k5
      split
      · exact ⟨k1, by omega, k4, by omega⟩
      · rename_i h0
        have k6 := k3 (Classical.not_not.1 h0)
        obtain ⟨i1, i2, i3, i4⟩ := ih { r.2 with ops := r.2.ops ++ [(if knd es s.nx = 38 then 1 else 3, [])] } k1
        simp only [List.length_append, List.length_singleton] at i2 i3 i4
        refine ⟨i1, by omega, by omega, by omega⟩
    · exact ⟨hs, Nat.le_refl _, .inr (Nat.le_refl _), Nat.le_refl _⟩

theorem clauseP_keeps {es : List El} (hE : Ended es) {u : PS → Int × PS} (hu : Keeps es u) (G : Nat) : Keeps es (clauseP u es G) := by
  intro s hs
  have k := hu s hs
  unfold clauseP
  generalize u s = r at *
  split
  · exact k
  · rename_i h0
    have h00 := Classical.not_not.1 h0
    obtain ⟨k1, k2, k3, k4, k5⟩ := k
    have k6 := k3 h00
    obtain ⟨i1, i2, i3, i4⟩ := clauseLoop_keeps hE hu G r.2 k1
    exact ⟨i1, by omega, fun _ => ⟨by omega, by omega⟩, by omega, by omega⟩

theorem queryLoop_keeps {es : List El} (hE : Ended es) {u : PS → Int × PS} (hu : Keeps es u) (G : Nat) : ∀ (g : Nat) (s : PS), s.nx < es.length →
    (queryLoop u es G g s).2.nx < es.length ∧ s.nx ≤ (queryLoop u es G g s).2.nx ∧ ((queryLoop u es G g s).2.wd ≤ 16 ∨ (queryLoop u es G g s).2.wd ≤ s.wd) ∧ (queryLoop u es G g s).2.ops.length + 2 * s.nx ≤ s.ops.length + 2 * (queryLoop u es G g s).2.nx := by
  intro g
  induction g with
  | zero => intro s hs; exact ⟨hs, Nat.le_refl _, .inr (Nat.le_refl _), Nat.le_refl _⟩
  | succ g ih =>
    intro s hs
    simp only [queryLoop]
    split
    · rename_i hk
      have hs1 := hE s.nx hs (.inr (.inr (.inr (.inr (.inr hk)))))
      have k := clauseP_keeps hE hu G { s with nx := s.nx + 1 } hs1
      generalize clauseP u es G { s with nx := s.nx + 1 } = r at *
      obtain ⟨k1, k2, k3, k4, k5⟩ := k
      simp only at k1 k2 k3 k4 k5
      split
      · exact ⟨k1, by omega, k4, by omega⟩
      · rename_i h0
        have k6 := k3 (Classical.not_not.1 h0)
        obtain ⟨i1, i2, i3, i4⟩ := ih { r.2 with ops := r.2.ops ++ [(2, [])] } k1
        simp only [List.length_append, List.length_singleton] at i2 i3 i4
        refine ⟨i1, by omega, by omega, by omega⟩
    · exact ⟨hs, Nat.le_refl _, .inr (Nat.le_refl _), Nat.le_refl _⟩

theorem queryP_keeps {es : List El} (hE : Ended es) {u : PS → Int × PS} (hu : Keeps es u) (G : Nat) : Keeps es (queryP u es G) := by
  intro s hs
  have k := clauseP_keeps hE hu G s hs
  unfold queryP
  generalize clauseP u es G s = r at *
  split
  · exact k
  · rename_i h0
    obtain ⟨k1, k2, k3, k4, k5⟩ := k
    have k6 := k3 (Classical.not_not.1 h0)
    obtain ⟨i1, i2, i3, i4⟩ := queryLoop_keeps hE hu G G r.2 k1
    exact ⟨i1, by omega, fun _ => ⟨by omega, by omega⟩, by omega, by omega⟩

theorem wordP_kept {es : List El} (hE : Ended es) (s : PS) (hs : s.nx < es.length) (hk : knd es s.nx = -1) : Kept es s (wordP es s) := by
  unfold wordP
  split
  · exact ⟨hs, Nat.le_refl _, fun h => by simp at h, .inr (Nat.le_refl _), Nat.le_refl _⟩
  · exact ⟨hE _ hs (.inl hk), by simp only; omega, fun _ => ⟨by simp only; omega, by simp; omega⟩, by simp only; omega, by simp; omega⟩

theorem otherP_kept {es : List El} (s : PS) (hs : s.nx < es.length) : Kept es s (otherP es s) := by
  unfold otherP
  split <;> exact ⟨hs, Nat.le_refl _, fun h => by simp at h, .inr (Nat.le_refl _), Nat.le_refl _⟩

theorem unitP_keeps {es : List El} (hE : Ended es) (G : Nat) : ∀ k, Keeps es (unitP es G k) := by
  intro k
  induction k with
  | zero =>
    intro s hs
    simp only [unitP]
    split
    · rename_i h; exact wordP_kept hE s hs h
    · split
      · exact ⟨hs, Nat.le_refl _, fun h => by simp at h, .inr (Nat.le_refl _), Nat.le_refl _⟩
      · exact otherP_kept s hs
  | succ k ih =>
    intro s hs
    simp only [unitP]
    split
    · rename_i h; exact wordP_kept hE s hs h
    · split
      · rename_i h40
        have hs1 := hE s.nx hs (.inr (.inr (.inr (.inl h40))))
        have k := queryP_keeps hE ih G { s with nx := s.nx + 1 } hs1
        generalize queryP (unitP es G _) es G { s with nx := s.nx + 1 } = r at *
        obtain ⟨k1, k2, k3, k4, k5⟩ := k
        simp only at k1 k2 k3 k4 k5
        unfold bracketP
        split
        · rename_i h0; exact ⟨k1, by omega, fun h => absurd h h0, k4, by omega⟩
        · rename_i h0
          have k6 := k3 (Classical.not_not.1 h0)
          split
          · exact ⟨k1, by simp only; omega, fun h => by simp at h, k4, by simp only; omega⟩
          · rename_i h41
            have hs2 := hE r.2.nx k1 (.inr (.inr (.inr (.inr (.inl (Classical.not_not.1 h41))))))
            exact ⟨hs2, by simp only; omega, fun _ => ⟨by simp only; omega, by simp only; omega⟩, k4, by simp only; omega⟩
      · exact otherP_kept s hs
end Go.Proofs.YteegbjjpjdlcmaaDoor

/- (*query.parser).unit, clause, query: the walks. -/
set_option linter.unusedVariables false
namespace Go.Proofs.YteegbjjpjdlcmaaDoor
open Go.RowKit

theorem infoOp : (Tryd.prog.info? 55).map (fun i => (i.zero, i.size, i.bytes)) = some (some (.agg #[.int .i64 0, .string ByteArray.empty]), 2, 24) := by kernel_rfl

/-- nothing has changed but the parser itself, and rows of steps. -/
structure PChg (b0 B : Nat) (w w' : World) : Prop where
  os : w'.os = w.os
  tape : w'.tape = w.tape
  output : w'.output = w.output
  size : w.heap.size ≤ w'.heap.size
  low : ∀ k, k < b0 → w'.heap[k]? = w.heap[k]?
  high : ∀ k o, k ≠ B → w.heap[k]? = some o → (∀ cs fr, o ≠ .cells cs 55 fr) → w'.heap[k]? = some o

theorem PChg.refl (b0 B : Nat) (w : World) : PChg b0 B w w := ⟨rfl, rfl, rfl, Nat.le_refl _, fun _ _ => rfl, fun _ _ _ h _ => h⟩
theorem PChg.trans {b0 B : Nat} {a b c : World} (h : PChg b0 B a b) (k : PChg b0 B b c) : PChg b0 B a c :=
  ⟨k.os.trans h.os, k.tape.trans h.tape, k.output.trans h.output, Nat.le_trans h.size k.size, fun i hi => (k.low i hi).trans (h.low i hi), fun i o hi ho hn => k.high i o hi (h.high i o hi ho hn) hn⟩
theorem PChg.of_below {b0 B : Nat} {w w' : World} (h : Below w.heap.size w w') (hB : b0 ≤ w.heap.size) : PChg b0 B w w' :=
  ⟨h.os, h.tape, h.output, h.size, fun k hk => h.block k (by omega), fun k o _ ho _ => by rw [h.block k (lt_of_block ho)]; exact ho⟩
theorem PChg.below {b0 B : Nat} {w w' : World} (h : PChg b0 B w w') : Below b0 w w' := ⟨h.os, h.tape, h.output, h.size, h.low⟩
theorem PChg.set {b0 B : Nat} (w : World) (j : Nat) (u : Value) (h1 : b0 ≤ B) : PChg b0 B w (w.setCell ⟨B, j, none⟩ u) :=
  ⟨rfl, rfl, rfl, by simp [World.setCell], fun k hk => Below.heap_setCell _ _ _ _ (by simp only; omega), fun k o hk ho _ => by rw [Below.heap_setCell _ _ _ _ (by simp only; omega)]; exact ho⟩
theorem PChg.grown {b0 B : Nat} {w w' : World} {v : Value} {n : Nat} {xs : List Value} (hown : w.ownsRow b0 55 2 v n xs) (h : w.grownBy w' v.ownBlock) (hB : b0 ≤ w.heap.size) : PChg b0 B w w' := by
  refine ⟨h.os, h.tape, h.output, h.size, fun k hk => ?_, fun k o hk ho hn => ?_⟩
  · refine h.block k (by omega) (fun e => ?_)
    have := (hown.lt k e.symm).1; omega
  · rw [h.block k (lt_of_block ho) (fun e => ?_)]
    · exact ho
    · rcases hown.2 with ⟨rfl, _⟩ | ⟨g, cap, cur, rfl, _, hg, _⟩
      · simp [Value.ownBlock] at e
      · simp only [Value.ownBlock, Option.some.injEq] at e
        subst e
        rw [hg] at ho
        exact hn cur (0, 0) (Option.some.inj ho).symm

/-- a row of another type than steps and the parser is as it was. -/
theorem PChg.own {b0 B base : Nat} {w w' : World} {e : TypeId} {sz : Nat} {v : Value} {n : Nat} {xs : List Value} {ps : Array Value} (h : PChg b0 B w w') (hp : w.heap[B]? = some (.cells ps 98 (0, 0))) (hown : w.ownsRow base e sz v n xs) (h1 : e ≠ 55) (h2 : e ≠ 98) : w'.ownsRow base e sz v n xs := by
  obtain ⟨hl, hh⟩ := hown
  refine ⟨hl, ?_⟩
  rcases hh with h' | ⟨g, cap, cur, hv, hbg, hg, hr⟩
  · exact .inl h'
  · refine .inr ⟨g, cap, cur, hv, hbg, h.high g _ ?_ hg ?_, hr⟩
    · intro e'
      subst e'
      rw [hg] at hp
      simp only [Option.some.injEq, Obj.cells.injEq] at hp
      exact h2 hp.2.1
    · intro cs fr e'
      simp only [Obj.cells.injEq] at e'
      exact h1 e'.2.1

/-- the parser's state, in memory. -/
structure PSt (b0 B : Nat) (es : List El) (ev : Value) (w : World) (s : PS) (ov : Value) : Prop where
  pm : PM w B ev s.nx s.wd ov
  own : w.ownsRow b0 55 2 ov s.ops.length (ocells s.ops)
  el : w.ownsRow b0 101 3 ev es.length (elcells es)
  le : b0 ≤ B

theorem PSt.below {b0 B : Nat} {es : List El} {ev ov : Value} {w w' : World} {s : PS} (h : PSt b0 B es ev w s ov) (hb : Below w.heap.size w w') : PSt b0 B es ev w' s ov :=
  ⟨by have := h.pm; unfold PM at this ⊢; rw [hb.block _ (lt_of_block this)]; exact this, own_below' h.own hb, own_below' h.el hb, h.le⟩

theorem PSt.size {b0 B : Nat} {es : List El} {ev ov : Value} {w : World} {s : PS} (h : PSt b0 B es ev w s ov) : b0 ≤ w.heap.size ∧ B < w.heap.size := by
  have := lt_of_block h.pm; have := h.le; omega

theorem own_at_ne {w : World} {base B : Nat} {e t : TypeId} {sz : Nat} {v : Value} {n : Nat} {xs : List Value} {ps : Array Value} {fr : Nat × Nat} (hp : w.heap[B]? = some (.cells ps t fr)) (hown : w.ownsRow base e sz v n xs) (h : e ≠ t) : v.ownBlock ≠ some B := by
  intro e'
  rcases hown.2 with ⟨rfl, _⟩ | ⟨g, cap, cur, rfl, _, hg, _⟩
  · simp [Value.ownBlock] at e'
  · simp only [Value.ownBlock, Option.some.injEq] at e'
    subst e'
    rw [hg] at hp
    simp only [Option.some.injEq, Obj.cells.injEq] at hp
    exact h hp.2.1

theorem pm_ne {w : World} {base B : Nat} {e : TypeId} {sz : Nat} {v ev ov : Value} {nx wd : Int} {n : Nat} {xs : List Value} (hp : PM w B ev nx wd ov) (hown : w.ownsRow base e sz v n xs) (h : e ≠ 98) : v.ownBlock ≠ some B := by
  unfold PM at hp
  exact own_at_ne hp hown h

/-- the next element is raised. -/
theorem PSt.setNx {b0 B : Nat} {es : List El} {ev ov : Value} {w : World} {s : PS} (h : PSt b0 B es ev w s ov) (n : Nat) : PSt b0 B es ev (w.setCell ⟨B, 1, none⟩ (.int .i64 n)) { s with nx := n } ov :=
  ⟨heap_setCell_same w B 1 _ _ _ h.pm, ownsRow_setCell_other h.own (a := ⟨B, 1, none⟩) (pm_ne h.pm h.own (by decide)) _, ownsRow_setCell_other h.el (a := ⟨B, 1, none⟩) (pm_ne h.pm h.el (by decide)) _, h.le⟩
theorem PSt.setWd {b0 B : Nat} {es : List El} {ev ov : Value} {w : World} {s : PS} (h : PSt b0 B es ev w s ov) (n : Nat) : PSt b0 B es ev (w.setCell ⟨B, 2, none⟩ (.int .i64 n)) { s with wd := n } ov :=
  ⟨heap_setCell_same w B 2 _ _ _ h.pm, ownsRow_setCell_other h.own (a := ⟨B, 2, none⟩) (pm_ne h.pm h.own (by decide)) _, ownsRow_setCell_other h.el (a := ⟨B, 2, none⟩) (pm_ne h.pm h.el (by decide)) _, h.le⟩

/-- steps are appended: the row has grown, and then the field is set. -/
theorem PSt.grownOps {b0 B : Nat} {es : List El} {ev ov ov' : Value} {w w' : World} {s : PS} {op : QOp} (h : PSt b0 B es ev w s ov) (hown : w'.ownsRow b0 55 2 ov' (s.ops.length + 1) (ocells s.ops ++ ocells [op])) (hg : w.grownBy w' ov.ownBlock) :
    PM w' B ev s.nx s.wd ov ∧ PSt b0 B es ev (w'.setCell ⟨B, 3, none⟩ ov') { s with ops := s.ops ++ [op] } ov' := by
  have hc : PChg b0 (B + 1 + w.heap.size) w w' := PChg.grown h.own hg (by have := h.size; omega)
  have hpm : w'.heap[B]? = some (.cells #[ev, .int .i64 s.nx, .int .i64 s.wd, ov] 98 (0, 0)) := hc.high B _ (by omega) h.pm (by intro cs fr e; simp only [Obj.cells.injEq] at e; exact absurd e.2.1 (by decide))
  have hel : w'.ownsRow b0 101 3 ev es.length (elcells es) := by
    obtain ⟨hl, hh⟩ := h.el
    refine ⟨hl, ?_⟩
    rcases hh with h' | ⟨g, cap, cur, hv, hbg, hg', hr⟩
    · exact .inl h'
    · exact .inr ⟨g, cap, cur, hv, hbg, hc.high g _ (by have := lt_of_block hg'; omega) hg' (by intro cs fr e; simp only [Obj.cells.injEq] at e; exact absurd e.2.1 (by decide)), hr⟩
  refine ⟨hpm, heap_setCell_same w' B 3 _ _ _ hpm, ?_, ownsRow_setCell_other hel (a := ⟨B, 3, none⟩) (own_at_ne hpm hel (by decide)) _, h.le⟩
  have := ownsRow_setCell_other hown (a := ⟨B, 3, none⟩) (own_at_ne hpm hown (by decide)) ov'
  simp only [List.length_append, ocells_append]
  exact this

def Ret (b0 B : Nat) (es : List El) (ev : Value) (r : Int × PS) (w : World) (e : Ending) (w' : World) : Prop :=
  e = .returned (.int .i64 r.1) ∧ ∃ ov', PSt b0 B es ev w' r.2 ov' ∧ PChg b0 B w w'

def PartOK (f : FuncId) (es : List El) (d : Nat) (u : PS → Int × PS) : Prop :=
  ∀ (b0 B : Nat) (ev ov : Value) (s : PS) (w : World), PSt b0 B es ev w s ov → s.nx < es.length → s.ops.length ≤ 2 * s.nx → s.wd ≤ 16 → Calls Tryd.prog f #[.pointer (some ⟨B, 0, none⟩), .int .i64 d] w (Ret b0 B es ev (u s) w)

theorem peek_st {b0 B : Nat} {es : List El} {ev ov : Value} {w : World} {s : PS} (h : PSt b0 B es ev w s ov) (hf : es.length ≤ 20000) (hs : s.nx < es.length) :
    Calls Tryd.prog 61 #[.pointer (some ⟨B, 0, none⟩)] w fun e w' => e = .returned (.agg #[.int .i64 (knd es s.nx), .int .i64 (posAt es s.nx), .string (bstr (trm es s.nx))]) ∧ Below w.heap.size w w' := by
  have := peek_any B ev ov es s.nx s.wd w h.pm ⟨Rd.of_own h.el, by omega⟩ hs
  unfold knd posAt trm
  rw [List.getElem?_eq_getElem hs]
  exact this

set_option maxRecDepth 100000 in
set_option maxHeartbeats 2000000 in
theorem unit_word (es : List El) (hf : es.length ≤ 20000) (d : Nat) (hd : d ≤ 8) (b0 B : Nat) (ev ov : Value) (s : PS) (w : World) (h : PSt b0 B es ev w s ov) (hs : s.nx < es.length) (ho : s.ops.length ≤ 2 * s.nx) (hw : s.wd ≤ 16) (hk : knd es s.nx = -1) :
    Calls Tryd.prog 118 #[.pointer (some ⟨B, 0, none⟩), .int .i64 d] w (Ret b0 B es ev (wordP es s) w) := by
  obtain ⟨i0, hi, hz0, hz1, hz2⟩ := info_parts infoOp
  have hp := peek_st h hf hs
  rw [hk] at hp
  have HP := Lib.hid hp
  clear hp
  by_cases h16 : 16 ≤ s.wd
  · have h16i : (16 : Int) ≤ (s.wd : Int) := by omega
    go_enter Tryd.func118, Tryd.ntmps118
    go_wp2_with (go_at_call 61; refine HP.out.mono ?_; rintro e w1 ⟨rfl, hb1⟩; have h1 := h.below (hb1.alloc hb1.size (.cells #[.int .i64 (-1), .int .i64 (posAt es s.nx), .string (bstr (trm es s.nx))] 101)); obtain ⟨c0, c1, c2, c3⟩ := h1.pm.cells)
    go_ret
    unfold wordP
    rw [if_pos h16]
    exact ⟨rfl, _, h1, PChg.of_below (hb1.alloc hb1.size _) h.size.1⟩
  · go_enter Tryd.func118, Tryd.ntmps118
    go_wp2_with (go_at_call 61; refine HP.out.mono ?_; rintro e w1 ⟨rfl, hb1⟩; have h1 := h.below (hb1.alloc hb1.size (.cells #[.int .i64 (-1), .int .i64 (posAt es s.nx), .string (bstr (trm es s.nx))] 101)); obtain ⟨c0, c1, c2, c3⟩ := h1.pm.cells; have f2 := h1.pm.free 2; have f1 := h1.pm.free 1)
    have h3 := (h1.setWd (s.wd + 1)).setNx (s.nx + 1)
    rw [show ((s.wd + 1 : Nat) : Int) = (s.wd : Int) + 1 from by omega, show ((s.nx + 1 : Nat) : Int) = (s.nx : Int) + 1 from by omega] at h3
    have hc3 : PChg b0 B w (((w1.alloc (.cells #[.int .i64 (-1), .int .i64 (posAt es s.nx), .string (bstr (trm es s.nx))] 101)).setCell ⟨B, 2, none⟩ (.int .i64 ((s.wd : Int) + 1))).setCell ⟨B, 1, none⟩ (.int .i64 ((s.nx : Int) + 1))) :=
      (((PChg.of_below (hb1.alloc hb1.size _) h.size.1).trans (PChg.set _ 2 _ h.le)).trans (PChg.set _ 1 _ h.le))
    have hBne : B ≠ w1.heap.size := by have := h.size; have := hb1.size; omega
    have hblk : (((w1.alloc (.cells #[.int .i64 (-1), .int .i64 (posAt es s.nx), .string (bstr (trm es s.nx))] 101)).setCell ⟨B, 2, none⟩ (.int .i64 ((s.wd : Int) + 1))).setCell ⟨B, 1, none⟩ (.int .i64 ((s.nx : Int) + 1))).heap[w1.heap.size]? = some (.cells #[.int .i64 (-1), .int .i64 (posAt es s.nx), .string (bstr (trm es s.nx))] 101 (0, 0)) := by
      rw [Below.heap_setCell _ _ _ _ (by simp only; omega), Below.heap_setCell _ _ _ _ (by simp only; omega)]
      exact heap_alloc_new w1 _
    have k2 : (((w1.alloc (.cells #[.int .i64 (-1), .int .i64 (posAt es s.nx), .string (bstr (trm es s.nx))] 101)).setCell ⟨B, 2, none⟩ (.int .i64 ((s.wd : Int) + 1))).setCell ⟨B, 1, none⟩ (.int .i64 ((s.nx : Int) + 1))).cell? ⟨w1.heap.size, 2, none⟩ = some (.string (bstr (trm es s.nx))) := by
      rw [cell_of_row _ w1.heap.size 2 _ _ (0, 0) hblk]; rfl
    generalize (((w1.alloc (.cells #[.int .i64 (-1), .int .i64 (posAt es s.nx), .string (bstr (trm es s.nx))] 101)).setCell ⟨B, 2, none⟩ (.int .i64 ((s.wd : Int) + 1))).setCell ⟨B, 1, none⟩ (.int .i64 ((s.nx : Int) + 1))) = W3 at *
    obtain ⟨-, -, -, d3⟩ := h3.pm.cells
    have hS : ∀ w', Below W3.heap.size W3 w' → (fun w' : World => w'.cell? ⟨B, 3, none⟩ = some ov ∧ w'.cell? ⟨w1.heap.size, 2, none⟩ = some (.string (bstr (trm es s.nx)))) w' :=
      fun w' hb => ⟨cell_later hb d3, cell_later hb k2⟩
    have HS := Lib.hid hS; clear hS
    clear c0 c1 c2 c3 f1 f2 d3 k2
    refine L_begin (fun w' : World => w'.cell? ⟨B, 3, none⟩ = some ov ∧ w'.cell? ⟨w1.heap.size, 2, none⟩ = some (.string (bstr (trm es s.nx)))) 12 (by kernel_rfl) ?_
    refine L_free (fuel := 12) 0 (.pointer (some ⟨B, 0, none⟩)) rfl (by kernel_rfl) (by kernel_rfl) (by kernel_rfl) (by kernel_rfl) (fun _ _ _ h => h) (by rfl) ?_ (HS.out _ (Below.refl _ _).drew) ?_
    · intro W
      go_simp
    refine L_free (fuel := 11) 1 (.pointer (some ⟨B, 0, none⟩)) rfl (by kernel_rfl) (by kernel_rfl) (by kernel_rfl) (by kernel_rfl) (fun _ _ _ h => h) (by rfl) ?_ (HS.out _ (Below.refl _ _).drew) ?_
    · intro W
      go_simp
    refine L_free (fuel := 10) 2 (.pointer (some ⟨B, 0, none⟩)) rfl (by kernel_rfl) (by kernel_rfl) (by kernel_rfl) (by kernel_rfl) (fun _ _ _ h => h) (by rfl) ?_ (HS.out _ (Below.refl _ _).drew) ?_
    · intro W
      go_simp
    refine L_free (fuel := 9) 3 (.pointer (some ⟨B, 3, none⟩)) rfl (by kernel_rfl) (by kernel_rfl) (by kernel_rfl) (by kernel_rfl) (fun _ _ _ h => h) (by rfl) ?_ (HS.out _ (Below.refl _ _).drew) ?_
    · intro W
      go_simp
    refine L_take (fuel := 8) 4 (ov) rfl (by kernel_rfl) (by kernel_rfl) (by kernel_rfl) (by kernel_rfl) (fun _ _ _ h => h) (by rfl) ?_ (HS.out _ (Below.refl _ _).drew) ?_
    · rintro W ⟨s0, s1⟩
      go_simp
    refine L_free (fuel := 7) 5 (.pointer (some ⟨w1.heap.size, 2, none⟩)) rfl (by kernel_rfl) (by kernel_rfl) (by kernel_rfl) (by kernel_rfl) (fun _ _ _ h => h) (by rfl) ?_ (HS.out _ (Below.refl _ _).drew) ?_
    · intro W
      go_simp
    refine L_take (fuel := 6) 6 (.string (bstr (trm es s.nx))) rfl (by kernel_rfl) (by kernel_rfl) (by kernel_rfl) (by kernel_rfl) (fun _ _ _ h => h) (by rfl) ?_ (HS.out _ (Below.refl _ _).drew) ?_
    · rintro W ⟨s0, s1⟩
      go_simp
    refine L_one (fuel := 5) 7 (by kernel_rfl) rfl ?_
    intro K hK
    go_simp
    refine hK _ _ (HS.out _ (Below.refl _ _).drew) ?_
    clear hK K
    refine L_one (fuel := 4) 8 (by kernel_rfl) rfl ?_
    intro K hK
    go_simp
    refine hK _ _ (HS.out _ ((Below.refl _ _).drew.alloc (Nat.le_refl _) _)) ?_
    clear hK K
    have hb4 := (Below.refl W3.heap.size W3).drew.alloc (Nat.le_refl _) (.cells #[.int .i64 0, .string (bstr (trm es s.nx))] 55)
    have h4 := h3.below hb4
    refine L_one (fuel := 3) 9 (by kernel_rfl) rfl ?_
    intro K hK
    refine step_app (by rfl) (.tmp 36) (.tmp 40) _ _ (by rfl) b0 55 i0 _ 2 24 Tryd.underlying38 hi hz0 hz1 hz2 rfl ov s.ops.length _ (by rfl) h4.own _ 1 [.int .i64 0, .string (bstr (trm es s.nx))] (by rfl) (src_new Tryd.underlying38 W3.drew _ 2 1 1 rfl (by intro u hu; simp at hu; rcases hu with rfl | rfl <;> rfl)) (by unfold maxLen; omega) (by omega) h4.size.1 ?_
    intro ov2 w5 hown5 hgr5 _
    obtain ⟨hpm5, h6⟩ := h4.grownOps (op := (0, trm es s.nx)) hown5 hgr5
    have hc5 : PChg b0 B w w5 := (hc3.trans (PChg.of_below hb4 h3.size.1)).trans (PChg.grown h4.own hgr5 h4.size.1)
    have hk5 : w5.cell? ⟨w1.heap.size, 2, none⟩ = some (.string (bstr (trm es s.nx))) := by
      have hb5 := (PChg.grown (B := w5.heap.size) h4.own hgr5 h4.size.1).high w1.heap.size _ (Nat.ne_of_lt (Nat.lt_of_lt_of_le (lt_of_block hblk) (Nat.le_trans hb4.size hgr5.size))) (by rw [hb4.block _ (lt_of_block hblk)]; exact hblk) (by intro cs fr e; simp only [Obj.cells.injEq] at e; exact absurd e.2.1 (by decide))
      rw [cell_of_row _ w1.heap.size 2 _ _ (0, 0) hb5]; rfl
    obtain ⟨a2, cc2, rfl⟩ := own_shape hown5
    refine hK _ _ ⟨hpm5.cells.2.2.2, hk5⟩ ?_
    clear hK K hgr5
    refine L_one (fuel := 2) 10 (by kernel_rfl) rfl ?_
    intro K hK
    go_simp
    refine hK _ _ ⟨hpm5.cells.2.2.2, hk5⟩ ?_
    clear hK K
    refine L_one (fuel := 1) 11 (by kernel_rfl) rfl ?_
    intro K hK
    go_simp
    refine hK _ _ ⟨hpm5.cells.2.2.2, hk5⟩ ?_
    clear hK K
    have f1 := hpm5.free 3
    have k1 := hpm5.cells.2.2.2
    refine L_last (fuel := 0) (by kernel_rfl) (by kernel_rfl) rfl ?_
    intro K hK
    go_simp
    refine hK _ _ ?_
    clear hK K
    refine L_done (by kernel_rfl) ?_ 0
    have hc6 := hc5.trans (PChg.set w5 3 (.slice a2 (s.ops.length + 1) cc2) h.le)
    generalize w5.setCell ⟨B, 3, none⟩ (.slice a2 (s.ops.length + 1) cc2) = w6 at *
    go_wp2
    go_ret
    unfold wordP
    rw [if_neg h16]
    exact ⟨rfl, _, h6, hc6⟩
end Go.Proofs.YteegbjjpjdlcmaaDoor

/- (*query.parser).clause: the walk. -/
set_option linter.unusedVariables false
namespace Go.Proofs.YteegbjjpjdlcmaaDoor
open Go.RowKit

/-- the number of the next element, as it lies in memory: for measures. -/
def nxIn (B : Nat) (w : World) : Nat := match w.cell? ⟨B, 1, none⟩ with | some (.int _ q) => q.toNat | _ => 0
theorem nxIn_st {b0 B : Nat} {es : List El} {ev ov : Value} {w : World} {s : PS} (h : PSt b0 B es ev w s ov) : nxIn B w = s.nx := by
  unfold nxIn
  rw [h.pm.cells.2.1]
  simp

theorem fld0 (a b : Int) (c : ByteArray) : ∀ w : World, (Instr.field 101 (.agg #[.int .i64 a, .int .i64 b, .string c]) 0).run Tryd.prog w = .ok (.int .i64 a) w := fun _ => by kernel_rfl

theorem ret_err {a b : Int} (h : a = b) : Ending.returned (.int .i64 a) = .returned (.int .i64 b) := by rw [h]

set_option maxRecDepth 100000 in
set_option maxHeartbeats 4000000 in
theorem clause_ok (es : List El) (hf : es.length ≤ 20000) (hE : Ended es) (d G : Nat) (hd : d ≤ 8) (u : PS → Int × PS) (hk : Keeps es u) (hu : PartOK 118 es d u) (hG : es.length ≤ G) : PartOK 95 es d (clauseP u es G) := by
  intro b0 B ev ov s w h hs ho hw
  obtain ⟨i0, hi, hz0, hz1, hz2⟩ := info_parts infoOp
  have hu0 := hu b0 B ev ov s w h hs ho hw
  have kp := hk s hs
  have hcl : clauseP u es G s = if (u s).1 ≠ 0 then u s else clauseLoop u es G (u s).2 := rfl
  generalize clauseP u es G s = fin at *
  generalize u s = r at *
  obtain ⟨e1, s1⟩ := r
  have HU0 := Lib.hid hu0
  have HCL := Lib.hid hcl
  clear hu0 hcl
  by_cases he : e1 = 0
  · subst he
    have hcl := HCL.out
    rw [if_neg (by simp)] at hcl
    have kok := kp.ok rfl
    have k1 := kp.lt
    have k4 := kp.wd
    simp only at k1 k4 kok hcl
    have HCL2 := Lib.hid hcl
    have HKP := Lib.hid kp
    clear HCL hcl kp
    go_enter Tryd.func95, Tryd.ntmps95
    go_wp2_with (go_at_call 118; refine HU0.out.mono ?_; rintro e w1 ⟨rfl, ov1, h1, hc1⟩)
    go_loopw [6] (fun _ wr => ∃ (g : Nat) (t : PS) (ovr : Value), PSt b0 B es ev wr t ovr ∧ PChg b0 B w wr ∧ t.nx < es.length ∧ t.ops.length + 1 ≤ 2 * t.nx ∧ t.wd ≤ 16 ∧ es.length ≤ g + t.nx ∧ Hid (fin = clauseLoop u es g t)) (fun _ wr => es.length - nxIn B wr)
    case atStart => exact ⟨G, s1, ov1, h1, hc1, k1, by omega, by omega, by omega, HCL2.out⟩
    case round =>
      obtain ⟨g, t, ovr, ht, hct, htn, hto, htw, htg, HT⟩ := hrel
      have hnx := nxIn_st ht
      have HNX := Lib.hid hnx
      have hp := peek_st ht hf htn
      have HP := Lib.hid hp
      clear hnx hp
      obtain ⟨g, rfl⟩ : ∃ g', g = g' + 1 := ⟨g - 1, by omega⟩
      by_cases hop : knd es t.nx = 38 ∨ knd es t.nx = 33
      · rcases hop with hk38 | hk38
        · have hlt := hE t.nx htn (by rw [hk38]; omega)
          have hT := HT.out
          simp only [clauseLoop] at hT
          rw [if_pos (by rw [hk38]; omega)] at hT
          have HUU : ∀ (W : World), PSt b0 B es ev W { t with nx := t.nx + 1 } ovr → Calls Tryd.prog 118 #[.pointer (some ⟨B, 0, none⟩), .int .i64 d] W (Ret b0 B es ev (u { t with nx := t.nx + 1 }) W) := fun W hW => hu b0 B ev ovr _ W hW hlt (by simp only; omega) htw
          have kp2 := hk { t with nx := t.nx + 1 } hlt
          generalize u { t with nx := t.nx + 1 } = r at *
          obtain ⟨e2, s2⟩ := r
          have kp2o := kp2.ok
          have kp2l := kp2.lt
          have kp2w := kp2.wd
          have HT2 := Lib.hid hT
          have HK := Lib.hid hk38
          have hop := HK.out
          have hfd := fld0 (knd es t.nx) (posAt es t.nx) (bstr (trm es t.nx))
          have n1 : (knd es t.nx == 38) = true := by rw [hop]; rfl
          simp only at kp2o kp2l kp2w hlt
          clear kp2 hT hk38 hop HT
          have HO2 := Lib.hid kp2o
          clear kp2o
          by_cases he2 : e2 = 0
          · subst he2
            have kok2 := HO2.out rfl
            have HKK := Lib.hid kok2
            have hfin := HT2.out
            rw [if_neg (by simp)] at hfin
            have HFIN := Lib.hid hfin
            have hlen : s2.ops.length + 2 ≤ 2 * s2.nx := by have := HKK.out; omega
            clear hfin kok2
            go_wp2_with (first | (go_at_call 61; refine HP.out.mono ?_; rintro e w2 ⟨rfl, hb2⟩; have h2 := ht.below hb2; obtain ⟨c0, c1, c2, c3⟩ := h2.pm.cells; have f1 := h2.pm.free 1; have h3 := h2.setNx (t.nx + 1); rw [show ((t.nx + 1 : Nat) : Int) = (t.nx : Int) + 1 from by omega] at h3) | (go_at_call 118; refine (HUU _ h3).mono ?_; rintro e w3 ⟨rfl, ov3, h4, hc4⟩; obtain ⟨d0, d1, d2, d3⟩ := h4.pm.cells; have hc5 : PChg b0 B w w3 := ((hct.trans (PChg.of_below hb2 ht.size.1)).trans (PChg.set _ 1 _ h.le)).trans hc4) | (at_builtin; refine wpList_app rfl _ _ _ _ rfl b0 55 i0 _ 2 24 Tryd.underlying38 hi hz0 hz1 hz2 rfl ov3 s2.ops.length _ rfl (h4.below ((Below.refl w3.heap.size w3).alloc (Nat.le_refl _) (.cells #[.int .i64 1, .string ByteArray.empty] 55))).own _ 1 [.int .i64 1, .string ByteArray.empty] rfl (src_new Tryd.underlying38 w3 _ 2 1 1 rfl (by intro u hu; simp at hu; rcases hu with rfl | rfl <;> rfl)) (by unfold maxLen; omega) (by omega) (by have := h4.size; simp; omega) ?_; intro v5 w5 hown5 hgr5 _ _; have hb5 := (Below.refl w3.heap.size w3).alloc (Nat.le_refl _) (.cells #[.int .i64 1, .string ByteArray.empty] 55); obtain ⟨hpm5, h6⟩ := (h4.below hb5).grownOps (op := (1, [])) hown5 hgr5; have hc6 : PChg b0 B w w5 := (hc5.trans (PChg.of_below hb5 h4.size.1)).trans (PChg.grown (h4.below hb5).own hgr5 (h4.below hb5).size.1); obtain ⟨a2, cc2, rfl⟩ := own_shape hown5; have k1 := hpm5.cells.2.2.2; have k3 := hpm5.free 3))
            have hc7 := hc6.trans (PChg.set w5 3 (.slice a2 (s2.ops.length + 1) cc2) h.le)
            generalize w5.setCell ⟨B, 3, none⟩ (.slice a2 (s2.ops.length + 1) cc2) = w6 at *
            have hnx6 := nxIn_st h6
            have HNX6 := Lib.hid hnx6
            have HLT : es.length - nxIn B w6 < es.length - nxIn B wr := by have h1 := HNX6.out; have h2 := HNX.out; have h3 := HKK.out; simp only at h1; omega
            clear hnx6
            have HREL : ∃ (g : Nat) (t : PS) (ovr : Value), PSt b0 B es ev w6 t ovr ∧ PChg b0 B w w6 ∧ t.nx < es.length ∧ t.ops.length + 1 ≤ 2 * t.nx ∧ t.wd ≤ 16 ∧ es.length ≤ g + t.nx ∧ Hid (fin = clauseLoop u es g t) := ⟨g, _, _, h6, hc7, by simp only; omega, by simp; omega, by simp only; omega, by have := HKK.out; simp only; omega, by show _ = _; rw [HFIN.out, HK.out]; rfl⟩
            go_round
            · exact HREL
            · exact HLT
          · have he2' : (e2 != 0) = true := by rw [bne_iff_ne]; exact he2
            have hfin := HT2.out
            rw [if_pos he2] at hfin
            have HFIN := Lib.hid hfin
            clear hfin he2
            go_wp2_with (first | (go_at_call 61; refine HP.out.mono ?_; rintro e w2 ⟨rfl, hb2⟩; have h2 := ht.below hb2; obtain ⟨c0, c1, c2, c3⟩ := h2.pm.cells; have f1 := h2.pm.free 1; have h3 := h2.setNx (t.nx + 1); rw [show ((t.nx + 1 : Nat) : Int) = (t.nx : Int) + 1 from by omega] at h3) | (go_at_call 118; refine (HUU _ h3).mono ?_; rintro e w3 ⟨rfl, ov3, h4, hc4⟩; obtain ⟨d0, d1, d2, d3⟩ := h4.pm.cells; have hc5 : PChg b0 B w w3 := ((hct.trans (PChg.of_below hb2 ht.size.1)).trans (PChg.set _ 1 _ h.le)).trans hc4))
            go_ret
            rw [HFIN.out]
            exact ⟨rfl, ov3, h4, hc5⟩
        · have hlt := hE t.nx htn (by rw [hk38]; omega)
          have hT := HT.out
          simp only [clauseLoop] at hT
          rw [if_pos (by rw [hk38]; omega)] at hT
          have HUU : ∀ (W : World), PSt b0 B es ev W { t with nx := t.nx + 1 } ovr → Calls Tryd.prog 118 #[.pointer (some ⟨B, 0, none⟩), .int .i64 d] W (Ret b0 B es ev (u { t with nx := t.nx + 1 }) W) := fun W hW => hu b0 B ev ovr _ W hW hlt (by simp only; omega) htw
          have kp2 := hk { t with nx := t.nx + 1 } hlt
          generalize u { t with nx := t.nx + 1 } = r at *
          obtain ⟨e2, s2⟩ := r
          have kp2o := kp2.ok
          have kp2l := kp2.lt
          have kp2w := kp2.wd
          have HT2 := Lib.hid hT
          have HK := Lib.hid hk38
          have hop := HK.out
          have hfd := fld0 (knd es t.nx) (posAt es t.nx) (bstr (trm es t.nx))
          have n1 : (knd es t.nx == 38) = false := by rw [hop]; rfl
          have n2 : (knd es t.nx == 33) = true := by rw [hop]; rfl
          simp only at kp2o kp2l kp2w hlt
          clear kp2 hT hk38 hop HT
          have HO2 := Lib.hid kp2o
          clear kp2o
          by_cases he2 : e2 = 0
          · subst he2
            have kok2 := HO2.out rfl
            have HKK := Lib.hid kok2
            have hfin := HT2.out
            rw [if_neg (by simp)] at hfin
            have HFIN := Lib.hid hfin
            have hlen : s2.ops.length + 2 ≤ 2 * s2.nx := by have := HKK.out; omega
            clear hfin kok2
            go_wp2_with (first | (go_at_call 61; refine HP.out.mono ?_; rintro e w2 ⟨rfl, hb2⟩; have h2 := ht.below hb2; obtain ⟨c0, c1, c2, c3⟩ := h2.pm.cells; have f1 := h2.pm.free 1; have h3 := h2.setNx (t.nx + 1); rw [show ((t.nx + 1 : Nat) : Int) = (t.nx : Int) + 1 from by omega] at h3) | (go_at_call 118; refine (HUU _ h3).mono ?_; rintro e w3 ⟨rfl, ov3, h4, hc4⟩; obtain ⟨d0, d1, d2, d3⟩ := h4.pm.cells; have hc5 : PChg b0 B w w3 := ((hct.trans (PChg.of_below hb2 ht.size.1)).trans (PChg.set _ 1 _ h.le)).trans hc4) | (at_builtin; refine wpList_app rfl _ _ _ _ rfl b0 55 i0 _ 2 24 Tryd.underlying38 hi hz0 hz1 hz2 rfl ov3 s2.ops.length _ rfl (h4.below ((Below.refl w3.heap.size w3).alloc (Nat.le_refl _) (.cells #[.int .i64 3, .string ByteArray.empty] 55))).own _ 1 [.int .i64 3, .string ByteArray.empty] rfl (src_new Tryd.underlying38 w3 _ 2 1 1 rfl (by intro u hu; simp at hu; rcases hu with rfl | rfl <;> rfl)) (by unfold maxLen; omega) (by omega) (by have := h4.size; simp; omega) ?_; intro v5 w5 hown5 hgr5 _ _; have hb5 := (Below.refl w3.heap.size w3).alloc (Nat.le_refl _) (.cells #[.int .i64 3, .string ByteArray.empty] 55); obtain ⟨hpm5, h6⟩ := (h4.below hb5).grownOps (op := (3, [])) hown5 hgr5; have hc6 : PChg b0 B w w5 := (hc5.trans (PChg.of_below hb5 h4.size.1)).trans (PChg.grown (h4.below hb5).own hgr5 (h4.below hb5).size.1); obtain ⟨a2, cc2, rfl⟩ := own_shape hown5; have k1 := hpm5.cells.2.2.2; have k3 := hpm5.free 3))
            have hc7 := hc6.trans (PChg.set w5 3 (.slice a2 (s2.ops.length + 1) cc2) h.le)
            generalize w5.setCell ⟨B, 3, none⟩ (.slice a2 (s2.ops.length + 1) cc2) = w6 at *
            have hnx6 := nxIn_st h6
            have HNX6 := Lib.hid hnx6
            have HLT : es.length - nxIn B w6 < es.length - nxIn B wr := by have h1 := HNX6.out; have h2 := HNX.out; have h3 := HKK.out; simp only at h1; omega
            clear hnx6
            have HREL : ∃ (g : Nat) (t : PS) (ovr : Value), PSt b0 B es ev w6 t ovr ∧ PChg b0 B w w6 ∧ t.nx < es.length ∧ t.ops.length + 1 ≤ 2 * t.nx ∧ t.wd ≤ 16 ∧ es.length ≤ g + t.nx ∧ Hid (fin = clauseLoop u es g t) := ⟨g, _, _, h6, hc7, by simp only; omega, by simp; omega, by simp only; omega, by have := HKK.out; simp only; omega, by show _ = _; rw [HFIN.out, HK.out]; rfl⟩
            go_round
            · exact HREL
            · exact HLT
          · have he2' : (e2 != 0) = true := by rw [bne_iff_ne]; exact he2
            have hfin := HT2.out
            rw [if_pos he2] at hfin
            have HFIN := Lib.hid hfin
            clear hfin he2
            go_wp2_with (first | (go_at_call 61; refine HP.out.mono ?_; rintro e w2 ⟨rfl, hb2⟩; have h2 := ht.below hb2; obtain ⟨c0, c1, c2, c3⟩ := h2.pm.cells; have f1 := h2.pm.free 1; have h3 := h2.setNx (t.nx + 1); rw [show ((t.nx + 1 : Nat) : Int) = (t.nx : Int) + 1 from by omega] at h3) | (go_at_call 118; refine (HUU _ h3).mono ?_; rintro e w3 ⟨rfl, ov3, h4, hc4⟩; obtain ⟨d0, d1, d2, d3⟩ := h4.pm.cells; have hc5 : PChg b0 B w w3 := ((hct.trans (PChg.of_below hb2 ht.size.1)).trans (PChg.set _ 1 _ h.le)).trans hc4))
            go_ret
            rw [HFIN.out]
            exact ⟨rfl, ov3, h4, hc5⟩
      · have hfin : Hid (fin = (0, t)) := by
          show _ = _
          rw [HT.out]; simp only [clauseLoop]; rw [if_neg hop]
        have n1 : (knd es t.nx == 38) = false := beq_eq_false_iff_ne.2 (by omega)
        have n2 : (knd es t.nx == 33) = false := beq_eq_false_iff_ne.2 (by omega)
        clear hop
        have hfd := fld0 (knd es t.nx) (posAt es t.nx) (bstr (trm es t.nx))
        go_wp2_with (go_at_call 61; refine HP.out.mono ?_; rintro e w2 ⟨rfl, hb2⟩)
        go_ret
        rw [hfin.out]
        exact ⟨rfl, ovr, ht.below hb2, hct.trans (PChg.of_below hb2 ht.size.1)⟩
  · have hcl := HCL.out
    rw [if_pos he] at hcl
    have HCL2 := Lib.hid hcl
    have he' : (e1 != 0) = true := by rw [bne_iff_ne]; exact he
    clear HCL hcl he
    go_enter Tryd.func95, Tryd.ntmps95
    go_wp2_with (go_at_call 118; refine HU0.out.mono ?_; rintro e w1 ⟨rfl, ov1, h1, hc1⟩)
    go_ret
    rw [HCL2.out]
    exact ⟨rfl, ov1, h1, hc1⟩
end Go.Proofs.YteegbjjpjdlcmaaDoor

/- (*query.parser).query: the walk. (printed by gen_clause.py) -/
set_option linter.unusedVariables false
namespace Go.Proofs.YteegbjjpjdlcmaaDoor
open Go.RowKit

set_option maxRecDepth 100000 in
set_option maxHeartbeats 4000000 in
theorem query_ok (es : List El) (hf : es.length ≤ 20000) (hE : Ended es) (d G : Nat) (hd : d ≤ 8) (u : PS → Int × PS) (hk : Keeps es (clauseP u es G)) (hu : PartOK 95 es d (clauseP u es G)) (hG : es.length ≤ G) : PartOK 60 es d (queryP u es G) := by
  intro b0 B ev ov s w h hs ho hw
  obtain ⟨i0, hi, hz0, hz1, hz2⟩ := info_parts infoOp
  have hu0 := hu b0 B ev ov s w h hs ho hw
  have kp := hk s hs
  have hcl : queryP u es G s = if (clauseP u es G s).1 ≠ 0 then clauseP u es G s else queryLoop u es G G (clauseP u es G s).2 := rfl
  generalize queryP u es G s = fin at *
  generalize clauseP u es G s = r at *
  obtain ⟨e1, s1⟩ := r
  have HU0 := Lib.hid hu0
  have HCL := Lib.hid hcl
  clear hu0 hcl
  by_cases he : e1 = 0
  · subst he
    have hcl := HCL.out
    rw [if_neg (by simp)] at hcl
    have kok := kp.ok rfl
    have k1 := kp.lt
    have k4 := kp.wd
    simp only at k1 k4 kok hcl
    have HCL2 := Lib.hid hcl
    have HKP := Lib.hid kp
    clear HCL hcl kp
    go_enter Tryd.func60, Tryd.ntmps60
    go_wp2_with (go_at_call 95; refine HU0.out.mono ?_; rintro e w1 ⟨rfl, ov1, h1, hc1⟩)
    go_loopw [6] (fun _ wr => ∃ (g : Nat) (t : PS) (ovr : Value), PSt b0 B es ev wr t ovr ∧ PChg b0 B w wr ∧ t.nx < es.length ∧ t.ops.length + 1 ≤ 2 * t.nx ∧ t.wd ≤ 16 ∧ es.length ≤ g + t.nx ∧ Hid (fin = queryLoop u es G g t)) (fun _ wr => es.length - nxIn B wr)
    case atStart => exact ⟨G, s1, ov1, h1, hc1, k1, by omega, by omega, by omega, HCL2.out⟩
    case round =>
      obtain ⟨g, t, ovr, ht, hct, htn, hto, htw, htg, HT⟩ := hrel
      have hnx := nxIn_st ht
      have HNX := Lib.hid hnx
      have hp := peek_st ht hf htn
      have HP := Lib.hid hp
      clear hnx hp
      obtain ⟨g, rfl⟩ : ∃ g', g = g' + 1 := ⟨g - 1, by omega⟩
      by_cases hop : knd es t.nx = 124
      · have hk38 := hop
        clear hop
        have hlt := hE t.nx htn (by rw [hk38]; omega)
        have hT := HT.out
        simp only [queryLoop] at hT
        rw [if_pos (hk38)] at hT
        have HUU : ∀ (W : World), PSt b0 B es ev W { t with nx := t.nx + 1 } ovr → Calls Tryd.prog 95 #[.pointer (some ⟨B, 0, none⟩), .int .i64 d] W (Ret b0 B es ev (clauseP u es G { t with nx := t.nx + 1 }) W) := fun W hW => hu b0 B ev ovr _ W hW hlt (by simp only; omega) htw
        have kp2 := hk { t with nx := t.nx + 1 } hlt
        generalize clauseP u es G { t with nx := t.nx + 1 } = r at *
        obtain ⟨e2, s2⟩ := r
        have kp2o := kp2.ok
        have kp2l := kp2.lt
        have kp2w := kp2.wd
        have HT2 := Lib.hid hT
        have HK := Lib.hid hk38
        have hop := HK.out
        have hfd := fld0 (knd es t.nx) (posAt es t.nx) (bstr (trm es t.nx))
        have n1 : (knd es t.nx == 124) = true := by rw [hop]; rfl
        simp only at kp2o kp2l kp2w hlt
        clear kp2 hT hk38 hop HT
        have HO2 := Lib.hid kp2o
        clear kp2o
        by_cases he2 : e2 = 0
        · subst he2
          have kok2 := HO2.out rfl
          have HKK := Lib.hid kok2
          have hfin := HT2.out
          rw [if_neg (by simp)] at hfin
          have HFIN := Lib.hid hfin
          have hlen : s2.ops.length + 2 ≤ 2 * s2.nx := by have := HKK.out; omega
          clear hfin kok2
          go_wp2_with (first | (go_at_call 61; refine HP.out.mono ?_; rintro e w2 ⟨rfl, hb2⟩; have h2 := ht.below hb2; obtain ⟨c0, c1, c2, c3⟩ := h2.pm.cells; have f1 := h2.pm.free 1; have h3 := h2.setNx (t.nx + 1); rw [show ((t.nx + 1 : Nat) : Int) = (t.nx : Int) + 1 from by omega] at h3) | (go_at_call 95; refine (HUU _ h3).mono ?_; rintro e w3 ⟨rfl, ov3, h4, hc4⟩; obtain ⟨d0, d1, d2, d3⟩ := h4.pm.cells; have hc5 : PChg b0 B w w3 := ((hct.trans (PChg.of_below hb2 ht.size.1)).trans (PChg.set _ 1 _ h.le)).trans hc4) | (at_builtin; refine wpList_app rfl _ _ _ _ rfl b0 55 i0 _ 2 24 Tryd.underlying38 hi hz0 hz1 hz2 rfl ov3 s2.ops.length _ rfl (h4.below ((Below.refl w3.heap.size w3).alloc (Nat.le_refl _) (.cells #[.int .i64 2, .string ByteArray.empty] 55))).own _ 1 [.int .i64 2, .string ByteArray.empty] rfl (src_new Tryd.underlying38 w3 _ 2 1 1 rfl (by intro u hu; simp at hu; rcases hu with rfl | rfl <;> rfl)) (by unfold maxLen; omega) (by omega) (by have := h4.size; simp; omega) ?_; intro v5 w5 hown5 hgr5 _ _; have hb5 := (Below.refl w3.heap.size w3).alloc (Nat.le_refl _) (.cells #[.int .i64 2, .string ByteArray.empty] 55); obtain ⟨hpm5, h6⟩ := (h4.below hb5).grownOps (op := (2, [])) hown5 hgr5; have hc6 : PChg b0 B w w5 := (hc5.trans (PChg.of_below hb5 h4.size.1)).trans (PChg.grown (h4.below hb5).own hgr5 (h4.below hb5).size.1); obtain ⟨a2, cc2, rfl⟩ := own_shape hown5; have k1 := hpm5.cells.2.2.2; have k3 := hpm5.free 3))
          have hc7 := hc6.trans (PChg.set w5 3 (.slice a2 (s2.ops.length + 1) cc2) h.le)
          generalize w5.setCell ⟨B, 3, none⟩ (.slice a2 (s2.ops.length + 1) cc2) = w6 at *
          have hnx6 := nxIn_st h6
          have HNX6 := Lib.hid hnx6
          have HLT : es.length - nxIn B w6 < es.length - nxIn B wr := by have h1 := HNX6.out; have h2 := HNX.out; have h3 := HKK.out; simp only at h1; omega
          clear hnx6
          have HREL : ∃ (g : Nat) (t : PS) (ovr : Value), PSt b0 B es ev w6 t ovr ∧ PChg b0 B w w6 ∧ t.nx < es.length ∧ t.ops.length + 1 ≤ 2 * t.nx ∧ t.wd ≤ 16 ∧ es.length ≤ g + t.nx ∧ Hid (fin = queryLoop u es G g t) := ⟨g, _, _, h6, hc7, by simp only; omega, by simp; omega, by simp only; omega, by have := HKK.out; simp only; omega, by show _ = _; rw [HFIN.out]⟩
          go_round
          · exact HREL
          · exact HLT
        · have he2' : (e2 != 0) = true := by rw [bne_iff_ne]; exact he2
          have hfin := HT2.out
          rw [if_pos he2] at hfin
          have HFIN := Lib.hid hfin
          clear hfin he2
          go_wp2_with (first | (go_at_call 61; refine HP.out.mono ?_; rintro e w2 ⟨rfl, hb2⟩; have h2 := ht.below hb2; obtain ⟨c0, c1, c2, c3⟩ := h2.pm.cells; have f1 := h2.pm.free 1; have h3 := h2.setNx (t.nx + 1); rw [show ((t.nx + 1 : Nat) : Int) = (t.nx : Int) + 1 from by omega] at h3) | (go_at_call 95; refine (HUU _ h3).mono ?_; rintro e w3 ⟨rfl, ov3, h4, hc4⟩; obtain ⟨d0, d1, d2, d3⟩ := h4.pm.cells; have hc5 : PChg b0 B w w3 := ((hct.trans (PChg.of_below hb2 ht.size.1)).trans (PChg.set _ 1 _ h.le)).trans hc4))
          go_ret
          rw [HFIN.out]
          exact ⟨rfl, ov3, h4, hc5⟩
      · have hfin : Hid (fin = (0, t)) := by
          show _ = _
          rw [HT.out]; simp only [queryLoop]; rw [if_neg hop]
        have n1 : (knd es t.nx == 124) = false := beq_eq_false_iff_ne.2 (by omega)
        clear hop
        have hfd := fld0 (knd es t.nx) (posAt es t.nx) (bstr (trm es t.nx))
        go_wp2_with (go_at_call 61; refine HP.out.mono ?_; rintro e w2 ⟨rfl, hb2⟩)
        go_ret
        rw [hfin.out]
        exact ⟨rfl, ovr, ht.below hb2, hct.trans (PChg.of_below hb2 ht.size.1)⟩
  · have hcl := HCL.out
    rw [if_pos he] at hcl
    have HCL2 := Lib.hid hcl
    have he' : (e1 != 0) = true := by rw [bne_iff_ne]; exact he
    clear HCL hcl he
    go_enter Tryd.func60, Tryd.ntmps60
    go_wp2_with (go_at_call 95; refine HU0.out.mono ?_; rintro e w1 ⟨rfl, ov1, h1, hc1⟩)
    go_ret
    rw [HCL2.out]
    exact ⟨rfl, ov1, h1, hc1⟩
end Go.Proofs.YteegbjjpjdlcmaaDoor

/- (*query.parser).unit: the other ways, and the whole, by induction on the depth. -/
set_option linter.unusedVariables false
namespace Go.Proofs.YteegbjjpjdlcmaaDoor
open Go.RowKit

set_option maxRecDepth 100000 in
set_option maxHeartbeats 2000000 in
theorem unit_other (es : List El) (hf : es.length ≤ 20000) (d : Nat) (hd : d ≤ 8) (b0 B : Nat) (ev ov : Value) (s : PS) (w : World) (h : PSt b0 B es ev w s ov) (hs : s.nx < es.length) (hk : knd es s.nx ≠ -1) (hk2 : knd es s.nx ≠ 40) :
    Calls Tryd.prog 118 #[.pointer (some ⟨B, 0, none⟩), .int .i64 d] w (Ret b0 B es ev (otherP es s) w) := by
  have hp := peek_st h hf hs
  have HP := Lib.hid hp
  clear hp
  have n1 : (knd es s.nx == -1) = false := beq_eq_false_iff_ne.2 hk
  have n2 : (knd es s.nx == 40) = false := beq_eq_false_iff_ne.2 hk2
  have hs1 := h.size.1
  by_cases h33 : knd es s.nx = 33
  · have n3 : (knd es s.nx == 33) = true := by rw [h33]; rfl
    have hfin : Hid (otherP es s = (9, s)) := by show _ = _; unfold otherP; rw [if_pos h33]
    clear hk hk2 h33
    go_enter Tryd.func118, Tryd.ntmps118
    go_wp2_with (go_at_call 61; refine HP.out.mono ?_; rintro e w1 ⟨rfl, hb1⟩)
    go_ret
    rw [hfin.out]
    exact ⟨rfl, _, h.below (hb1.alloc hb1.size _), PChg.of_below (hb1.alloc hb1.size _) hs1⟩
  · have n3 : (knd es s.nx == 33) = false := beq_eq_false_iff_ne.2 h33
    have hfin : Hid (otherP es s = (2, s)) := by show _ = _; unfold otherP; rw [if_neg h33]
    clear hk hk2 h33
    go_enter Tryd.func118, Tryd.ntmps118
    go_wp2_with (go_at_call 61; refine HP.out.mono ?_; rintro e w1 ⟨rfl, hb1⟩)
    go_ret
    rw [hfin.out]
    exact ⟨rfl, _, h.below (hb1.alloc hb1.size _), PChg.of_below (hb1.alloc hb1.size _) hs1⟩

set_option maxRecDepth 100000 in
set_option maxHeartbeats 2000000 in
theorem unit_deep (es : List El) (hf : es.length ≤ 20000) (b0 B : Nat) (ev ov : Value) (s : PS) (w : World) (h : PSt b0 B es ev w s ov) (hs : s.nx < es.length) (hk : knd es s.nx = 40) :
    Calls Tryd.prog 118 #[.pointer (some ⟨B, 0, none⟩), .int .i64 (8 : Nat)] w (Ret b0 B es ev (8, s) w) := by
  have hp := peek_st h hf hs
  rw [hk] at hp
  have HP := Lib.hid hp
  clear hp hk
  have hs1 := h.size.1
  rw [show ((8 : Nat) : Int) = 8 from rfl]
  go_enter Tryd.func118, Tryd.ntmps118
  go_wp2_with (go_at_call 61; refine HP.out.mono ?_; rintro e w1 ⟨rfl, hb1⟩)
  go_ret
  exact ⟨rfl, _, h.below (hb1.alloc hb1.size _), PChg.of_below (hb1.alloc hb1.size _) hs1⟩

set_option maxRecDepth 100000 in
set_option maxHeartbeats 2000000 in
theorem unit_paren (es : List El) (hf : es.length ≤ 20000) (hE : Ended es) (d : Nat) (hd : d < 8) (q : PS → Int × PS) (hkq : Keeps es q) (hq : PartOK 60 es (d + 1) q) (b0 B : Nat) (ev ov : Value) (s : PS) (w : World) (h : PSt b0 B es ev w s ov) (hs : s.nx < es.length) (ho : s.ops.length ≤ 2 * s.nx) (hw : s.wd ≤ 16) (hk : knd es s.nx = 40) :
    Calls Tryd.prog 118 #[.pointer (some ⟨B, 0, none⟩), .int .i64 d] w (Ret b0 B es ev (bracketP es (q { s with nx := s.nx + 1 })) w) := by
  have hlt := hE s.nx hs (.inr (.inr (.inr (.inl hk))))
  have hp := peek_st h hf hs
  rw [hk] at hp
  have HP := Lib.hid hp
  have hdi : ¬ (8 : Int) ≤ (d : Int) := by omega
  have HQ : ∀ (W : World), PSt b0 B es ev W { s with nx := s.nx + 1 } ov → Calls Tryd.prog 60 #[.pointer (some ⟨B, 0, none⟩), .int .i64 ((d : Int) + 1)] W (Ret b0 B es ev (q { s with nx := s.nx + 1 }) W) := by
    intro W hW
    have := hq b0 B ev ov _ W hW hlt (by simp only; omega) hw
    rw [show ((d + 1 : Nat) : Int) = (d : Int) + 1 from by omega] at this
    exact this
  have kp := hkq { s with nx := s.nx + 1 } hlt
  have hbr : bracketP es (q { s with nx := s.nx + 1 }) = if (q { s with nx := s.nx + 1 }).1 ≠ 0 then q { s with nx := s.nx + 1 } else if knd es (q { s with nx := s.nx + 1 }).2.nx ≠ 41 then (2, (q { s with nx := s.nx + 1 }).2) else (0, { (q { s with nx := s.nx + 1 }).2 with nx := (q { s with nx := s.nx + 1 }).2.nx + 1 }) := rfl
  generalize bracketP es (q { s with nx := s.nx + 1 }) = fin at *
  generalize q { s with nx := s.nx + 1 } = r at *
  obtain ⟨e1, s1⟩ := r
  have k1 := kp.lt
  simp only at k1 hbr
  have HBR := Lib.hid hbr
  clear hp hk kp hbr
  have hs1 := h.size.1
  by_cases he : e1 = 0
  · subst he
    have hfin := HBR.out
    rw [if_neg (by simp)] at hfin
    by_cases h41 : knd es s1.nx = 41
    · rw [if_neg (by simpa using h41)] at hfin
      have HFIN := Lib.hid hfin
      have HK := Lib.hid h41
      clear hfin HBR h41
      have n1 : (knd es s1.nx != 41) = false := by rw [HK.out]; rfl
      have hfd := fld0 (knd es s1.nx) (posAt es s1.nx) (bstr (trm es s1.nx))
      go_enter Tryd.func118, Tryd.ntmps118
      go_wp2_with (first | (go_at_call 60; refine (HQ _ h3).mono ?_; rintro e w3 ⟨rfl, ov3, h4, hc4⟩; have hc5 : PChg b0 B w w3 := ((PChg.of_below (hb1.alloc hb1.size _) hs1).trans (PChg.set _ 1 _ h.le)).trans hc4; have hp4 := peek_st h4 hf k1; have HP4 := Lib.hid hp4; clear hp4) | (go_at_call 61; refine HP4.out.mono ?_; rintro e w4 ⟨rfl, hb4⟩; have h5 := h4.below hb4; obtain ⟨d0, d1, d2, d3⟩ := h5.pm.cells; have g1 := h5.pm.free 1) | (go_at_call 61; refine HP.out.mono ?_; rintro e w1 ⟨rfl, hb1⟩; have h2 := h.below (hb1.alloc hb1.size (.cells #[.int .i64 40, .int .i64 (posAt es s.nx), .string (bstr (trm es s.nx))] 101)); obtain ⟨c0, c1, c2, c3⟩ := h2.pm.cells; have f1 := h2.pm.free 1; have h3 := h2.setNx (s.nx + 1); rw [show ((s.nx + 1 : Nat) : Int) = (s.nx : Int) + 1 from by omega] at h3))
      go_ret
      rw [HFIN.out]
      have h6 := h5.setNx (s1.nx + 1)
      rw [show ((s1.nx + 1 : Nat) : Int) = (s1.nx : Int) + 1 from by omega] at h6
      exact ⟨rfl, ov3, h6, (hc5.trans (PChg.of_below hb4 h4.size.1)).trans (PChg.set _ 1 _ h.le)⟩
    · rw [if_pos h41] at hfin
      have HFIN := Lib.hid hfin
      have n1 : (knd es s1.nx != 41) = true := by rw [bne_iff_ne]; exact h41
      clear hfin HBR h41
      have hfd := fld0 (knd es s1.nx) (posAt es s1.nx) (bstr (trm es s1.nx))
      go_enter Tryd.func118, Tryd.ntmps118
      go_wp2_with (first | (go_at_call 60; refine (HQ _ h3).mono ?_; rintro e w3 ⟨rfl, ov3, h4, hc4⟩; have hc5 : PChg b0 B w w3 := ((PChg.of_below (hb1.alloc hb1.size _) hs1).trans (PChg.set _ 1 _ h.le)).trans hc4; have hp4 := peek_st h4 hf k1; have HP4 := Lib.hid hp4; clear hp4) | (go_at_call 61; refine HP4.out.mono ?_; rintro e w4 ⟨rfl, hb4⟩) | (go_at_call 61; refine HP.out.mono ?_; rintro e w1 ⟨rfl, hb1⟩; have h2 := h.below (hb1.alloc hb1.size (.cells #[.int .i64 40, .int .i64 (posAt es s.nx), .string (bstr (trm es s.nx))] 101)); obtain ⟨c0, c1, c2, c3⟩ := h2.pm.cells; have f1 := h2.pm.free 1; have h3 := h2.setNx (s.nx + 1); rw [show ((s.nx + 1 : Nat) : Int) = (s.nx : Int) + 1 from by omega] at h3))
      go_ret
      rw [HFIN.out]
      exact ⟨rfl, ov3, h4.below hb4, hc5.trans (PChg.of_below hb4 h4.size.1)⟩
  · have hfin := HBR.out
    rw [if_pos he] at hfin
    have HFIN := Lib.hid hfin
    have he' : (e1 != 0) = true := by rw [bne_iff_ne]; exact he
    clear hfin HBR he
    go_enter Tryd.func118, Tryd.ntmps118
    go_wp2_with (first | (go_at_call 60; refine (HQ _ h3).mono ?_; rintro e w3 ⟨rfl, ov3, h4, hc4⟩; have hc5 : PChg b0 B w w3 := ((PChg.of_below (hb1.alloc hb1.size _) hs1).trans (PChg.set _ 1 _ h.le)).trans hc4) | (go_at_call 61; refine HP.out.mono ?_; rintro e w1 ⟨rfl, hb1⟩; have h2 := h.below (hb1.alloc hb1.size (.cells #[.int .i64 40, .int .i64 (posAt es s.nx), .string (bstr (trm es s.nx))] 101)); obtain ⟨c0, c1, c2, c3⟩ := h2.pm.cells; have f1 := h2.pm.free 1; have h3 := h2.setNx (s.nx + 1); rw [show ((s.nx + 1 : Nat) : Int) = (s.nx : Int) + 1 from by omega] at h3))
    go_ret
    rw [HFIN.out]
    exact ⟨rfl, ov3, h4, hc5⟩

/-- a unit at whatever depth. -/
theorem unit_ok (es : List El) (hf : es.length ≤ 20000) (hE : Ended es) (G : Nat) (hG : es.length ≤ G) : ∀ (k d : Nat), d + k = 8 → PartOK 118 es d (unitP es G k) := by
  intro k
  induction k with
  | zero =>
    intro d hd b0 B ev ov s w h hs ho hw
    simp only [unitP]
    split
    · rename_i hk; exact unit_word es hf d (by omega) b0 B ev ov s w h hs ho hw hk
    · rename_i hk
      split
      · rename_i hk2
        have : d = 8 := by omega
        subst this
        exact unit_deep es hf b0 B ev ov s w h hs hk2
      · rename_i hk2; exact unit_other es hf d (by omega) b0 B ev ov s w h hs hk hk2
  | succ k ih =>
    intro d hd b0 B ev ov s w h hs ho hw
    simp only [unitP]
    split
    · rename_i hk; exact unit_word es hf d (by omega) b0 B ev ov s w h hs ho hw hk
    · rename_i hk
      split
      · rename_i hk2
        have ku := unitP_keeps hE G k
        exact unit_paren es hf hE d (by omega) _ (queryP_keeps hE ku G) (query_ok es hf hE (d + 1) G (by omega) _ (clauseP_keeps hE ku G) (clause_ok es hf hE (d + 1) G (by omega) _ ku (ih (d + 1) (by omega)) hG) hG) b0 B ev ov s w h hs ho hw hk2
      · rename_i hk2; exact unit_other es hf d (by omega) b0 B ev ov s w h hs hk hk2

theorem query0_ok (es : List El) (hf : es.length ≤ 20000) (hE : Ended es) (G : Nat) (hG : es.length ≤ G) : PartOK 60 es 0 (queryP (unitP es G 8) es G) :=
  query_ok es hf hE 0 G (by omega) _ (clauseP_keeps hE (unitP_keeps hE G 8) G) (clause_ok es hf hE 0 G (by omega) _ (unitP_keeps hE G 8) (unit_ok es hf hE G hG 8 0 rfl) hG) hG
end Go.Proofs.YteegbjjpjdlcmaaDoor

/- query.Parse. -/
set_option linter.unusedVariables false
namespace Go.Proofs.YteegbjjpjdlcmaaDoor
open Go.RowKit

/-- the elements' last is no text, and the one that ends them. -/
theorem elGo_ended (b : List UInt8) : ∀ (l : List Int) (p : Nat) (st : Int) (acc : List El), ∃ ini x, elGo b p st acc l = ini ++ [x] ∧ (x.kind = -2 ∨ x.kind = -3) := by
  intro l
  induction l with
  | nil => intro p st acc; exact ⟨_, _, rfl, .inl rfl⟩
  | cons c r ih =>
    intro p st acc
    simp only [elGo]
    split
    · exact ih _ _ _
    · split
      · exact ih _ _ _
      · split
        · exact ih _ _ _
        · exact ⟨_, _, rfl, .inr rfl⟩

theorem elems_ended (b : List UInt8) : Ended (elems b) := by
  obtain ⟨ini, x, he, hx⟩ := elGo_ended b (decode b) 0 (-1) []
  intro i hi hk
  unfold elems at hi hk ⊢
  rw [he] at hi hk ⊢
  simp only [List.length_append, List.length_singleton] at hi ⊢
  by_cases h : i = ini.length
  · subst h
    unfold knd at hk
    simp at hk
    omega
  · omega

theorem elems_pos (b : List UInt8) : 0 < (elems b).length := by
  obtain ⟨ini, x, he, hx⟩ := elGo_ended b (decode b) 0 (-1) []
  unfold elems
  rw [he]
  simp

theorem elGo_len (b : List UInt8) : ∀ (l : List Int) (p : Nat) (st : Int) (acc : List El), (elGo b p st acc l).length ≤ acc.length + 2 * l.length + 2 := by
  intro l
  induction l with
  | nil => intro p st acc; have := flush_len b st p acc; simp only [elGo, List.length_append, List.length_singleton, List.length_nil]; omega
  | cons c r ih =>
    intro p st acc
    have hf := flush_len b st p acc
    simp only [elGo, List.length_cons]
    split
    · have := ih (p + (enc c).length) (if st < 0 then p else st) acc; omega
    · split
      · have := ih (p + 1) (-1) (flush b st p acc); omega
      · split
        · have := ih (p + 1) (-1) (flush b st p acc ++ [⟨c, p, []⟩]); simp only [List.length_append, List.length_singleton] at this; omega
        · simp only [List.length_append, List.length_singleton]; omega

/-- what Parse answers: the steps, or the index and the error. -/
def parsed (b : List UInt8) : Int × PS := queryP (unitP (elems b) (elems b).length 8) (elems b) (elems b).length ⟨0, 0, []⟩
def parseErr (b : List UInt8) : Int := if 2000 < b.length then 8 else if (parsed b).1 = 0 then if knd (elems b) (parsed b).2.nx = -2 then 0 else 2 else (parsed b).1
def parseAt (b : List UInt8) : Int := if 2000 < b.length then 0 else if parseErr b = 0 then 0 else posAt (elems b) (parsed b).2.nx

def Parsed (b : List UInt8) (w : World) (e : Ending) (w' : World) : Prop :=
  Below w.heap.size w w' ∧ ∃ ov, e = .returned (.tuple #[ov, .int .i64 (parseAt b), .int .i64 (parseErr b)]) ∧
    ((parseErr b = 0 ∧ w'.ownsRow w.heap.size 55 2 ov (parsed b).2.ops.length (ocells (parsed b).2.ops)) ∨ (parseErr b ≠ 0 ∧ ov = .slice none 0 0))

theorem parsed_kept (b : List UInt8) : Kept (elems b) ⟨0, 0, []⟩ (parsed b) :=
  queryP_keeps (elems_ended b) (unitP_keeps (elems_ended b) _ 8) _ _ (elems_pos b)

theorem fld1 (a b : Int) (c : ByteArray) : ∀ w : World, (Instr.field 101 (.agg #[.int .i64 a, .int .i64 b, .string c]) 1).run Tryd.prog w = .ok (.int .i64 b) w := fun _ => by kernel_rfl

theorem pst_new (w0 w : World) (ev : Value) (es : List El) (hb : w0.heap.size ≤ w.heap.size) (hown : w.ownsRow w0.heap.size 101 3 ev es.length (elcells es)) :
    PSt w0.heap.size w.heap.size es ev (w.alloc (.cells #[ev, .int .i64 0, .int .i64 0, .slice none 0 0] 98)) ⟨0, 0, []⟩ (.slice none 0 0) :=
  ⟨heap_alloc_new w _, ⟨rfl, .inl ⟨rfl, rfl⟩⟩, hown.alloc _, hb⟩

set_option maxRecDepth 100000 in
set_option maxHeartbeats 4000000 in
theorem parse_any (v : Value) (b : List UInt8) (w : World) (ht : Tabs w) (h : Rd w v b.length 1 (bcells b)) (hn : b.length ≤ 9223372036854775807) :
    Calls Tryd.prog 36 #[v] w (Parsed b w) := by
  have hsh : ∃ ao c, v = .slice ao b.length c := by
    obtain ⟨-, -, ⟨ao, c, rfl, h0⟩ | ⟨b, off, c, rfl, -⟩⟩ := h
    · exact ⟨ao, c, by rw [h0]⟩
    · exact ⟨_, c, rfl⟩
  by_cases hlong : 2000 < b.length
  · have h1 : (2000 : Int) < (b.length : Int) := by omega
    obtain ⟨ao, c, rfl⟩ := hsh
    go_enter Tryd.func36, Tryd.ntmps36
    go_wp2
    go_ret3
    have he : parseErr b = 8 := by unfold parseErr; rw [if_pos hlong]
    have ha : parseAt b = 0 := by unfold parseAt; rw [if_pos hlong]
    exact ⟨(Below.refl _ _), _, by rw [he, ha]; rfl, .inr ⟨by rw [he]; decide, rfl⟩⟩
  have hln : ¬ (2000 : Int) < (b.length : Int) := by omega
  have hle : b.length ≤ 2000 := by omega
  have HEL := Lib.hid (elements_any v b w ht h (by omega))
  have hdl : (decode b).length ≤ b.length := decode_len b
  have hf : (elems b).length ≤ 20000 := by have := elGo_len b (decode b) 0 (-1) []; unfold elems; simp only [List.length_nil] at this; omega
  have kp := parsed_kept b
  have hkl := kp.lt
  have hko := kp.few
  have hperr : parseErr b = if (parsed b).1 = 0 then if knd (elems b) (parsed b).2.nx = -2 then 0 else 2 else (parsed b).1 := by unfold parseErr; rw [if_neg hlong]
  have hpat : parseAt b = if parseErr b = 0 then 0 else posAt (elems b) (parsed b).2.nx := by unfold parseAt; rw [if_neg hlong]
  have HQ : ∀ (b0 B : Nat) (ev ov : Value) (W : World), PSt b0 B (elems b) ev W ⟨0, 0, []⟩ ov → Calls Tryd.prog 60 #[.pointer (some ⟨B, 0, none⟩), .int .i64 0] W (Ret b0 B (elems b) ev (parsed b) W) := fun b0 B ev ov W hW => query0_ok (elems b) hf (elems_ended b) _ (Nat.le_refl _) b0 B ev ov _ W hW (elems_pos b) (Nat.zero_le _) (by simp)
  have hgoal : ∀ (w w' : World) (e : Ending), Parsed b w e w' ↔ (Below w.heap.size w w' ∧ ∃ ov, e = .returned (.tuple #[ov, .int .i64 (parseAt b), .int .i64 (parseErr b)]) ∧
    ((parseErr b = 0 ∧ w'.ownsRow w.heap.size 55 2 ov (parsed b).2.ops.length (ocells (parsed b).2.ops)) ∨ (parseErr b ≠ 0 ∧ ov = .slice none 0 0))) := fun _ _ _ => Iff.rfl
  generalize parseErr b = er at *
  generalize parseAt b = at' at *
  generalize parsed b = r at *
  generalize hes : elems b = es at *
  obtain ⟨e1, s1⟩ := r
  simp only at hkl hko hperr hpat
  have HG := Lib.hid hgoal
  have HPE := Lib.hid hperr
  have HPA := Lib.hid hpat
  have hE := elems_ended b
  clear hgoal hperr hpat kp hko h hes hE
  obtain ⟨ao, c, rfl⟩ := hsh
  have hfd := fld0 (knd es s1.nx) (posAt es s1.nx) (bstr (trm es s1.nx))
  have hfd1 := fld1 (knd es s1.nx) (posAt es s1.nx) (bstr (trm es s1.nx))
  by_cases he : e1 = 0
  · subst he
    by_cases hk : knd es s1.nx = -2
    · have e0 := HPE.out
      rw [if_pos rfl, if_pos hk] at e0
      have a0 := HPA.out
      rw [if_pos e0] at a0
      subst e0
      subst a0
      have n1 : (knd es s1.nx != -2) = false := by rw [hk]; rfl
      clear hk HPE HPA
      go_enter Tryd.func36, Tryd.ntmps36
      go_wp2_with (first | (go_at_call 59; refine HEL.out.mono ?_; rintro e w1 ⟨ev, rfl, hown1, hb1⟩; obtain ⟨ea, ec, rfl⟩ := own_shape hown1; have h2 := pst_new w w1 _ es hb1.size hown1) | (go_at_call 60; refine (HQ _ _ _ _ _ h2).mono ?_; rintro e w3 ⟨rfl, ov3, h4, hc4⟩; have hp4 := peek_st h4 hf hkl; have HP4 := Lib.hid hp4; clear hp4) | (go_at_call 61; refine HP4.out.mono ?_; rintro e w4 ⟨rfl, hb4⟩; have h5 := h4.below hb4; obtain ⟨c0, c1, c2, c3⟩ := h5.pm.cells))
      go_ret3
      refine (HG.out _ _ _).2 ⟨?_, ov3, rfl, .inl ⟨by trivial, h5.own⟩⟩
      exact ((hb1.alloc hb1.size _).trans hc4.below).trans (hb4.mono h4.size.1)
    · have e0 := HPE.out
      rw [if_pos rfl, if_neg hk] at e0
      have a0 := HPA.out
      rw [if_neg (by rw [e0]; decide)] at a0
      subst e0
      subst a0
      have n1 : (knd es s1.nx != -2) = true := by rw [bne_iff_ne]; exact hk
      clear hk HPE HPA
      go_enter Tryd.func36, Tryd.ntmps36
      go_wp2_with (first | (go_at_call 59; refine HEL.out.mono ?_; rintro e w1 ⟨ev, rfl, hown1, hb1⟩; obtain ⟨ea, ec, rfl⟩ := own_shape hown1; have h2 := pst_new w w1 _ es hb1.size hown1) | (go_at_call 60; refine (HQ _ _ _ _ _ h2).mono ?_; rintro e w3 ⟨rfl, ov3, h4, hc4⟩; have hp4 := peek_st h4 hf hkl; have HP4 := Lib.hid hp4; clear hp4) | (go_at_call 61; refine HP5.out.mono ?_; rintro e w5 ⟨rfl, hb5⟩) | (go_at_call 61; refine HP4.out.mono ?_; rintro e w4 ⟨rfl, hb4⟩; have h5 := h4.below hb4; obtain ⟨c0, c1, c2, c3⟩ := h5.pm.cells; have hp5 := peek_st h5 hf hkl; have HP5 := Lib.hid hp5; clear hp5))
      go_ret3
      refine (HG.out _ _ _).2 ⟨?_, _, rfl, .inr ⟨by decide, rfl⟩⟩
      exact (((hb1.alloc hb1.size _).trans hc4.below).trans (hb4.mono h4.size.1)).trans (hb5.mono h5.size.1)
  · have e0 := HPE.out
    rw [if_neg he] at e0
    have a0 := HPA.out
    rw [if_neg (by rw [e0]; exact he)] at a0
    subst e0
    subst a0
    have n1 : (er == 0) = false := beq_eq_false_iff_ne.2 he
    have n2 : (er != 0) = true := by rw [bne_iff_ne]; exact he
    have HNE := Lib.hid he
    clear he HPE HPA
    go_enter Tryd.func36, Tryd.ntmps36
    go_wp2_with (first | (go_at_call 59; refine HEL.out.mono ?_; rintro e w1 ⟨ev, rfl, hown1, hb1⟩; obtain ⟨ea, ec, rfl⟩ := own_shape hown1; have h2 := pst_new w w1 _ es hb1.size hown1) | (go_at_call 60; refine (HQ _ _ _ _ _ h2).mono ?_; rintro e w3 ⟨rfl, ov3, h4, hc4⟩; have hp4 := peek_st h4 hf hkl; have HP4 := Lib.hid hp4; clear hp4) | (go_at_call 61; refine HP4.out.mono ?_; rintro e w4 ⟨rfl, hb4⟩))
    go_ret3
    refine (HG.out _ _ _).2 ⟨?_, _, rfl, .inr ⟨HNE.out, rfl⟩⟩
    exact ((hb1.alloc hb1.size _).trans hc4.below).trans (hb4.mono h4.size.1)
end Go.Proofs.YteegbjjpjdlcmaaDoor
