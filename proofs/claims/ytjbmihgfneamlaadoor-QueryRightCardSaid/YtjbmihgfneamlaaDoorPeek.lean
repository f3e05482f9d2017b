/- (*query.parser).peek. -/
import Derived.Test.YtjbmihgfneamlaaDoorElements
set_option linter.unusedVariables false
namespace Go.Proofs.YtjbmihgfneamlaaDoor
open Go.RowKit

theorem elcells_from (xs : List El) (k : Nat) (h : k < xs.length) : (elcells xs)[k * 3]? = some (.int .i64 xs[k].kind) ∧ (elcells xs)[k * 3 + 1]? = some (.int .i64 xs[k].pos) ∧ (elcells xs)[k * 3 + 2]? = some (.string (bstr xs[k].term)) := by
  induction xs generalizing k with
  | nil => simp at h
  | cons x xs ih =>
    cases k with
    | zero => simp [elcells]
    | succ k =>
      have := ih k (by simpa using h)
      simp only [List.getElem_cons_succ]
      rw [← this.1, ← this.2.1, ← this.2.2]
      simp only [elcells, List.flatMap_cons]
      refine ⟨?_, ?_, ?_⟩
      · rw [show (k + 1) * 3 = k * 3 + 3 from by omega]; simp
      · rw [show (k + 1) * 3 + 1 = (k * 3 + 1) + 3 from by omega]; simp
      · rw [show (k + 1) * 3 + 2 = (k * 3 + 2) + 3 from by omega]; simp

/-- the parser in memory: its four fields. -/
def PM (w : World) (B : Nat) (ev : Value) (nx wd : Int) (ov : Value) : Prop := w.heap[B]? = some (.cells #[ev, .int .i64 nx, .int .i64 wd, ov] 63 (0, 0))

theorem PM.cells {w : World} {B : Nat} {ev ov : Value} {nx wd : Int} (h : PM w B ev nx wd ov) : w.cell? ⟨B, 0, none⟩ = some ev ∧ w.cell? ⟨B, 1, none⟩ = some (.int .i64 nx) ∧ w.cell? ⟨B, 2, none⟩ = some (.int .i64 wd) ∧ w.cell? ⟨B, 3, none⟩ = some ov := by
  unfold PM at h
  refine ⟨?_, ?_, ?_, ?_⟩ <;> (rw [cell_of_row w B _ _ _ (0, 0) h]; rfl)
theorem PM.free {w : World} {B : Nat} {ev ov : Value} {nx wd : Int} (h : PM w B ev nx wd ov) (j : Nat) : w.frozen? ⟨B, j, none⟩ = false := frozen_of_row w B j _ _ h

/-- the elements as they are read. -/
structure EV (w : World) (ev : Value) (es : List El) : Prop where
  rd : Rd w ev es.length 3 (elcells es)
  few : es.length ≤ 100000

set_option maxRecDepth 100000 in
set_option maxHeartbeats 1000000 in
theorem peek_any (B : Nat) (ev ov : Value) (es : List El) (nx : Nat) (wd : Int) (w : World) (h : PM w B ev nx wd ov) (hE : EV w ev es) (hnx : nx < es.length) :
    Calls Tryd.prog 39 #[.pointer (some ⟨B, 0, none⟩)] w fun e w' => e = .returned (.agg #[.int .i64 es[nx].kind, .int .i64 es[nx].pos, .string (bstr es[nx].term)]) ∧ Below w.heap.size w w' := by
  obtain ⟨c0, c1, c2, c3⟩ := h.cells
  have hfew := hE.few
  obtain ⟨-, hm, ⟨ao, c, rfl, h0⟩ | ⟨b, off, c, rfl, -, hnc, hcm, hcell⟩⟩ := hE.rd
  · omega
  have e1 := hcell _ _ (elcells_from es nx hnx).1
  have e2 := hcell _ _ (elcells_from es nx hnx).2.1
  have e3 := hcell _ _ (elcells_from es nx hnx).2.2
  rw [← Nat.add_assoc] at e2 e3
  have n0 := World.new_ne w _ c0
  have n1 := World.new_ne w _ e1
  have i1 : (0 : Int) ≤ (nx : Int) := by omega
  have i2 : (nx : Int) < (es.length : Int) := by omega
  obtain ⟨⟨kk, pp, tt⟩, hx⟩ : ∃ x, x = es[nx] := ⟨_, rfl⟩
  rw [← hx] at e1 e2 e3 ⊢
  simp only at e1 e2 e3 n0 n1 ⊢
  clear hx hcell h hE
  go_enter Tryd.func39, Tryd.ntmps39
  go_wp2_with fail
  have hb0 : Below w.heap.size w (w.alloc (.cells #[.int .i64 0, .int .i64 0, .string { data := #[] }] 66)) := (Below.refl _ _).alloc (Nat.le_refl _) _
  have hnew : (w.alloc (.cells #[.int .i64 0, .int .i64 0, .string { data := #[] }] 66)).heap[w.heap.size]? = some (.cells #[.int .i64 0, .int .i64 0, .string { data := #[] }] 66 (0, 0)) := heap_alloc_new w _
  generalize w.alloc (.cells #[.int .i64 0, .int .i64 0, .string { data := #[] }] 66) = W at *
  have d0 := cell_later hb0 c0
  have d1 := cell_later hb0 c1
  have d2 := cell_later hb0 e1
  have d3 := cell_later hb0 e2
  have d4 := cell_later hb0 e3
  have q0 : W.cell? ⟨w.heap.size, 0, none⟩ = some (.int .i64 0) := by rw [cell_of_row W _ _ _ _ (0, 0) hnew]; rfl
  have q1 : W.cell? ⟨w.heap.size, 1, none⟩ = some (.int .i64 0) := by rw [cell_of_row W _ _ _ _ (0, 0) hnew]; rfl
  have q2 : W.cell? ⟨w.heap.size, 2, none⟩ = some (.string { data := #[] }) := by rw [cell_of_row W _ _ _ _ (0, 0) hnew]; rfl
  have g0 : W.frozen? ⟨w.heap.size, 0, none⟩ = false := frozen_of_row W _ _ _ _ hnew
  have g1 : W.frozen? ⟨w.heap.size, 1, none⟩ = false := frozen_of_row W _ _ _ _ hnew
  have g2 : W.frozen? ⟨w.heap.size, 2, none⟩ = false := frozen_of_row W _ _ _ _ hnew
  clear c0 c1 c2 c3 e1 e2 e3
  go_region_held3 (fun w' => w'.cell? ⟨B, 0, none⟩ = some (.slice (some ⟨b, off, none⟩) es.length c) ∧ w'.cell? ⟨B, 1, none⟩ = some (.int .i64 nx) ∧ w'.cell? ⟨b, off + nx * 3, none⟩ = some (.int .i64 kk) ∧ w'.cell? ⟨b, off + nx * 3 + 1, none⟩ = some (.int .i64 pp) ∧ w'.cell? ⟨b, off + nx * 3 + 2, none⟩ = some (.string (bstr tt)))
    (first | exact ⟨d0, d1, d2, d3, d4⟩ | go_keep)
    (fail)
  go_wp2_with fail
  have h1 := heap_setCell_same W w.heap.size 0 _ _ (.int .i64 kk) hnew
  have h2 := heap_setCell_same _ w.heap.size 1 _ _ (.int .i64 pp) h1
  have h3 := heap_setCell_same _ w.heap.size 2 _ _ (.string (bstr tt)) h2
  have hbf : Below w.heap.size w (((W.setCell ⟨w.heap.size, 0, none⟩ (.int .i64 kk)).setCell ⟨w.heap.size, 1, none⟩ (.int .i64 pp)).setCell ⟨w.heap.size, 2, none⟩ (.string (bstr tt))).drew := (((hb0.setCell (Nat.le_refl _) _).setCell (Nat.le_refl _) _).setCell (Nat.le_refl _) _).drew
  exact bodyPost_ret (v := .agg #[.int .i64 kk, .int .i64 pp, .string (bstr tt)]) (results_cell_row (p := 2) (ty := 66) rfl _ _ w.heap.size 66 _ (0, 0) _ rfl h3 Tryd.underlying66 rfl (by kernel_rfl)) rfl ⟨rfl, hbf⟩
end Go.Proofs.YtjbmihgfneamlaaDoor
