/- (*query.parser).unit, clause, query: the walks. -/
import Derived.Test.YtjbmihgfneamlaaDoorParseDefs
set_option linter.unusedVariables false
namespace Go.Proofs.YtjbmihgfneamlaaDoor
open Go.RowKit

theorem infoOp : (Tryd.prog.info? 38).map (fun i => (i.zero, i.size, i.bytes)) = some (some (.agg #[.int .i64 0, .string ByteArray.empty]), 2, 24) := by kernel_rfl

/-- nothing has changed but the parser itself, and rows of steps. -/
structure PChg (b0 B : Nat) (w w' : World) : Prop where
  os : w'.os = w.os
  tape : w'.tape = w.tape
  output : w'.output = w.output
  size : w.heap.size ≤ w'.heap.size
  low : ∀ k, k < b0 → w'.heap[k]? = w.heap[k]?
  high : ∀ k o, k ≠ B → w.heap[k]? = some o → (∀ cs fr, o ≠ .cells cs 38 fr) → w'.heap[k]? = some o

theorem PChg.refl (b0 B : Nat) (w : World) : PChg b0 B w w := ⟨rfl, rfl, rfl, Nat.le_refl _, fun _ _ => rfl, fun _ _ _ h _ => h⟩
theorem PChg.trans {b0 B : Nat} {a b c : World} (h : PChg b0 B a b) (k : PChg b0 B b c) : PChg b0 B a c :=
  ⟨k.os.trans h.os, k.tape.trans h.tape, k.output.trans h.output, Nat.le_trans h.size k.size, fun i hi => (k.low i hi).trans (h.low i hi), fun i o hi ho hn => k.high i o hi (h.high i o hi ho hn) hn⟩
theorem PChg.of_below {b0 B : Nat} {w w' : World} (h : Below w.heap.size w w') (hB : b0 ≤ w.heap.size) : PChg b0 B w w' :=
  ⟨h.os, h.tape, h.output, h.size, fun k hk => h.block k (by omega), fun k o _ ho _ => by rw [h.block k (lt_of_block ho)]; exact ho⟩
theorem PChg.below {b0 B : Nat} {w w' : World} (h : PChg b0 B w w') : Below b0 w w' := ⟨h.os, h.tape, h.output, h.size, h.low⟩
theorem PChg.set {b0 B : Nat} (w : World) (j : Nat) (u : Value) (h1 : b0 ≤ B) : PChg b0 B w (w.setCell ⟨B, j, none⟩ u) :=
  ⟨rfl, rfl, rfl, by simp [World.setCell], fun k hk => Below.heap_setCell _ _ _ _ (by simp only; omega), fun k o hk ho _ => by rw [Below.heap_setCell _ _ _ _ (by simp only; omega)]; exact ho⟩
theorem PChg.grown {b0 B : Nat} {w w' : World} {v : Value} {n : Nat} {xs : List Value} (hown : w.ownsRow b0 38 2 v n xs) (h : w.grownBy w' v.ownBlock) (hB : b0 ≤ w.heap.size) : PChg b0 B w w' := by
  refine ⟨h.os, h.tape, h.output, h.size, fun k hk => ?_, fun k o hk ho hn => ?_⟩
  · refine h.block k (by omega) (fun e => ?_)
    have := (hown.lt k e.symm).1; omega
  · rw [h.block k (lt_of_block ho) (fun e => ?_)]
    · exact ho
    · rcases hown.2 with ⟨rfl, _⟩ | ⟨g, cap, cur, rfl, _, hg, _⟩
      · simp [Value.ownBlock] at e
      · simp only [Value.ownBlock, Option.some.injEq] at e
        subst e
        rw [hg] at ho
        exact hn cur (0, 0) (Option.some.inj ho).symm

/-- a row of another type than steps and the parser is as it was. -/
theorem PChg.own {b0 B base : Nat} {w w' : World} {e : TypeId} {sz : Nat} {v : Value} {n : Nat} {xs : List Value} {ps : Array Value} (h : PChg b0 B w w') (hp : w.heap[B]? = some (.cells ps 63 (0, 0))) (hown : w.ownsRow base e sz v n xs) (h1 : e ≠ 38) (h2 : e ≠ 63) : w'.ownsRow base e sz v n xs := by
  obtain ⟨hl, hh⟩ := hown
  refine ⟨hl, ?_⟩
  rcases hh with h' | ⟨g, cap, cur, hv, hbg, hg, hr⟩
  · exact .inl h'
  · refine .inr ⟨g, cap, cur, hv, hbg, h.high g _ ?_ hg ?_, hr⟩
    · intro e'
      subst e'
      rw [hg] at hp
      simp only [Option.some.injEq, Obj.cells.injEq] at hp
      exact h2 hp.2.1
    · intro cs fr e'
      simp only [Obj.cells.injEq] at e'
      exact h1 e'.2.1

/-- the parser's state, in memory. -/
structure PSt (b0 B : Nat) (es : List El) (ev : Value) (w : World) (s : PS) (ov : Value) : Prop where
  pm : PM w B ev s.nx s.wd ov
  own : w.ownsRow b0 38 2 ov s.ops.length (ocells s.ops)
  el : w.ownsRow b0 66 3 ev es.length (elcells es)
  le : b0 ≤ B

theorem PSt.below {b0 B : Nat} {es : List El} {ev ov : Value} {w w' : World} {s : PS} (h : PSt b0 B es ev w s ov) (hb : Below w.heap.size w w') : PSt b0 B es ev w' s ov :=
  ⟨by have := h.pm; unfold PM at this ⊢; rw [hb.block _ (lt_of_block this)]; exact this, own_below' h.own hb, own_below' h.el hb, h.le⟩

theorem PSt.size {b0 B : Nat} {es : List El} {ev ov : Value} {w : World} {s : PS} (h : PSt b0 B es ev w s ov) : b0 ≤ w.heap.size ∧ B < w.heap.size := by
  have := lt_of_block h.pm; have := h.le; omega

theorem own_at_ne {w : World} {base B : Nat} {e t : TypeId} {sz : Nat} {v : Value} {n : Nat} {xs : List Value} {ps : Array Value} {fr : Nat × Nat} (hp : w.heap[B]? = some (.cells ps t fr)) (hown : w.ownsRow base e sz v n xs) (h : e ≠ t) : v.ownBlock ≠ some B := by
  intro e'
  rcases hown.2 with ⟨rfl, _⟩ | ⟨g, cap, cur, rfl, _, hg, _⟩
  · simp [Value.ownBlock] at e'
  · simp only [Value.ownBlock, Option.some.injEq] at e'
    subst e'
    rw [hg] at hp
    simp only [Option.some.injEq, Obj.cells.injEq] at hp
    exact h hp.2.1

theorem pm_ne {w : World} {base B : Nat} {e : TypeId} {sz : Nat} {v ev ov : Value} {nx wd : Int} {n : Nat} {xs : List Value} (hp : PM w B ev nx wd ov) (hown : w.ownsRow base e sz v n xs) (h : e ≠ 63) : v.ownBlock ≠ some B := by
  unfold PM at hp
  exact own_at_ne hp hown h

/-- the next element is raised. -/
theorem PSt.setNx {b0 B : Nat} {es : List El} {ev ov : Value} {w : World} {s : PS} (h : PSt b0 B es ev w s ov) (n : Nat) : PSt b0 B es ev (w.setCell ⟨B, 1, none⟩ (.int .i64 n)) { s with nx := n } ov :=
  ⟨heap_setCell_same w B 1 _ _ _ h.pm, ownsRow_setCell_other h.own (a := ⟨B, 1, none⟩) (pm_ne h.pm h.own (by decide)) _, ownsRow_setCell_other h.el (a := ⟨B, 1, none⟩) (pm_ne h.pm h.el (by decide)) _, h.le⟩
theorem PSt.setWd {b0 B : Nat} {es : List El} {ev ov : Value} {w : World} {s : PS} (h : PSt b0 B es ev w s ov) (n : Nat) : PSt b0 B es ev (w.setCell ⟨B, 2, none⟩ (.int .i64 n)) { s with wd := n } ov :=
  ⟨heap_setCell_same w B 2 _ _ _ h.pm, ownsRow_setCell_other h.own (a := ⟨B, 2, none⟩) (pm_ne h.pm h.own (by decide)) _, ownsRow_setCell_other h.el (a := ⟨B, 2, none⟩) (pm_ne h.pm h.el (by decide)) _, h.le⟩

/-- steps are appended: the row has grown, and then the field is set. -/
theorem PSt.grownOps {b0 B : Nat} {es : List El} {ev ov ov' : Value} {w w' : World} {s : PS} {op : QOp} (h : PSt b0 B es ev w s ov) (hown : w'.ownsRow b0 38 2 ov' (s.ops.length + 1) (ocells s.ops ++ ocells [op])) (hg : w.grownBy w' ov.ownBlock) :
    PM w' B ev s.nx s.wd ov ∧ PSt b0 B es ev (w'.setCell ⟨B, 3, none⟩ ov') { s with ops := s.ops ++ [op] } ov' := by
  have hc : PChg b0 (B + 1 + w.heap.size) w w' := PChg.grown h.own hg (by have := h.size; omega)
  have hpm : w'.heap[B]? = some (.cells #[ev, .int .i64 s.nx, .int .i64 s.wd, ov] 63 (0, 0)) := hc.high B _ (by omega) h.pm (by intro cs fr e; simp only [Obj.cells.injEq] at e; exact absurd e.2.1 (by decide))
  have hel : w'.ownsRow b0 66 3 ev es.length (elcells es) := by
    obtain ⟨hl, hh⟩ := h.el
    refine ⟨hl, ?_⟩
    rcases hh with h' | ⟨g, cap, cur, hv, hbg, hg', hr⟩
    · exact .inl h'
    · exact .inr ⟨g, cap, cur, hv, hbg, hc.high g _ (by have := lt_of_block hg'; omega) hg' (by intro cs fr e; simp only [Obj.cells.injEq] at e; exact absurd e.2.1 (by decide)), hr⟩
  refine ⟨hpm, heap_setCell_same w' B 3 _ _ _ hpm, ?_, ownsRow_setCell_other hel (a := ⟨B, 3, none⟩) (own_at_ne hpm hel (by decide)) _, h.le⟩
  have := ownsRow_setCell_other hown (a := ⟨B, 3, none⟩) (own_at_ne hpm hown (by decide)) ov'
  simp only [List.length_append, ocells_append]
  exact this

def Ret (b0 B : Nat) (es : List El) (ev : Value) (r : Int × PS) (w : World) (e : Ending) (w' : World) : Prop :=
  e = .returned (.int .i64 r.1) ∧ ∃ ov', PSt b0 B es ev w' r.2 ov' ∧ PChg b0 B w w'

def PartOK (f : FuncId) (es : List El) (d : Nat) (u : PS → Int × PS) : Prop :=
  ∀ (b0 B : Nat) (ev ov : Value) (s : PS) (w : World), PSt b0 B es ev w s ov → s.nx < es.length → s.ops.length ≤ 2 * s.nx → s.wd ≤ 16 → Calls Tryd.prog f #[.pointer (some ⟨B, 0, none⟩), .int .i64 d] w (Ret b0 B es ev (u s) w)

theorem peek_st {b0 B : Nat} {es : List El} {ev ov : Value} {w : World} {s : PS} (h : PSt b0 B es ev w s ov) (hf : es.length ≤ 20000) (hs : s.nx < es.length) :
    Calls Tryd.prog 39 #[.pointer (some ⟨B, 0, none⟩)] w fun e w' => e = .returned (.agg #[.int .i64 (knd es s.nx), .int .i64 (posAt es s.nx), .string (bstr (trm es s.nx))]) ∧ Below w.heap.size w w' := by
  have := peek_any B ev ov es s.nx s.wd w h.pm ⟨Rd.of_own h.el, by omega⟩ hs
  unfold knd posAt trm
  rw [List.getElem?_eq_getElem hs]
  exact this

set_option maxRecDepth 100000 in
set_option maxHeartbeats 2000000 in
theorem unit_word (es : List El) (hf : es.length ≤ 20000) (d : Nat) (hd : d ≤ 8) (b0 B : Nat) (ev ov : Value) (s : PS) (w : World) (h : PSt b0 B es ev w s ov) (hs : s.nx < es.length) (ho : s.ops.length ≤ 2 * s.nx) (hw : s.wd ≤ 16) (hk : knd es s.nx = -1) :
    Calls Tryd.prog 84 #[.pointer (some ⟨B, 0, none⟩), .int .i64 d] w (Ret b0 B es ev (wordP es s) w) := by
  obtain ⟨i0, hi, hz0, hz1, hz2⟩ := info_parts infoOp
  have hp := peek_st h hf hs
  rw [hk] at hp
  have HP := Lib.hid hp
  clear hp
  by_cases h16 : 16 ≤ s.wd
  · have h16i : (16 : Int) ≤ (s.wd : Int) := by omega
    go_enter Tryd.func84, Tryd.ntmps84
    go_wp2_with (go_at_call 39; refine HP.out.mono ?_; rintro e w1 ⟨rfl, hb1⟩; have h1 := h.below (hb1.alloc hb1.size (.cells #[.int .i64 (-1), .int .i64 (posAt es s.nx), .string (bstr (trm es s.nx))] 66)); obtain ⟨c0, c1, c2, c3⟩ := h1.pm.cells)
    go_ret
    unfold wordP
    rw [if_pos h16]
    exact ⟨rfl, _, h1, PChg.of_below (hb1.alloc hb1.size _) h.size.1⟩
  · go_enter Tryd.func84, Tryd.ntmps84
    go_wp2_with (go_at_call 39; refine HP.out.mono ?_; rintro e w1 ⟨rfl, hb1⟩; have h1 := h.below (hb1.alloc hb1.size (.cells #[.int .i64 (-1), .int .i64 (posAt es s.nx), .string (bstr (trm es s.nx))] 66)); obtain ⟨c0, c1, c2, c3⟩ := h1.pm.cells; have f2 := h1.pm.free 2; have f1 := h1.pm.free 1)
    have h3 := (h1.setWd (s.wd + 1)).setNx (s.nx + 1)
    rw [show ((s.wd + 1 : Nat) : Int) = (s.wd : Int) + 1 from by omega, show ((s.nx + 1 : Nat) : Int) = (s.nx : Int) + 1 from by omega] at h3
    have hc3 : PChg b0 B w (((w1.alloc (.cells #[.int .i64 (-1), .int .i64 (posAt es s.nx), .string (bstr (trm es s.nx))] 66)).setCell ⟨B, 2, none⟩ (.int .i64 ((s.wd : Int) + 1))).setCell ⟨B, 1, none⟩ (.int .i64 ((s.nx : Int) + 1))) :=
      (((PChg.of_below (hb1.alloc hb1.size _) h.size.1).trans (PChg.set _ 2 _ h.le)).trans (PChg.set _ 1 _ h.le))
    have hBne : B ≠ w1.heap.size := by have := h.size; have := hb1.size; omega
    have hblk : (((w1.alloc (.cells #[.int .i64 (-1), .int .i64 (posAt es s.nx), .string (bstr (trm es s.nx))] 66)).setCell ⟨B, 2, none⟩ (.int .i64 ((s.wd : Int) + 1))).setCell ⟨B, 1, none⟩ (.int .i64 ((s.nx : Int) + 1))).heap[w1.heap.size]? = some (.cells #[.int .i64 (-1), .int .i64 (posAt es s.nx), .string (bstr (trm es s.nx))] 66 (0, 0)) := by
      rw [Below.heap_setCell _ _ _ _ (by simp only; omega), Below.heap_setCell _ _ _ _ (by simp only; omega)]
      exact heap_alloc_new w1 _
    have k2 : (((w1.alloc (.cells #[.int .i64 (-1), .int .i64 (posAt es s.nx), .string (bstr (trm es s.nx))] 66)).setCell ⟨B, 2, none⟩ (.int .i64 ((s.wd : Int) + 1))).setCell ⟨B, 1, none⟩ (.int .i64 ((s.nx : Int) + 1))).cell? ⟨w1.heap.size, 2, none⟩ = some (.string (bstr (trm es s.nx))) := by
      rw [cell_of_row _ w1.heap.size 2 _ _ (0, 0) hblk]; rfl
    generalize (((w1.alloc (.cells #[.int .i64 (-1), .int .i64 (posAt es s.nx), .string (bstr (trm es s.nx))] 66)).setCell ⟨B, 2, none⟩ (.int .i64 ((s.wd : Int) + 1))).setCell ⟨B, 1, none⟩ (.int .i64 ((s.nx : Int) + 1))) = W3 at *
    obtain ⟨-, -, -, d3⟩ := h3.pm.cells
    have hS : ∀ w', Below W3.heap.size W3 w' → (fun w' : World => w'.cell? ⟨B, 3, none⟩ = some ov ∧ w'.cell? ⟨w1.heap.size, 2, none⟩ = some (.string (bstr (trm es s.nx)))) w' :=
      fun w' hb => ⟨cell_later hb d3, cell_later hb k2⟩
    have HS := Lib.hid hS; clear hS
    clear c0 c1 c2 c3 f1 f2 d3 k2
    refine L_begin (fun w' : World => w'.cell? ⟨B, 3, none⟩ = some ov ∧ w'.cell? ⟨w1.heap.size, 2, none⟩ = some (.string (bstr (trm es s.nx)))) 12 (by kernel_rfl) ?_
    refine L_free (fuel := 12) 0 (.pointer (some ⟨B, 0, none⟩)) rfl (by kernel_rfl) (by kernel_rfl) (by kernel_rfl) (by kernel_rfl) (fun _ _ _ h => h) (by rfl) ?_ (HS.out _ (Below.refl _ _).drew) ?_
    · intro W
      go_simp
    refine L_free (fuel := 11) 1 (.pointer (some ⟨B, 0, none⟩)) rfl (by kernel_rfl) (by kernel_rfl) (by kernel_rfl) (by kernel_rfl) (fun _ _ _ h => h) (by rfl) ?_ (HS.out _ (Below.refl _ _).drew) ?_
    · intro W
      go_simp
    refine L_free (fuel := 10) 2 (.pointer (some ⟨B, 0, none⟩)) rfl (by kernel_rfl) (by kernel_rfl) (by kernel_rfl) (by kernel_rfl) (fun _ _ _ h => h) (by rfl) ?_ (HS.out _ (Below.refl _ _).drew) ?_
    · intro W
      go_simp
    refine L_free (fuel := 9) 3 (.pointer (some ⟨B, 3, none⟩)) rfl (by kernel_rfl) (by kernel_rfl) (by kernel_rfl) (by kernel_rfl) (fun _ _ _ h => h) (by rfl) ?_ (HS.out _ (Below.refl _ _).drew) ?_
    · intro W
      go_simp
    refine L_take (fuel := 8) 4 (ov) rfl (by kernel_rfl) (by kernel_rfl) (by kernel_rfl) (by kernel_rfl) (fun _ _ _ h => h) (by rfl) ?_ (HS.out _ (Below.refl _ _).drew) ?_
    · rintro W ⟨s0, s1⟩
      go_simp
    refine L_free (fuel := 7) 5 (.pointer (some ⟨w1.heap.size, 2, none⟩)) rfl (by kernel_rfl) (by kernel_rfl) (by kernel_rfl) (by kernel_rfl) (fun _ _ _ h => h) (by rfl) ?_ (HS.out _ (Below.refl _ _).drew) ?_
    · intro W
      go_simp
    refine L_take (fuel := 6) 6 (.string (bstr (trm es s.nx))) rfl (by kernel_rfl) (by kernel_rfl) (by kernel_rfl) (by kernel_rfl) (fun _ _ _ h => h) (by rfl) ?_ (HS.out _ (Below.refl _ _).drew) ?_
    · rintro W ⟨s0, s1⟩
      go_simp
    refine L_one (fuel := 5) 7 (by kernel_rfl) rfl ?_
    intro K hK
    go_simp
    refine hK _ _ (HS.out _ (Below.refl _ _).drew) ?_
    clear hK K
    refine L_one (fuel := 4) 8 (by kernel_rfl) rfl ?_
    intro K hK
    go_simp
    refine hK _ _ (HS.out _ ((Below.refl _ _).drew.alloc (Nat.le_refl _) _)) ?_
    clear hK K
    have hb4 := (Below.refl W3.heap.size W3).drew.alloc (Nat.le_refl _) (.cells #[.int .i64 0, .string (bstr (trm es s.nx))] 38)
    have h4 := h3.below hb4
    refine L_one (fuel := 3) 9 (by kernel_rfl) rfl ?_
    intro K hK
    refine step_app (by rfl) (.tmp 36) (.tmp 40) _ _ (by rfl) b0 38 i0 _ 2 24 Tryd.underlying22 hi hz0 hz1 hz2 rfl ov s.ops.length _ (by rfl) h4.own _ 1 [.int .i64 0, .string (bstr (trm es s.nx))] (by rfl) (src_new Tryd.underlying22 W3.drew _ 2 1 1 rfl (by intro u hu; simp at hu; rcases hu with rfl | rfl <;> rfl)) (by unfold maxLen; omega) (by omega) h4.size.1 ?_
    intro ov2 w5 hown5 hgr5 _
    obtain ⟨hpm5, h6⟩ := h4.grownOps (op := (0, trm es s.nx)) hown5 hgr5
    have hc5 : PChg b0 B w w5 := (hc3.trans (PChg.of_below hb4 h3.size.1)).trans (PChg.grown h4.own hgr5 h4.size.1)
    have hk5 : w5.cell? ⟨w1.heap.size, 2, none⟩ = some (.string (bstr (trm es s.nx))) := by
      have hb5 := (PChg.grown (B := w5.heap.size) h4.own hgr5 h4.size.1).high w1.heap.size _ (Nat.ne_of_lt (Nat.lt_of_lt_of_le (lt_of_block hblk) (Nat.le_trans hb4.size hgr5.size))) (by rw [hb4.block _ (lt_of_block hblk)]; exact hblk) (by intro cs fr e; simp only [Obj.cells.injEq] at e; exact absurd e.2.1 (by decide))
      rw [cell_of_row _ w1.heap.size 2 _ _ (0, 0) hb5]; rfl
    obtain ⟨a2, cc2, rfl⟩ := own_shape hown5
    refine hK _ _ ⟨hpm5.cells.2.2.2, hk5⟩ ?_
    clear hK K hgr5
    refine L_one (fuel := 2) 10 (by kernel_rfl) rfl ?_
    intro K hK
    go_simp
    refine hK _ _ ⟨hpm5.cells.2.2.2, hk5⟩ ?_
    clear hK K
    refine L_one (fuel := 1) 11 (by kernel_rfl) rfl ?_
    intro K hK
    go_simp
    refine hK _ _ ⟨hpm5.cells.2.2.2, hk5⟩ ?_
    clear hK K
    have f1 := hpm5.free 3
    have k1 := hpm5.cells.2.2.2
    refine L_last (fuel := 0) (by kernel_rfl) (by kernel_rfl) rfl ?_
    intro K hK
    go_simp
    refine hK _ _ ?_
    clear hK K
    refine L_done (by kernel_rfl) ?_ 0
    have hc6 := hc5.trans (PChg.set w5 3 (.slice a2 (s.ops.length + 1) cc2) h.le)
    generalize w5.setCell ⟨B, 3, none⟩ (.slice a2 (s.ops.length + 1) cc2) = w6 at *
    go_wp2
    go_ret
    unfold wordP
    rw [if_neg h16]
    exact ⟨rfl, _, h6, hc6⟩
end Go.Proofs.YtjbmihgfneamlaaDoor
