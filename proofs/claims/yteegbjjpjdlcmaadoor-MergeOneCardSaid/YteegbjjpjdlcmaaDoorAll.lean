/- merge.All of none and of one segment. -/
import Derived.Test.YteegbjjpjdlcmaaDoorUnion
import Derived.Test.YteegbjjpjdlcmaaDoorSegR
import Derived.Test.YteegbjjpjdlcmaaDoorHeld2
set_option linter.unusedVariables false
namespace Go.Proofs.YteegbjjpjdlcmaaDoor
open Go.RowKit Go.Sort

theorem results_row_tmp {P : Program} {fn : Func} {p u : Tmp} {ty : TypeId} (h : fn.results = #[.cell p ty, .tmp u]) (tmps : Array Value) (w : World) (g : Nat) (t : TypeId) (cs : Array Value) (fr : Nat × Nat) (d : TypeDesc)
    (hp : tmps.getD p undef = .pointer (some ⟨g, 0, none⟩)) (hg : w.heap[g]? = some (.cells cs t fr))
    (hu : P.underlying ty = some d) (hd : (match d with | .struct _ | .array _ _ => true | _ => false) = true) (hi : (P.info? ty).map (·.size) = some cs.size) :
    (results fn tmps).run P w = .ok (.tuple #[.agg cs, tmps.getD u undef]) w := by
  have hp' : tmps[p]?.getD undef = .pointer (some ⟨g, 0, none⟩) := by simpa using hp
  simp [results, h, hp', asAddr, run_loadVar_row w g t ty cs fr d hg hu hd hi]

set_option maxRecDepth 100000 in
set_option maxHeartbeats 1000000 in
theorem all_nil (w : World) : Calls Tryd.prog 11 #[.slice none 0 0] w fun e w' => e = .returned (.tuple #[.agg #[.int .i64 0, .int .i64 0, .slice none 0 0], .int .i64 1]) ∧ Below w.heap.size w w' := by
  go_enter Tryd.func11, Tryd.ntmps11
  go_wp2
  have h0 := heap_alloc_new w (.cells #[.int .i64 0, .int .i64 0, .slice none 0 0] 26)
  have hb : Below w.heap.size w (w.alloc (.cells #[.int .i64 0, .int .i64 0, .slice none 0 0] 26)) := (Below.refl _ _).alloc (Nat.le_refl _) _
  exact bodyPost_ret (v := .tuple #[.agg #[.int .i64 0, .int .i64 0, .slice none 0 0], .int .i64 1]) (results_row_tmp (p := 2) (u := 3) (ty := 26) rfl _ _ w.heap.size 26 _ (0, 0) _ rfl h0 Tryd.underlying26 rfl (by kernel_rfl)) rfl ⟨rfl, hb⟩

set_option maxRecDepth 100000 in
set_option maxHeartbeats 2000000 in
theorem all_bad (f t : Int) (g : Nat) (v : Value) (n : Nat) (d : List Ent) (w : World) (ht : Tabs w) (h : DRd w v n d) (hts : ∀ e ∈ d, e.1.length ≤ 100000 ∧ e.2.length ≤ 100000) (hbad : segRight f t d = false)
    (l0 : w.cell? ⟨g, 0, none⟩ = some (.int .i64 f)) (l1 : w.cell? ⟨g, 1, none⟩ = some (.int .i64 t)) (l2 : w.cell? ⟨g, 2, none⟩ = some v) :
    Calls Tryd.prog 11 #[.slice (some ⟨g, 0, none⟩) 1 1] w fun e w' => e = .returned (.tuple #[.agg #[.int .i64 0, .int .i64 0, .slice none 0 0], .int .i64 1]) ∧ Below w.heap.size w w' := by
  obtain ⟨ao, c, rfl, hm, -⟩ := dict_cells h
  have HS := Lib.hid (fun W (hW : Below w.heap.size w W) => segright_any f t (.slice ao n c) n d W (ht.below hW) (h.below hW) hts)
  rw [hbad] at HS
  have hb0 : Below w.heap.size w (w.alloc (.cells #[.int .i64 0, .int .i64 0, .slice none 0 0] 26)) := (Below.refl _ _).alloc (Nat.le_refl _) _
  have hR := heap_alloc_new w (.cells #[.int .i64 0, .int .i64 0, .slice none 0 0] 26)
  have hsz0 : w.heap.size < (w.alloc (.cells #[.int .i64 0, .int .i64 0, .slice none 0 0] 26)).heap.size := lt_of_block hR
  have m0 := cell_later hb0 l0
  have m1 := cell_later hb0 l1
  have m2 := cell_later hb0 l2
  clear h hts ht hbad l0 l1 l2
  go_enter Tryd.func11, Tryd.ntmps11
  go_wp2_with fail
  generalize hW0 : (w.alloc (.cells #[.int .i64 0, .int .i64 0, .slice none 0 0] 26)) = W0 at *
  clear hW0
  go_loopw [14] (fun i wr => i = .int .i64 0 ∧ wr = W0) (fun i _ => 0)
  case atStart => exact ⟨rfl, rfl⟩
  case round =>
    obtain ⟨rfl, rfl⟩ := hrel
    have hb1 : Below wr.heap.size wr (wr.alloc (.cells #[.int .i64 f, .int .i64 t, .slice ao n c] 26)) := (Below.refl _ _).alloc (Nat.le_refl _) _
    have B1 := hb0.trans (hb1.mono hb0.size)
    have hR1 : (wr.alloc (.cells #[.int .i64 f, .int .i64 t, .slice ao n c] 26)).heap[w.heap.size]? = some (.cells #[.int .i64 0, .int .i64 0, .slice none 0 0] 26 (0, 0)) := by rw [hb1.block _ hsz0]; exact hR
    have hs1 : w.heap.size < (wr.alloc (.cells #[.int .i64 f, .int .i64 t, .slice ao n c] 26)).heap.size := lt_of_block hR1
    go_wp2_with (go_at_call 31; refine (HS.out _ B1).mono ?_; rintro e w2 ⟨rfl, hb2⟩; have B2 := B1.trans (hb2.mono B1.size); have hR2 : w2.heap[w.heap.size]? = some (.cells #[.int .i64 0, .int .i64 0, .slice none 0 0] 26 (0, 0)) := (hb2.block _ hs1).trans hR1; have c0 := cell_of_row _ _ 0 _ _ _ hR2; have c1 := cell_of_row _ _ 1 _ _ _ hR2; have c2 := cell_of_row _ _ 2 _ _ _ hR2; have f0 := frozen_of_row _ _ 0 _ _ hR2; have f1 := frozen_of_row _ _ 1 _ _ hR2; have f2 := frozen_of_row _ _ 2 _ _ hR2)
    have h1 := heap_setCell_same w2 w.heap.size 0 _ _ (.int .i64 0) hR2
    have h2 := heap_setCell_same _ w.heap.size 1 _ _ (.int .i64 0) h1
    have h3 := heap_setCell_same _ w.heap.size 2 _ _ (.slice none 0 0) h2
    have hbf : Below w.heap.size w (((w2.setCell ⟨w.heap.size, 0, none⟩ (.int .i64 0)).setCell ⟨w.heap.size, 1, none⟩ (.int .i64 0)).setCell ⟨w.heap.size, 2, none⟩ (.slice none 0 0)) := (((B2.setCell (Nat.le_refl _) _).setCell (Nat.le_refl _) _).setCell (Nat.le_refl _) _)
    exact bodyPost_ret (v := .tuple #[.agg #[.int .i64 0, .int .i64 0, .slice none 0 0], .int .i64 1]) (results_row_tmp (p := 2) (u := 3) (ty := 26) rfl _ _ w.heap.size 26 _ (0, 0) _ rfl h3 Tryd.underlying26 rfl (by kernel_rfl)) rfl ⟨rfl, hbf⟩

set_option maxRecDepth 100000 in
set_option maxHeartbeats 2000000 in
theorem all_one (f t : Int) (g : Nat) (v : Value) (n : Nat) (d : List Ent) (w : World) (ht : Tabs w) (h : DRd w v n d) (hn : n ≤ 100000) (hts : ∀ e ∈ d, e.1.length ≤ 100000 ∧ e.2.length ≤ 100000) (hgood : segRight f t d = true)
    (l0 : w.cell? ⟨g, 0, none⟩ = some (.int .i64 f)) (l1 : w.cell? ⟨g, 1, none⟩ = some (.int .i64 t)) (l2 : w.cell? ⟨g, 2, none⟩ = some v) :
    Calls Tryd.prog 11 #[.slice (some ⟨g, 0, none⟩) 1 1] w fun e w' => ∃ v', e = .returned (.tuple #[.agg #[.int .i64 f, .int .i64 t, v'], .int .i64 0]) ∧ DRd w' v' n d ∧ Below w.heap.size w w' := by
  obtain ⟨ao, c, rfl, hm, -⟩ := dict_cells h
  have HS := Lib.hid (fun W (hW : Below w.heap.size w W) => segright_any f t (.slice ao n c) n d W (ht.below hW) (h.below hW) hts)
  have HU := Lib.hid (fun W (hW : Below w.heap.size w W) => union_any f t g (.slice ao n c) n d W (h.below hW) hn (fun e he => (hts e he).2) (cell_later hW l0) (cell_later hW l1) (cell_later hW l2))
  rw [hgood] at HS
  have hb0 : Below w.heap.size w (w.alloc (.cells #[.int .i64 0, .int .i64 0, .slice none 0 0] 26)) := (Below.refl _ _).alloc (Nat.le_refl _) _
  have hR := heap_alloc_new w (.cells #[.int .i64 0, .int .i64 0, .slice none 0 0] 26)
  have hsz0 : w.heap.size < (w.alloc (.cells #[.int .i64 0, .int .i64 0, .slice none 0 0] 26)).heap.size := lt_of_block hR
  have HL012 := Lib.hid (And.intro l0 (And.intro l1 l2))
  clear h hts ht hgood l0 l1 l2
  go_enter Tryd.func11, Tryd.ntmps11
  go_wp2_with fail
  generalize hW0 : (w.alloc (.cells #[.int .i64 0, .int .i64 0, .slice none 0 0] 26)) = W0 at *
  clear hW0
  go_loopw [14] (fun i wr => ∃ j : Nat, j ≤ 1 ∧ i = .int .i64 j ∧ Below W0.heap.size W0 wr) (fun i _ => 1 - (intOf i).toNat)
  case atStart => exact ⟨0, by omega, rfl, Below.refl _ _⟩
  case round =>
    obtain ⟨j, hj, rfl, hbr⟩ := hrel
    have Br := hb0.trans (hbr.mono hb0.size)
    have m0 := cell_later Br HL012.out.1
    have m1 := cell_later Br HL012.out.2.1
    have m2 := cell_later Br HL012.out.2.2
    rcases Nat.eq_zero_or_pos j with hj0 | hj0
    · subst hj0
      rw [show ((0 : Nat) : Int) = 0 from rfl]
      have hb1 : Below wr.heap.size wr (wr.alloc (.cells #[.int .i64 f, .int .i64 t, .slice ao n c] 26)) := (Below.refl _ _).alloc (Nat.le_refl _) _
      have B1 := Br.trans (hb1.mono Br.size)
      have C1 := hbr.trans (hb1.mono hbr.size)
      go_wp2_with (go_at_call 31; refine (HS.out _ B1).mono ?_; rintro e w2 ⟨rfl, hb2⟩; have C2 := C1.trans (hb2.mono C1.size))
      go_roundw
      case rel => exact ⟨1, by omega, by go_num, C2⟩
      case measure => simp [intOf]
    · obtain rfl : j = 1 := by omega
      rw [show ((1 : Nat) : Int) = 1 from rfl]
      go_wp2
      rename World => w1
      go_loopw [6] (fun i wx => i = .int .i64 1 ∧ wx = w1) (fun i _ => 0)
      case atStart => exact ⟨rfl, rfl⟩
      case round =>
        obtain ⟨rfl, rfl⟩ := hrel
        have hsr := hbr.size
        have hw0 : IntKind.i64.wrap 0 = 0 := by decide
        go_wp2_with fail
        go_region_held3 (fun W => W.cell? ⟨g, 0, none⟩ = some (.int .i64 f) ∧ W.cell? ⟨g, 1, none⟩ = some (.int .i64 t))
          (first | exact ⟨m0, m1⟩ | assumption | go_keep)
          (fail)
        have hs8 := heap_alloc_new wr (.cells #[.int .i64 f, .int .i64 t] 23)
        have hB8 : Below W0.heap.size W0 (wr.alloc (.cells #[.int .i64 f, .int .i64 t] 23)).drew := (hbr.alloc hsr _).drew
        have x0 : (wr.alloc (.cells #[.int .i64 f, .int .i64 t] 23)).drew.cell? ⟨wr.heap.size, 0, none⟩ = some (.int .i64 f) := by rw [show (wr.alloc (.cells #[.int .i64 f, .int .i64 t] 23)).drew.cell? ⟨wr.heap.size, 0, none⟩ = (wr.alloc (.cells #[.int .i64 f, .int .i64 t] 23)).cell? ⟨wr.heap.size, 0, none⟩ from rfl, cell_of_row _ _ _ _ _ _ hs8]; rfl
        have x1 : (wr.alloc (.cells #[.int .i64 f, .int .i64 t] 23)).drew.cell? ⟨wr.heap.size, 1, none⟩ = some (.int .i64 t) := by rw [show (wr.alloc (.cells #[.int .i64 f, .int .i64 t] 23)).drew.cell? ⟨wr.heap.size, 1, none⟩ = (wr.alloc (.cells #[.int .i64 f, .int .i64 t] 23)).cell? ⟨wr.heap.size, 1, none⟩ from rfl, cell_of_row _ _ _ _ _ _ hs8]; rfl
        generalize hW8 : (wr.alloc (.cells #[.int .i64 f, .int .i64 t] 23)).drew = W8 at *
        clear hW8 hs8 m0 m1 m2
        generalize wr.heap.size = sb at *
        go_wp2_with fail
        refine L_begin (fun W => Below W0.heap.size W0 W ∧ W.cell? ⟨sb, 0, none⟩ = some (.int .i64 f) ∧ W.cell? ⟨sb, 1, none⟩ = some (.int .i64 t)) 4 (by kernel_rfl) ?_
        have hS : Below W0.heap.size W0 W8.drew ∧ W8.drew.cell? ⟨sb, 0, none⟩ = some (.int .i64 f) ∧ W8.drew.cell? ⟨sb, 1, none⟩ = some (.int .i64 t) := ⟨hB8.drew, x0, x1⟩
        generalize W8.drew = wd at *
        refine L_take (fuel := 5) 0 (.agg #[.int .i64 f, .int .i64 t]) rfl (by kernel_rfl) (by kernel_rfl) (by kernel_rfl) (by kernel_rfl) (fun _ _ _ h => h) (by kernel_rfl) ?_ hS ?_
        · rintro W ⟨q0, q1, q2⟩
          go_simp
        refine L_free (fuel := 4) 1 (.slice (some ⟨g, 0, none⟩) 1 1) rfl (by kernel_rfl) (by kernel_rfl) (by kernel_rfl) (by kernel_rfl) (fun _ _ _ h => h) (by kernel_rfl) ?_ hS ?_
        · intro W
          go_simp
        refine L_one (fuel := 3) 2 (by kernel_rfl) rfl ?_
        intro K hK
        go_simp
        have Bd : Below w.heap.size w wd := hb0.trans (hS.1.mono hb0.size)
        refine (HU.out _ Bd).mono ?_
        rintro e w5 ⟨v5, rfl, hd5, hb5⟩
        obtain ⟨a5, c5, rfl, -⟩ := dict_cells (hd5 w5 fun _ _ _ => rfl)
        go_simp
        have HD5 := Lib.hid hd5
        have hS5 : Below W0.heap.size W0 w5 ∧ w5.cell? ⟨sb, 0, none⟩ = some (.int .i64 f) ∧ w5.cell? ⟨sb, 1, none⟩ = some (.int .i64 t) := ⟨hS.1.trans (hb5.mono hS.1.size), cell_later hb5 hS.2.1, cell_later hb5 hS.2.2⟩
        refine hK _ _ hS5 ?_
        clear hK K hd5
        have B5 : Below w.heap.size w w5 := Bd.trans (hb5.mono Bd.size)
        have hR5 : w5.heap[w.heap.size]? = some (.cells #[.int .i64 0, .int .i64 0, .slice none 0 0] 26 (0, 0)) := (hS5.1.block _ hsz0).trans hR
        refine L_one (fuel := 2) 3 (by kernel_rfl) rfl ?_
        intro K hK
        go_simp
        refine hK _ _ hS5 ?_
        clear hK K
        refine L_end (fuel := 1) 4 (by kernel_rfl) rfl (by kernel_rfl) ?_
        intro K hK
        have c0 := cell_of_row _ _ 0 _ _ _ hR5
        have c1 := cell_of_row _ _ 1 _ _ _ hR5
        have c2 := cell_of_row _ _ 2 _ _ _ hR5
        have f0 := frozen_of_row _ _ 0 _ _ hR5
        have f1 := frozen_of_row _ _ 1 _ _ hR5
        have f2 := frozen_of_row _ _ 2 _ _ hR5
        go_simp
        refine hK _ _ ?_
        clear hK K
        have h1 := heap_setCell_same w5 w.heap.size 0 _ _ (.int .i64 f) hR5
        have h2 := heap_setCell_same _ w.heap.size 1 _ _ (.int .i64 t) h1
        have h3 := heap_setCell_same _ w.heap.size 2 _ _ (.slice a5 n c5) h2
        have hbf : Below w.heap.size w (((w5.setCell ⟨w.heap.size, 0, none⟩ (.int .i64 f)).setCell ⟨w.heap.size, 1, none⟩ (.int .i64 t)).setCell ⟨w.heap.size, 2, none⟩ (.slice a5 n c5)) := (((B5.setCell (Nat.le_refl _) _).setCell (Nat.le_refl _) _).setCell (Nat.le_refl _) _)
        have hsw := hS.1.size
        have hdf := HD5.out (((w5.setCell ⟨w.heap.size, 0, none⟩ (.int .i64 f)).setCell ⟨w.heap.size, 1, none⟩ (.int .i64 t)).setCell ⟨w.heap.size, 2, none⟩ (.slice a5 n c5)) (fun b g1 g2 => by
          rw [heap_setCell_other _ _ _ _ (by simp; omega), heap_setCell_other _ _ _ _ (by simp; omega), heap_setCell_other _ _ _ _ (by simp; omega)])
        refine L_end (fuel := 0) 5 (by kernel_rfl) rfl (by kernel_rfl) ?_
        intro K hK
        go_simp
        refine hK _ _ ?_
        clear hK K
        refine L_done (by kernel_rfl) ?_ 0
        have HF := Lib.hid hdf
        have H3 := Lib.hid h3
        have HBF := Lib.hid hbf
        clear hdf h1 h2 h3 hbf
        go_wp2
        exact bodyPost_ret (v := .tuple #[.agg #[.int .i64 f, .int .i64 t, .slice a5 n c5], .int .i64 0]) (results_row_tmp (p := 2) (u := 3) (ty := 26) rfl _ _ w.heap.size 26 _ (0, 0) _ rfl H3.out Tryd.underlying26 rfl (by kernel_rfl)) rfl ⟨_, rfl, HF.out, HBF.out⟩
end Go.Proofs.YteegbjjpjdlcmaaDoor
