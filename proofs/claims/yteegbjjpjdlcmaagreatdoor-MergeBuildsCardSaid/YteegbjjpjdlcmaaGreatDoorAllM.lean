/- merge.All of neighbouring segments. -/
import Derived.Test.YteegbjjpjdlcmaaGreatDoorUnionM
import Derived.Test.YteegbjjpjdlcmaaGreatDoorSegAll
import Derived.Test.YteegbjjpjdlcmaaGreatDoorHeld2
set_option linter.unusedVariables false
namespace Go.Proofs.YteegbjjpjdlcmaaGreatDoor
open Go.RowKit Go.Sort

theorem results_row_tmp {P : Program} {fn : Func} {p u : Tmp} {ty : TypeId} (h : fn.results = #[.cell p ty, .tmp u]) (tmps : Array Value) (w : World) (g : Nat) (t : TypeId) (cs : Array Value) (fr : Nat × Nat) (d : TypeDesc)
    (hp : tmps.getD p undef = .pointer (some ⟨g, 0, none⟩)) (hg : w.heap[g]? = some (.cells cs t fr))
    (hu : P.underlying ty = some d) (hd : (match d with | .struct _ | .array _ _ => true | _ => false) = true) (hi : (P.info? ty).map (·.size) = some cs.size) :
    (results fn tmps).run P w = .ok (.tuple #[.agg cs, tmps.getD u undef]) w := by
  have hp' : tmps[p]?.getD undef = .pointer (some ⟨g, 0, none⟩) := by simpa using hp
  simp [results, h, hp', asAddr, run_loadVar_row w g t ty cs fr d hg hu hd hi]

def AllPost (f t : Int) (U : List Ent) (w : World) (e : Ending) (w' : World) : Prop := ∃ v', e = .returned (.tuple #[.agg #[.int .i64 f, .int .i64 t, v'], .int .i64 0]) ∧ (∀ w2 : World, (∀ b, w.heap.size ≤ b → b < w'.heap.size → w2.heap[b]? = w'.heap[b]?) → DRd w2 v' U.length U) ∧ Below w.heap.size w w'

set_option maxRecDepth 100000 in
set_option maxHeartbeats 4000000 in
theorem allM_any (g off m c : Nat) (F T : Nat → Int) (V : Nat → Value) (D : Nat → List Ent) (U : List Ent) (FU : Nat) (f t : Int) (w : World) (ht : Tabs w) (h : SegIn w g off m F T V D) (hm0 : 0 < m) (hm : m ≤ 1000) (hU : unionF FU (remL D (fun _ => 0) m) = U) (hFU : total (remL D (fun _ => 0) m) ≤ FU) (hF : FU ≤ 1000000) (hts : ∀ i, ∀ e ∈ D i, e.1.length ≤ 100000 ∧ e.2.length ≤ 1000)
    (hgood : ∀ i, i < m → segRight (F i) (T i) (D i) = true) (hrow : ∀ i, i + 1 < m → F (i + 1) = T i) (hf : F 0 = f) (htl : T (m - 1) = t) :
    Calls Tryz.prog 8 #[.slice (some ⟨g, off, none⟩) m c] w (AllPost f t U w) := by
  have mixed : Tryz.prog.follows .mixedOrders = true := by kernel_rfl
  have HS := Lib.hid (fun (W : World) (hW : Below w.heap.size w W) (i : Nat) (hi : i < m) (v : Value) (n : Nat) (hv : V i = v) (hn : (D i).length = n) => segright_any (F i) (T i) v n (D i) W (ht.below hW) (by rw [← hv, ← hn]; exact (h.rd i hi).below hW) (fun e he => ⟨(hts i e he).1, by have := (hts i e he).2; omega⟩))
  have HU := Lib.hid (fun W (hW : Below w.heap.size w W) => unionM_any g off m c F T V D U FU W (h.below hW) hm hU hFU hF (fun i e he => (hts i e he).2))
  have HG := Lib.hid hgood
  have HR := Lib.hid hrow
  have HI := Lib.hid h
  have HF0 := Lib.hid hf
  have HTL := Lib.hid htl
  have hb0 : Below w.heap.size w (w.alloc (.cells #[.int .i64 0, .int .i64 0, .slice none 0 0] 33)) := (Below.refl _ _).alloc (Nat.le_refl _) _
  have hR := heap_alloc_new w (.cells #[.int .i64 0, .int .i64 0, .slice none 0 0] 33)
  have hsz0 : w.heap.size < (w.alloc (.cells #[.int .i64 0, .int .i64 0, .slice none 0 0] 33)).heap.size := lt_of_block hR
  have q0 : ((m : Int) == 0) = false := beq_eq_false_iff_ne.2 (by omega)
  clear h hts ht hgood hrow hU hFU hf htl
  go_enter Tryz.func8, Tryz.ntmps8
  go_wp2_with fail
  generalize hW0 : (w.alloc (.cells #[.int .i64 0, .int .i64 0, .slice none 0 0] 33)) = W0 at *
  clear hW0
  go_loopw [14] (fun i wr => ∃ j : Nat, j ≤ m ∧ i = .int .i64 j ∧ Below W0.heap.size W0 wr) (fun i _ => m - (intOf i).toNat)
  case atStart => exact ⟨0, by omega, rfl, Below.refl _ _⟩
  case round =>
    obtain ⟨j, hj, rfl, hbr⟩ := hrel
    have Br := hb0.trans (hbr.mono hb0.size)
    by_cases hjm : j < m
    · have kj : (j : Int) < (m : Int) := by omega
      have j0 : (0 : Int) ≤ (j : Int) := by omega
      have l0 := cell_later Br (HI.out.c0 j hjm)
      have l1 := cell_later Br (HI.out.c1 j hjm)
      have l2 := cell_later Br (HI.out.c2 j hjm)
      obtain ⟨aj, cj, hvj, hmj, -⟩ := dict_cells (HI.out.rd j hjm)
      rw [hvj] at l2
      have HSJ := Lib.hid (fun W hW => HS.out W hW j hjm _ _ hvj rfl)
      rw [HG.out j hjm] at HSJ
      generalize (D j).length = nj at *
      generalize F j = fj at *
      generalize T j = tj at *
      have hb1 : Below wr.heap.size wr (wr.alloc (.cells #[.int .i64 fj, .int .i64 tj, .slice aj nj cj] 33)) := (Below.refl _ _).alloc (Nat.le_refl _) _
      have B1 := Br.trans (hb1.mono Br.size)
      have C1 := hbr.trans (hb1.mono hbr.size)
      clear hvj
      go_wp2_with (go_at_call 16; refine (HSJ.out _ B1).mono ?_; rintro e w2 ⟨rfl, hb2⟩; have C2 := C1.trans (hb2.mono C1.size))
      go_roundw
      case rel => exact ⟨j + 1, by omega, by go_num, C2⟩
      case measure => simp [intOf]; omega
    · obtain rfl : j = m := by omega
      clear hjm hj
      go_wp2
      rename World => w1
      go_loopw [6] (fun i wx => ∃ q : Nat, q + 1 ≤ j ∧ i = .int .i64 ((q : Int) + 1) ∧ Below W0.heap.size W0 wx) (fun i _ => j - (intOf i).toNat)
      case atStart => exact ⟨0, by omega, by go_num, hbr⟩
      case round =>
        obtain ⟨q, hq, rfl, hbq⟩ := hrel
        have Bq := hb0.trans (hbq.mono hb0.size)
        by_cases hql : q + 1 < j
        · have n0 := cell_later Bq (HI.out.c0 (q + 1) hql)
          have n1 := cell_later Bq (HI.out.c1 q (by omega))
          rw [HR.out q hql] at n0
          generalize T q = tq at *
          have kq : (q : Int) + 1 < (j : Int) := by omega
          have kq0 : (q : Int) < (j : Int) := by omega
          have q00 : (0 : Int) ≤ (q : Int) := by omega
          have q01 : (0 : Int) ≤ (q : Int) + 1 := by omega
          have q02 : ((q : Int) + 1).toNat = q + 1 := by omega
          have hw1 : IntKind.i64.wrap ((q : Int) + 1 - 1) = (q : Int) := by rw [IntKind.wrap_i64]; omega
          have hw2 : IntKind.i64.wrap (q : Int) = (q : Int) := by rw [IntKind.wrap_i64]; omega
          have hne : (tq != tq) = false := by simp
          have r0 := cell_regrown n0
          have r1 := cell_regrown n1
          go_wp2_with fail
          refine wp_region_quiet_below mixed (by kernel_rfl) ?_
          repeat (go_big_quiet_step (fail))
          refine wpQuiet_nil ?_
          intro W7 hw'
          obtain ⟨⟨dq, osq⟩, hw''⟩ := hw'
          have hb67 := below_regrown wr dq osq
          rw [← hw''] at hb67
          clear hw'' r0 r1 hw1 hw2 q02
          go_wp2
          go_roundw
          case rel => exact ⟨q + 1, by omega, by go_num, hbq.trans (hb67.mono hbq.size)⟩
          case measure => simp [intOf]; omega
        · have hqj : q + 1 = j := by omega
          have m0 := cell_later Bq (HI.out.c0 0 (by omega))
          have m1 := cell_later Bq (HI.out.c1 q (by omega))
          rw [HF0.out] at m0
          rw [show T q = t from by have := HTL.out; rwa [← hqj, Nat.add_sub_cancel] at this] at m1
          simp only [Nat.zero_mul, Nat.add_zero] at m0
          have kq : ¬ (q : Int) + 1 < (j : Int) := by omega
          have kq0 : (q : Int) < (j : Int) := by omega
          have kj0 : (0 : Int) < (j : Int) := by omega
          have q00 : (0 : Int) ≤ (q : Int) := by omega
          have hwm : IntKind.i64.wrap ((j : Int) - 1) = (q : Int) := by rw [IntKind.wrap_i64]; omega
          have hsr := hbq.size
          have HQJ := Lib.hid hqj
          clear hqj hql
          go_wp2_with fail
          go_region_held3 (fun W => W.cell? ⟨g, off, none⟩ = some (.int .i64 f) ∧ W.cell? ⟨g, off + q * 3 + 1, none⟩ = some (.int .i64 t))
            (first | exact ⟨m0, m1⟩ | assumption | go_keep)
            (fail)
          clear hwm
          have hs8 := heap_alloc_new wr (.cells #[.int .i64 f, .int .i64 t] 26)
          have hB8 : Below W0.heap.size W0 (wr.alloc (.cells #[.int .i64 f, .int .i64 t] 26)).drew := (hbq.alloc hsr _).drew
          have x0 : (wr.alloc (.cells #[.int .i64 f, .int .i64 t] 26)).drew.cell? ⟨wr.heap.size, 0, none⟩ = some (.int .i64 f) := by rw [show (wr.alloc (.cells #[.int .i64 f, .int .i64 t] 26)).drew.cell? ⟨wr.heap.size, 0, none⟩ = (wr.alloc (.cells #[.int .i64 f, .int .i64 t] 26)).cell? ⟨wr.heap.size, 0, none⟩ from rfl, cell_of_row _ _ _ _ _ _ hs8]; rfl
          have x1 : (wr.alloc (.cells #[.int .i64 f, .int .i64 t] 26)).drew.cell? ⟨wr.heap.size, 1, none⟩ = some (.int .i64 t) := by rw [show (wr.alloc (.cells #[.int .i64 f, .int .i64 t] 26)).drew.cell? ⟨wr.heap.size, 1, none⟩ = (wr.alloc (.cells #[.int .i64 f, .int .i64 t] 26)).cell? ⟨wr.heap.size, 1, none⟩ from rfl, cell_of_row _ _ _ _ _ _ hs8]; rfl
          generalize hW8 : (wr.alloc (.cells #[.int .i64 f, .int .i64 t] 26)).drew = W8 at *
          clear hW8 hs8 m0 m1
          generalize wr.heap.size = sb at *
          go_wp2_with fail
          refine L_begin (fun W => Below W0.heap.size W0 W ∧ W.cell? ⟨sb, 0, none⟩ = some (.int .i64 f) ∧ W.cell? ⟨sb, 1, none⟩ = some (.int .i64 t)) 4 (by kernel_rfl) ?_
          have hS : Below W0.heap.size W0 W8.drew ∧ W8.drew.cell? ⟨sb, 0, none⟩ = some (.int .i64 f) ∧ W8.drew.cell? ⟨sb, 1, none⟩ = some (.int .i64 t) := ⟨hB8.drew, x0, x1⟩
          generalize W8.drew = wd at *
          refine L_take (fuel := 5) 0 (.agg #[.int .i64 f, .int .i64 t]) rfl (by kernel_rfl) (by kernel_rfl) (by kernel_rfl) (by kernel_rfl) (fun _ _ _ h => h) (by kernel_rfl) ?_ hS ?_
          · rintro W ⟨q0, q1, q2⟩
            go_simp
          refine L_free (fuel := 4) 1 (.slice (some ⟨g, off, none⟩) j c) rfl (by kernel_rfl) (by kernel_rfl) (by kernel_rfl) (by kernel_rfl) (fun _ _ _ h => h) (by kernel_rfl) ?_ hS ?_
          · intro W
            go_simp
          refine L_one (fuel := 3) 2 (by kernel_rfl) rfl ?_
          intro K hK
          go_simp
          have Bd : Below w.heap.size w wd := hb0.trans (hS.1.mono hb0.size)
          refine (HU.out _ Bd).mono ?_
          rintro e w5 ⟨v5, rfl, hd5, hb5⟩
          obtain ⟨a5, c5, rfl, -⟩ := dict_cells (hd5 w5 fun _ _ _ => rfl)
          go_simp
          have HD5 := Lib.hid hd5
          have hS5 : Below W0.heap.size W0 w5 ∧ w5.cell? ⟨sb, 0, none⟩ = some (.int .i64 f) ∧ w5.cell? ⟨sb, 1, none⟩ = some (.int .i64 t) := ⟨hS.1.trans (hb5.mono hS.1.size), cell_later hb5 hS.2.1, cell_later hb5 hS.2.2⟩
          refine hK _ _ hS5 ?_
          clear hK K hd5
          have B5 : Below w.heap.size w w5 := Bd.trans (hb5.mono Bd.size)
          have hR5 : w5.heap[w.heap.size]? = some (.cells #[.int .i64 0, .int .i64 0, .slice none 0 0] 33 (0, 0)) := (hS5.1.block _ hsz0).trans hR
          refine L_one (fuel := 2) 3 (by kernel_rfl) rfl ?_
          intro K hK
          go_simp
          refine hK _ _ hS5 ?_
          clear hK K
          refine L_end (fuel := 1) 4 (by kernel_rfl) rfl (by kernel_rfl) ?_
          intro K hK
          have c0 := cell_of_row _ _ 0 _ _ _ hR5
          have c1 := cell_of_row _ _ 1 _ _ _ hR5
          have c2 := cell_of_row _ _ 2 _ _ _ hR5
          have f0 := frozen_of_row _ _ 0 _ _ hR5
          have f1 := frozen_of_row _ _ 1 _ _ hR5
          have f2 := frozen_of_row _ _ 2 _ _ hR5
          go_simp
          refine hK _ _ ?_
          clear hK K
          have h1 := heap_setCell_same w5 w.heap.size 0 _ _ (.int .i64 f) hR5
          have h2 := heap_setCell_same _ w.heap.size 1 _ _ (.int .i64 t) h1
          have h3 := heap_setCell_same _ w.heap.size 2 _ _ (.slice a5 U.length c5) h2
          have hbf : Below w.heap.size w (((w5.setCell ⟨w.heap.size, 0, none⟩ (.int .i64 f)).setCell ⟨w.heap.size, 1, none⟩ (.int .i64 t)).setCell ⟨w.heap.size, 2, none⟩ (.slice a5 U.length c5)) := (((B5.setCell (Nat.le_refl _) _).setCell (Nat.le_refl _) _).setCell (Nat.le_refl _) _)
          have hsw := hS.1.size
          have hdf : ∀ w2 : World, (∀ b, w.heap.size ≤ b → b < (((w5.setCell ⟨w.heap.size, 0, none⟩ (.int .i64 f)).setCell ⟨w.heap.size, 1, none⟩ (.int .i64 t)).setCell ⟨w.heap.size, 2, none⟩ (.slice a5 U.length c5)).heap.size → w2.heap[b]? = (((w5.setCell ⟨w.heap.size, 0, none⟩ (.int .i64 f)).setCell ⟨w.heap.size, 1, none⟩ (.int .i64 t)).setCell ⟨w.heap.size, 2, none⟩ (.slice a5 U.length c5)).heap[b]?) → DRd w2 (.slice a5 U.length c5) U.length U := fun w2 h2 => HD5.out w2 fun b g1 g2 => by
            rw [h2 b (by omega) (by simpa using g2), heap_setCell_other _ _ _ _ (by simp; omega), heap_setCell_other _ _ _ _ (by simp; omega), heap_setCell_other _ _ _ _ (by simp; omega)]
          refine L_end (fuel := 0) 5 (by kernel_rfl) rfl (by kernel_rfl) ?_
          intro K hK
          go_simp
          refine hK _ _ ?_
          clear hK K
          refine L_done (by kernel_rfl) ?_ 0
          have HF := Lib.hid hdf
          have H3 := Lib.hid h3
          have HBF := Lib.hid hbf
          clear hdf h1 h2 h3 hbf
          go_wp2
          exact bodyPost_ret (v := .tuple #[.agg #[.int .i64 f, .int .i64 t, .slice a5 U.length c5], .int .i64 0]) (results_row_tmp (p := 2) (u := 3) (ty := 33) rfl _ _ w.heap.size 33 _ (0, 0) _ rfl H3.out Tryz.underlying33 rfl (by kernel_rfl)) rfl ⟨_, rfl, HF.out, HBF.out⟩
end Go.Proofs.YteegbjjpjdlcmaaGreatDoor
