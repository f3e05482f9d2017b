/- rubricklaw13.MergeOne: the walk. -/
import Derived.Test.YteegbjjpjdlcmaaDoorAll
import Derived.Test.YteegbjjpjdlcmaaDoorSame12
import Derived.Test.YteegbjjpjdlcmaaDoorRef12
import Derived.Test.YteegbjjpjdlcmaaDoorKnows13
set_option linter.unusedVariables false
namespace Go.Proofs.YteegbjjpjdlcmaaDoor
open Go.RowKit Go.Sort

set_option maxRecDepth 100000 in
set_option maxHeartbeats 4000000 in
theorem m1_great (f t : Int) (dv : Value) (n : Nat) (d : List Ent) (w : World) (h : DRd w dv n d) (hg : great10 d = true) :
    Calls Tryd.prog 3 #[.agg #[.int .i64 f, .int .i64 t, dv]] w fun e w' => e = .returned (.bool true) ∧ Below w.heap.size w w' := by
  have hb0 : Below w.heap.size w (w.alloc (.cells #[.int .i64 f, .int .i64 t, dv] 26)) := (Below.refl _ _).alloc (Nat.le_refl _) _
  have hG := great10_any dv n d (w.alloc (.cells #[.int .i64 f, .int .i64 t, dv] 26)) (h.below hb0)
  rw [hg] at hG
  have HG := Lib.hid hG
  obtain ⟨ao, c, rfl, -, -⟩ := dict_cells h
  clear h hG hg
  go_enter Tryd.func3, Tryd.ntmps3
  go_wp2_with (first | (go_at_call 9; refine HG.out.mono ?_; rintro e w' ⟨rfl, rfl⟩) | (go_at_call 10; refine (knows_any _).mono ?_; rintro e w2 ⟨rfl, hb2⟩))
  go_ret
  exact ⟨rfl, hb0.trans (hb2.mono hb0.size)⟩

theorem great10_no {d : List Ent} (h : great10 d = false) : d.length ≤ 100 ∧ ∀ e ∈ d, e.1.length ≤ 200 ∧ e.2.length ≤ 200 := by
  unfold great10 at h
  simp only [Bool.or_eq_false_iff, decide_eq_false_iff_not, List.any_eq_false, Bool.or_eq_true, decide_eq_true_eq] at h
  exact ⟨by omega, fun e he => by have := h.1 e he; omega⟩

/-- the world that merge.All is called in. -/
abbrev m1W (f t : Int) (sv : Value) (w : World) : World := (w.alloc (.cells #[.int .i64 f, .int .i64 t, sv] 26)).alloc (.cells #[.int .i64 f, .int .i64 t, sv] 26)

theorem m1_start (f t : Int) (sv : Value) (w : World) : Below w.heap.size w (m1W f t sv w) ∧ (∀ j u, (#[.int .i64 f, .int .i64 t, sv] : Array Value)[j]? = some u → (m1W f t sv w).cell? ⟨w.heap.size, j, none⟩ = some u ∧ (m1W f t sv w).cell? ⟨w.heap.size + 1, j, none⟩ = some u) := by
  have hb0 : Below w.heap.size w (w.alloc (.cells #[.int .i64 f, .int .i64 t, sv] 26)) := (Below.refl _ _).alloc (Nat.le_refl _) _
  have hr0 := heap_alloc_new w (.cells #[.int .i64 f, .int .i64 t, sv] 26)
  have hs0 : (w.alloc (.cells #[.int .i64 f, .int .i64 t, sv] 26)).heap.size = w.heap.size + 1 := by simp
  unfold m1W
  generalize (w.alloc (.cells #[.int .i64 f, .int .i64 t, sv] 26)) = W0 at *
  have hb1 : Below W0.heap.size W0 (W0.alloc (.cells #[.int .i64 f, .int .i64 t, sv] 26)) := (Below.refl _ _).alloc (Nat.le_refl _) _
  have hr1 := heap_alloc_new W0 (.cells #[.int .i64 f, .int .i64 t, sv] 26)
  rw [hs0] at hr1
  refine ⟨hb0.trans (hb1.mono hb0.size), fun j u hu => ⟨?_, ?_⟩⟩
  · refine cell_later hb1 ?_
    rw [cell_of_row _ _ _ _ _ _ hr0, hu]
  · rw [cell_of_row _ _ _ _ _ _ hr1, hu]

set_option maxRecDepth 100000 in
set_option maxHeartbeats 8000000 in
theorem m1_bad (f t : Int) (dv : Value) (n : Nat) (d : List Ent) (w : World) (ht : Tabs w) (h : DRd w dv n d) (hg : great10 d = false) (hr : segRight f t d = false) :
    Calls Tryd.prog 3 #[.agg #[.int .i64 f, .int .i64 t, dv]] w fun e w' => e = .returned (.bool true) ∧ Below w.heap.size w w' := by
  have hb0 : Below w.heap.size w (w.alloc (.cells #[.int .i64 f, .int .i64 t, dv] 26)) := (Below.refl _ _).alloc (Nat.le_refl _) _
  have hG := great10_any dv n d (w.alloc (.cells #[.int .i64 f, .int .i64 t, dv] 26)) (h.below hb0)
  rw [hg] at hG
  have HG := Lib.hid hG
  obtain ⟨hn, hts⟩ := great10_no hg
  have hdn := h.1
  have hts' : ∀ e ∈ d, e.1.length ≤ 100000 ∧ e.2.length ≤ 100000 := fun e he => by have := hts e he; omega
  obtain ⟨hbm, hcm⟩ := m1_start f t dv w
  have HA := Lib.hid (all_bad f t (w.heap.size + 1) dv n d (m1W f t dv w) (ht.below hbm) (h.below hbm) hts' hr (hcm 0 (.int .i64 f) rfl).2 (hcm 1 (.int .i64 t) rfl).2 (hcm 2 dv rfl).2)
  have HR := Lib.hid (fun W (hW : Below w.heap.size w W) => rseg_any f t dv n d W (h.below hW) (fun e he => (hts' e he).1))
  rw [hr] at HR
  obtain ⟨ao, c, rfl, -, -⟩ := dict_cells h
  have HC := Lib.hid (And.intro (hcm 0 (.int .i64 f) rfl).1 (And.intro (hcm 1 (.int .i64 t) rfl).1 (hcm 2 (.slice ao n c) rfl).1))
  have HBM := Lib.hid hbm
  clear hG hg h ht hbm hcm hts hts' hr hdn hn
  go_enter Tryd.func3, Tryd.ntmps3
  go_wp2_with (first
    | (go_at_call 10; refine (knows_any _).mono ?_; rintro e w7 ⟨rfl, hb7⟩)
    | (go_at_call 12; refine (HR.out _ B5).mono ?_; rintro e w6 ⟨rfl, hb6⟩)
    | (go_at_call 13; refine (as12_any f t ao n c _).mono ?_; rintro e w5 ⟨rfl, hb5⟩; have B5 := B4.trans (hb5.mono B4.size))
    | (go_at_call 11; with_reducible refine (all_nil _).mono ?_; rintro e w3 ⟨rfl, hb3⟩; have B4 : Below w.heap.size w (w3.alloc (.cells #[.int .i64 0, .int .i64 0, .slice none 0 0] 26)) := (B2.trans (hb3.mono B2.size)).alloc (B2.trans (hb3.mono B2.size)).size _; have B13 : Below w1.heap.size w1 (w3.alloc (.cells #[.int .i64 0, .int .i64 0, .slice none 0 0] 26)) := (((Below.refl _ _).alloc (Nat.le_refl _) _).trans (hb3.mono (by simp))).alloc (by have := hb3.size; simp at this; omega) _; have q0 := cell_later B13 p0; have q1 := cell_later B13 p1; have q2 := cell_later B13 p2)
    | (go_at_call 11; with_reducible refine HA.out.mono ?_; rintro e w1 ⟨rfl, hb1⟩; have B1 := HBM.out.trans (hb1.mono HBM.out.size); have B2 : Below w.heap.size w (w1.alloc (.cells #[.int .i64 0, .int .i64 0, .slice none 0 0] 26)) := B1.alloc B1.size _; have p0 := cell_later hb1 HC.out.1; have p1 := cell_later hb1 HC.out.2.1; have p2 := cell_later hb1 HC.out.2.2)
    | (go_at_call 9; refine HG.out.mono ?_; rintro e w' ⟨rfl, rfl⟩))
  go_ret
  exact ⟨rfl, (B5.trans (hb6.mono B5.size)).trans (hb7.mono (B5.trans (hb6.mono B5.size)).size)⟩

set_option maxRecDepth 100000 in
set_option maxHeartbeats 8000000 in
theorem m1_good (f t : Int) (dv : Value) (n : Nat) (d : List Ent) (w : World) (ht : Tabs w) (h : DRd w dv n d) (hg : great10 d = false) (hr : segRight f t d = true) :
    Calls Tryd.prog 3 #[.agg #[.int .i64 f, .int .i64 t, dv]] w fun e w' => e = .returned (.bool true) ∧ Below w.heap.size w w' := by
  have hb0 : Below w.heap.size w (w.alloc (.cells #[.int .i64 f, .int .i64 t, dv] 26)) := (Below.refl _ _).alloc (Nat.le_refl _) _
  have hG := great10_any dv n d (w.alloc (.cells #[.int .i64 f, .int .i64 t, dv] 26)) (h.below hb0)
  rw [hg] at hG
  have HG := Lib.hid hG
  obtain ⟨hn, hts⟩ := great10_no hg
  have hdn := h.1
  have hts' : ∀ e ∈ d, e.1.length ≤ 100000 ∧ e.2.length ≤ 100000 := fun e he => by have := hts e he; omega
  obtain ⟨hbm, hcm⟩ := m1_start f t dv w
  have HA := Lib.hid (all_one f t (w.heap.size + 1) dv n d (m1W f t dv w) (ht.below hbm) (h.below hbm) (by omega) hts' hr (hcm 0 (.int .i64 f) rfl).2 (hcm 1 (.int .i64 t) rfl).2 (hcm 2 dv rfl).2)
  have HR := Lib.hid (fun W (hW : Below w.heap.size w W) => rseg_any f t dv n d W (h.below hW) (fun e he => (hts' e he).1))
  rw [hr] at HR
  have HDW := Lib.hid (fun W (hW : Below w.heap.size w W) => h.below hW)
  obtain ⟨ao, c, rfl, -, -⟩ := dict_cells h
  have HC := Lib.hid (And.intro (hcm 0 (.int .i64 f) rfl).1 (And.intro (hcm 1 (.int .i64 t) rfl).1 (hcm 2 (.slice ao n c) rfl).1))
  have HBM := Lib.hid hbm
  clear hG hg h ht hbm hcm hts hts' hr hdn hn
  go_enter Tryd.func3, Tryd.ntmps3
  go_wp2_with (first
    | (go_at_call 10; refine (knows_any _).mono ?_; rintro e w7 ⟨rfl, hb7⟩)
    | (go_at_call 12; refine (HR.out _ B5).mono ?_; rintro e w6 ⟨rfl, hb6⟩)
    | (go_at_call 13; refine (as12_any f t ao n c _).mono ?_; rintro e w5 ⟨rfl, hb5⟩; have B5 := B4.trans (hb5.mono B4.size))
    | (go_at_call 11; with_reducible refine (all_nil _).mono ?_; rintro e w3 ⟨rfl, hb3⟩; have B4 : Below w.heap.size w (w3.alloc (.cells #[.int .i64 0, .int .i64 0, .slice none 0 0] 26)) := (B2.trans (hb3.mono B2.size)).alloc (B2.trans (hb3.mono B2.size)).size _; have B13 : Below w1.heap.size w1 (w3.alloc (.cells #[.int .i64 0, .int .i64 0, .slice none 0 0] 26)) := (((Below.refl _ _).alloc (Nat.le_refl _) _).trans (hb3.mono (by simp))).alloc (by have := hb3.size; simp at this; omega) _; have q0 := cell_later B13 p0; have q1 := cell_later B13 p1; have q2 := cell_later B13 p2)
    | (go_at_call 11; with_reducible refine HA.out.mono ?_; rintro e w1 ⟨v1, rfl, hd1, hb1⟩; obtain ⟨a1, c1, rfl, -, -⟩ := dict_cells hd1; have HD1 := Lib.hid hd1; clear hd1; have B1 := HBM.out.trans (hb1.mono HBM.out.size); have B2 : Below w.heap.size w (w1.alloc (.cells #[.int .i64 f, .int .i64 t, .slice a1 n c1] 26)) := B1.alloc B1.size _; have p0 := cell_later hb1 HC.out.1; have p1 := cell_later hb1 HC.out.2.1; have p2 := cell_later hb1 HC.out.2.2)
    | (go_at_call 9; refine HG.out.mono ?_; rintro e w' ⟨rfl, rfl⟩))
  have hrA := heap_alloc_new w1 (.cells #[.int .i64 f, .int .i64 t, .slice a1 n c1] 26)
  have x0 : (w1.alloc (.cells #[.int .i64 f, .int .i64 t, .slice a1 n c1] 26)).cell? ⟨w1.heap.size, 0, none⟩ = some (.int .i64 f) := by rw [cell_of_row _ _ _ _ _ _ hrA]; rfl
  have x1 : (w1.alloc (.cells #[.int .i64 f, .int .i64 t, .slice a1 n c1] 26)).cell? ⟨w1.heap.size, 1, none⟩ = some (.int .i64 t) := by rw [cell_of_row _ _ _ _ _ _ hrA]; rfl
  have x2 : (w1.alloc (.cells #[.int .i64 f, .int .i64 t, .slice a1 n c1] 26)).cell? ⟨w1.heap.size, 2, none⟩ = some (.slice a1 n c1) := by rw [cell_of_row _ _ _ _ _ _ hrA]; rfl
  have hs1A : w1.heap.size ≤ (w1.alloc (.cells #[.int .i64 f, .int .i64 t, .slice a1 n c1] 26)).heap.size := by simp
  have hb1A : Below w1.heap.size w1 (w1.alloc (.cells #[.int .i64 f, .int .i64 t, .slice a1 n c1] 26)) := (Below.refl _ _).alloc (Nat.le_refl _) _
  have B56 := hb5.trans (hb6.mono hb5.size)
  generalize (w1.alloc (.cells #[.int .i64 f, .int .i64 t, .slice a1 n c1] 26)) = WA at *
  have B34 : Below WA.heap.size WA (w3.alloc (.cells #[.int .i64 0, .int .i64 0, .slice none 0 0] 26)) := hb3.alloc hb3.size _
  have BA6 : Below WA.heap.size WA w6 := B34.trans (B56.mono B34.size)
  have BW6 : Below w.heap.size w w6 := B4.trans (B56.mono B4.size)
  have B16 : Below w1.heap.size w1 w6 := hb1A.trans (BA6.mono hs1A)
  have y0 := cell_later BA6 x0
  have y1 := cell_later BA6 x1
  have y2 := cell_later BA6 x2
  have z0 := cell_later B56 q0
  have z1 := cell_later B56 q1
  have z2 := cell_later B56 q2
  have hSat : (Below w6.heap.size w6 w6 ∧ w6.cell? ⟨w.heap.size, 0, none⟩ = some (.int .i64 f) ∧ w6.cell? ⟨w.heap.size, 1, none⟩ = some (.int .i64 t) ∧ w6.cell? ⟨w.heap.size, 2, none⟩ = some (.slice ao n c) ∧ w6.cell? ⟨w1.heap.size, 0, none⟩ = some (.int .i64 f) ∧ w6.cell? ⟨w1.heap.size, 1, none⟩ = some (.int .i64 t) ∧ w6.cell? ⟨w1.heap.size, 2, none⟩ = some (.slice a1 n c1)) := ⟨Below.refl _ _, z0, z1, z2, y0, y1, y2⟩
  have hK6 : Hid (∀ W, (Below w6.heap.size w6 W ∧ W.cell? ⟨w.heap.size, 0, none⟩ = some (.int .i64 f) ∧ W.cell? ⟨w.heap.size, 1, none⟩ = some (.int .i64 t) ∧ W.cell? ⟨w.heap.size, 2, none⟩ = some (.slice ao n c) ∧ W.cell? ⟨w1.heap.size, 0, none⟩ = some (.int .i64 f) ∧ W.cell? ⟨w1.heap.size, 1, none⟩ = some (.int .i64 t) ∧ W.cell? ⟨w1.heap.size, 2, none⟩ = some (.slice a1 n c1)) → Calls Tryd.prog 10 #[] W fun e W' => e = .returned (.bool true) ∧ (Below w6.heap.size w6 W' ∧ W'.cell? ⟨w.heap.size, 0, none⟩ = some (.int .i64 f) ∧ W'.cell? ⟨w.heap.size, 1, none⟩ = some (.int .i64 t) ∧ W'.cell? ⟨w.heap.size, 2, none⟩ = some (.slice ao n c) ∧ W'.cell? ⟨w1.heap.size, 0, none⟩ = some (.int .i64 f) ∧ W'.cell? ⟨w1.heap.size, 1, none⟩ = some (.int .i64 t) ∧ W'.cell? ⟨w1.heap.size, 2, none⟩ = some (.slice a1 n c1))) := fun W ⟨s1, s2, s3, s4, s5, s6, s7⟩ => by
    refine (knows_any W).mono ?_
    rintro e W' ⟨rfl, hb⟩
    exact ⟨rfl, s1.trans (hb.mono s1.size), cell_later hb s2, cell_later hb s3, cell_later hb s4, cell_later hb s5, cell_later hb s6, cell_later hb s7⟩
  have hX6 : Hid (∀ W, (Below w6.heap.size w6 W ∧ W.cell? ⟨w.heap.size, 0, none⟩ = some (.int .i64 f) ∧ W.cell? ⟨w.heap.size, 1, none⟩ = some (.int .i64 t) ∧ W.cell? ⟨w.heap.size, 2, none⟩ = some (.slice ao n c) ∧ W.cell? ⟨w1.heap.size, 0, none⟩ = some (.int .i64 f) ∧ W.cell? ⟨w1.heap.size, 1, none⟩ = some (.int .i64 t) ∧ W.cell? ⟨w1.heap.size, 2, none⟩ = some (.slice a1 n c1)) → Calls Tryd.prog 13 #[.agg #[.int .i64 f, .int .i64 t, .slice a1 n c1]] W fun e W' => e = .returned (.agg #[.int .i64 f, .int .i64 t, .slice a1 n c1]) ∧ (Below w6.heap.size w6 W' ∧ W'.cell? ⟨w.heap.size, 0, none⟩ = some (.int .i64 f) ∧ W'.cell? ⟨w.heap.size, 1, none⟩ = some (.int .i64 t) ∧ W'.cell? ⟨w.heap.size, 2, none⟩ = some (.slice ao n c) ∧ W'.cell? ⟨w1.heap.size, 0, none⟩ = some (.int .i64 f) ∧ W'.cell? ⟨w1.heap.size, 1, none⟩ = some (.int .i64 t) ∧ W'.cell? ⟨w1.heap.size, 2, none⟩ = some (.slice a1 n c1))) := fun W ⟨s1, s2, s3, s4, s5, s6, s7⟩ => by
    refine (as12_any f t a1 n c1 W).mono ?_
    rintro e W' ⟨rfl, hb⟩
    exact ⟨rfl, s1.trans (hb.mono s1.size), cell_later hb s2, cell_later hb s3, cell_later hb s4, cell_later hb s5, cell_later hb s6, cell_later hb s7⟩
  have hY6 : Hid (∀ W, (Below w6.heap.size w6 W ∧ W.cell? ⟨w.heap.size, 0, none⟩ = some (.int .i64 f) ∧ W.cell? ⟨w.heap.size, 1, none⟩ = some (.int .i64 t) ∧ W.cell? ⟨w.heap.size, 2, none⟩ = some (.slice ao n c) ∧ W.cell? ⟨w1.heap.size, 0, none⟩ = some (.int .i64 f) ∧ W.cell? ⟨w1.heap.size, 1, none⟩ = some (.int .i64 t) ∧ W.cell? ⟨w1.heap.size, 2, none⟩ = some (.slice a1 n c1)) → Calls Tryd.prog 13 #[.agg #[.int .i64 f, .int .i64 t, .slice ao n c]] W fun e W' => e = .returned (.agg #[.int .i64 f, .int .i64 t, .slice ao n c]) ∧ (Below w6.heap.size w6 W' ∧ W'.cell? ⟨w.heap.size, 0, none⟩ = some (.int .i64 f) ∧ W'.cell? ⟨w.heap.size, 1, none⟩ = some (.int .i64 t) ∧ W'.cell? ⟨w.heap.size, 2, none⟩ = some (.slice ao n c) ∧ W'.cell? ⟨w1.heap.size, 0, none⟩ = some (.int .i64 f) ∧ W'.cell? ⟨w1.heap.size, 1, none⟩ = some (.int .i64 t) ∧ W'.cell? ⟨w1.heap.size, 2, none⟩ = some (.slice a1 n c1))) := fun W ⟨s1, s2, s3, s4, s5, s6, s7⟩ => by
    refine (as12_any f t ao n c W).mono ?_
    rintro e W' ⟨rfl, hb⟩
    exact ⟨rfl, s1.trans (hb.mono s1.size), cell_later hb s2, cell_later hb s3, cell_later hb s4, cell_later hb s5, cell_later hb s6, cell_later hb s7⟩
  have hZ6 : Hid (∀ W, (Below w6.heap.size w6 W ∧ W.cell? ⟨w.heap.size, 0, none⟩ = some (.int .i64 f) ∧ W.cell? ⟨w.heap.size, 1, none⟩ = some (.int .i64 t) ∧ W.cell? ⟨w.heap.size, 2, none⟩ = some (.slice ao n c) ∧ W.cell? ⟨w1.heap.size, 0, none⟩ = some (.int .i64 f) ∧ W.cell? ⟨w1.heap.size, 1, none⟩ = some (.int .i64 t) ∧ W.cell? ⟨w1.heap.size, 2, none⟩ = some (.slice a1 n c1)) → Calls Tryd.prog 14 #[.agg #[.int .i64 f, .int .i64 t, .slice a1 n c1], .agg #[.int .i64 f, .int .i64 t, .slice ao n c]] W fun e W' => e = .returned (.bool true) ∧ (Below w6.heap.size w6 W' ∧ W'.cell? ⟨w.heap.size, 0, none⟩ = some (.int .i64 f) ∧ W'.cell? ⟨w.heap.size, 1, none⟩ = some (.int .i64 t) ∧ W'.cell? ⟨w.heap.size, 2, none⟩ = some (.slice ao n c) ∧ W'.cell? ⟨w1.heap.size, 0, none⟩ = some (.int .i64 f) ∧ W'.cell? ⟨w1.heap.size, 1, none⟩ = some (.int .i64 t) ∧ W'.cell? ⟨w1.heap.size, 2, none⟩ = some (.slice a1 n c1))) := fun W ⟨s1, s2, s3, s4, s5, s6, s7⟩ => by
    refine (same12_any f t f t (.slice a1 n c1) (.slice ao n c) n n d d W ((HD1.out.below B16).below s1) ((HDW.out _ BW6).below s1)).mono ?_
    rintro e W' ⟨rfl, hb⟩
    exact ⟨by simp, s1.trans (hb.mono s1.size), cell_later hb s2, cell_later hb s3, cell_later hb s4, cell_later hb s5, cell_later hb s6, cell_later hb s7⟩
  have hSd : (Below w6.heap.size w6 w6.drew ∧ w6.drew.cell? ⟨w.heap.size, 0, none⟩ = some (.int .i64 f) ∧ w6.drew.cell? ⟨w.heap.size, 1, none⟩ = some (.int .i64 t) ∧ w6.drew.cell? ⟨w.heap.size, 2, none⟩ = some (.slice ao n c) ∧ w6.drew.cell? ⟨w1.heap.size, 0, none⟩ = some (.int .i64 f) ∧ w6.drew.cell? ⟨w1.heap.size, 1, none⟩ = some (.int .i64 t) ∧ w6.drew.cell? ⟨w1.heap.size, 2, none⟩ = some (.slice a1 n c1)) := ⟨(Below.refl _ _).drew, z0, z1, z2, y0, y1, y2⟩
  clear x0 x1 x2 y0 y1 y2 z0 z1 z2 q0 q1 q2 p0 p1 p2 hrA B13 B34 BA6 hb1A hs1A
  go_region_held3 (fun W => (Below w6.heap.size w6 W ∧ W.cell? ⟨w.heap.size, 0, none⟩ = some (.int .i64 f) ∧ W.cell? ⟨w.heap.size, 1, none⟩ = some (.int .i64 t) ∧ W.cell? ⟨w.heap.size, 2, none⟩ = some (.slice ao n c) ∧ W.cell? ⟨w1.heap.size, 0, none⟩ = some (.int .i64 f) ∧ W.cell? ⟨w1.heap.size, 1, none⟩ = some (.int .i64 t) ∧ W.cell? ⟨w1.heap.size, 2, none⟩ = some (.slice a1 n c1)))
    (first | exact hSd | exact hS8 | assumption)
    ((first
      | (go_at_call 10; with_reducible refine (hK6.out _ (by assumption)).mono ?_; rintro e w8 ⟨rfl, hS8⟩)
      | (go_at_call 14; with_reducible refine (hZ6.out _ (by assumption)).mono ?_; rintro e w8 ⟨rfl, hS8⟩)
      | (go_at_call 13; with_reducible refine (hX6.out _ (by assumption)).mono ?_; rintro e w8 ⟨rfl, hS8⟩)
      | (go_at_call 13; with_reducible refine (hY6.out _ (by assumption)).mono ?_; rintro e w8 ⟨rfl, hS8⟩)))
  have BF := BW6.trans (hS8.1.mono BW6.size)
  clear hSd hSat hK6 hX6 hY6 hZ6 hS8
  go_wp2
  go_ret
  exact ⟨rfl, BF⟩

theorem m1_walk (f t : Int) (dv : Value) (n : Nat) (d : List Ent) (w : World) (ht : Tabs w) (h : DRd w dv n d) :
    Calls Tryd.prog 3 #[.agg #[.int .i64 f, .int .i64 t, dv]] w fun e w' => e = .returned (.bool true) ∧ Below w.heap.size w w' := by
  cases hg : great10 d with
  | true => exact m1_great f t dv n d w h hg
  | false =>
    cases hr : segRight f t d with
    | true => exact m1_good f t dv n d w ht h hg hr
    | false => exact m1_bad f t dv n d w ht h hg hr
end Go.Proofs.YteegbjjpjdlcmaaDoor
