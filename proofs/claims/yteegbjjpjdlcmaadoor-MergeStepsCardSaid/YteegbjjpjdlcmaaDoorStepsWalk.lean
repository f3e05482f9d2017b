/- rubricklaw13.MergeSteps: the walk. -/
import Derived.Test.YteegbjjpjdlcmaaDoorBuildAll
import Derived.Test.YteegbjjpjdlcmaaDoorFair10
import Derived.Test.YteegbjjpjdlcmaaDoorSame12
import Derived.Test.YteegbjjpjdlcmaaDoorSettleAll
import Derived.Deep.DeepCutAuto
set_option linter.unusedVariables false
namespace Go.Proofs.YteegbjjpjdlcmaaDoor
open Go.RowKit Go.Sort

def StepsSaid (w : World) (e : Ending) (w' : World) : Prop := e = .returned (.bool true) ∧ Below w.heap.size w w'

set_option maxRecDepth 100000 in
set_option maxHeartbeats 4000000 in
theorem steps_great (vd : Value) (docs : List (List UInt8)) (a b : Int) (w : World) (ht : Tabs w) (hd : DocsRd w vd docs) (g1 : greatDocs docs = true) :
    Calls Tryd.prog 8 #[vd, .int .u8 a, .int .u8 b] w (StepsSaid w) := by
  have HGD := greatdocs_any vd docs w hd
  rw [g1] at HGD
  have H1 := Lib.hid HGD
  obtain ⟨ad, cd, rfl, -⟩ := docs_cells hd
  clear HGD ht hd g1
  go_enter Tryd.func8, Tryd.ntmps8
  go_wp2_with (first
    | (go_at_call 22; refine H1.out.mono ?_; rintro e w' ⟨rfl, rfl⟩)
    | (go_at_call 10; refine (knows_any _).mono ?_; rintro e w99 ⟨rfl, hb99⟩))
  go_ret
  exact ⟨rfl, hb99⟩

set_option maxRecDepth 100000 in
set_option maxHeartbeats 4000000 in
theorem steps_unfair (vd : Value) (docs : List (List UInt8)) (a b : Int) (w : World) (ht : Tabs w) (hd : DocsRd w vd docs) (g1 : greatDocs docs = false) (g2 : fair10 docs = false) :
    Calls Tryd.prog 8 #[vd, .int .u8 a, .int .u8 b] w (StepsSaid w) := by
  have HGD := greatdocs_any vd docs w hd
  have hn := (greatDocs_no g1).1
  have HF := fair10_any vd docs w hd (by omega)
  rw [g1] at HGD
  rw [g2] at HF
  have H1 := Lib.hid HGD
  have H2 := Lib.hid HF
  obtain ⟨ad, cd, rfl, -⟩ := docs_cells hd
  clear HGD ht hd g1 g2 HF
  go_enter Tryd.func8, Tryd.ntmps8
  go_wp2_with (first
    | (go_at_call 22; refine H1.out.mono ?_; rintro e w' ⟨rfl, rfl⟩)
    | (go_at_call 26; refine H2.out.mono ?_; rintro e w1 ⟨rfl, hb1⟩)
    | (go_at_call 10; refine (knows_any _).mono ?_; rintro e w99 ⟨rfl, hb99⟩))
  go_ret
  exact ⟨rfl, hb1.trans (hb99.mono hb1.size)⟩

theorem fair10_yes {docs : List (List UInt8)} (h : fair10 docs = true) : ∀ d ∈ docs, d.length ≤ 2000 := by
  unfold fair10 at h
  rw [List.all_eq_true] at h
  intro d hd
  simpa using h d hd

theorem SegsRd.shape {docs : List (List UInt8)} {w : World} {v : Value} {ps : List (Nat × Nat)} (h : SegsRd docs w v ps) : ∃ ao c, v = .slice ao ps.length c := by
  obtain ⟨cells, ⟨-, -, hh⟩, -⟩ := h
  rcases hh with ⟨ao, c, rfl, h0⟩ | ⟨b, off, c, rfl, -⟩
  · exact ⟨ao, c, by rw [h0]⟩
  · exact ⟨_, c, rfl⟩
/-- a segment in a block of its own. -/
def SegAt (docs : List (List UInt8)) (w : World) (g : Nat) (p : Nat × Nat) (v : Value) : Prop := w.heap[g]? = some (.cells #[.int .i64 p.1, .int .i64 p.2, v] 26 (0, 0)) ∧ DRd w v (partD docs p).length (partD docs p)
theorem SegAt.below {docs : List (List UInt8)} {w w' : World} {g : Nat} {p : Nat × Nat} {v : Value} (h : SegAt docs w g p v) (hb : Below w.heap.size w w') : SegAt docs w' g p v := ⟨(hb.block g (lt_of_block h.1)).trans h.1, h.2.below hb⟩
theorem SegAt.cells {docs : List (List UInt8)} {w : World} {g : Nat} {p : Nat × Nat} {v : Value} (h : SegAt docs w g p v) : w.cell? ⟨g, 0, none⟩ = some (.int .i64 p.1) ∧ w.cell? ⟨g, 1, none⟩ = some (.int .i64 p.2) ∧ w.cell? ⟨g, 2, none⟩ = some v :=
  ⟨by rw [cell_of_row _ _ _ _ _ _ h.1]; rfl, by rw [cell_of_row _ _ _ _ _ _ h.1]; rfl, by rw [cell_of_row _ _ _ _ _ _ h.1]; rfl⟩
theorem SegAt.new {docs : List (List UInt8)} {w : World} {p : Nat × Nat} {v : Value} (h : DRd w v (partD docs p).length (partD docs p)) : SegAt docs (w.alloc (.cells #[.int .i64 p.1, .int .i64 p.2, v] 26)) w.heap.size p v :=
  ⟨heap_alloc_new w _, h.below ((Below.refl _ _).alloc (Nat.le_refl _) _)⟩

theorem seg_store {docs : List (List UInt8)} {W6 : World} {g : Nat} {p : Nat × Nat} {z u0 u1 u2 : Value} (h : W6.heap[g]? = some (.cells #[u0, u1, u2] 26 (0, 0)))
    (hd : ∀ w2 : World, (∀ q, q ≠ g → q < W6.heap.size → w2.heap[q]? = W6.heap[q]?) → DRd w2 z (partD docs p).length (partD docs p)) :
    SegAt docs (((W6.setCell ⟨g, 0, none⟩ (.int .i64 p.1)).setCell ⟨g, 1, none⟩ (.int .i64 p.2)).setCell ⟨g, 2, none⟩ z) g p z := by
  have h1 := heap_setCell_same W6 g 0 _ _ (.int .i64 p.1) h
  have h2 := heap_setCell_same _ g 1 _ _ (.int .i64 p.2) h1
  have h3 := heap_setCell_same _ g 2 _ _ z h2
  refine ⟨h3, hd _ fun q hq _ => ?_⟩
  rw [heap_setCell_other _ _ _ _ hq, heap_setCell_other _ _ _ _ hq, heap_setCell_other _ _ _ _ hq]

set_option maxRecDepth 100000 in
set_option maxHeartbeats 8000000 in
theorem steps_good (vd : Value) (docs : List (List UInt8)) (a b : Int) (w : World) (ht : Tabs w) (hd : DocsRd w vd docs) (ha : 0 ≤ a ∧ a ≤ 255) (hb : 0 ≤ b ∧ b ≤ 255) (g1 : greatDocs docs = false) (g2 : fair10 docs = true) :
    Calls Tryd.prog 8 #[vd, .int .u8 a, .int .u8 b] w (StepsSaid w) := by
  have HGD := greatdocs_any vd docs w hd
  obtain ⟨hn, hn2⟩ := greatDocs_no g1
  have HF := fair10_any vd docs w hd (by omega)
  rw [g1] at HGD
  rw [g2] at HF
  have H1 := Lib.hid HGD
  have H2 := Lib.hid HF
  have HB := Lib.hid (fun W (hW : Below w.heap.size w W) => built_any vd docs a b W (ht.below hW) (hd.below hW) (by omega) (fair10_yes g2))
  have HA := Lib.hid (fun (v : Value) (ps : List (Nat × Nat)) (lo hi : Nat) W (hW : Below w.heap.size w W) (h : SegsRd docs W v ps) (hc : chain lo ps hi) (hne : 0 < ps.length) (hpl : ps.length ≤ 1000) (hhi : hi ≤ 40) => all_parts docs v ps lo hi W (ht.below hW) h hc hne hpl hhi hn2)
  obtain ⟨n, hnn⟩ : ∃ n, n = docs.length := ⟨_, rfl⟩
  rw [← hnn] at hn
  have HNN := Lib.hid hnn
  obtain ⟨ad, cd, rfl, -⟩ := docs_cells hd
  obtain ⟨ha1, ha2⟩ := ha
  obtain ⟨hb1, hb2⟩ := hb
  clear HGD ht hd g1 g2 HF hn2 hnn
  go_enter Tryd.func8, Tryd.ntmps8
  go_wp2_with (first
    | (go_at_call 22; refine H1.out.mono ?_; rintro e w' ⟨rfl, rfl⟩)
    | (go_at_call 26; refine H2.out.mono ?_; rintro e w1 ⟨rfl, hb1⟩))
  refine (HB.out _ hb1).mono ?_
  rintro e w2 ⟨v, ps, rfl, hS, hC, hpl, hb2⟩
  have B2 := hb1.trans (hb2.mono hb1.size)
  obtain ⟨va, vc, rfl⟩ := hS.shape
  by_cases h3 : ps.length = 3
  · obtain ⟨p, q, r, rfl⟩ : ∃ p q r, ps = [p, q, r] := by
      match ps, h3 with
      | [p, q, r], _ => exact ⟨p, q, r, rfl⟩
    obtain ⟨hc1, hc2, hc3, hc4, hc5, hc6, hc7⟩ := hC
    obtain ⟨lo, x, y, rfl, rfl, rfl⟩ : ∃ lo x y, p = (lo, x) ∧ q = (x, y) ∧ r = (y, n) := by
      refine ⟨p.1, p.2, q.2, rfl, Prod.ext hc3 rfl, Prod.ext hc5 ?_⟩
      have : r.2 = docs.length := hc7
      rw [this, HNN.out]
    simp only at hc2 hc4 hc6
    obtain ⟨b, off, c, v0, v2, hv, hc3', hcm, ⟨k0, k1, k2, dr0⟩, ⟨k6, k7, k8, dr2⟩, S01, S12⟩ := hS.three
    simp only [List.length_cons, List.length_nil, Value.slice.injEq] at hv
    obtain ⟨rfl, -, rfl⟩ := hv
    have hcm2 : vc ≤ 9223372036854775807 := by unfold maxLen at hcm; exact hcm
    have hvc3 : (3 : Int) ≤ (vc : Int) := by omega
    have hvc2 : (2 : Int) ≤ (vc : Int) := by omega
    simp only [List.length_cons, List.length_nil]
    clear hS hc1 hc3 hc5 hc7 h3 hpl hcm hc3'
    go_wp2_with fail
    refine (HA.out _ [(lo, x), (x, y)] lo y w2 B2 S01 ⟨rfl, hc2, rfl, hc4, rfl⟩ (by simp) (by simp) (by omega)).mono ?_
    rintro e w3 ⟨x1, rfl, dx, b3⟩
    replace dx := dx w3 fun _ _ _ => rfl
    obtain ⟨ax, cx, rfl, -, -⟩ := dict_cells dx
    have hA9 := SegAt.new (p := (lo, y)) dx
    have B3 := B2.trans (b3.mono B2.size)
    have B9 : Below w.heap.size w (w3.alloc (.cells #[.int .i64 lo, .int .i64 y, .slice ax (partD docs (lo, y)).length cx] 26)) := B3.alloc B3.size _
    have B29 : Below w2.heap.size w2 (w3.alloc (.cells #[.int .i64 lo, .int .i64 y, .slice ax (partD docs (lo, y)).length cx] 26)) := b3.alloc b3.size _
    obtain ⟨dn, hdn⟩ : ∃ z, z = (partD docs (lo, y)).length := ⟨_, rfl⟩
    rw [← hdn] at dx hA9 B9 B29 ⊢
    have HDN := Lib.hid hdn
    clear hdn
    go_wp2_with fail
    generalize hW9 : (w3.alloc (.cells #[.int .i64 lo, .int .i64 y, .slice ax dn cx] 26)) = W9 at *
    clear hW9
    generalize hg9 : w3.heap.size = g9 at *
    clear hg9
    have HA9 := Lib.hid hA9
    have HX : Hid (∀ W, Below W9.heap.size W9 W → DRd W (.slice ax dn cx) (partD docs (lo, y)).length (partD docs (lo, y))) := fun W hW => HA9.out.2.below hW
    have HV2 : Hid (∀ W, Below W9.heap.size W9 W → DRd W v2 (partD docs (y, n)).length (partD docs (y, n))) := fun W hW => (dr2.below B29).below hW
    obtain ⟨s0, s1, s2⟩ := hA9.cells
    have t6 := cell_later B29 k6
    have t7 := cell_later B29 k7
    have t8 := cell_later B29 k8
    have HS9 : Hid (∀ W, Below W9.heap.size W9 W → Below W9.heap.size W9 W ∧ W.cell? ⟨g9, 0, none⟩ = some (.int .i64 lo) ∧ W.cell? ⟨g9, 1, none⟩ = some (.int .i64 y) ∧ W.cell? ⟨g9, 2, none⟩ = some (.slice ax dn cx) ∧ W.cell? ⟨b, off + 6, none⟩ = some (.int .i64 y) ∧ W.cell? ⟨b, off + 7, none⟩ = some (.int .i64 n) ∧ W.cell? ⟨b, off + 8, none⟩ = some v2) := fun W hW => ⟨hW, cell_later hW s0, cell_later hW s1, cell_later hW s2, cell_later hW t6, cell_later hW t7, cell_later hW t8⟩
    clear hA9 dx s0 s1 s2 t6 t7 t8
    go_cut [11, 12] (fun s11 s12 wc => ∃ (g : Nat) (z : Value), s11 = .pointer (some ⟨g, 0, none⟩) ∧ s12 = .int .i64 0 ∧ Hid (SegAt docs wc g (lo, n) z) ∧ Below W9.heap.size W9 wc)
    case first =>
      refine L_begin (fun W => Below W9.heap.size W9 W ∧ W.cell? ⟨g9, 0, none⟩ = some (.int .i64 lo) ∧ W.cell? ⟨g9, 1, none⟩ = some (.int .i64 y) ∧ W.cell? ⟨g9, 2, none⟩ = some (.slice ax dn cx) ∧ W.cell? ⟨b, off + 6, none⟩ = some (.int .i64 y) ∧ W.cell? ⟨b, off + 7, none⟩ = some (.int .i64 n) ∧ W.cell? ⟨b, off + 8, none⟩ = some v2) 10 (by kernel_rfl) ?_
      have hS := HS9.out _ (Below.refl _ _).drew
      generalize W9.drew = wd at *
      refine L_take (fuel := 11) 0 (.agg #[.int .i64 lo, .int .i64 y, .slice ax dn cx]) rfl (by kernel_rfl) (by kernel_rfl) (by kernel_rfl) (by kernel_rfl) (fun _ _ _ h => h) (by kernel_rfl) ?_ hS ?_
      · rintro W ⟨q0, q1, q2, q3, q4, q5, q6⟩
        go_simp
      refine L_free (fuel := 10) 1 (.slice (some ⟨b, off, none⟩) 3 vc) rfl (by kernel_rfl) (by kernel_rfl) (by kernel_rfl) (by kernel_rfl) (fun _ _ _ h => h) (by kernel_rfl) ?_ hS ?_
      · intro W
        go_simp
      refine L_free (fuel := 9) 2 (.pointer (some ⟨b, off + 6, none⟩)) rfl (by kernel_rfl) (by kernel_rfl) (by kernel_rfl) (by kernel_rfl) (fun _ _ _ h => h) (by kernel_rfl) ?_ hS ?_
      · intro W
        go_simp
      refine L_take (fuel := 8) 3 (.agg #[.int .i64 y, .int .i64 n, v2]) rfl (by kernel_rfl) (by kernel_rfl) (by kernel_rfl) (by kernel_rfl) (fun _ _ _ h => h) (by kernel_rfl) ?_ hS ?_
      · rintro W ⟨q0, q1, q2, q3, q4, q5, q6⟩
        go_simp
      refine L_two (fuel := 7) 4 9 (by kernel_rfl) rfl rfl ?_ ?_
      · intro K hK
        go_simp
        have hSc := HS9.out _ (hS.1.alloc hS.1.size (.cells #[.int .i64 lo, .int .i64 y, .slice ax dn cx, .int .i64 y, .int .i64 n, v2] 26))
        refine hK _ _ hSc ?_
        clear hK K
        refine L_two (fuel := 6) 5 9 (by kernel_rfl) rfl rfl ?_ ?_
        · skip
          intro K hK
          go_simp
          refine (HA.out _ [(lo, y), (y, n)] lo n _ (B9.trans (hSc.1.mono B9.size)) (segs_pair (heap_alloc_new wd (.cells #[.int .i64 lo, .int .i64 y, .slice ax dn cx, .int .i64 y, .int .i64 n, v2] 26)) (HX.out _ hSc.1) (HV2.out _ hSc.1)) ⟨rfl, by omega, rfl, hc6, rfl⟩ (by simp) (by simp) (by omega)).mono ?_
          rintro e w5 ⟨z, rfl, dz, b5⟩
          obtain ⟨az, cz, rfl, -, -⟩ := dict_cells (dz w5 fun _ _ _ => rfl)
          have DZ := Lib.hid dz
          clear dz
          have hb95 := hSc.1.trans (b5.mono hSc.1.size)
          have hS5 := HS9.out _ hb95
          go_simp
          refine hK _ _ hS5 ?_
          clear hK K
          refine L_free (fuel := 5) 6 (.tuple #[.agg #[.int .i64 lo, .int .i64 n, .slice az (partD docs (lo, n)).length cz], .int .i64 0]) rfl (by kernel_rfl) (by kernel_rfl) (by kernel_rfl) (by kernel_rfl) (fun _ _ _ h => h) (by kernel_rfl) ?_ hS5 ?_
          · intro W
            go_simp
          refine L_free (fuel := 4) 7 (.agg #[.int .i64 lo, .int .i64 n, .slice az (partD docs (lo, n)).length cz]) rfl (by kernel_rfl) (by kernel_rfl) (by kernel_rfl) (by kernel_rfl) (fun _ _ _ h => h) (by kernel_rfl) ?_ hS5 ?_
          · intro W
            go_simp
          refine L_free (fuel := 3) 8 (.int .i64 0) rfl (by kernel_rfl) (by kernel_rfl) (by kernel_rfl) (by kernel_rfl) (fun _ _ _ h => h) (by kernel_rfl) ?_ hS5 ?_
          · intro W
            go_simp
          refine L_one (fuel := 2) 9 (by kernel_rfl) rfl ?_
          intro K hK
          go_simp
          have hSe := HS9.out _ (hb95.alloc hb95.size (.cells #[.int .i64 0, .int .i64 0, .slice none 0 0] 26))
          refine hK _ _ hSe ?_
          clear hK K
          have hfin := SegAt.new (docs := docs) (p := (lo, n)) (DZ.out w5 fun _ _ _ => rfl)
          have hbel : Below W9.heap.size W9 (w5.alloc (.cells #[.int .i64 lo, .int .i64 n, .slice az (partD docs (lo, n)).length cz] 26)) := hb95.alloc hb95.size _
          have HFIN := Lib.hid hfin
          have HBEL := Lib.hid hbel
          clear hfin hbel
          refine L_end (fuel := 1) 10 (by kernel_rfl) rfl (by kernel_rfl) ?_
          intro K hK
          go_simp
          refine hK _ _ ?_
          clear hK K
          refine L_end (fuel := 0) 11 (by kernel_rfl) rfl (by kernel_rfl) ?_
          intro K hK
          go_simp
          refine hK _ _ ?_
          clear hK K
          refine L_done (by kernel_rfl) ?_ 0
          go_wp2_with fail
          go_meet
          exact ⟨w5.heap.size, _, rfl, rfl, HFIN.out, HBEL.out⟩
        · intro K hK
          go_simp
          have hSd := HS9.out _ (hSc.1.alloc hSc.1.size (.cells #[.int .i64 0, .int .i64 0, .slice none 0 0] 26))
          refine hK _ _ hSd ?_
          clear hK K
          have hgA := heap_alloc_new (wd.alloc (.cells #[.int .i64 lo, .int .i64 y, .slice ax dn cx, .int .i64 y, .int .i64 n, v2] 26)) (.cells #[.int .i64 0, .int .i64 0, .slice none 0 0] 26)
          have hpA : ((wd.alloc (.cells #[.int .i64 lo, .int .i64 y, .slice ax dn cx, .int .i64 y, .int .i64 n, v2] 26)).alloc (.cells #[.int .i64 0, .int .i64 0, .slice none 0 0] 26)).heap[wd.heap.size]? = some (.cells #[.int .i64 lo, .int .i64 y, .slice ax dn cx, .int .i64 y, .int .i64 n, v2] 26 (0, 0)) := (Below.heap_alloc (wd.alloc (.cells #[.int .i64 lo, .int .i64 y, .slice ax dn cx, .int .i64 y, .int .i64 n, v2] 26)) _ _ (by simp)).trans (heap_alloc_new wd (.cells #[.int .i64 lo, .int .i64 y, .slice ax dn cx, .int .i64 y, .int .i64 n, v2] 26))
          have hszA : (wd.alloc (.cells #[.int .i64 lo, .int .i64 y, .slice ax dn cx, .int .i64 y, .int .i64 n, v2] 26)).heap.size = wd.heap.size + 1 := by simp
          rw [hszA] at hgA
          have hszB : ((wd.alloc (.cells #[.int .i64 lo, .int .i64 y, .slice ax dn cx, .int .i64 y, .int .i64 n, v2] 26)).alloc (.cells #[.int .i64 0, .int .i64 0, .slice none 0 0] 26)).heap.size = wd.heap.size + 1 + 1 := by simp
          replace hSc := hSd
          refine L_one (fuel := 5) 5 (by kernel_rfl) rfl ?_
          intro K hK
          go_simp
          refine (HA.out _ [(lo, y), (y, n)] lo n _ (B9.trans (hSc.1.mono B9.size)) (segs_pair hpA (HX.out _ hSc.1) (HV2.out _ hSc.1)) ⟨rfl, by omega, rfl, hc6, rfl⟩ (by simp) (by simp) (by omega)).mono ?_
          rintro e w5 ⟨z, rfl, dz, b5⟩
          obtain ⟨az, cz, rfl, -, -⟩ := dict_cells (dz w5 fun _ _ _ => rfl)
          have DZ := Lib.hid dz
          clear dz
          have hb95 := hSc.1.trans (b5.mono hSc.1.size)
          have hS5 := HS9.out _ hb95
          go_simp
          refine hK _ _ hS5 ?_
          clear hK K
          refine L_free (fuel := 4) 6 (.tuple #[.agg #[.int .i64 lo, .int .i64 n, .slice az (partD docs (lo, n)).length cz], .int .i64 0]) rfl (by kernel_rfl) (by kernel_rfl) (by kernel_rfl) (by kernel_rfl) (fun _ _ _ h => h) (by kernel_rfl) ?_ hS5 ?_
          · intro W
            go_simp
          refine L_free (fuel := 3) 7 (.agg #[.int .i64 lo, .int .i64 n, .slice az (partD docs (lo, n)).length cz]) rfl (by kernel_rfl) (by kernel_rfl) (by kernel_rfl) (by kernel_rfl) (fun _ _ _ h => h) (by kernel_rfl) ?_ hS5 ?_
          · intro W
            go_simp
          refine L_free (fuel := 2) 8 (.int .i64 0) rfl (by kernel_rfl) (by kernel_rfl) (by kernel_rfl) (by kernel_rfl) (fun _ _ _ h => h) (by kernel_rfl) ?_ hS5 ?_
          · intro W
            go_simp
          have hg6 : (w5).heap[wd.heap.size + 1]? = some (.cells #[.int .i64 0, .int .i64 0, .slice none 0 0] 26 (0, 0)) := (b5.block _ (by omega)).trans hgA
          have hd6 : ∀ w2 : World, (∀ q, q ≠ wd.heap.size + 1 → q < (w5).heap.size → w2.heap[q]? = (w5).heap[q]?) → DRd w2 (.slice az (partD docs (lo, n)).length cz) (partD docs (lo, n)).length (partD docs (lo, n)) := fun w2 h2 => DZ.out w2 fun q g1 g2 => h2 q (by omega) g2
          have hb6 : Below W9.heap.size W9 (w5) := hb95
          have hs6 : W9.heap.size ≤ wd.heap.size + 1 := by first | omega | (have := hb95.size; omega) | (have := hS.1.size; simp; omega)
          have c0 := cell_of_row _ _ 0 _ _ _ hg6
          have c1 := cell_of_row _ _ 1 _ _ _ hg6
          have c2 := cell_of_row _ _ 2 _ _ _ hg6
          have f0 := frozen_of_row _ _ 0 _ _ hg6
          have f1 := frozen_of_row _ _ 1 _ _ hg6
          have f2 := frozen_of_row _ _ 2 _ _ hg6
          have hfin := seg_store (docs := docs) (p := (lo, n)) hg6 hd6
          have hbel : Below W9.heap.size W9 ((((w5).setCell ⟨wd.heap.size + 1, 0, none⟩ (.int .i64 lo)).setCell ⟨wd.heap.size + 1, 1, none⟩ (.int .i64 n)).setCell ⟨wd.heap.size + 1, 2, none⟩ (.slice az (partD docs (lo, n)).length cz)) := ((hb6.setCell hs6 _).setCell hs6 _).setCell hs6 _
          have HFIN := Lib.hid hfin
          have HBEL := Lib.hid hbel
          clear hfin hbel hd6 hg6 hb6
          refine L_end (fuel := 1) 10 (by kernel_rfl) rfl (by kernel_rfl) ?_
          intro K hK
          go_simp
          refine hK _ _ ?_
          clear hK K
          refine L_end (fuel := 0) 11 (by kernel_rfl) rfl (by kernel_rfl) ?_
          intro K hK
          go_simp
          refine hK _ _ ?_
          clear hK K
          refine L_done (by kernel_rfl) ?_ 0
          clear c0 c1 c2 f0 f1 f2
          go_wp2_with fail
          go_meet
          exact ⟨wd.heap.size + 1, _, rfl, rfl, HFIN.out, HBEL.out⟩
      · intro K hK
        go_simp
        have hSd := HS9.out _ (hS.1.alloc hS.1.size (.cells #[.int .i64 0, .int .i64 0, .slice none 0 0] 26))
        refine hK _ _ hSd ?_
        clear hK K
        refine L_one (fuel := 6) 4 (by kernel_rfl) rfl ?_
        intro K hK
        go_simp
        have hSc := HS9.out _ (hSd.1.alloc hSd.1.size (.cells #[.int .i64 lo, .int .i64 y, .slice ax dn cx, .int .i64 y, .int .i64 n, v2] 26))
        refine hK _ _ hSc ?_
        clear hK K
        have hgA : ((wd.alloc (.cells #[.int .i64 0, .int .i64 0, .slice none 0 0] 26)).alloc (.cells #[.int .i64 lo, .int .i64 y, .slice ax dn cx, .int .i64 y, .int .i64 n, v2] 26)).heap[wd.heap.size]? = some (.cells #[.int .i64 0, .int .i64 0, .slice none 0 0] 26 (0, 0)) := (Below.heap_alloc (wd.alloc (.cells #[.int .i64 0, .int .i64 0, .slice none 0 0] 26)) _ _ (by simp)).trans (heap_alloc_new wd _)
        have hpA := heap_alloc_new (wd.alloc (.cells #[.int .i64 0, .int .i64 0, .slice none 0 0] 26)) (.cells #[.int .i64 lo, .int .i64 y, .slice ax dn cx, .int .i64 y, .int .i64 n, v2] 26)
        have hszA : (wd.alloc (.cells #[.int .i64 0, .int .i64 0, .slice none 0 0] 26)).heap.size = wd.heap.size + 1 := by simp
        rw [hszA] at hpA
        have hszB : ((wd.alloc (.cells #[.int .i64 0, .int .i64 0, .slice none 0 0] 26)).alloc (.cells #[.int .i64 lo, .int .i64 y, .slice ax dn cx, .int .i64 y, .int .i64 n, v2] 26)).heap.size = wd.heap.size + 1 + 1 := by simp
        refine L_one (fuel := 5) 5 (by kernel_rfl) rfl ?_
        intro K hK
        go_simp
        refine (HA.out _ [(lo, y), (y, n)] lo n _ (B9.trans (hSc.1.mono B9.size)) (segs_pair hpA (HX.out _ hSc.1) (HV2.out _ hSc.1)) ⟨rfl, by omega, rfl, hc6, rfl⟩ (by simp) (by simp) (by omega)).mono ?_
        rintro e w5 ⟨z, rfl, dz, b5⟩
        obtain ⟨az, cz, rfl, -, -⟩ := dict_cells (dz w5 fun _ _ _ => rfl)
        have DZ := Lib.hid dz
        clear dz
        have hb95 := hSc.1.trans (b5.mono hSc.1.size)
        have hS5 := HS9.out _ hb95
        go_simp
        refine hK _ _ hS5 ?_
        clear hK K
        refine L_free (fuel := 4) 6 (.tuple #[.agg #[.int .i64 lo, .int .i64 n, .slice az (partD docs (lo, n)).length cz], .int .i64 0]) rfl (by kernel_rfl) (by kernel_rfl) (by kernel_rfl) (by kernel_rfl) (fun _ _ _ h => h) (by kernel_rfl) ?_ hS5 ?_
        · intro W
          go_simp
        refine L_free (fuel := 3) 7 (.agg #[.int .i64 lo, .int .i64 n, .slice az (partD docs (lo, n)).length cz]) rfl (by kernel_rfl) (by kernel_rfl) (by kernel_rfl) (by kernel_rfl) (fun _ _ _ h => h) (by kernel_rfl) ?_ hS5 ?_
        · intro W
          go_simp
        refine L_free (fuel := 2) 8 (.int .i64 0) rfl (by kernel_rfl) (by kernel_rfl) (by kernel_rfl) (by kernel_rfl) (fun _ _ _ h => h) (by kernel_rfl) ?_ hS5 ?_
        · intro W
          go_simp
        have hg6 : (w5).heap[wd.heap.size]? = some (.cells #[.int .i64 0, .int .i64 0, .slice none 0 0] 26 (0, 0)) := (b5.block _ (by omega)).trans hgA
        have hd6 : ∀ w2 : World, (∀ q, q ≠ wd.heap.size → q < (w5).heap.size → w2.heap[q]? = (w5).heap[q]?) → DRd w2 (.slice az (partD docs (lo, n)).length cz) (partD docs (lo, n)).length (partD docs (lo, n)) := fun w2 h2 => DZ.out w2 fun q g1 g2 => h2 q (by omega) g2
        have hb6 : Below W9.heap.size W9 (w5) := hb95
        have hs6 : W9.heap.size ≤ wd.heap.size := by first | omega | (have := hb95.size; omega) | (have := hS.1.size; simp; omega)
        have c0 := cell_of_row _ _ 0 _ _ _ hg6
        have c1 := cell_of_row _ _ 1 _ _ _ hg6
        have c2 := cell_of_row _ _ 2 _ _ _ hg6
        have f0 := frozen_of_row _ _ 0 _ _ hg6
        have f1 := frozen_of_row _ _ 1 _ _ hg6
        have f2 := frozen_of_row _ _ 2 _ _ hg6
        have hfin := seg_store (docs := docs) (p := (lo, n)) hg6 hd6
        have hbel : Below W9.heap.size W9 ((((w5).setCell ⟨wd.heap.size, 0, none⟩ (.int .i64 lo)).setCell ⟨wd.heap.size, 1, none⟩ (.int .i64 n)).setCell ⟨wd.heap.size, 2, none⟩ (.slice az (partD docs (lo, n)).length cz)) := ((hb6.setCell hs6 _).setCell hs6 _).setCell hs6 _
        have HFIN := Lib.hid hfin
        have HBEL := Lib.hid hbel
        clear hfin hbel hd6 hg6 hb6
        refine L_end (fuel := 1) 10 (by kernel_rfl) rfl (by kernel_rfl) ?_
        intro K hK
        go_simp
        refine hK _ _ ?_
        clear hK K
        refine L_end (fuel := 0) 11 (by kernel_rfl) rfl (by kernel_rfl) ?_
        intro K hK
        go_simp
        refine hK _ _ ?_
        clear hK K
        refine L_done (by kernel_rfl) ?_ 0
        clear c0 c1 c2 f0 f1 f2
        go_wp2_with fail
        go_meet
        exact ⟨wd.heap.size, _, rfl, rfl, HFIN.out, HBEL.out⟩
    case rest =>
      obtain ⟨gy, yv, rfl, rfl, HY, bc⟩ := hcut
      have B10 := B9.trans (bc.mono B9.size)
      have B2c := B29.trans (bc.mono B29.size)
      have S12c := S12.below B2c
      clear HS9 HX HV2
      go_wp2_with fail
      refine (HA.out _ [(x, y), (y, n)] x n wc B10 S12c ⟨rfl, hc4, rfl, hc6, rfl⟩ (by simp) (by simp) (by omega)).mono ?_
      rintro e w5 ⟨z1, rfl, dz, b5⟩
      replace dz := dz w5 fun _ _ _ => rfl
      obtain ⟨az1, cz1, rfl, -, -⟩ := dict_cells dz
      have hA11 := SegAt.new (p := (x, n)) dz
      have B5 := B10.trans (b5.mono B10.size)
      have B11 : Below w.heap.size w (w5.alloc (.cells #[.int .i64 x, .int .i64 n, .slice az1 (partD docs (x, n)).length cz1] 26)) := B5.alloc B5.size _
      have Bc11 : Below wc.heap.size wc (w5.alloc (.cells #[.int .i64 x, .int .i64 n, .slice az1 (partD docs (x, n)).length cz1] 26)) := b5.alloc b5.size _
      have B211 := B2c.trans (Bc11.mono B2c.size)
      obtain ⟨dz1, hdz1⟩ : ∃ z, z = (partD docs (x, n)).length := ⟨_, rfl⟩
      rw [← hdz1] at dz hA11 B11 Bc11 B211 ⊢
      have HDZ := Lib.hid hdz1
      clear hdz1
      go_wp2_with fail
      generalize hW11 : (w5.alloc (.cells #[.int .i64 x, .int .i64 n, .slice az1 dz1 cz1] 26)) = W11 at *
      clear hW11
      generalize hg11 : w5.heap.size = g11 at *
      clear hg11
      have HA11 := Lib.hid hA11
      have HZ : Hid (∀ W, Below W11.heap.size W11 W → DRd W (.slice az1 dz1 cz1) (partD docs (x, n)).length (partD docs (x, n))) := fun W hW => HA11.out.2.below hW
      have HV0 : Hid (∀ W, Below W11.heap.size W11 W → DRd W v0 (partD docs (lo, x)).length (partD docs (lo, x))) := fun W hW => (dr0.below B211).below hW
      have HY11 := Lib.hid (HY.out.below Bc11)
      obtain ⟨s0, s1, s2⟩ := hA11.cells
      have t0 := cell_later B211 k0
      have t1 := cell_later B211 k1
      have t2 := cell_later B211 k2
      have HS11 : Hid (∀ W, Below W11.heap.size W11 W → Below W11.heap.size W11 W ∧ W.cell? ⟨g11, 0, none⟩ = some (.int .i64 x) ∧ W.cell? ⟨g11, 1, none⟩ = some (.int .i64 n) ∧ W.cell? ⟨g11, 2, none⟩ = some (.slice az1 dz1 cz1) ∧ W.cell? ⟨b, off, none⟩ = some (.int .i64 lo) ∧ W.cell? ⟨b, off + 1, none⟩ = some (.int .i64 x) ∧ W.cell? ⟨b, off + 2, none⟩ = some v0) := fun W hW => ⟨hW, cell_later hW s0, cell_later hW s1, cell_later hW s2, cell_later hW t0, cell_later hW t1, cell_later hW t2⟩
      clear hA11 dz s0 s1 s2 t0 t1 t2 S12c
      go_cut [15, 16] (fun s15 s16 wc => ∃ (g : Nat) (z : Value), s15 = .pointer (some ⟨g, 0, none⟩) ∧ s16 = .int .i64 0 ∧ Hid (SegAt docs wc g (lo, n) z) ∧ Below W11.heap.size W11 wc)
      case first =>
        refine L_begin (fun W => Below W11.heap.size W11 W ∧ W.cell? ⟨g11, 0, none⟩ = some (.int .i64 x) ∧ W.cell? ⟨g11, 1, none⟩ = some (.int .i64 n) ∧ W.cell? ⟨g11, 2, none⟩ = some (.slice az1 dz1 cz1) ∧ W.cell? ⟨b, off, none⟩ = some (.int .i64 lo) ∧ W.cell? ⟨b, off + 1, none⟩ = some (.int .i64 x) ∧ W.cell? ⟨b, off + 2, none⟩ = some v0) 10 (by kernel_rfl) ?_
        have hS := HS11.out _ (Below.refl _ _).drew
        generalize W11.drew = wd at *
        refine L_free (fuel := 11) 0 (.slice (some ⟨b, off, none⟩) 3 vc) rfl (by kernel_rfl) (by kernel_rfl) (by kernel_rfl) (by kernel_rfl) (fun _ _ _ h => h) (by kernel_rfl) ?_ hS ?_
        · intro W
          go_simp
        refine L_free (fuel := 10) 1 (.pointer (some ⟨b, off, none⟩)) rfl (by kernel_rfl) (by kernel_rfl) (by kernel_rfl) (by kernel_rfl) (fun _ _ _ h => h) (by kernel_rfl) ?_ hS ?_
        · intro W
          go_simp
        refine L_take (fuel := 9) 2 (.agg #[.int .i64 lo, .int .i64 x, v0]) rfl (by kernel_rfl) (by kernel_rfl) (by kernel_rfl) (by kernel_rfl) (fun _ _ _ h => h) (by kernel_rfl) ?_ hS ?_
        · rintro W ⟨q0, q1, q2, q3, q4, q5, q6⟩
          go_simp
        refine L_take (fuel := 8) 3 (.agg #[.int .i64 x, .int .i64 n, .slice az1 dz1 cz1]) rfl (by kernel_rfl) (by kernel_rfl) (by kernel_rfl) (by kernel_rfl) (fun _ _ _ h => h) (by kernel_rfl) ?_ hS ?_
        · rintro W ⟨q0, q1, q2, q3, q4, q5, q6⟩
          go_simp
        refine L_two (fuel := 7) 4 9 (by kernel_rfl) rfl rfl ?_ ?_
        · intro K hK
          go_simp
          have hSc := HS11.out _ (hS.1.alloc hS.1.size (.cells #[.int .i64 lo, .int .i64 x, v0, .int .i64 x, .int .i64 n, .slice az1 dz1 cz1] 26))
          refine hK _ _ hSc ?_
          clear hK K
          refine L_two (fuel := 6) 5 9 (by kernel_rfl) rfl rfl ?_ ?_
          · skip
            intro K hK
            go_simp
            refine (HA.out _ [(lo, x), (x, n)] lo n _ (B11.trans (hSc.1.mono B11.size)) (segs_pair (heap_alloc_new wd (.cells #[.int .i64 lo, .int .i64 x, v0, .int .i64 x, .int .i64 n, .slice az1 dz1 cz1] 26)) (HV0.out _ hSc.1) (HZ.out _ hSc.1)) ⟨rfl, hc2, rfl, by omega, rfl⟩ (by simp) (by simp) (by omega)).mono ?_
            rintro e w5 ⟨z, rfl, dz, b5⟩
            obtain ⟨az, cz, rfl, -, -⟩ := dict_cells (dz w5 fun _ _ _ => rfl)
            have DZ := Lib.hid dz
            clear dz
            have hb95 := hSc.1.trans (b5.mono hSc.1.size)
            have hS5 := HS11.out _ hb95
            go_simp
            refine hK _ _ hS5 ?_
            clear hK K
            refine L_free (fuel := 5) 6 (.tuple #[.agg #[.int .i64 lo, .int .i64 n, .slice az (partD docs (lo, n)).length cz], .int .i64 0]) rfl (by kernel_rfl) (by kernel_rfl) (by kernel_rfl) (by kernel_rfl) (fun _ _ _ h => h) (by kernel_rfl) ?_ hS5 ?_
            · intro W
              go_simp
            refine L_free (fuel := 4) 7 (.agg #[.int .i64 lo, .int .i64 n, .slice az (partD docs (lo, n)).length cz]) rfl (by kernel_rfl) (by kernel_rfl) (by kernel_rfl) (by kernel_rfl) (fun _ _ _ h => h) (by kernel_rfl) ?_ hS5 ?_
            · intro W
              go_simp
            refine L_free (fuel := 3) 8 (.int .i64 0) rfl (by kernel_rfl) (by kernel_rfl) (by kernel_rfl) (by kernel_rfl) (fun _ _ _ h => h) (by kernel_rfl) ?_ hS5 ?_
            · intro W
              go_simp
            refine L_one (fuel := 2) 9 (by kernel_rfl) rfl ?_
            intro K hK
            go_simp
            have hSe := HS11.out _ (hb95.alloc hb95.size (.cells #[.int .i64 0, .int .i64 0, .slice none 0 0] 26))
            refine hK _ _ hSe ?_
            clear hK K
            have hfin := SegAt.new (docs := docs) (p := (lo, n)) (DZ.out w5 fun _ _ _ => rfl)
            have hbel : Below W11.heap.size W11 (w5.alloc (.cells #[.int .i64 lo, .int .i64 n, .slice az (partD docs (lo, n)).length cz] 26)) := hb95.alloc hb95.size _
            have HFIN := Lib.hid hfin
            have HBEL := Lib.hid hbel
            clear hfin hbel
            refine L_end (fuel := 1) 10 (by kernel_rfl) rfl (by kernel_rfl) ?_
            intro K hK
            go_simp
            refine hK _ _ ?_
            clear hK K
            refine L_end (fuel := 0) 11 (by kernel_rfl) rfl (by kernel_rfl) ?_
            intro K hK
            go_simp
            refine hK _ _ ?_
            clear hK K
            refine L_done (by kernel_rfl) ?_ 0
            go_wp2_with fail
            go_meet
            exact ⟨w5.heap.size, _, rfl, rfl, HFIN.out, HBEL.out⟩
          · intro K hK
            go_simp
            have hSd := HS11.out _ (hSc.1.alloc hSc.1.size (.cells #[.int .i64 0, .int .i64 0, .slice none 0 0] 26))
            refine hK _ _ hSd ?_
            clear hK K
            have hgA := heap_alloc_new (wd.alloc (.cells #[.int .i64 lo, .int .i64 x, v0, .int .i64 x, .int .i64 n, .slice az1 dz1 cz1] 26)) (.cells #[.int .i64 0, .int .i64 0, .slice none 0 0] 26)
            have hpA : ((wd.alloc (.cells #[.int .i64 lo, .int .i64 x, v0, .int .i64 x, .int .i64 n, .slice az1 dz1 cz1] 26)).alloc (.cells #[.int .i64 0, .int .i64 0, .slice none 0 0] 26)).heap[wd.heap.size]? = some (.cells #[.int .i64 lo, .int .i64 x, v0, .int .i64 x, .int .i64 n, .slice az1 dz1 cz1] 26 (0, 0)) := (Below.heap_alloc (wd.alloc (.cells #[.int .i64 lo, .int .i64 x, v0, .int .i64 x, .int .i64 n, .slice az1 dz1 cz1] 26)) _ _ (by simp)).trans (heap_alloc_new wd (.cells #[.int .i64 lo, .int .i64 x, v0, .int .i64 x, .int .i64 n, .slice az1 dz1 cz1] 26))
            have hszA : (wd.alloc (.cells #[.int .i64 lo, .int .i64 x, v0, .int .i64 x, .int .i64 n, .slice az1 dz1 cz1] 26)).heap.size = wd.heap.size + 1 := by simp
            rw [hszA] at hgA
            have hszB : ((wd.alloc (.cells #[.int .i64 lo, .int .i64 x, v0, .int .i64 x, .int .i64 n, .slice az1 dz1 cz1] 26)).alloc (.cells #[.int .i64 0, .int .i64 0, .slice none 0 0] 26)).heap.size = wd.heap.size + 1 + 1 := by simp
            replace hSc := hSd
            refine L_one (fuel := 5) 5 (by kernel_rfl) rfl ?_
            intro K hK
            go_simp
            refine (HA.out _ [(lo, x), (x, n)] lo n _ (B11.trans (hSc.1.mono B11.size)) (segs_pair hpA (HV0.out _ hSc.1) (HZ.out _ hSc.1)) ⟨rfl, hc2, rfl, by omega, rfl⟩ (by simp) (by simp) (by omega)).mono ?_
            rintro e w5 ⟨z, rfl, dz, b5⟩
            obtain ⟨az, cz, rfl, -, -⟩ := dict_cells (dz w5 fun _ _ _ => rfl)
            have DZ := Lib.hid dz
            clear dz
            have hb95 := hSc.1.trans (b5.mono hSc.1.size)
            have hS5 := HS11.out _ hb95
            go_simp
            refine hK _ _ hS5 ?_
            clear hK K
            refine L_free (fuel := 4) 6 (.tuple #[.agg #[.int .i64 lo, .int .i64 n, .slice az (partD docs (lo, n)).length cz], .int .i64 0]) rfl (by kernel_rfl) (by kernel_rfl) (by kernel_rfl) (by kernel_rfl) (fun _ _ _ h => h) (by kernel_rfl) ?_ hS5 ?_
            · intro W
              go_simp
            refine L_free (fuel := 3) 7 (.agg #[.int .i64 lo, .int .i64 n, .slice az (partD docs (lo, n)).length cz]) rfl (by kernel_rfl) (by kernel_rfl) (by kernel_rfl) (by kernel_rfl) (fun _ _ _ h => h) (by kernel_rfl) ?_ hS5 ?_
            · intro W
              go_simp
            refine L_free (fuel := 2) 8 (.int .i64 0) rfl (by kernel_rfl) (by kernel_rfl) (by kernel_rfl) (by kernel_rfl) (fun _ _ _ h => h) (by kernel_rfl) ?_ hS5 ?_
            · intro W
              go_simp
            have hg6 : (w5).heap[wd.heap.size + 1]? = some (.cells #[.int .i64 0, .int .i64 0, .slice none 0 0] 26 (0, 0)) := (b5.block _ (by omega)).trans hgA
            have hd6 : ∀ w2 : World, (∀ q, q ≠ wd.heap.size + 1 → q < (w5).heap.size → w2.heap[q]? = (w5).heap[q]?) → DRd w2 (.slice az (partD docs (lo, n)).length cz) (partD docs (lo, n)).length (partD docs (lo, n)) := fun w2 h2 => DZ.out w2 fun q g1 g2 => h2 q (by omega) g2
            have hb6 : Below W11.heap.size W11 (w5) := hb95
            have hs6 : W11.heap.size ≤ wd.heap.size + 1 := by first | omega | (have := hb95.size; omega) | (have := hS.1.size; simp; omega)
            have c0 := cell_of_row _ _ 0 _ _ _ hg6
            have c1 := cell_of_row _ _ 1 _ _ _ hg6
            have c2 := cell_of_row _ _ 2 _ _ _ hg6
            have f0 := frozen_of_row _ _ 0 _ _ hg6
            have f1 := frozen_of_row _ _ 1 _ _ hg6
            have f2 := frozen_of_row _ _ 2 _ _ hg6
            have hfin := seg_store (docs := docs) (p := (lo, n)) hg6 hd6
            have hbel : Below W11.heap.size W11 ((((w5).setCell ⟨wd.heap.size + 1, 0, none⟩ (.int .i64 lo)).setCell ⟨wd.heap.size + 1, 1, none⟩ (.int .i64 n)).setCell ⟨wd.heap.size + 1, 2, none⟩ (.slice az (partD docs (lo, n)).length cz)) := ((hb6.setCell hs6 _).setCell hs6 _).setCell hs6 _
            have HFIN := Lib.hid hfin
            have HBEL := Lib.hid hbel
            clear hfin hbel hd6 hg6 hb6
            refine L_end (fuel := 1) 10 (by kernel_rfl) rfl (by kernel_rfl) ?_
            intro K hK
            go_simp
            refine hK _ _ ?_
            clear hK K
            refine L_end (fuel := 0) 11 (by kernel_rfl) rfl (by kernel_rfl) ?_
            intro K hK
            go_simp
            refine hK _ _ ?_
            clear hK K
            refine L_done (by kernel_rfl) ?_ 0
            clear c0 c1 c2 f0 f1 f2
            go_wp2_with fail
            go_meet
            exact ⟨wd.heap.size + 1, _, rfl, rfl, HFIN.out, HBEL.out⟩
        · intro K hK
          go_simp
          have hSd := HS11.out _ (hS.1.alloc hS.1.size (.cells #[.int .i64 0, .int .i64 0, .slice none 0 0] 26))
          refine hK _ _ hSd ?_
          clear hK K
          refine L_one (fuel := 6) 4 (by kernel_rfl) rfl ?_
          intro K hK
          go_simp
          have hSc := HS11.out _ (hSd.1.alloc hSd.1.size (.cells #[.int .i64 lo, .int .i64 x, v0, .int .i64 x, .int .i64 n, .slice az1 dz1 cz1] 26))
          refine hK _ _ hSc ?_
          clear hK K
          have hgA : ((wd.alloc (.cells #[.int .i64 0, .int .i64 0, .slice none 0 0] 26)).alloc (.cells #[.int .i64 lo, .int .i64 x, v0, .int .i64 x, .int .i64 n, .slice az1 dz1 cz1] 26)).heap[wd.heap.size]? = some (.cells #[.int .i64 0, .int .i64 0, .slice none 0 0] 26 (0, 0)) := (Below.heap_alloc (wd.alloc (.cells #[.int .i64 0, .int .i64 0, .slice none 0 0] 26)) _ _ (by simp)).trans (heap_alloc_new wd _)
          have hpA := heap_alloc_new (wd.alloc (.cells #[.int .i64 0, .int .i64 0, .slice none 0 0] 26)) (.cells #[.int .i64 lo, .int .i64 x, v0, .int .i64 x, .int .i64 n, .slice az1 dz1 cz1] 26)
          have hszA : (wd.alloc (.cells #[.int .i64 0, .int .i64 0, .slice none 0 0] 26)).heap.size = wd.heap.size + 1 := by simp
          rw [hszA] at hpA
          have hszB : ((wd.alloc (.cells #[.int .i64 0, .int .i64 0, .slice none 0 0] 26)).alloc (.cells #[.int .i64 lo, .int .i64 x, v0, .int .i64 x, .int .i64 n, .slice az1 dz1 cz1] 26)).heap.size = wd.heap.size + 1 + 1 := by simp
          refine L_one (fuel := 5) 5 (by kernel_rfl) rfl ?_
          intro K hK
          go_simp
          refine (HA.out _ [(lo, x), (x, n)] lo n _ (B11.trans (hSc.1.mono B11.size)) (segs_pair hpA (HV0.out _ hSc.1) (HZ.out _ hSc.1)) ⟨rfl, hc2, rfl, by omega, rfl⟩ (by simp) (by simp) (by omega)).mono ?_
          rintro e w5 ⟨z, rfl, dz, b5⟩
          obtain ⟨az, cz, rfl, -, -⟩ := dict_cells (dz w5 fun _ _ _ => rfl)
          have DZ := Lib.hid dz
          clear dz
          have hb95 := hSc.1.trans (b5.mono hSc.1.size)
          have hS5 := HS11.out _ hb95
          go_simp
          refine hK _ _ hS5 ?_
          clear hK K
          refine L_free (fuel := 4) 6 (.tuple #[.agg #[.int .i64 lo, .int .i64 n, .slice az (partD docs (lo, n)).length cz], .int .i64 0]) rfl (by kernel_rfl) (by kernel_rfl) (by kernel_rfl) (by kernel_rfl) (fun _ _ _ h => h) (by kernel_rfl) ?_ hS5 ?_
          · intro W
            go_simp
          refine L_free (fuel := 3) 7 (.agg #[.int .i64 lo, .int .i64 n, .slice az (partD docs (lo, n)).length cz]) rfl (by kernel_rfl) (by kernel_rfl) (by kernel_rfl) (by kernel_rfl) (fun _ _ _ h => h) (by kernel_rfl) ?_ hS5 ?_
          · intro W
            go_simp
          refine L_free (fuel := 2) 8 (.int .i64 0) rfl (by kernel_rfl) (by kernel_rfl) (by kernel_rfl) (by kernel_rfl) (fun _ _ _ h => h) (by kernel_rfl) ?_ hS5 ?_
          · intro W
            go_simp
          have hg6 : (w5).heap[wd.heap.size]? = some (.cells #[.int .i64 0, .int .i64 0, .slice none 0 0] 26 (0, 0)) := (b5.block _ (by omega)).trans hgA
          have hd6 : ∀ w2 : World, (∀ q, q ≠ wd.heap.size → q < (w5).heap.size → w2.heap[q]? = (w5).heap[q]?) → DRd w2 (.slice az (partD docs (lo, n)).length cz) (partD docs (lo, n)).length (partD docs (lo, n)) := fun w2 h2 => DZ.out w2 fun q g1 g2 => h2 q (by omega) g2
          have hb6 : Below W11.heap.size W11 (w5) := hb95
          have hs6 : W11.heap.size ≤ wd.heap.size := by first | omega | (have := hb95.size; omega) | (have := hS.1.size; simp; omega)
          have c0 := cell_of_row _ _ 0 _ _ _ hg6
          have c1 := cell_of_row _ _ 1 _ _ _ hg6
          have c2 := cell_of_row _ _ 2 _ _ _ hg6
          have f0 := frozen_of_row _ _ 0 _ _ hg6
          have f1 := frozen_of_row _ _ 1 _ _ hg6
          have f2 := frozen_of_row _ _ 2 _ _ hg6
          have hfin := seg_store (docs := docs) (p := (lo, n)) hg6 hd6
          have hbel : Below W11.heap.size W11 ((((w5).setCell ⟨wd.heap.size, 0, none⟩ (.int .i64 lo)).setCell ⟨wd.heap.size, 1, none⟩ (.int .i64 n)).setCell ⟨wd.heap.size, 2, none⟩ (.slice az (partD docs (lo, n)).length cz)) := ((hb6.setCell hs6 _).setCell hs6 _).setCell hs6 _
          have HFIN := Lib.hid hfin
          have HBEL := Lib.hid hbel
          clear hfin hbel hd6 hg6 hb6
          refine L_end (fuel := 1) 10 (by kernel_rfl) rfl (by kernel_rfl) ?_
          intro K hK
          go_simp
          refine hK _ _ ?_
          clear hK K
          refine L_end (fuel := 0) 11 (by kernel_rfl) rfl (by kernel_rfl) ?_
          intro K hK
          go_simp
          refine hK _ _ ?_
          clear hK K
          refine L_done (by kernel_rfl) ?_ 0
          clear c0 c1 c2 f0 f1 f2
          go_wp2_with fail
          go_meet
          exact ⟨wd.heap.size, _, rfl, rfl, HFIN.out, HBEL.out⟩
      case rest =>
        obtain ⟨gw, wv, rfl, rfl, HW, bd⟩ := hcut
        have HYc := HY11.out.below bd
        have HWc := HW.out
        obtain ⟨ay, cy, rfl, -, -⟩ := dict_cells HYc.2
        obtain ⟨aw, cw, rfl, -, -⟩ := dict_cells HWc.2
        obtain ⟨s0, s1, s2⟩ := HYc.cells
        obtain ⟨t0, t1, t2⟩ := HWc.cells
        have B12 := B11.trans (bd.mono B11.size)
        have HDY := Lib.hid HYc.2
        have HDW := Lib.hid HWc.2
        clear HS11 HZ HV0 HA11 HY11 HW HYc HWc HY HA9
        generalize hU : partD docs (lo, n) = U at *
        generalize hdm : U.length = dm at *
        clear hU hdm
        have hSat : (Below wc.heap.size wc wc ∧ wc.cell? ⟨gy, 0, none⟩ = some (.int .i64 lo) ∧ wc.cell? ⟨gy, 1, none⟩ = some (.int .i64 n) ∧ wc.cell? ⟨gy, 2, none⟩ = some (.slice ay dm cy) ∧ wc.cell? ⟨gw, 0, none⟩ = some (.int .i64 lo) ∧ wc.cell? ⟨gw, 1, none⟩ = some (.int .i64 n) ∧ wc.cell? ⟨gw, 2, none⟩ = some (.slice aw dm cw)) := ⟨Below.refl _ _, s0, s1, s2, t0, t1, t2⟩
        have hSd : (Below wc.heap.size wc wc.drew ∧ wc.drew.cell? ⟨gy, 0, none⟩ = some (.int .i64 lo) ∧ wc.drew.cell? ⟨gy, 1, none⟩ = some (.int .i64 n) ∧ wc.drew.cell? ⟨gy, 2, none⟩ = some (.slice ay dm cy) ∧ wc.drew.cell? ⟨gw, 0, none⟩ = some (.int .i64 lo) ∧ wc.drew.cell? ⟨gw, 1, none⟩ = some (.int .i64 n) ∧ wc.drew.cell? ⟨gw, 2, none⟩ = some (.slice aw dm cw)) := ⟨(Below.refl _ _).drew, s0, s1, s2, t0, t1, t2⟩
        have hK6 : Hid (∀ W, (Below wc.heap.size wc W ∧ W.cell? ⟨gy, 0, none⟩ = some (.int .i64 lo) ∧ W.cell? ⟨gy, 1, none⟩ = some (.int .i64 n) ∧ W.cell? ⟨gy, 2, none⟩ = some (.slice ay dm cy) ∧ W.cell? ⟨gw, 0, none⟩ = some (.int .i64 lo) ∧ W.cell? ⟨gw, 1, none⟩ = some (.int .i64 n) ∧ W.cell? ⟨gw, 2, none⟩ = some (.slice aw dm cw)) → Calls Tryd.prog 10 #[] W fun e W' => e = .returned (.bool true) ∧ (Below wc.heap.size wc W' ∧ W'.cell? ⟨gy, 0, none⟩ = some (.int .i64 lo) ∧ W'.cell? ⟨gy, 1, none⟩ = some (.int .i64 n) ∧ W'.cell? ⟨gy, 2, none⟩ = some (.slice ay dm cy) ∧ W'.cell? ⟨gw, 0, none⟩ = some (.int .i64 lo) ∧ W'.cell? ⟨gw, 1, none⟩ = some (.int .i64 n) ∧ W'.cell? ⟨gw, 2, none⟩ = some (.slice aw dm cw))) := fun W ⟨q1, q2, q3, q4, q5, q6, q7⟩ => by
          refine (knows_any W).mono ?_
          rintro e W' ⟨rfl, hb⟩
          exact ⟨rfl, q1.trans (hb.mono q1.size), cell_later hb q2, cell_later hb q3, cell_later hb q4, cell_later hb q5, cell_later hb q6, cell_later hb q7⟩
        have hX6 : Hid (∀ W, (Below wc.heap.size wc W ∧ W.cell? ⟨gy, 0, none⟩ = some (.int .i64 lo) ∧ W.cell? ⟨gy, 1, none⟩ = some (.int .i64 n) ∧ W.cell? ⟨gy, 2, none⟩ = some (.slice ay dm cy) ∧ W.cell? ⟨gw, 0, none⟩ = some (.int .i64 lo) ∧ W.cell? ⟨gw, 1, none⟩ = some (.int .i64 n) ∧ W.cell? ⟨gw, 2, none⟩ = some (.slice aw dm cw)) → Calls Tryd.prog 13 #[.agg #[.int .i64 lo, .int .i64 n, .slice ay dm cy]] W fun e W' => e = .returned (.agg #[.int .i64 lo, .int .i64 n, .slice ay dm cy]) ∧ (Below wc.heap.size wc W' ∧ W'.cell? ⟨gy, 0, none⟩ = some (.int .i64 lo) ∧ W'.cell? ⟨gy, 1, none⟩ = some (.int .i64 n) ∧ W'.cell? ⟨gy, 2, none⟩ = some (.slice ay dm cy) ∧ W'.cell? ⟨gw, 0, none⟩ = some (.int .i64 lo) ∧ W'.cell? ⟨gw, 1, none⟩ = some (.int .i64 n) ∧ W'.cell? ⟨gw, 2, none⟩ = some (.slice aw dm cw))) := fun W ⟨q1, q2, q3, q4, q5, q6, q7⟩ => by
          refine (as12_any lo n ay dm cy W).mono ?_
          rintro e W' ⟨rfl, hb⟩
          exact ⟨rfl, q1.trans (hb.mono q1.size), cell_later hb q2, cell_later hb q3, cell_later hb q4, cell_later hb q5, cell_later hb q6, cell_later hb q7⟩
        have hY6 : Hid (∀ W, (Below wc.heap.size wc W ∧ W.cell? ⟨gy, 0, none⟩ = some (.int .i64 lo) ∧ W.cell? ⟨gy, 1, none⟩ = some (.int .i64 n) ∧ W.cell? ⟨gy, 2, none⟩ = some (.slice ay dm cy) ∧ W.cell? ⟨gw, 0, none⟩ = some (.int .i64 lo) ∧ W.cell? ⟨gw, 1, none⟩ = some (.int .i64 n) ∧ W.cell? ⟨gw, 2, none⟩ = some (.slice aw dm cw)) → Calls Tryd.prog 13 #[.agg #[.int .i64 lo, .int .i64 n, .slice aw dm cw]] W fun e W' => e = .returned (.agg #[.int .i64 lo, .int .i64 n, .slice aw dm cw]) ∧ (Below wc.heap.size wc W' ∧ W'.cell? ⟨gy, 0, none⟩ = some (.int .i64 lo) ∧ W'.cell? ⟨gy, 1, none⟩ = some (.int .i64 n) ∧ W'.cell? ⟨gy, 2, none⟩ = some (.slice ay dm cy) ∧ W'.cell? ⟨gw, 0, none⟩ = some (.int .i64 lo) ∧ W'.cell? ⟨gw, 1, none⟩ = some (.int .i64 n) ∧ W'.cell? ⟨gw, 2, none⟩ = some (.slice aw dm cw))) := fun W ⟨q1, q2, q3, q4, q5, q6, q7⟩ => by
          refine (as12_any lo n aw dm cw W).mono ?_
          rintro e W' ⟨rfl, hb⟩
          exact ⟨rfl, q1.trans (hb.mono q1.size), cell_later hb q2, cell_later hb q3, cell_later hb q4, cell_later hb q5, cell_later hb q6, cell_later hb q7⟩
        have hZ6 : Hid (∀ W, (Below wc.heap.size wc W ∧ W.cell? ⟨gy, 0, none⟩ = some (.int .i64 lo) ∧ W.cell? ⟨gy, 1, none⟩ = some (.int .i64 n) ∧ W.cell? ⟨gy, 2, none⟩ = some (.slice ay dm cy) ∧ W.cell? ⟨gw, 0, none⟩ = some (.int .i64 lo) ∧ W.cell? ⟨gw, 1, none⟩ = some (.int .i64 n) ∧ W.cell? ⟨gw, 2, none⟩ = some (.slice aw dm cw)) → Calls Tryd.prog 14 #[.agg #[.int .i64 lo, .int .i64 n, .slice ay dm cy], .agg #[.int .i64 lo, .int .i64 n, .slice aw dm cw]] W fun e W' => e = .returned (.bool true) ∧ (Below wc.heap.size wc W' ∧ W'.cell? ⟨gy, 0, none⟩ = some (.int .i64 lo) ∧ W'.cell? ⟨gy, 1, none⟩ = some (.int .i64 n) ∧ W'.cell? ⟨gy, 2, none⟩ = some (.slice ay dm cy) ∧ W'.cell? ⟨gw, 0, none⟩ = some (.int .i64 lo) ∧ W'.cell? ⟨gw, 1, none⟩ = some (.int .i64 n) ∧ W'.cell? ⟨gw, 2, none⟩ = some (.slice aw dm cw))) := fun W ⟨q1, q2, q3, q4, q5, q6, q7⟩ => by
          refine (same12_any lo n lo n (.slice ay dm cy) (.slice aw dm cw) dm dm U U W (HDY.out.below q1) (HDW.out.below q1)).mono ?_
          rintro e W' ⟨rfl, hb⟩
          exact ⟨by simp, q1.trans (hb.mono q1.size), cell_later hb q2, cell_later hb q3, cell_later hb q4, cell_later hb q5, cell_later hb q6, cell_later hb q7⟩
        clear s0 s1 s2 t0 t1 t2 k0 k1 k2 k6 k7 k8
        go_wp2_with fail
        go_region_held3 (fun W => (Below wc.heap.size wc W ∧ W.cell? ⟨gy, 0, none⟩ = some (.int .i64 lo) ∧ W.cell? ⟨gy, 1, none⟩ = some (.int .i64 n) ∧ W.cell? ⟨gy, 2, none⟩ = some (.slice ay dm cy) ∧ W.cell? ⟨gw, 0, none⟩ = some (.int .i64 lo) ∧ W.cell? ⟨gw, 1, none⟩ = some (.int .i64 n) ∧ W.cell? ⟨gw, 2, none⟩ = some (.slice aw dm cw)))
          (first | exact hSd | exact hS8 | assumption)
          ((first
            | (go_at_call 10; with_reducible refine (hK6.out _ (by assumption)).mono ?_; rintro e w8 ⟨rfl, hS8⟩)
            | (go_at_call 14; with_reducible refine (hZ6.out _ (by assumption)).mono ?_; rintro e w8 ⟨rfl, hS8⟩)
            | (go_at_call 13; with_reducible refine (hX6.out _ (by assumption)).mono ?_; rintro e w8 ⟨rfl, hS8⟩)
            | (go_at_call 13; with_reducible refine (hY6.out _ (by assumption)).mono ?_; rintro e w8 ⟨rfl, hS8⟩)))
        have BF := B12.trans (hS8.1.mono B12.size)
        clear hSd hSat hK6 hX6 hY6 hZ6 hS8
        go_wp2
        go_ret
        exact ⟨rfl, BF⟩
  · have n3 : ((ps.length : Int) != 3) = true := by simp; omega
    clear hS
    generalize ps.length = m at *
    go_wp2_with (go_at_call 10; refine (knows_any _).mono ?_; rintro e w99 ⟨rfl, hb99⟩)
    go_ret
    exact ⟨rfl, B2.trans (hb99.mono B2.size)⟩
theorem steps_walk (vd : Value) (docs : List (List UInt8)) (a b : Int) (w : World) (ht : Tabs w) (hd : DocsRd w vd docs) (ha : 0 ≤ a ∧ a < 256) (hb : 0 ≤ b ∧ b < 256) :
    Calls Tryd.prog 8 #[vd, .int .u8 a, .int .u8 b] w fun e w' => e = .returned (.bool true) ∧ Below w.heap.size w w' := by
  cases g1 : greatDocs docs with
  | true => exact steps_great vd docs a b w ht hd g1
  | false =>
    cases g2 : fair10 docs with
    | true => exact steps_good vd docs a b w ht hd ⟨ha.1, by omega⟩ ⟨hb.1, by omega⟩ g1 g2
    | false => exact steps_unfair vd docs a b w ht hd g1 g2
end Go.Proofs.YteegbjjpjdlcmaaDoor
