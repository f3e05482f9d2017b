/- rubricklaw17.EvalSwap: the walk. -/
import Derived.Test.YteegbjjpjdlcmaaDoorEvalLaw2
import Derived.Test.YteegbjjpjdlcmaaDoorKnows17
import Derived.Test.YteegbjjpjdlcmaaDoorAs17
import Derived.Test.YteegbjjpjdlcmaaDoorRef16
set_option linter.unusedVariables false
namespace Go.Proofs.YteegbjjpjdlcmaaDoor
open Go.RowKit Go.Sort

theorem mrow_ops3s {w : World} {v : Value} {a b : List QOp} {k : Int} (h : Rd w v (a.length + b.length + 1) 2 ((ocells a ++ ocells b) ++ ocells [(k, [])])) : Rd w v (a ++ b ++ [(k, [])]).length 2 (ocells (a ++ b ++ [(k, [])])) := by
  rw [ocells_append, ocells_append, List.length_append, List.length_append]
  exact h
theorem ops2_ones (a b : List QOp) : ∀ u ∈ ocells a ++ ocells b, u.oneCell' = true := by
  rw [← ocells_append]; exact ocells_one _

theorem opB_swap {k : Int} (hk : k = 1 ∨ k = 2) (x y : Bool) : opB k x y = opB k y x := by rcases hk with rfl | rfl <;> cases x <;> cases y <;> rfl
theorem er_swap {l m : List QOp} (hl : qRight l = true) (hm : qRight m = true) {k : Int} (hk : k = 1 ∨ k = 2) : erOf (m ++ l ++ [(k, [])]) = erOf (l ++ m ++ [(k, [])]) := by
  unfold erOf; rw [right_swap hm hl (by omega)]
theorem res_swap {l m : List QOp} (hl : qRight l = true) (hm : qRight m = true) {k : Int} (hk : k = 1 ∨ k = 2) (docs : List (List UInt8)) : resF (m ++ l ++ [(k, [])]) docs = resF (l ++ m ++ [(k, [])]) docs := by
  unfold resF; rw [right_swap hm hl (by omega)]
  split
  · unfold matchF
    exact pickFrom_congr _ _ fun d _ => by rw [fit_node hm hl (by omega), fit_node hl hm (by omega), opB_swap hk]
  · rfl
theorem res_self {l : List QOp} (hl : qRight l = true) (docs : List (List UInt8)) : resF (l ++ l ++ [(3, [])]) docs = [] := by
  unfold resF
  split
  · unfold matchF
    exact pickFrom_none _ _ fun d _ => by rw [fit_node hl hl (by omega)]; cases fitF l d <;> rfl
  · rfl


set_option maxRecDepth 100000 in
set_option maxHeartbeats 2000000 in
theorem swap_great1 (vd lv mv : Value) (docs : List (List UInt8)) (l m : List QOp) (w : World) (ht : Tabs w) (hd : DocsRd w vd docs) (hl : Rd w lv l.length 2 (ocells l)) (hm : Rd w mv m.length 2 (ocells m)) (hkl : ∀ s ∈ l, -9223372036854775808 ≤ s.1 ∧ s.1 ≤ 9223372036854775807) (hkm : ∀ s ∈ m, -9223372036854775808 ≤ s.1 ∧ s.1 ≤ 9223372036854775807) (g1 : greatDocs docs = true) :
    Calls Tryd.prog 7 #[vd, lv, mv] w fun e w' => e = .returned (.bool true) ∧ Below w.heap.size w w' := by
  have HK := Lib.hid (fun W (hW : Below w.heap.size w W) => knows17_any W (ht.below hW))
  have HGD := greatdocs_any vd docs w hd
  have HGL := great_any lv l w hl
  have HGM := great_any mv m w hm
  rw [g1] at HGD
  have H1 := Lib.hid HGD
  have H2 := Lib.hid HGL
  have H3 := Lib.hid HGM
  obtain ⟨ad, cd, rfl, -⟩ := docs_cells hd
  obtain ⟨al, cl, rfl, -⟩ := ops_cells hl
  obtain ⟨am, cm, rfl, -⟩ := ops_cells hm
  clear HGD HGL HGM ht hd hl hm hkl hkm g1
  go_enter Tryd.func7, Tryd.ntmps7
  go_wp2_with (first
    | (go_at_call 22; refine H1.out.mono ?_; rintro e w' ⟨rfl, rfl⟩)
    | (go_at_call 15; (with_reducible refine H2.out.mono ?_); rintro e w' ⟨rfl, rfl⟩)
    | (go_at_call 15; (with_reducible refine H3.out.mono ?_); rintro e w' ⟨rfl, rfl⟩)
    | (go_at_call 16; refine (HK.out _ (Below.refl _ _)).mono ?_; rintro e w99 ⟨rfl, hb99⟩))
  go_ret
  exact ⟨rfl, hb99⟩

set_option maxRecDepth 100000 in
set_option maxHeartbeats 2000000 in
theorem swap_great2 (vd lv mv : Value) (docs : List (List UInt8)) (l m : List QOp) (w : World) (ht : Tabs w) (hd : DocsRd w vd docs) (hl : Rd w lv l.length 2 (ocells l)) (hm : Rd w mv m.length 2 (ocells m)) (hkl : ∀ s ∈ l, -9223372036854775808 ≤ s.1 ∧ s.1 ≤ 9223372036854775807) (hkm : ∀ s ∈ m, -9223372036854775808 ≤ s.1 ∧ s.1 ≤ 9223372036854775807) (g1 : greatDocs docs = false) (g2 : great l = true) :
    Calls Tryd.prog 7 #[vd, lv, mv] w fun e w' => e = .returned (.bool true) ∧ Below w.heap.size w w' := by
  have HK := Lib.hid (fun W (hW : Below w.heap.size w W) => knows17_any W (ht.below hW))
  have HGD := greatdocs_any vd docs w hd
  have HGL := great_any lv l w hl
  have HGM := great_any mv m w hm
  rw [g1] at HGD; rw [g2] at HGL
  have H1 := Lib.hid HGD
  have H2 := Lib.hid HGL
  have H3 := Lib.hid HGM
  obtain ⟨ad, cd, rfl, -⟩ := docs_cells hd
  obtain ⟨al, cl, rfl, -⟩ := ops_cells hl
  obtain ⟨am, cm, rfl, -⟩ := ops_cells hm
  clear HGD HGL HGM ht hd hl hm hkl hkm g1 g2
  go_enter Tryd.func7, Tryd.ntmps7
  go_wp2_with (first
    | (go_at_call 22; refine H1.out.mono ?_; rintro e w' ⟨rfl, rfl⟩)
    | (go_at_call 15; (with_reducible refine H2.out.mono ?_); rintro e w' ⟨rfl, rfl⟩)
    | (go_at_call 15; (with_reducible refine H3.out.mono ?_); rintro e w' ⟨rfl, rfl⟩)
    | (go_at_call 16; refine (HK.out _ (Below.refl _ _)).mono ?_; rintro e w99 ⟨rfl, hb99⟩))
  go_ret
  exact ⟨rfl, hb99⟩

set_option maxRecDepth 100000 in
set_option maxHeartbeats 2000000 in
theorem swap_great3 (vd lv mv : Value) (docs : List (List UInt8)) (l m : List QOp) (w : World) (ht : Tabs w) (hd : DocsRd w vd docs) (hl : Rd w lv l.length 2 (ocells l)) (hm : Rd w mv m.length 2 (ocells m)) (hkl : ∀ s ∈ l, -9223372036854775808 ≤ s.1 ∧ s.1 ≤ 9223372036854775807) (hkm : ∀ s ∈ m, -9223372036854775808 ≤ s.1 ∧ s.1 ≤ 9223372036854775807) (g1 : greatDocs docs = false) (g2 : great l = false) (g3 : great m = true) :
    Calls Tryd.prog 7 #[vd, lv, mv] w fun e w' => e = .returned (.bool true) ∧ Below w.heap.size w w' := by
  have HK := Lib.hid (fun W (hW : Below w.heap.size w W) => knows17_any W (ht.below hW))
  have HGD := greatdocs_any vd docs w hd
  have HGL := great_any lv l w hl
  have HGM := great_any mv m w hm
  rw [g1] at HGD; rw [g2] at HGL; rw [g3] at HGM
  have H1 := Lib.hid HGD
  have H2 := Lib.hid HGL
  have H3 := Lib.hid HGM
  obtain ⟨ad, cd, rfl, -⟩ := docs_cells hd
  obtain ⟨al, cl, rfl, -⟩ := ops_cells hl
  obtain ⟨am, cm, rfl, -⟩ := ops_cells hm
  clear HGD HGL HGM ht hd hl hm hkl hkm g1 g2 g3
  go_enter Tryd.func7, Tryd.ntmps7
  go_wp2_with (first
    | (go_at_call 22; refine H1.out.mono ?_; rintro e w' ⟨rfl, rfl⟩)
    | (go_at_call 15; (with_reducible refine H2.out.mono ?_); rintro e w' ⟨rfl, rfl⟩)
    | (go_at_call 15; (with_reducible refine H3.out.mono ?_); rintro e w' ⟨rfl, rfl⟩)
    | (go_at_call 16; refine (HK.out _ (Below.refl _ _)).mono ?_; rintro e w99 ⟨rfl, hb99⟩))
  go_ret
  exact ⟨rfl, hb99⟩

set_option maxRecDepth 100000 in
set_option maxHeartbeats 4000000 in
theorem swap_not1 (vd lv mv : Value) (docs : List (List UInt8)) (l m : List QOp) (w : World) (ht : Tabs w) (hd : DocsRd w vd docs) (hl : Rd w lv l.length 2 (ocells l)) (hm : Rd w mv m.length 2 (ocells m)) (hkl : ∀ s ∈ l, -9223372036854775808 ≤ s.1 ∧ s.1 ≤ 9223372036854775807) (hkm : ∀ s ∈ m, -9223372036854775808 ≤ s.1 ∧ s.1 ≤ 9223372036854775807) (g1 : greatDocs docs = false) (g2 : great l = false) (g3 : great m = false) (q1 : qRight l = false) :
    Calls Tryd.prog 7 #[vd, lv, mv] w fun e w' => e = .returned (.bool true) ∧ Below w.heap.size w w' := by
  have HK := Lib.hid (fun W (hW : Below w.heap.size w W) => knows17_any W (ht.below hW))
  have HGD := greatdocs_any vd docs w hd
  have HGL := great_any lv l w hl
  have HGM := great_any mv m w hm
  rw [g1] at HGD
  rw [g2] at HGL
  rw [g3] at HGM
  have H1 := Lib.hid HGD
  have H2 := Lib.hid HGL
  have H3 := Lib.hid HGM
  obtain ⟨hdl, hdn⟩ := greatDocs_no g1
  obtain ⟨hll, hlt⟩ := great_no g2
  obtain ⟨hml, hmt⟩ := great_no g3
  have HAl := Lib.hid (as_any lv l w hl (by omega))
  have HAm := Lib.hid (fun W (hW : Below w.heap.size w W) => as_any mv m W (hm.below hW) (by omega))
  have HRl := fun (v : Value) (W : World) (h : Rd W v l.length 2 (ocells l)) => r16_any v l W h (by omega) (fun s hs => by have := hlt s hs; omega) hkl
  have HRm := fun (v : Value) (W : World) (h : Rd W v m.length 2 (ocells m)) => r16_any v m W h (by omega) (fun s hs => by have := hmt s hs; omega) hkm
  rw [q1] at HRl
  obtain ⟨ad, cd, rfl, -⟩ := docs_cells hd
  obtain ⟨al, cl, rfl, -⟩ := ops_cells hl
  obtain ⟨am, cm, rfl, -⟩ := ops_cells hm
  clear HGD HGL HGM ht hd hl hm hkl hkm g1 g2 g3 q1
  go_enter Tryd.func7, Tryd.ntmps7
  go_wp2_with (first
    | (go_at_call 22; refine H1.out.mono ?_; rintro e w' ⟨rfl, rfl⟩)
    | (go_at_call 15; (with_reducible refine H2.out.mono ?_); rintro e w' ⟨rfl, rfl⟩)
    | (go_at_call 15; (with_reducible refine H3.out.mono ?_); rintro e w' ⟨rfl, rfl⟩)
    | (go_at_call 18; (with_reducible refine (HAm.out w2 B2).mono ?_); rintro e w3 ⟨v3, rfl, o3, b3⟩; obtain ⟨a3, c3, rfl⟩ := own_shape o3; have B3 := B2.trans (b3.mono B2.size); have HR3 := Lib.hid (HRm _ w3 (Rd.of_own o3)))
    | (go_at_call 18; (with_reducible refine HAl.out.mono ?_); rintro e w1 ⟨v1, rfl, o1, b1⟩; obtain ⟨a1, c1, rfl⟩ := own_shape o1; have HR1 := Lib.hid (HRl _ w1 (Rd.of_own o1)))
    | (go_at_call 25; (with_reducible refine HR3.out.mono ?_); rintro e w4 ⟨rfl, b4⟩; have B4 := B3.trans (b4.mono B3.size))
    | (go_at_call 25; (with_reducible refine HR1.out.mono ?_); rintro e w2 ⟨rfl, b2⟩; have B2 := b1.trans (b2.mono b1.size))
    | (go_at_call 16; refine (HK.out _ B2).mono ?_; rintro e w99 ⟨rfl, hb99⟩))
  go_ret
  exact ⟨rfl, B2.trans (hb99.mono B2.size)⟩

set_option maxRecDepth 100000 in
set_option maxHeartbeats 4000000 in
theorem swap_not2 (vd lv mv : Value) (docs : List (List UInt8)) (l m : List QOp) (w : World) (ht : Tabs w) (hd : DocsRd w vd docs) (hl : Rd w lv l.length 2 (ocells l)) (hm : Rd w mv m.length 2 (ocells m)) (hkl : ∀ s ∈ l, -9223372036854775808 ≤ s.1 ∧ s.1 ≤ 9223372036854775807) (hkm : ∀ s ∈ m, -9223372036854775808 ≤ s.1 ∧ s.1 ≤ 9223372036854775807) (g1 : greatDocs docs = false) (g2 : great l = false) (g3 : great m = false) (q1 : qRight l = true) (q2 : qRight m = false) :
    Calls Tryd.prog 7 #[vd, lv, mv] w fun e w' => e = .returned (.bool true) ∧ Below w.heap.size w w' := by
  have HK := Lib.hid (fun W (hW : Below w.heap.size w W) => knows17_any W (ht.below hW))
  have HGD := greatdocs_any vd docs w hd
  have HGL := great_any lv l w hl
  have HGM := great_any mv m w hm
  rw [g1] at HGD
  rw [g2] at HGL
  rw [g3] at HGM
  have H1 := Lib.hid HGD
  have H2 := Lib.hid HGL
  have H3 := Lib.hid HGM
  obtain ⟨hdl, hdn⟩ := greatDocs_no g1
  obtain ⟨hll, hlt⟩ := great_no g2
  obtain ⟨hml, hmt⟩ := great_no g3
  have HAl := Lib.hid (as_any lv l w hl (by omega))
  have HAm := Lib.hid (fun W (hW : Below w.heap.size w W) => as_any mv m W (hm.below hW) (by omega))
  have HRl := fun (v : Value) (W : World) (h : Rd W v l.length 2 (ocells l)) => r16_any v l W h (by omega) (fun s hs => by have := hlt s hs; omega) hkl
  have HRm := fun (v : Value) (W : World) (h : Rd W v m.length 2 (ocells m)) => r16_any v m W h (by omega) (fun s hs => by have := hmt s hs; omega) hkm
  rw [q1] at HRl
  rw [q2] at HRm
  obtain ⟨ad, cd, rfl, -⟩ := docs_cells hd
  obtain ⟨al, cl, rfl, -⟩ := ops_cells hl
  obtain ⟨am, cm, rfl, -⟩ := ops_cells hm
  clear HGD HGL HGM ht hd hl hm hkl hkm g1 g2 g3 q1 q2
  go_enter Tryd.func7, Tryd.ntmps7
  go_wp2_with (first
    | (go_at_call 22; refine H1.out.mono ?_; rintro e w' ⟨rfl, rfl⟩)
    | (go_at_call 15; (with_reducible refine H2.out.mono ?_); rintro e w' ⟨rfl, rfl⟩)
    | (go_at_call 15; (with_reducible refine H3.out.mono ?_); rintro e w' ⟨rfl, rfl⟩)
    | (go_at_call 18; (with_reducible refine (HAm.out w2 B2).mono ?_); rintro e w3 ⟨v3, rfl, o3, b3⟩; obtain ⟨a3, c3, rfl⟩ := own_shape o3; have B3 := B2.trans (b3.mono B2.size); have HR3 := Lib.hid (HRm _ w3 (Rd.of_own o3)))
    | (go_at_call 18; (with_reducible refine HAl.out.mono ?_); rintro e w1 ⟨v1, rfl, o1, b1⟩; obtain ⟨a1, c1, rfl⟩ := own_shape o1; have HR1 := Lib.hid (HRl _ w1 (Rd.of_own o1)))
    | (go_at_call 25; (with_reducible refine HR3.out.mono ?_); rintro e w4 ⟨rfl, b4⟩; have B4 := B3.trans (b4.mono B3.size))
    | (go_at_call 25; (with_reducible refine HR1.out.mono ?_); rintro e w2 ⟨rfl, b2⟩; have B2 := b1.trans (b2.mono b1.size))
    | (go_at_call 16; refine (HK.out _ B4).mono ?_; rintro e w99 ⟨rfl, hb99⟩))
  go_ret
  exact ⟨rfl, B4.trans (hb99.mono B4.size)⟩

set_option maxRecDepth 100000 in
set_option maxHeartbeats 8000000 in
theorem swap_good (vd lv mv : Value) (docs : List (List UInt8)) (l m : List QOp) (w : World) (ht : Tabs w) (hd : DocsRd w vd docs) (hl : Rd w lv l.length 2 (ocells l)) (hm : Rd w mv m.length 2 (ocells m)) (hkl : ∀ s ∈ l, -9223372036854775808 ≤ s.1 ∧ s.1 ≤ 9223372036854775807) (hkm : ∀ s ∈ m, -9223372036854775808 ≤ s.1 ∧ s.1 ≤ 9223372036854775807) (g1 : greatDocs docs = false) (g2 : great l = false) (g3 : great m = false) (q1 : qRight l = true) (q2 : qRight m = true) :
    Calls Tryd.prog 7 #[vd, lv, mv] w fun e w' => e = .returned (.bool true) ∧ Below w.heap.size w w' := by
  obtain ⟨i0, hi, hz0, hz1, hz2⟩ := info_parts infoOp
  have HK := Lib.hid (fun W (hW : Below w.heap.size w W) => knows17_any W (ht.below hW))
  have HGD := greatdocs_any vd docs w hd
  have HGL := great_any lv l w hl
  have HGM := great_any mv m w hm
  rw [g1] at HGD
  rw [g2] at HGL
  rw [g3] at HGM
  have H1 := Lib.hid HGD
  have H2 := Lib.hid HGL
  have H3 := Lib.hid HGM
  obtain ⟨hdl, hdn⟩ := greatDocs_no g1
  obtain ⟨hll, hlt⟩ := great_no g2
  obtain ⟨hml, hmt⟩ := great_no g3
  have HAl := Lib.hid (as_any lv l w hl (by omega))
  have HAm := Lib.hid (fun W (hW : Below w.heap.size w W) => as_any mv m W (hm.below hW) (by omega))
  have HRl := fun (v : Value) (W : World) (h : Rd W v l.length 2 (ocells l)) => r16_any v l W h (by omega) (fun s hs => by have := hlt s hs; omega) hkl
  have HRm := fun (v : Value) (W : World) (h : Rd W v m.length 2 (ocells m)) => r16_any v m W h (by omega) (fun s hs => by have := hmt s hs; omega) hkm
  rw [q1] at HRl
  rw [q2] at HRm
  have HMA : ∀ (x : List QOp) (xv : Value) (W : World), Below w.heap.size w W → Rd W xv x.length 2 (ocells x) → x.length ≤ 1000 → (∀ s ∈ x, s.2.length ≤ 200) → (∀ s ∈ x, -9223372036854775808 ≤ s.1 ∧ s.1 ≤ 9223372036854775807) → Calls Tryd.prog 23 #[vd, xv] W (GivesR W (erOf x) (resF x docs)) :=
    fun x xv W hW hx h1 h2 h3 => match_er vd xv docs x W (ht.below hW) (hd.below hW) (by omega) (fun d hd => by have := hdn d hd; omega) hx (by omega) (fun s hs => by have := h2 s hs; omega) h3
  have HMk : ∀ (x y : List QOp), x.length ≤ 60 → y.length ≤ 60 → (∀ s ∈ x, s.2.length ≤ 200) → (∀ s ∈ y, s.2.length ≤ 200) → (∀ s ∈ x, -9223372036854775808 ≤ s.1 ∧ s.1 ≤ 9223372036854775807) → (∀ s ∈ y, -9223372036854775808 ≤ s.1 ∧ s.1 ≤ 9223372036854775807) → ∀ (k : Int), (k = 1 ∨ k = 2 ∨ k = 3) → ∀ (xv : Value) (W : World), Below w.heap.size w W → Rd W xv (x ++ y ++ [(k, [])]).length 2 (ocells (x ++ y ++ [(k, [])])) → Calls Tryd.prog 23 #[vd, xv] W (GivesR W (erOf (x ++ y ++ [(k, [])])) (resF (x ++ y ++ [(k, [])]) docs)) :=
    fun x y hx1 hy1 hx2 hy2 hx3 hy3 k hk xv W hW hx => HMA _ xv W hW hx (by simp; omega)
      (fun s hs => by simp only [List.mem_append, List.mem_singleton] at hs; rcases hs with (hs | hs) | rfl; exact hx2 s hs; exact hy2 s hs; simp)
      (fun s hs => by simp only [List.mem_append, List.mem_singleton] at hs; rcases hs with (hs | hs) | rfl; exact hx3 s hs; exact hy3 s hs; simp only; omega)
  have hc1 := HMk l m hll hml hlt hmt hkl hkm 1 (by omega)
  have hc2 := HMk l m hll hml hlt hmt hkl hkm 2 (by omega)
  have hd1 := HMk m l hml hll hmt hlt hkm hkl 1 (by omega)
  have hd2 := HMk m l hml hll hmt hlt hkm hkl 2 (by omega)
  have hc3 := HMk l l hll hll hlt hlt hkl hkl 3 (by omega)
  rw [er_swap q1 q2 (k := 1) (by omega), res_swap q1 q2 (k := 1) (by omega)] at hd1
  rw [er_swap q1 q2 (k := 2) (by omega), res_swap q1 q2 (k := 2) (by omega)] at hd2
  rw [res_self q1] at hc3
  have HC1 := Lib.hid hc1
  have HC2 := Lib.hid hc2
  have HC3 := Lib.hid hc3
  have HD1 := Lib.hid hd1
  have HD2 := Lib.hid hd2
  have he3 : erOf (l ++ l ++ [(3, [])]) = 0 ∨ erOf (l ++ l ++ [(3, [])]) = 1 := by unfold erOf; split <;> simp
  have HL := Lib.hid hl
  have HM := Lib.hid hm
  obtain ⟨ad, cd, rfl, -⟩ := docs_cells hd
  obtain ⟨al, cl, rfl, -⟩ := ops_cells hl
  obtain ⟨am, cm, rfl, -⟩ := ops_cells hm
  generalize erOf (l ++ m ++ [(1, [])]) = e1 at *
  generalize erOf (l ++ m ++ [(2, [])]) = e2 at *
  generalize erOf (l ++ l ++ [(3, [])]) = e3 at *
  generalize resF (l ++ m ++ [(1, [])]) docs = r1 at *
  generalize resF (l ++ m ++ [(2, [])]) docs = r2 at *
  clear HGD HGL HGM ht hd hl hm hkl hkm g1 g2 g3 HMA HMk hlt hmt hdn q1 q2 hc1 hc2 hc3 hd1 hd2
  go_enter Tryd.func7, Tryd.ntmps7
  go_wp2_with (first
    | (go_at_call 22; refine H1.out.mono ?_; rintro e w' ⟨rfl, rfl⟩)
    | (go_at_call 15; (with_reducible refine H2.out.mono ?_); rintro e w' ⟨rfl, rfl⟩)
    | (go_at_call 15; (with_reducible refine H3.out.mono ?_); rintro e w' ⟨rfl, rfl⟩)
    | (go_at_call 18; (with_reducible refine (HAm.out w2 B2).mono ?_); rintro e w3 ⟨v3, rfl, o3, b3⟩; obtain ⟨a3, c3, rfl⟩ := own_shape o3; have B3 := B2.trans (b3.mono B2.size); have HR3 := Lib.hid (HRm _ w3 (Rd.of_own o3)))
    | (go_at_call 18; (with_reducible refine HAl.out.mono ?_); rintro e w1 ⟨v1, rfl, o1, b1⟩; obtain ⟨a1, c1, rfl⟩ := own_shape o1; have HR1 := Lib.hid (HRl _ w1 (Rd.of_own o1)))
    | (go_at_call 25; (with_reducible refine HR3.out.mono ?_); rintro e w4 ⟨rfl, b4⟩; have B4 := B3.trans (b4.mono B3.size))
    | (go_at_call 25; (with_reducible refine HR1.out.mono ?_); rintro e w2 ⟨rfl, b2⟩; have B2 := b1.trans (b2.mono b1.size))
    | (at_builtin; refine wpList_first (ws := w4) rfl (.tmp 39) (.tmp 40) _ rfl 55 i0 _ 2 24 Tryd.underlying38 hi hz0 hz1 hz2 rfl _ rfl (by rfl) (.slice al l.length cl) (l.length) (ocells l) (by rfl) (HL.out.below B4) (ocells_one l) (by omega) ?_; intro v5 w5 m5 b5; obtain ⟨a5, c5, rfl⟩ := m5.shape)
    | (at_builtin; refine wpList_more (ws := w4) rfl (.tmp 41) (.tmp 42) _ rfl 55 i0 _ 2 24 Tryd.underlying38 hi hz0 hz1 hz2 rfl (.slice a5 (l.length) c5) (l.length) _ (by rfl) m5 b5 (.slice am m.length cm) m.length (ocells m) (by rfl) (HM.out.below (B4.trans (b5.mono B4.size))) (ocells_one m) (by unfold maxLen; omega) (by omega) ?_; intro v6 w6 m6 b6; obtain ⟨a6, c6, rfl⟩ := m6.shape)
    | (at_builtin; refine wpList_first (ws := w6) rfl (.tmp 44) (.tmp 45) _ rfl 55 i0 _ 2 24 Tryd.underlying38 hi hz0 hz1 hz2 rfl _ rfl (by rfl) (.slice am m.length cm) (m.length) (ocells m) (by rfl) (HM.out.below (B4.trans (b6.mono B4.size))) (ocells_one m) (by omega) ?_; intro v7 w7 m7 b7; obtain ⟨a7, c7, rfl⟩ := m7.shape)
    | (at_builtin; refine wpList_more (ws := w6) rfl (.tmp 46) (.tmp 47) _ rfl 55 i0 _ 2 24 Tryd.underlying38 hi hz0 hz1 hz2 rfl (.slice a7 (m.length) c7) (m.length) _ (by rfl) m7 b7 (.slice al l.length cl) l.length (ocells l) (by rfl) (HL.out.below ((B4.trans (b6.mono B4.size)).trans (b7.mono (B4.trans (b6.mono B4.size)).size))) (ocells_one l) (by unfold maxLen; omega) (by omega) ?_; intro v8 w8 m8 b8; obtain ⟨a8, c8, rfl⟩ := m8.shape))
  have BE : Hid (Below w.heap.size w w8) := (B4.trans (b6.mono B4.size)).trans (b8.mono (B4.trans (b6.mono B4.size)).size)
  have D5 := Lib.hid (m6.rd.below b8)
  have D6 := Lib.hid m8.rd
  clear m5 m6 m7 m8 b5 b6 b7 b8 B2 B3 B4 b1 b2 b3 b4 o1 o3 HR1 HR3
  go_loopw [9] (fun i wr => ∃ k : Nat, 1 ≤ k ∧ k ≤ 3 ∧ i = .int .i64 k ∧ Below w8.heap.size w8 wr) (fun i _ => 3 - (intOf i).toNat)
  case atStart => exact ⟨1, by omega, by omega, by go_num, Below.refl _ _⟩
  case round =>
    obtain ⟨k, hk1, hk3, rfl, bel⟩ := hrel
    rename World => w20
    have hk : k = 1 ∨ k = 2 ∨ k = 3 := by omega
    rcases hk with rfl | rfl | rfl
    · rw [show ((1 : Nat) : Int) = 1 from rfl]
      have HR5 := Lib.hid (D5.out.below bel)
      have HR6 := Lib.hid (D6.out.below bel)
      have B20 := BE.out.trans (bel.mono BE.out.size)
      have hee : (e1 != e1) = false := by simp
      have HSM : Hid (∀ (va vb : Value) (W : World), Rd W va r1.length 1 (icells r1) → Rd W vb r1.length 1 (icells r1) → Calls Tryd.prog 20 #[va, vb] W fun e w' => e = .returned (.bool true) ∧ Below W.heap.size W w') := fun va vb W h1 h2 => by
        have := same09_any va vb r1.length r1.length r1 r1 W rfl rfl h1 h2
        rw [show (r1 == r1) = true from beq_self_eq_true _] at this
        exact this
      go_wp2_with (first
          | (at_builtin; refine wpList_first (ws := w20) rfl (.tmp 55) (.tmp 56) _ rfl 55 i0 _ 2 24 Tryd.underlying38 hi hz0 hz1 hz2 rfl _ rfl (by rfl) (.slice a6 (l.length + m.length) c6) (l.length + m.length) (ocells l ++ ocells m) (by rfl) HR5.out (ops2_ones l m) (by omega) ?_; intro v21 w21 m21 b21; obtain ⟨a21, c21, rfl⟩ := m21.shape)
          | (at_builtin; refine wpList_more (ws := w20) rfl (.tmp 57) (.tmp 60) _ rfl 55 i0 _ 2 24 Tryd.underlying38 hi hz0 hz1 hz2 rfl (.slice a21 (l.length + m.length) c21) (l.length + m.length) _ (by rfl) (m21.below ((Below.refl _ _).alloc (Nat.le_refl _) _)) (b21.alloc b21.size _) _ 1 (ocells [(1, [])]) (by rfl) (op_new w21 1) (ocells_one _) (by unfold maxLen; omega) (by omega) ?_; intro v22 w22 m22 b22; obtain ⟨a22, c22, rfl⟩ := m22.shape)
          | (go_at_call 23; (with_reducible refine (HC1.out (.slice a22 (l.length + m.length + 1) c22) w22 (B20.trans (b22.mono B20.size)) (mrow_ops3s m22.rd)).mono ?_); rintro e w23 ⟨v23, rfl, o23, b23⟩; obtain ⟨a23, c23, rfl⟩ := own_shape o23; have q23 := b22.trans (b23.mono b22.size); have B23 := B20.trans (q23.mono B20.size))
          | (at_builtin; refine wpList_first (ws := w23) rfl (.tmp 67) (.tmp 68) _ rfl 55 i0 _ 2 24 Tryd.underlying38 hi hz0 hz1 hz2 rfl _ rfl (by rfl) (.slice a8 (m.length + l.length) c8) (m.length + l.length) (ocells m ++ ocells l) (by rfl) (HR6.out.below q23) (ops2_ones m l) (by omega) ?_; intro v24 w24 m24 b24; obtain ⟨a24, c24, rfl⟩ := m24.shape)
          | (at_builtin; refine wpList_more (ws := w23) rfl (.tmp 69) (.tmp 72) _ rfl 55 i0 _ 2 24 Tryd.underlying38 hi hz0 hz1 hz2 rfl (.slice a24 (m.length + l.length) c24) (m.length + l.length) _ (by rfl) (m24.below ((Below.refl _ _).alloc (Nat.le_refl _) _)) (b24.alloc b24.size _) _ 1 (ocells [(1, [])]) (by rfl) (op_new w24 1) (ocells_one _) (by unfold maxLen; omega) (by omega) ?_; intro v25 w25 m25 b25; obtain ⟨a25, c25, rfl⟩ := m25.shape)
          | (go_at_call 23; (with_reducible refine (HD1.out (.slice a25 (m.length + l.length + 1) c25) w25 (B23.trans (b25.mono B23.size)) (mrow_ops3s m25.rd)).mono ?_); rintro e w26 ⟨v26, rfl, o26, b26⟩; obtain ⟨a26, c26, rfl⟩ := own_shape o26; have q26 := b25.trans (b26.mono b25.size); have B26 := B23.trans (q26.mono B23.size))
          | (go_at_call 20; refine (HSM.out _ _ w26 ((Rd.of_own o23).below q26) (Rd.of_own o26)).mono ?_; rintro e w27 ⟨rfl, b27⟩))
      go_roundw
      case rel => exact ⟨1 + 1, by omega, by omega, by go_num, bel.trans ((q23.trans ((q26.trans (b27.mono q26.size)).mono q23.size)).mono bel.size)⟩
      case measure => simp [intOf]
    · rw [show ((2 : Nat) : Int) = 2 from rfl]
      have HR5 := Lib.hid (D5.out.below bel)
      have HR6 := Lib.hid (D6.out.below bel)
      have B20 := BE.out.trans (bel.mono BE.out.size)
      have hee : (e2 != e2) = false := by simp
      have HSM : Hid (∀ (va vb : Value) (W : World), Rd W va r2.length 1 (icells r2) → Rd W vb r2.length 1 (icells r2) → Calls Tryd.prog 20 #[va, vb] W fun e w' => e = .returned (.bool true) ∧ Below W.heap.size W w') := fun va vb W h1 h2 => by
        have := same09_any va vb r2.length r2.length r2 r2 W rfl rfl h1 h2
        rw [show (r2 == r2) = true from beq_self_eq_true _] at this
        exact this
      go_wp2_with (first
          | (at_builtin; refine wpList_first (ws := w20) rfl (.tmp 55) (.tmp 56) _ rfl 55 i0 _ 2 24 Tryd.underlying38 hi hz0 hz1 hz2 rfl _ rfl (by rfl) (.slice a6 (l.length + m.length) c6) (l.length + m.length) (ocells l ++ ocells m) (by rfl) HR5.out (ops2_ones l m) (by omega) ?_; intro v21 w21 m21 b21; obtain ⟨a21, c21, rfl⟩ := m21.shape)
          | (at_builtin; refine wpList_more (ws := w20) rfl (.tmp 57) (.tmp 60) _ rfl 55 i0 _ 2 24 Tryd.underlying38 hi hz0 hz1 hz2 rfl (.slice a21 (l.length + m.length) c21) (l.length + m.length) _ (by rfl) (m21.below ((Below.refl _ _).alloc (Nat.le_refl _) _)) (b21.alloc b21.size _) _ 1 (ocells [(2, [])]) (by rfl) (op_new w21 2) (ocells_one _) (by unfold maxLen; omega) (by omega) ?_; intro v22 w22 m22 b22; obtain ⟨a22, c22, rfl⟩ := m22.shape)
          | (go_at_call 23; (with_reducible refine (HC2.out (.slice a22 (l.length + m.length + 1) c22) w22 (B20.trans (b22.mono B20.size)) (mrow_ops3s m22.rd)).mono ?_); rintro e w23 ⟨v23, rfl, o23, b23⟩; obtain ⟨a23, c23, rfl⟩ := own_shape o23; have q23 := b22.trans (b23.mono b22.size); have B23 := B20.trans (q23.mono B20.size))
          | (at_builtin; refine wpList_first (ws := w23) rfl (.tmp 67) (.tmp 68) _ rfl 55 i0 _ 2 24 Tryd.underlying38 hi hz0 hz1 hz2 rfl _ rfl (by rfl) (.slice a8 (m.length + l.length) c8) (m.length + l.length) (ocells m ++ ocells l) (by rfl) (HR6.out.below q23) (ops2_ones m l) (by omega) ?_; intro v24 w24 m24 b24; obtain ⟨a24, c24, rfl⟩ := m24.shape)
          | (at_builtin; refine wpList_more (ws := w23) rfl (.tmp 69) (.tmp 72) _ rfl 55 i0 _ 2 24 Tryd.underlying38 hi hz0 hz1 hz2 rfl (.slice a24 (m.length + l.length) c24) (m.length + l.length) _ (by rfl) (m24.below ((Below.refl _ _).alloc (Nat.le_refl _) _)) (b24.alloc b24.size _) _ 1 (ocells [(2, [])]) (by rfl) (op_new w24 2) (ocells_one _) (by unfold maxLen; omega) (by omega) ?_; intro v25 w25 m25 b25; obtain ⟨a25, c25, rfl⟩ := m25.shape)
          | (go_at_call 23; (with_reducible refine (HD2.out (.slice a25 (m.length + l.length + 1) c25) w25 (B23.trans (b25.mono B23.size)) (mrow_ops3s m25.rd)).mono ?_); rintro e w26 ⟨v26, rfl, o26, b26⟩; obtain ⟨a26, c26, rfl⟩ := own_shape o26; have q26 := b25.trans (b26.mono b25.size); have B26 := B23.trans (q26.mono B23.size))
          | (go_at_call 20; refine (HSM.out _ _ w26 ((Rd.of_own o23).below q26) (Rd.of_own o26)).mono ?_; rintro e w27 ⟨rfl, b27⟩))
      go_roundw
      case rel => exact ⟨2 + 1, by omega, by omega, by go_num, bel.trans ((q23.trans ((q26.trans (b27.mono q26.size)).mono q23.size)).mono bel.size)⟩
      case measure => simp [intOf]
    · rw [show ((3 : Nat) : Int) = 3 from rfl]
      have B20 := BE.out.trans (bel.mono BE.out.size)
      have HL20 := Lib.hid (HL.out.below B20)
      rcases he3 with rfl | rfl
      all_goals
        go_wp2_with (first
          | (at_builtin; refine wpList_first (ws := w20) rfl (.tmp 88) (.tmp 89) _ rfl 55 i0 _ 2 24 Tryd.underlying38 hi hz0 hz1 hz2 rfl _ rfl (by rfl) (.slice al l.length cl) (l.length) (ocells l) (by rfl) HL20.out (ocells_one l) (by omega) ?_; intro v21 w21 m21 b21; obtain ⟨a21, c21, rfl⟩ := m21.shape)
          | (at_builtin; refine wpList_more (ws := w20) rfl (.tmp 90) (.tmp 91) _ rfl 55 i0 _ 2 24 Tryd.underlying38 hi hz0 hz1 hz2 rfl (.slice a21 (l.length) c21) (l.length) _ (by rfl) m21 b21 (.slice al l.length cl) l.length (ocells l) (by rfl) (HL20.out.below b21) (ocells_one l) (by unfold maxLen; omega) (by omega) ?_; intro v22 w22 m22 b22; obtain ⟨a22, c22, rfl⟩ := m22.shape)
          | (at_builtin; refine wpList_more (ws := w20) rfl (.tmp 92) (.tmp 94) _ rfl 55 i0 _ 2 24 Tryd.underlying38 hi hz0 hz1 hz2 rfl (.slice a22 (l.length + l.length) c22) (l.length + l.length) _ (by rfl) (m22.below ((Below.refl _ _).alloc (Nat.le_refl _) _)) (b22.alloc b22.size _) _ 1 (ocells [(3, [])]) (by rfl) (op_new w22 3) (ocells_one _) (by unfold maxLen; omega) (by omega) ?_; intro v23 w23 m23 b23; obtain ⟨a23, c23, rfl⟩ := m23.shape)
          | (go_at_call 23; refine (HC3.out (.slice a23 (l.length + l.length + 1) c23) w23 (B20.trans (b23.mono B20.size)) (mrow_ops3s m23.rd)).mono ?_; rintro e w24 ⟨v24, rfl, o24, b24⟩; obtain ⟨a24, c24, rfl⟩ := own_shape o24; have B24 := B20.trans ((b23.trans (b24.mono b23.size)).mono B20.size))
          | (go_at_call 16; refine (HK.out _ B24).mono ?_; rintro e w99 ⟨rfl, hb99⟩))
        go_ret
        exact ⟨rfl, B24.trans (hb99.mono B24.size)⟩

theorem swap_call (vd : Value) (docs : List (List UInt8)) (lv : Value) (l : List QOp) (mv : Value) (m : List QOp) (w : World) (ht : Tabs w) (hd : DocsRd w vd docs) (hl : Rd w lv l.length 2 (ocells l)) (hkl : ∀ s ∈ l, -9223372036854775808 ≤ s.1 ∧ s.1 ≤ 9223372036854775807) (hm : Rd w mv m.length 2 (ocells m)) (hkm : ∀ s ∈ m, -9223372036854775808 ≤ s.1 ∧ s.1 ≤ 9223372036854775807) :
    Calls Tryd.prog 7 #[vd, lv, mv] w fun e w' => e = .returned (.bool true) ∧ Below w.heap.size w w' := by
  cases g1 : greatDocs docs with
  | true => exact swap_great1 vd lv mv docs l m w ht hd hl hm hkl hkm g1
  | false =>
    cases g2 : great l with
    | true => exact swap_great2 vd lv mv docs l m w ht hd hl hm hkl hkm g1 g2
    | false =>
      cases g3 : great m with
      | true => exact swap_great3 vd lv mv docs l m w ht hd hl hm hkl hkm g1 g2 g3
      | false =>
        cases q1 : qRight l with
        | false => exact swap_not1 vd lv mv docs l m w ht hd hl hm hkl hkm g1 g2 g3 q1
        | true =>
          cases q2 : qRight m with
          | false => exact swap_not2 vd lv mv docs l m w ht hd hl hm hkl hkm g1 g2 g3 q1 q2
          | true => exact swap_good vd lv mv docs l m w ht hd hl hm hkl hkm g1 g2 g3 q1 q2
end Go.Proofs.YteegbjjpjdlcmaaDoor
