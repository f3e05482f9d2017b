/- rubricklaw17.EvalBounds: the walk. -/
import Derived.Test.YteegbjjpjdlcmaaDoorEvalLaw2
import Derived.Test.YteegbjjpjdlcmaaDoorKnows17
set_option linter.unusedVariables false
namespace Go.Proofs.YteegbjjpjdlcmaaDoor
open Go.RowKit Go.Sort

theorem mrow_ops3 {w : World} {v : Value} {a b : List QOp} {k : Int} (h : Rd w v (a.length + b.length + 1) 2 ((ocells a ++ ocells b) ++ ocells [(k, [])])) : Rd w v (a ++ b ++ [(k, [])]).length 2 (ocells (a ++ b ++ [(k, [])])) := by
  rw [ocells_append, ocells_append, List.length_append, List.length_append]
  exact h
theorem ops2_one (a b : List QOp) : ∀ u ∈ ocells a ++ ocells b, u.oneCell' = true := by
  rw [← ocells_append]; exact ocells_one _


set_option maxRecDepth 100000 in
set_option maxHeartbeats 2000000 in
theorem bounds_great1 (vd lv mv : Value) (docs : List (List UInt8)) (l m : List QOp) (w : World) (ht : Tabs w) (hd : DocsRd w vd docs) (hl : Rd w lv l.length 2 (ocells l)) (hm : Rd w mv m.length 2 (ocells m)) (hkl : ∀ s ∈ l, -9223372036854775808 ≤ s.1 ∧ s.1 ≤ 9223372036854775807) (hkm : ∀ s ∈ m, -9223372036854775808 ≤ s.1 ∧ s.1 ≤ 9223372036854775807) (g1 : greatDocs docs = true) :
    Calls Tryd.prog 6 #[vd, lv, mv] w fun e w' => e = .returned (.bool true) ∧ Below w.heap.size w w' := by
  have HK := Lib.hid (fun W (hW : Below w.heap.size w W) => knows17_any W (ht.below hW))
  have HGD := greatdocs_any vd docs w hd
  have HGL := great_any lv l w hl
  have HGM := great_any mv m w hm
  rw [g1] at HGD
  have H1 := Lib.hid HGD
  have H2 := Lib.hid HGL
  have H3 := Lib.hid HGM
  obtain ⟨ad, cd, rfl, -⟩ := docs_cells hd
  obtain ⟨al, cl, rfl, -⟩ := ops_cells hl
  obtain ⟨am, cm, rfl, -⟩ := ops_cells hm
  clear HGD HGL HGM ht hd hl hm hkl hkm g1
  go_enter Tryd.func6, Tryd.ntmps6
  go_wp2_with (first
    | (go_at_call 22; refine H1.out.mono ?_; rintro e w' ⟨rfl, rfl⟩)
    | (go_at_call 15; (with_reducible refine H2.out.mono ?_); rintro e w' ⟨rfl, rfl⟩)
    | (go_at_call 15; (with_reducible refine H3.out.mono ?_); rintro e w' ⟨rfl, rfl⟩)
    | (go_at_call 16; refine (HK.out _ (Below.refl _ _)).mono ?_; rintro e w99 ⟨rfl, hb99⟩))
  go_ret
  exact ⟨rfl, hb99⟩

set_option maxRecDepth 100000 in
set_option maxHeartbeats 2000000 in
theorem bounds_great2 (vd lv mv : Value) (docs : List (List UInt8)) (l m : List QOp) (w : World) (ht : Tabs w) (hd : DocsRd w vd docs) (hl : Rd w lv l.length 2 (ocells l)) (hm : Rd w mv m.length 2 (ocells m)) (hkl : ∀ s ∈ l, -9223372036854775808 ≤ s.1 ∧ s.1 ≤ 9223372036854775807) (hkm : ∀ s ∈ m, -9223372036854775808 ≤ s.1 ∧ s.1 ≤ 9223372036854775807) (g1 : greatDocs docs = false) (g2 : great l = true) :
    Calls Tryd.prog 6 #[vd, lv, mv] w fun e w' => e = .returned (.bool true) ∧ Below w.heap.size w w' := by
  have HK := Lib.hid (fun W (hW : Below w.heap.size w W) => knows17_any W (ht.below hW))
  have HGD := greatdocs_any vd docs w hd
  have HGL := great_any lv l w hl
  have HGM := great_any mv m w hm
  rw [g1] at HGD; rw [g2] at HGL
  have H1 := Lib.hid HGD
  have H2 := Lib.hid HGL
  have H3 := Lib.hid HGM
  obtain ⟨ad, cd, rfl, -⟩ := docs_cells hd
  obtain ⟨al, cl, rfl, -⟩ := ops_cells hl
  obtain ⟨am, cm, rfl, -⟩ := ops_cells hm
  clear HGD HGL HGM ht hd hl hm hkl hkm g1 g2
  go_enter Tryd.func6, Tryd.ntmps6
  go_wp2_with (first
    | (go_at_call 22; refine H1.out.mono ?_; rintro e w' ⟨rfl, rfl⟩)
    | (go_at_call 15; (with_reducible refine H2.out.mono ?_); rintro e w' ⟨rfl, rfl⟩)
    | (go_at_call 15; (with_reducible refine H3.out.mono ?_); rintro e w' ⟨rfl, rfl⟩)
    | (go_at_call 16; refine (HK.out _ (Below.refl _ _)).mono ?_; rintro e w99 ⟨rfl, hb99⟩))
  go_ret
  exact ⟨rfl, hb99⟩

set_option maxRecDepth 100000 in
set_option maxHeartbeats 2000000 in
theorem bounds_great3 (vd lv mv : Value) (docs : List (List UInt8)) (l m : List QOp) (w : World) (ht : Tabs w) (hd : DocsRd w vd docs) (hl : Rd w lv l.length 2 (ocells l)) (hm : Rd w mv m.length 2 (ocells m)) (hkl : ∀ s ∈ l, -9223372036854775808 ≤ s.1 ∧ s.1 ≤ 9223372036854775807) (hkm : ∀ s ∈ m, -9223372036854775808 ≤ s.1 ∧ s.1 ≤ 9223372036854775807) (g1 : greatDocs docs = false) (g2 : great l = false) (g3 : great m = true) :
    Calls Tryd.prog 6 #[vd, lv, mv] w fun e w' => e = .returned (.bool true) ∧ Below w.heap.size w w' := by
  have HK := Lib.hid (fun W (hW : Below w.heap.size w W) => knows17_any W (ht.below hW))
  have HGD := greatdocs_any vd docs w hd
  have HGL := great_any lv l w hl
  have HGM := great_any mv m w hm
  rw [g1] at HGD; rw [g2] at HGL; rw [g3] at HGM
  have H1 := Lib.hid HGD
  have H2 := Lib.hid HGL
  have H3 := Lib.hid HGM
  obtain ⟨ad, cd, rfl, -⟩ := docs_cells hd
  obtain ⟨al, cl, rfl, -⟩ := ops_cells hl
  obtain ⟨am, cm, rfl, -⟩ := ops_cells hm
  clear HGD HGL HGM ht hd hl hm hkl hkm g1 g2 g3
  go_enter Tryd.func6, Tryd.ntmps6
  go_wp2_with (first
    | (go_at_call 22; refine H1.out.mono ?_; rintro e w' ⟨rfl, rfl⟩)
    | (go_at_call 15; (with_reducible refine H2.out.mono ?_); rintro e w' ⟨rfl, rfl⟩)
    | (go_at_call 15; (with_reducible refine H3.out.mono ?_); rintro e w' ⟨rfl, rfl⟩)
    | (go_at_call 16; refine (HK.out _ (Below.refl _ _)).mono ?_; rintro e w99 ⟨rfl, hb99⟩))
  go_ret
  exact ⟨rfl, hb99⟩

set_option maxRecDepth 100000 in
set_option maxHeartbeats 8000000 in
theorem bounds_fail1 (vd lv mv : Value) (docs : List (List UInt8)) (l m : List QOp) (w : World) (ht : Tabs w) (hd : DocsRd w vd docs) (hl : Rd w lv l.length 2 (ocells l)) (hm : Rd w mv m.length 2 (ocells m)) (hkl : ∀ s ∈ l, -9223372036854775808 ≤ s.1 ∧ s.1 ≤ 9223372036854775807) (hkm : ∀ s ∈ m, -9223372036854775808 ≤ s.1 ∧ s.1 ≤ 9223372036854775807) (g1 : greatDocs docs = false) (g2 : great l = false) (g3 : great m = false) (q1 : qRight l = false) :
    Calls Tryd.prog 6 #[vd, lv, mv] w fun e w' => e = .returned (.bool true) ∧ Below w.heap.size w w' := by
  obtain ⟨i0, hi, hz0, hz1, hz2⟩ := info_parts infoOp
  have HK := Lib.hid (fun W (hW : Below w.heap.size w W) => knows17_any W (ht.below hW))
  have HGD := greatdocs_any vd docs w hd
  have HGL := great_any lv l w hl
  have HGM := great_any mv m w hm
  rw [g1] at HGD
  rw [g2] at HGL
  rw [g3] at HGM
  have H1 := Lib.hid HGD
  have H2 := Lib.hid HGL
  have H3 := Lib.hid HGM
  obtain ⟨hdl, hdn⟩ := greatDocs_no g1
  obtain ⟨hll, hlt⟩ := great_no g2
  obtain ⟨hml, hmt⟩ := great_no g3
  have HMA : ∀ (x : List QOp) (xv : Value) (W : World), Below w.heap.size w W → Rd W xv x.length 2 (ocells x) → x.length ≤ 1000 → (∀ s ∈ x, s.2.length ≤ 200) → (∀ s ∈ x, -9223372036854775808 ≤ s.1 ∧ s.1 ≤ 9223372036854775807) → Calls Tryd.prog 23 #[vd, xv] W (GivesR W (erOf x) (resF x docs)) :=
    fun x xv W hW hx h1 h2 h3 => match_er vd xv docs x W (ht.below hW) (hd.below hW) (by omega) (fun d hd => by have := hdn d hd; omega) hx (by omega) (fun s hs => by have := h2 s hs; omega) h3
  have HMk : ∀ (k : Int), (k = 1 ∨ k = 2 ∨ k = 3) → ∀ (xv : Value) (W : World), Below w.heap.size w W → Rd W xv (l ++ m ++ [(k, [])]).length 2 (ocells (l ++ m ++ [(k, [])])) → Calls Tryd.prog 23 #[vd, xv] W (GivesR W (erOf (l ++ m ++ [(k, [])])) (resF (l ++ m ++ [(k, [])]) docs)) :=
    fun k hk xv W hW hx => HMA _ xv W hW hx (by simp; omega)
      (fun s hs => by simp only [List.mem_append, List.mem_singleton] at hs; rcases hs with (hs | hs) | rfl; exact hlt s hs; exact hmt s hs; simp)
      (fun s hs => by simp only [List.mem_append, List.mem_singleton] at hs; rcases hs with (hs | hs) | rfl; exact hkl s hs; exact hkm s hs; simp only; omega)
  have HCl := Lib.hid (fun W (hW : Below w.heap.size w W) => HMA l lv W hW (hl.below hW) (by omega) hlt hkl)
  have HCm := Lib.hid (fun W (hW : Below w.heap.size w W) => HMA m mv W hW (hm.below hW) (by omega) hmt hkm)
  have HC1 := Lib.hid (HMk 1 (by omega))
  have HC2 := Lib.hid (HMk 2 (by omega))
  have HC3 := Lib.hid (HMk 3 (by omega))
  rw [erOf_no q1] at HCl
  have HL := Lib.hid hl
  have HM := Lib.hid hm
  obtain ⟨ad, cd, rfl, -⟩ := docs_cells hd
  obtain ⟨al, cl, rfl, -⟩ := ops_cells hl
  obtain ⟨am, cm, rfl, -⟩ := ops_cells hm
  generalize resF l docs = rl at *
  generalize erOf m = em at *
  generalize resF m docs = rm at *
  generalize erOf (l ++ m ++ [(1, [])]) = e1 at *
  generalize resF (l ++ m ++ [(1, [])]) docs = r1 at *
  generalize erOf (l ++ m ++ [(2, [])]) = e2 at *
  generalize resF (l ++ m ++ [(2, [])]) docs = r2 at *
  generalize erOf (l ++ m ++ [(3, [])]) = e3 at *
  generalize resF (l ++ m ++ [(3, [])]) docs = r3 at *
  clear HGD HGL HGM ht hd hl hm hkl hkm g1 g2 g3 HMA HMk hlt hmt hdn q1
  go_enter Tryd.func6, Tryd.ntmps6
  go_wp2_with (first
    | (go_at_call 16; refine (HK.out _ B13).mono ?_; rintro e w99 ⟨rfl, hb99⟩)
    | (go_at_call 22; refine H1.out.mono ?_; rintro e w' ⟨rfl, rfl⟩)
    | (go_at_call 15; (with_reducible refine H2.out.mono ?_); rintro e w' ⟨rfl, rfl⟩)
    | (go_at_call 15; (with_reducible refine H3.out.mono ?_); rintro e w' ⟨rfl, rfl⟩)
    | (at_builtin; refine wpList_first (ws := w) rfl (.tmp 32) (.tmp 33) _ rfl 55 i0 _ 2 24 Tryd.underlying38 hi hz0 hz1 hz2 rfl _ rfl (by rfl) (.slice al l.length cl) l.length (ocells l) (by rfl) HL.out (ocells_one l) (by omega) ?_; intro v1 w1 m1 b1; obtain ⟨a1, c1, rfl⟩ := m1.shape)
    | (at_builtin; refine wpList_more (ws := w) rfl (.tmp 34) (.tmp 35) _ rfl 55 i0 _ 2 24 Tryd.underlying38 hi hz0 hz1 hz2 rfl (.slice a1 l.length c1) l.length _ (by rfl) m1 b1 (.slice am m.length cm) m.length (ocells m) (by rfl) (HM.out.below b1) (ocells_one m) (by unfold maxLen; omega) (by omega) ?_; intro v2 w2 m2 b2; obtain ⟨a2, c2, rfl⟩ := m2.shape; have R2 := m2.rd)
    | (go_at_call 23; (with_reducible refine (HCl.out w2 b2).mono ?_); rintro e w3 ⟨v3, rfl, o3, b3⟩; obtain ⟨a3, c3, rfl⟩ := own_shape o3; have B3 := b2.trans (b3.mono b2.size); have R3 := R2.below b3)
    | (go_at_call 23; (with_reducible refine (HCm.out w3 B3).mono ?_); rintro e w4 ⟨v4, rfl, o4, b4⟩; obtain ⟨a4, c4, rfl⟩ := own_shape o4; have B4 := B3.trans (b4.mono B3.size); have R4 := R3.below b4)
    | (at_builtin; refine wpList_first (ws := w4) rfl (.tmp 51) (.tmp 52) _ rfl 55 i0 _ 2 24 Tryd.underlying38 hi hz0 hz1 hz2 rfl _ rfl (by rfl) (.slice a2 (l.length + m.length) c2) (l.length + m.length) (ocells l ++ ocells m) (by rfl) R4 (ops2_one l m) (by omega) ?_; intro v5 w5 m5 b5; obtain ⟨a5, c5, rfl⟩ := m5.shape)
    | (at_builtin; refine wpList_more (ws := w4) rfl (.tmp 53) (.tmp 55) _ rfl 55 i0 _ 2 24 Tryd.underlying38 hi hz0 hz1 hz2 rfl (.slice a5 (l.length + m.length) c5) (l.length + m.length) _ (by rfl) (m5.below ((Below.refl _ _).alloc (Nat.le_refl _) _)) (b5.alloc b5.size _) _ 1 (ocells [(2, [])]) (by rfl) (op_new w5 2) (ocells_one _) (by unfold maxLen; omega) (by omega) ?_; intro v6 w6 m6 b6; obtain ⟨a6, c6, rfl⟩ := m6.shape; have R6 := mrow_ops3 m6.rd)
    | (go_at_call 23; (with_reducible refine (HC2.out (.slice a6 (l.length + m.length + 1) c6) w6 (B4.trans (b6.mono B4.size)) R6).mono ?_); rintro e w7 ⟨v7, rfl, o7, b7⟩; obtain ⟨a7, c7, rfl⟩ := own_shape o7; have q7 := b6.trans (b7.mono b6.size); have B7 := B4.trans (q7.mono B4.size); have R7 := R4.below q7)
    | (at_builtin; refine wpList_first (ws := w7) rfl (.tmp 62) (.tmp 63) _ rfl 55 i0 _ 2 24 Tryd.underlying38 hi hz0 hz1 hz2 rfl _ rfl (by rfl) (.slice a2 (l.length + m.length) c2) (l.length + m.length) (ocells l ++ ocells m) (by rfl) R7 (ops2_one l m) (by omega) ?_; intro v8 w8 m8 b8; obtain ⟨a8, c8, rfl⟩ := m8.shape)
    | (at_builtin; refine wpList_more (ws := w7) rfl (.tmp 64) (.tmp 66) _ rfl 55 i0 _ 2 24 Tryd.underlying38 hi hz0 hz1 hz2 rfl (.slice a8 (l.length + m.length) c8) (l.length + m.length) _ (by rfl) (m8.below ((Below.refl _ _).alloc (Nat.le_refl _) _)) (b8.alloc b8.size _) _ 1 (ocells [(1, [])]) (by rfl) (op_new w8 1) (ocells_one _) (by unfold maxLen; omega) (by omega) ?_; intro v9 w9 m9 b9; obtain ⟨a9, c9, rfl⟩ := m9.shape; have R9 := mrow_ops3 m9.rd)
    | (go_at_call 23; (with_reducible refine (HC1.out (.slice a9 (l.length + m.length + 1) c9) w9 (B7.trans (b9.mono B7.size)) R9).mono ?_); rintro e w10 ⟨v10, rfl, o10, b10⟩; obtain ⟨a10, c10, rfl⟩ := own_shape o10; have q10 := b9.trans (b10.mono b9.size); have B10 := B7.trans (q10.mono B7.size); have R10 := R7.below q10)
    | (at_builtin; refine wpList_first (ws := w10) rfl (.tmp 73) (.tmp 74) _ rfl 55 i0 _ 2 24 Tryd.underlying38 hi hz0 hz1 hz2 rfl _ rfl (by rfl) (.slice a2 (l.length + m.length) c2) (l.length + m.length) (ocells l ++ ocells m) (by rfl) R10 (ops2_one l m) (by omega) ?_; intro v11 w11 m11 b11; obtain ⟨a11, c11, rfl⟩ := m11.shape)
    | (at_builtin; refine wpList_more (ws := w10) rfl (.tmp 75) (.tmp 77) _ rfl 55 i0 _ 2 24 Tryd.underlying38 hi hz0 hz1 hz2 rfl (.slice a11 (l.length + m.length) c11) (l.length + m.length) _ (by rfl) (m11.below ((Below.refl _ _).alloc (Nat.le_refl _) _)) (b11.alloc b11.size _) _ 1 (ocells [(3, [])]) (by rfl) (op_new w11 3) (ocells_one _) (by unfold maxLen; omega) (by omega) ?_; intro v12 w12 m12 b12; obtain ⟨a12, c12, rfl⟩ := m12.shape; have R12 := mrow_ops3 m12.rd)
    | (go_at_call 23; (with_reducible refine (HC3.out (.slice a12 (l.length + m.length + 1) c12) w12 (B10.trans (b12.mono B10.size)) R12).mono ?_); rintro e w13 ⟨v13, rfl, o13, b13⟩; obtain ⟨a13, c13, rfl⟩ := own_shape o13; have q13 := b12.trans (b13.mono b12.size); have B13 := B10.trans (q13.mono B10.size); have R13 := R10.below q13))
  go_ret
  exact ⟨rfl, B13.trans (hb99.mono B13.size)⟩

set_option maxRecDepth 100000 in
set_option maxHeartbeats 8000000 in
theorem bounds_fail2 (vd lv mv : Value) (docs : List (List UInt8)) (l m : List QOp) (w : World) (ht : Tabs w) (hd : DocsRd w vd docs) (hl : Rd w lv l.length 2 (ocells l)) (hm : Rd w mv m.length 2 (ocells m)) (hkl : ∀ s ∈ l, -9223372036854775808 ≤ s.1 ∧ s.1 ≤ 9223372036854775807) (hkm : ∀ s ∈ m, -9223372036854775808 ≤ s.1 ∧ s.1 ≤ 9223372036854775807) (g1 : greatDocs docs = false) (g2 : great l = false) (g3 : great m = false) (q1 : qRight l = true) (q2 : qRight m = false) :
    Calls Tryd.prog 6 #[vd, lv, mv] w fun e w' => e = .returned (.bool true) ∧ Below w.heap.size w w' := by
  obtain ⟨i0, hi, hz0, hz1, hz2⟩ := info_parts infoOp
  have HK := Lib.hid (fun W (hW : Below w.heap.size w W) => knows17_any W (ht.below hW))
  have HGD := greatdocs_any vd docs w hd
  have HGL := great_any lv l w hl
  have HGM := great_any mv m w hm
  rw [g1] at HGD
  rw [g2] at HGL
  rw [g3] at HGM
  have H1 := Lib.hid HGD
  have H2 := Lib.hid HGL
  have H3 := Lib.hid HGM
  obtain ⟨hdl, hdn⟩ := greatDocs_no g1
  obtain ⟨hll, hlt⟩ := great_no g2
  obtain ⟨hml, hmt⟩ := great_no g3
  have HMA : ∀ (x : List QOp) (xv : Value) (W : World), Below w.heap.size w W → Rd W xv x.length 2 (ocells x) → x.length ≤ 1000 → (∀ s ∈ x, s.2.length ≤ 200) → (∀ s ∈ x, -9223372036854775808 ≤ s.1 ∧ s.1 ≤ 9223372036854775807) → Calls Tryd.prog 23 #[vd, xv] W (GivesR W (erOf x) (resF x docs)) :=
    fun x xv W hW hx h1 h2 h3 => match_er vd xv docs x W (ht.below hW) (hd.below hW) (by omega) (fun d hd => by have := hdn d hd; omega) hx (by omega) (fun s hs => by have := h2 s hs; omega) h3
  have HMk : ∀ (k : Int), (k = 1 ∨ k = 2 ∨ k = 3) → ∀ (xv : Value) (W : World), Below w.heap.size w W → Rd W xv (l ++ m ++ [(k, [])]).length 2 (ocells (l ++ m ++ [(k, [])])) → Calls Tryd.prog 23 #[vd, xv] W (GivesR W (erOf (l ++ m ++ [(k, [])])) (resF (l ++ m ++ [(k, [])]) docs)) :=
    fun k hk xv W hW hx => HMA _ xv W hW hx (by simp; omega)
      (fun s hs => by simp only [List.mem_append, List.mem_singleton] at hs; rcases hs with (hs | hs) | rfl; exact hlt s hs; exact hmt s hs; simp)
      (fun s hs => by simp only [List.mem_append, List.mem_singleton] at hs; rcases hs with (hs | hs) | rfl; exact hkl s hs; exact hkm s hs; simp only; omega)
  have HCl := Lib.hid (fun W (hW : Below w.heap.size w W) => HMA l lv W hW (hl.below hW) (by omega) hlt hkl)
  have HCm := Lib.hid (fun W (hW : Below w.heap.size w W) => HMA m mv W hW (hm.below hW) (by omega) hmt hkm)
  have HC1 := Lib.hid (HMk 1 (by omega))
  have HC2 := Lib.hid (HMk 2 (by omega))
  have HC3 := Lib.hid (HMk 3 (by omega))
  rw [erOf_yes q1] at HCl
  rw [erOf_no q2] at HCm
  have HL := Lib.hid hl
  have HM := Lib.hid hm
  obtain ⟨ad, cd, rfl, -⟩ := docs_cells hd
  obtain ⟨al, cl, rfl, -⟩ := ops_cells hl
  obtain ⟨am, cm, rfl, -⟩ := ops_cells hm
  generalize resF l docs = rl at *
  generalize resF m docs = rm at *
  generalize erOf (l ++ m ++ [(1, [])]) = e1 at *
  generalize resF (l ++ m ++ [(1, [])]) docs = r1 at *
  generalize erOf (l ++ m ++ [(2, [])]) = e2 at *
  generalize resF (l ++ m ++ [(2, [])]) docs = r2 at *
  generalize erOf (l ++ m ++ [(3, [])]) = e3 at *
  generalize resF (l ++ m ++ [(3, [])]) docs = r3 at *
  clear HGD HGL HGM ht hd hl hm hkl hkm g1 g2 g3 HMA HMk hlt hmt hdn q1 q2
  go_enter Tryd.func6, Tryd.ntmps6
  go_wp2_with (first
    | (go_at_call 16; refine (HK.out _ B13).mono ?_; rintro e w99 ⟨rfl, hb99⟩)
    | (go_at_call 22; refine H1.out.mono ?_; rintro e w' ⟨rfl, rfl⟩)
    | (go_at_call 15; (with_reducible refine H2.out.mono ?_); rintro e w' ⟨rfl, rfl⟩)
    | (go_at_call 15; (with_reducible refine H3.out.mono ?_); rintro e w' ⟨rfl, rfl⟩)
    | (at_builtin; refine wpList_first (ws := w) rfl (.tmp 32) (.tmp 33) _ rfl 55 i0 _ 2 24 Tryd.underlying38 hi hz0 hz1 hz2 rfl _ rfl (by rfl) (.slice al l.length cl) l.length (ocells l) (by rfl) HL.out (ocells_one l) (by omega) ?_; intro v1 w1 m1 b1; obtain ⟨a1, c1, rfl⟩ := m1.shape)
    | (at_builtin; refine wpList_more (ws := w) rfl (.tmp 34) (.tmp 35) _ rfl 55 i0 _ 2 24 Tryd.underlying38 hi hz0 hz1 hz2 rfl (.slice a1 l.length c1) l.length _ (by rfl) m1 b1 (.slice am m.length cm) m.length (ocells m) (by rfl) (HM.out.below b1) (ocells_one m) (by unfold maxLen; omega) (by omega) ?_; intro v2 w2 m2 b2; obtain ⟨a2, c2, rfl⟩ := m2.shape; have R2 := m2.rd)
    | (go_at_call 23; (with_reducible refine (HCl.out w2 b2).mono ?_); rintro e w3 ⟨v3, rfl, o3, b3⟩; obtain ⟨a3, c3, rfl⟩ := own_shape o3; have B3 := b2.trans (b3.mono b2.size); have R3 := R2.below b3)
    | (go_at_call 23; (with_reducible refine (HCm.out w3 B3).mono ?_); rintro e w4 ⟨v4, rfl, o4, b4⟩; obtain ⟨a4, c4, rfl⟩ := own_shape o4; have B4 := B3.trans (b4.mono B3.size); have R4 := R3.below b4)
    | (at_builtin; refine wpList_first (ws := w4) rfl (.tmp 51) (.tmp 52) _ rfl 55 i0 _ 2 24 Tryd.underlying38 hi hz0 hz1 hz2 rfl _ rfl (by rfl) (.slice a2 (l.length + m.length) c2) (l.length + m.length) (ocells l ++ ocells m) (by rfl) R4 (ops2_one l m) (by omega) ?_; intro v5 w5 m5 b5; obtain ⟨a5, c5, rfl⟩ := m5.shape)
    | (at_builtin; refine wpList_more (ws := w4) rfl (.tmp 53) (.tmp 55) _ rfl 55 i0 _ 2 24 Tryd.underlying38 hi hz0 hz1 hz2 rfl (.slice a5 (l.length + m.length) c5) (l.length + m.length) _ (by rfl) (m5.below ((Below.refl _ _).alloc (Nat.le_refl _) _)) (b5.alloc b5.size _) _ 1 (ocells [(2, [])]) (by rfl) (op_new w5 2) (ocells_one _) (by unfold maxLen; omega) (by omega) ?_; intro v6 w6 m6 b6; obtain ⟨a6, c6, rfl⟩ := m6.shape; have R6 := mrow_ops3 m6.rd)
    | (go_at_call 23; (with_reducible refine (HC2.out (.slice a6 (l.length + m.length + 1) c6) w6 (B4.trans (b6.mono B4.size)) R6).mono ?_); rintro e w7 ⟨v7, rfl, o7, b7⟩; obtain ⟨a7, c7, rfl⟩ := own_shape o7; have q7 := b6.trans (b7.mono b6.size); have B7 := B4.trans (q7.mono B4.size); have R7 := R4.below q7)
    | (at_builtin; refine wpList_first (ws := w7) rfl (.tmp 62) (.tmp 63) _ rfl 55 i0 _ 2 24 Tryd.underlying38 hi hz0 hz1 hz2 rfl _ rfl (by rfl) (.slice a2 (l.length + m.length) c2) (l.length + m.length) (ocells l ++ ocells m) (by rfl) R7 (ops2_one l m) (by omega) ?_; intro v8 w8 m8 b8; obtain ⟨a8, c8, rfl⟩ := m8.shape)
    | (at_builtin; refine wpList_more (ws := w7) rfl (.tmp 64) (.tmp 66) _ rfl 55 i0 _ 2 24 Tryd.underlying38 hi hz0 hz1 hz2 rfl (.slice a8 (l.length + m.length) c8) (l.length + m.length) _ (by rfl) (m8.below ((Below.refl _ _).alloc (Nat.le_refl _) _)) (b8.alloc b8.size _) _ 1 (ocells [(1, [])]) (by rfl) (op_new w8 1) (ocells_one _) (by unfold maxLen; omega) (by omega) ?_; intro v9 w9 m9 b9; obtain ⟨a9, c9, rfl⟩ := m9.shape; have R9 := mrow_ops3 m9.rd)
    | (go_at_call 23; (with_reducible refine (HC1.out (.slice a9 (l.length + m.length + 1) c9) w9 (B7.trans (b9.mono B7.size)) R9).mono ?_); rintro e w10 ⟨v10, rfl, o10, b10⟩; obtain ⟨a10, c10, rfl⟩ := own_shape o10; have q10 := b9.trans (b10.mono b9.size); have B10 := B7.trans (q10.mono B7.size); have R10 := R7.below q10)
    | (at_builtin; refine wpList_first (ws := w10) rfl (.tmp 73) (.tmp 74) _ rfl 55 i0 _ 2 24 Tryd.underlying38 hi hz0 hz1 hz2 rfl _ rfl (by rfl) (.slice a2 (l.length + m.length) c2) (l.length + m.length) (ocells l ++ ocells m) (by rfl) R10 (ops2_one l m) (by omega) ?_; intro v11 w11 m11 b11; obtain ⟨a11, c11, rfl⟩ := m11.shape)
    | (at_builtin; refine wpList_more (ws := w10) rfl (.tmp 75) (.tmp 77) _ rfl 55 i0 _ 2 24 Tryd.underlying38 hi hz0 hz1 hz2 rfl (.slice a11 (l.length + m.length) c11) (l.length + m.length) _ (by rfl) (m11.below ((Below.refl _ _).alloc (Nat.le_refl _) _)) (b11.alloc b11.size _) _ 1 (ocells [(3, [])]) (by rfl) (op_new w11 3) (ocells_one _) (by unfold maxLen; omega) (by omega) ?_; intro v12 w12 m12 b12; obtain ⟨a12, c12, rfl⟩ := m12.shape; have R12 := mrow_ops3 m12.rd)
    | (go_at_call 23; (with_reducible refine (HC3.out (.slice a12 (l.length + m.length + 1) c12) w12 (B10.trans (b12.mono B10.size)) R12).mono ?_); rintro e w13 ⟨v13, rfl, o13, b13⟩; obtain ⟨a13, c13, rfl⟩ := own_shape o13; have q13 := b12.trans (b13.mono b12.size); have B13 := B10.trans (q13.mono B10.size); have R13 := R10.below q13))
  go_ret
  exact ⟨rfl, B13.trans (hb99.mono B13.size)⟩

set_option maxRecDepth 100000 in
set_option maxHeartbeats 8000000 in
theorem bounds_fail3 (vd lv mv : Value) (docs : List (List UInt8)) (l m : List QOp) (w : World) (ht : Tabs w) (hd : DocsRd w vd docs) (hl : Rd w lv l.length 2 (ocells l)) (hm : Rd w mv m.length 2 (ocells m)) (hkl : ∀ s ∈ l, -9223372036854775808 ≤ s.1 ∧ s.1 ≤ 9223372036854775807) (hkm : ∀ s ∈ m, -9223372036854775808 ≤ s.1 ∧ s.1 ≤ 9223372036854775807) (g1 : greatDocs docs = false) (g2 : great l = false) (g3 : great m = false) (q1 : qRight l = true) (q2 : qRight m = true) (q3 : qRight (l ++ m ++ [(2, [])]) = false) :
    Calls Tryd.prog 6 #[vd, lv, mv] w fun e w' => e = .returned (.bool true) ∧ Below w.heap.size w w' := by
  obtain ⟨i0, hi, hz0, hz1, hz2⟩ := info_parts infoOp
  have HK := Lib.hid (fun W (hW : Below w.heap.size w W) => knows17_any W (ht.below hW))
  have HGD := greatdocs_any vd docs w hd
  have HGL := great_any lv l w hl
  have HGM := great_any mv m w hm
  rw [g1] at HGD
  rw [g2] at HGL
  rw [g3] at HGM
  have H1 := Lib.hid HGD
  have H2 := Lib.hid HGL
  have H3 := Lib.hid HGM
  obtain ⟨hdl, hdn⟩ := greatDocs_no g1
  obtain ⟨hll, hlt⟩ := great_no g2
  obtain ⟨hml, hmt⟩ := great_no g3
  have HMA : ∀ (x : List QOp) (xv : Value) (W : World), Below w.heap.size w W → Rd W xv x.length 2 (ocells x) → x.length ≤ 1000 → (∀ s ∈ x, s.2.length ≤ 200) → (∀ s ∈ x, -9223372036854775808 ≤ s.1 ∧ s.1 ≤ 9223372036854775807) → Calls Tryd.prog 23 #[vd, xv] W (GivesR W (erOf x) (resF x docs)) :=
    fun x xv W hW hx h1 h2 h3 => match_er vd xv docs x W (ht.below hW) (hd.below hW) (by omega) (fun d hd => by have := hdn d hd; omega) hx (by omega) (fun s hs => by have := h2 s hs; omega) h3
  have HMk : ∀ (k : Int), (k = 1 ∨ k = 2 ∨ k = 3) → ∀ (xv : Value) (W : World), Below w.heap.size w W → Rd W xv (l ++ m ++ [(k, [])]).length 2 (ocells (l ++ m ++ [(k, [])])) → Calls Tryd.prog 23 #[vd, xv] W (GivesR W (erOf (l ++ m ++ [(k, [])])) (resF (l ++ m ++ [(k, [])]) docs)) :=
    fun k hk xv W hW hx => HMA _ xv W hW hx (by simp; omega)
      (fun s hs => by simp only [List.mem_append, List.mem_singleton] at hs; rcases hs with (hs | hs) | rfl; exact hlt s hs; exact hmt s hs; simp)
      (fun s hs => by simp only [List.mem_append, List.mem_singleton] at hs; rcases hs with (hs | hs) | rfl; exact hkl s hs; exact hkm s hs; simp only; omega)
  have HCl := Lib.hid (fun W (hW : Below w.heap.size w W) => HMA l lv W hW (hl.below hW) (by omega) hlt hkl)
  have HCm := Lib.hid (fun W (hW : Below w.heap.size w W) => HMA m mv W hW (hm.below hW) (by omega) hmt hkm)
  have HC1 := Lib.hid (HMk 1 (by omega))
  have HC2 := Lib.hid (HMk 2 (by omega))
  have HC3 := Lib.hid (HMk 3 (by omega))
  rw [erOf_yes q1] at HCl
  rw [erOf_yes q2] at HCm
  rw [erOf_no q3] at HC2
  have HL := Lib.hid hl
  have HM := Lib.hid hm
  obtain ⟨ad, cd, rfl, -⟩ := docs_cells hd
  obtain ⟨al, cl, rfl, -⟩ := ops_cells hl
  obtain ⟨am, cm, rfl, -⟩ := ops_cells hm
  generalize resF l docs = rl at *
  generalize resF m docs = rm at *
  generalize erOf (l ++ m ++ [(1, [])]) = e1 at *
  generalize resF (l ++ m ++ [(1, [])]) docs = r1 at *
  generalize resF (l ++ m ++ [(2, [])]) docs = r2 at *
  generalize erOf (l ++ m ++ [(3, [])]) = e3 at *
  generalize resF (l ++ m ++ [(3, [])]) docs = r3 at *
  clear HGD HGL HGM ht hd hl hm hkl hkm g1 g2 g3 HMA HMk hlt hmt hdn q1 q2 q3
  go_enter Tryd.func6, Tryd.ntmps6
  go_wp2_with (first
    | (go_at_call 16; refine (HK.out _ B13).mono ?_; rintro e w99 ⟨rfl, hb99⟩)
    | (go_at_call 22; refine H1.out.mono ?_; rintro e w' ⟨rfl, rfl⟩)
    | (go_at_call 15; (with_reducible refine H2.out.mono ?_); rintro e w' ⟨rfl, rfl⟩)
    | (go_at_call 15; (with_reducible refine H3.out.mono ?_); rintro e w' ⟨rfl, rfl⟩)
    | (at_builtin; refine wpList_first (ws := w) rfl (.tmp 32) (.tmp 33) _ rfl 55 i0 _ 2 24 Tryd.underlying38 hi hz0 hz1 hz2 rfl _ rfl (by rfl) (.slice al l.length cl) l.length (ocells l) (by rfl) HL.out (ocells_one l) (by omega) ?_; intro v1 w1 m1 b1; obtain ⟨a1, c1, rfl⟩ := m1.shape)
    | (at_builtin; refine wpList_more (ws := w) rfl (.tmp 34) (.tmp 35) _ rfl 55 i0 _ 2 24 Tryd.underlying38 hi hz0 hz1 hz2 rfl (.slice a1 l.length c1) l.length _ (by rfl) m1 b1 (.slice am m.length cm) m.length (ocells m) (by rfl) (HM.out.below b1) (ocells_one m) (by unfold maxLen; omega) (by omega) ?_; intro v2 w2 m2 b2; obtain ⟨a2, c2, rfl⟩ := m2.shape; have R2 := m2.rd)
    | (go_at_call 23; (with_reducible refine (HCl.out w2 b2).mono ?_); rintro e w3 ⟨v3, rfl, o3, b3⟩; obtain ⟨a3, c3, rfl⟩ := own_shape o3; have B3 := b2.trans (b3.mono b2.size); have R3 := R2.below b3)
    | (go_at_call 23; (with_reducible refine (HCm.out w3 B3).mono ?_); rintro e w4 ⟨v4, rfl, o4, b4⟩; obtain ⟨a4, c4, rfl⟩ := own_shape o4; have B4 := B3.trans (b4.mono B3.size); have R4 := R3.below b4)
    | (at_builtin; refine wpList_first (ws := w4) rfl (.tmp 51) (.tmp 52) _ rfl 55 i0 _ 2 24 Tryd.underlying38 hi hz0 hz1 hz2 rfl _ rfl (by rfl) (.slice a2 (l.length + m.length) c2) (l.length + m.length) (ocells l ++ ocells m) (by rfl) R4 (ops2_one l m) (by omega) ?_; intro v5 w5 m5 b5; obtain ⟨a5, c5, rfl⟩ := m5.shape)
    | (at_builtin; refine wpList_more (ws := w4) rfl (.tmp 53) (.tmp 55) _ rfl 55 i0 _ 2 24 Tryd.underlying38 hi hz0 hz1 hz2 rfl (.slice a5 (l.length + m.length) c5) (l.length + m.length) _ (by rfl) (m5.below ((Below.refl _ _).alloc (Nat.le_refl _) _)) (b5.alloc b5.size _) _ 1 (ocells [(2, [])]) (by rfl) (op_new w5 2) (ocells_one _) (by unfold maxLen; omega) (by omega) ?_; intro v6 w6 m6 b6; obtain ⟨a6, c6, rfl⟩ := m6.shape; have R6 := mrow_ops3 m6.rd)
    | (go_at_call 23; (with_reducible refine (HC2.out (.slice a6 (l.length + m.length + 1) c6) w6 (B4.trans (b6.mono B4.size)) R6).mono ?_); rintro e w7 ⟨v7, rfl, o7, b7⟩; obtain ⟨a7, c7, rfl⟩ := own_shape o7; have q7 := b6.trans (b7.mono b6.size); have B7 := B4.trans (q7.mono B4.size); have R7 := R4.below q7)
    | (at_builtin; refine wpList_first (ws := w7) rfl (.tmp 62) (.tmp 63) _ rfl 55 i0 _ 2 24 Tryd.underlying38 hi hz0 hz1 hz2 rfl _ rfl (by rfl) (.slice a2 (l.length + m.length) c2) (l.length + m.length) (ocells l ++ ocells m) (by rfl) R7 (ops2_one l m) (by omega) ?_; intro v8 w8 m8 b8; obtain ⟨a8, c8, rfl⟩ := m8.shape)
    | (at_builtin; refine wpList_more (ws := w7) rfl (.tmp 64) (.tmp 66) _ rfl 55 i0 _ 2 24 Tryd.underlying38 hi hz0 hz1 hz2 rfl (.slice a8 (l.length + m.length) c8) (l.length + m.length) _ (by rfl) (m8.below ((Below.refl _ _).alloc (Nat.le_refl _) _)) (b8.alloc b8.size _) _ 1 (ocells [(1, [])]) (by rfl) (op_new w8 1) (ocells_one _) (by unfold maxLen; omega) (by omega) ?_; intro v9 w9 m9 b9; obtain ⟨a9, c9, rfl⟩ := m9.shape; have R9 := mrow_ops3 m9.rd)
    | (go_at_call 23; (with_reducible refine (HC1.out (.slice a9 (l.length + m.length + 1) c9) w9 (B7.trans (b9.mono B7.size)) R9).mono ?_); rintro e w10 ⟨v10, rfl, o10, b10⟩; obtain ⟨a10, c10, rfl⟩ := own_shape o10; have q10 := b9.trans (b10.mono b9.size); have B10 := B7.trans (q10.mono B7.size); have R10 := R7.below q10)
    | (at_builtin; refine wpList_first (ws := w10) rfl (.tmp 73) (.tmp 74) _ rfl 55 i0 _ 2 24 Tryd.underlying38 hi hz0 hz1 hz2 rfl _ rfl (by rfl) (.slice a2 (l.length + m.length) c2) (l.length + m.length) (ocells l ++ ocells m) (by rfl) R10 (ops2_one l m) (by omega) ?_; intro v11 w11 m11 b11; obtain ⟨a11, c11, rfl⟩ := m11.shape)
    | (at_builtin; refine wpList_more (ws := w10) rfl (.tmp 75) (.tmp 77) _ rfl 55 i0 _ 2 24 Tryd.underlying38 hi hz0 hz1 hz2 rfl (.slice a11 (l.length + m.length) c11) (l.length + m.length) _ (by rfl) (m11.below ((Below.refl _ _).alloc (Nat.le_refl _) _)) (b11.alloc b11.size _) _ 1 (ocells [(3, [])]) (by rfl) (op_new w11 3) (ocells_one _) (by unfold maxLen; omega) (by omega) ?_; intro v12 w12 m12 b12; obtain ⟨a12, c12, rfl⟩ := m12.shape; have R12 := mrow_ops3 m12.rd)
    | (go_at_call 23; (with_reducible refine (HC3.out (.slice a12 (l.length + m.length + 1) c12) w12 (B10.trans (b12.mono B10.size)) R12).mono ?_); rintro e w13 ⟨v13, rfl, o13, b13⟩; obtain ⟨a13, c13, rfl⟩ := own_shape o13; have q13 := b12.trans (b13.mono b12.size); have B13 := B10.trans (q13.mono B10.size); have R13 := R10.below q13))
  go_ret
  exact ⟨rfl, B13.trans (hb99.mono B13.size)⟩

set_option maxRecDepth 100000 in
set_option maxHeartbeats 8000000 in
theorem bounds_good (vd lv mv : Value) (docs : List (List UInt8)) (l m : List QOp) (w : World) (ht : Tabs w) (hd : DocsRd w vd docs) (hl : Rd w lv l.length 2 (ocells l)) (hm : Rd w mv m.length 2 (ocells m)) (hkl : ∀ s ∈ l, -9223372036854775808 ≤ s.1 ∧ s.1 ≤ 9223372036854775807) (hkm : ∀ s ∈ m, -9223372036854775808 ≤ s.1 ∧ s.1 ≤ 9223372036854775807) (g1 : greatDocs docs = false) (g2 : great l = false) (g3 : great m = false) (q1 : qRight l = true) (q2 : qRight m = true) (q3 : qRight (l ++ m ++ [(2, [])]) = true) :
    Calls Tryd.prog 6 #[vd, lv, mv] w fun e w' => e = .returned (.bool true) ∧ Below w.heap.size w w' := by
  obtain ⟨i0, hi, hz0, hz1, hz2⟩ := info_parts infoOp
  have HK := Lib.hid (fun W (hW : Below w.heap.size w W) => knows17_any W (ht.below hW))
  have HGD := greatdocs_any vd docs w hd
  have HGL := great_any lv l w hl
  have HGM := great_any mv m w hm
  rw [g1] at HGD
  rw [g2] at HGL
  rw [g3] at HGM
  have H1 := Lib.hid HGD
  have H2 := Lib.hid HGL
  have H3 := Lib.hid HGM
  obtain ⟨hdl, hdn⟩ := greatDocs_no g1
  obtain ⟨hll, hlt⟩ := great_no g2
  obtain ⟨hml, hmt⟩ := great_no g3
  have HMA : ∀ (x : List QOp) (xv : Value) (W : World), Below w.heap.size w W → Rd W xv x.length 2 (ocells x) → x.length ≤ 1000 → (∀ s ∈ x, s.2.length ≤ 200) → (∀ s ∈ x, -9223372036854775808 ≤ s.1 ∧ s.1 ≤ 9223372036854775807) → Calls Tryd.prog 23 #[vd, xv] W (GivesR W (erOf x) (resF x docs)) :=
    fun x xv W hW hx h1 h2 h3 => match_er vd xv docs x W (ht.below hW) (hd.below hW) (by omega) (fun d hd => by have := hdn d hd; omega) hx (by omega) (fun s hs => by have := h2 s hs; omega) h3
  have HMk : ∀ (k : Int), (k = 1 ∨ k = 2 ∨ k = 3) → ∀ (xv : Value) (W : World), Below w.heap.size w W → Rd W xv (l ++ m ++ [(k, [])]).length 2 (ocells (l ++ m ++ [(k, [])])) → Calls Tryd.prog 23 #[vd, xv] W (GivesR W (erOf (l ++ m ++ [(k, [])])) (resF (l ++ m ++ [(k, [])]) docs)) :=
    fun k hk xv W hW hx => HMA _ xv W hW hx (by simp; omega)
      (fun s hs => by simp only [List.mem_append, List.mem_singleton] at hs; rcases hs with (hs | hs) | rfl; exact hlt s hs; exact hmt s hs; simp)
      (fun s hs => by simp only [List.mem_append, List.mem_singleton] at hs; rcases hs with (hs | hs) | rfl; exact hkl s hs; exact hkm s hs; simp only; omega)
  have HCl := Lib.hid (fun W (hW : Below w.heap.size w W) => HMA l lv W hW (hl.below hW) (by omega) hlt hkl)
  have HCm := Lib.hid (fun W (hW : Below w.heap.size w W) => HMA m mv W hW (hm.below hW) (by omega) hmt hkm)
  have HC1 := Lib.hid (HMk 1 (by omega))
  have HC2 := Lib.hid (HMk 2 (by omega))
  have HC3 := Lib.hid (HMk 3 (by omega))
  have q4 : qRight (l ++ m ++ [(1, [])]) = true := by rw [right_node q1 q2 (j := 1) (k := 2) (by omega) (by omega)]; exact q3
  have q5 : qRight (l ++ m ++ [(3, [])]) = true := by rw [right_node q1 q2 (j := 3) (k := 2) (by omega) (by omega)]; exact q3
  rw [erOf_yes q1, resF_yes docs q1] at HCl
  rw [erOf_yes q2, resF_yes docs q2] at HCm
  rw [erOf_yes q3, resF_yes docs q3] at HC2
  rw [erOf_yes q4, resF_yes docs q4] at HC1
  rw [erOf_yes q5, resF_yes docs q5] at HC3
  have HFl : Hid (∀ n (hn : n < docs.length), hasN (matchF l docs) (n : Int) = fitF l docs[n]) := hasN_match l docs
  have HFm : Hid (∀ n (hn : n < docs.length), hasN (matchF m docs) (n : Int) = fitF m docs[n]) := hasN_match m docs
  have HF1 : Hid (∀ n (hn : n < docs.length), hasN (matchF (l ++ m ++ [(1, [])]) docs) (n : Int) = opB 1 (fitF l docs[n]) (fitF m docs[n])) := fun n hn => by rw [hasN_match _ docs n hn, fit_node q1 q2 (by omega)]
  have HF2 : Hid (∀ n (hn : n < docs.length), hasN (matchF (l ++ m ++ [(2, [])]) docs) (n : Int) = opB 2 (fitF l docs[n]) (fitF m docs[n])) := fun n hn => by rw [hasN_match _ docs n hn, fit_node q1 q2 (by omega)]
  have HF3 : Hid (∀ n (hn : n < docs.length), hasN (matchF (l ++ m ++ [(3, [])]) docs) (n : Int) = opB 3 (fitF l docs[n]) (fitF m docs[n])) := fun n hn => by rw [hasN_match _ docs n hn, fit_node q1 q2 (by omega)]
  have HL := Lib.hid hl
  have HM := Lib.hid hm
  obtain ⟨ad, cd, rfl, -⟩ := docs_cells hd
  obtain ⟨al, cl, rfl, -⟩ := ops_cells hl
  obtain ⟨am, cm, rfl, -⟩ := ops_cells hm
  generalize matchF l docs = rl at *
  generalize matchF m docs = rm at *
  generalize matchF (l ++ m ++ [(1, [])]) docs = r1 at *
  generalize matchF (l ++ m ++ [(2, [])]) docs = r2 at *
  generalize matchF (l ++ m ++ [(3, [])]) docs = r3 at *
  clear HGD HGL HGM ht hd hl hm hkl hkm g1 g2 g3 HMA HMk hlt hmt hdn q1 q2 q3 q4 q5
  go_enter Tryd.func6, Tryd.ntmps6
  go_wp2_with (first
    | (go_at_call 22; refine H1.out.mono ?_; rintro e w' ⟨rfl, rfl⟩)
    | (go_at_call 15; (with_reducible refine H2.out.mono ?_); rintro e w' ⟨rfl, rfl⟩)
    | (go_at_call 15; (with_reducible refine H3.out.mono ?_); rintro e w' ⟨rfl, rfl⟩)
    | (at_builtin; refine wpList_first (ws := w) rfl (.tmp 32) (.tmp 33) _ rfl 55 i0 _ 2 24 Tryd.underlying38 hi hz0 hz1 hz2 rfl _ rfl (by rfl) (.slice al l.length cl) l.length (ocells l) (by rfl) HL.out (ocells_one l) (by omega) ?_; intro v1 w1 m1 b1; obtain ⟨a1, c1, rfl⟩ := m1.shape)
    | (at_builtin; refine wpList_more (ws := w) rfl (.tmp 34) (.tmp 35) _ rfl 55 i0 _ 2 24 Tryd.underlying38 hi hz0 hz1 hz2 rfl (.slice a1 l.length c1) l.length _ (by rfl) m1 b1 (.slice am m.length cm) m.length (ocells m) (by rfl) (HM.out.below b1) (ocells_one m) (by unfold maxLen; omega) (by omega) ?_; intro v2 w2 m2 b2; obtain ⟨a2, c2, rfl⟩ := m2.shape; have R2 := m2.rd)
    | (go_at_call 23; (with_reducible refine (HCl.out w2 b2).mono ?_); rintro e w3 ⟨v3, rfl, o3, b3⟩; obtain ⟨a3, c3, rfl⟩ := own_shape o3; have B3 := b2.trans (b3.mono b2.size); have R3 := R2.below b3)
    | (go_at_call 23; (with_reducible refine (HCm.out w3 B3).mono ?_); rintro e w4 ⟨v4, rfl, o4, b4⟩; obtain ⟨a4, c4, rfl⟩ := own_shape o4; have B4 := B3.trans (b4.mono B3.size); have R4 := R3.below b4)
    | (at_builtin; refine wpList_first (ws := w4) rfl (.tmp 51) (.tmp 52) _ rfl 55 i0 _ 2 24 Tryd.underlying38 hi hz0 hz1 hz2 rfl _ rfl (by rfl) (.slice a2 (l.length + m.length) c2) (l.length + m.length) (ocells l ++ ocells m) (by rfl) R4 (ops2_one l m) (by omega) ?_; intro v5 w5 m5 b5; obtain ⟨a5, c5, rfl⟩ := m5.shape)
    | (at_builtin; refine wpList_more (ws := w4) rfl (.tmp 53) (.tmp 55) _ rfl 55 i0 _ 2 24 Tryd.underlying38 hi hz0 hz1 hz2 rfl (.slice a5 (l.length + m.length) c5) (l.length + m.length) _ (by rfl) (m5.below ((Below.refl _ _).alloc (Nat.le_refl _) _)) (b5.alloc b5.size _) _ 1 (ocells [(2, [])]) (by rfl) (op_new w5 2) (ocells_one _) (by unfold maxLen; omega) (by omega) ?_; intro v6 w6 m6 b6; obtain ⟨a6, c6, rfl⟩ := m6.shape; have R6 := mrow_ops3 m6.rd)
    | (go_at_call 23; (with_reducible refine (HC2.out (.slice a6 (l.length + m.length + 1) c6) w6 (B4.trans (b6.mono B4.size)) R6).mono ?_); rintro e w7 ⟨v7, rfl, o7, b7⟩; obtain ⟨a7, c7, rfl⟩ := own_shape o7; have q7 := b6.trans (b7.mono b6.size); have B7 := B4.trans (q7.mono B4.size); have R7 := R4.below q7)
    | (at_builtin; refine wpList_first (ws := w7) rfl (.tmp 62) (.tmp 63) _ rfl 55 i0 _ 2 24 Tryd.underlying38 hi hz0 hz1 hz2 rfl _ rfl (by rfl) (.slice a2 (l.length + m.length) c2) (l.length + m.length) (ocells l ++ ocells m) (by rfl) R7 (ops2_one l m) (by omega) ?_; intro v8 w8 m8 b8; obtain ⟨a8, c8, rfl⟩ := m8.shape)
    | (at_builtin; refine wpList_more (ws := w7) rfl (.tmp 64) (.tmp 66) _ rfl 55 i0 _ 2 24 Tryd.underlying38 hi hz0 hz1 hz2 rfl (.slice a8 (l.length + m.length) c8) (l.length + m.length) _ (by rfl) (m8.below ((Below.refl _ _).alloc (Nat.le_refl _) _)) (b8.alloc b8.size _) _ 1 (ocells [(1, [])]) (by rfl) (op_new w8 1) (ocells_one _) (by unfold maxLen; omega) (by omega) ?_; intro v9 w9 m9 b9; obtain ⟨a9, c9, rfl⟩ := m9.shape; have R9 := mrow_ops3 m9.rd)
    | (go_at_call 23; (with_reducible refine (HC1.out (.slice a9 (l.length + m.length + 1) c9) w9 (B7.trans (b9.mono B7.size)) R9).mono ?_); rintro e w10 ⟨v10, rfl, o10, b10⟩; obtain ⟨a10, c10, rfl⟩ := own_shape o10; have q10 := b9.trans (b10.mono b9.size); have B10 := B7.trans (q10.mono B7.size); have R10 := R7.below q10)
    | (at_builtin; refine wpList_first (ws := w10) rfl (.tmp 73) (.tmp 74) _ rfl 55 i0 _ 2 24 Tryd.underlying38 hi hz0 hz1 hz2 rfl _ rfl (by rfl) (.slice a2 (l.length + m.length) c2) (l.length + m.length) (ocells l ++ ocells m) (by rfl) R10 (ops2_one l m) (by omega) ?_; intro v11 w11 m11 b11; obtain ⟨a11, c11, rfl⟩ := m11.shape)
    | (at_builtin; refine wpList_more (ws := w10) rfl (.tmp 75) (.tmp 77) _ rfl 55 i0 _ 2 24 Tryd.underlying38 hi hz0 hz1 hz2 rfl (.slice a11 (l.length + m.length) c11) (l.length + m.length) _ (by rfl) (m11.below ((Below.refl _ _).alloc (Nat.le_refl _) _)) (b11.alloc b11.size _) _ 1 (ocells [(3, [])]) (by rfl) (op_new w11 3) (ocells_one _) (by unfold maxLen; omega) (by omega) ?_; intro v12 w12 m12 b12; obtain ⟨a12, c12, rfl⟩ := m12.shape; have R12 := mrow_ops3 m12.rd)
    | (go_at_call 23; (with_reducible refine (HC3.out (.slice a12 (l.length + m.length + 1) c12) w12 (B10.trans (b12.mono B10.size)) R12).mono ?_); rintro e w13 ⟨v13, rfl, o13, b13⟩; obtain ⟨a13, c13, rfl⟩ := own_shape o13; have q13 := b12.trans (b13.mono b12.size); have B13 := B10.trans (q13.mono B10.size); have R13 := R10.below q13))
  have D3 := Lib.hid (Rd.of_own (own_below' (own_below' (own_below' (own_below' o3 b4) q7) q10) q13))
  have D4 := Lib.hid (Rd.of_own (own_below' (own_below' (own_below' o4 q7) q10) q13))
  have D7 := Lib.hid (Rd.of_own (own_below' (own_below' o7 q10) q13))
  have D10 := Lib.hid (Rd.of_own (own_below' o10 q13))
  have D13 := Lib.hid (Rd.of_own o13)
  have HB13 := Lib.hid B13
  clear o3 o4 o7 o10 o13 b3 b4 q7 q10 q13 m1 m2 m5 m6 m8 m9 m11 m12 b1 b2 b5 b6 b7 b8 b9 b10 b11 b12 b13 R2 R3 R4 R6 R7 R9 R10 R12 R13 B3 B4 B7 B10 B13
  go_loopw [18] (fun i wr => ∃ k : Nat, k ≤ docs.length ∧ i = .int .i64 k ∧ w13 = wr) (fun i _ => docs.length - (intOf i).toNat)
  case atStart => exact ⟨0, Nat.zero_le _, rfl, by first | rfl | trivial⟩
  case round =>
    obtain ⟨k, hk, rfl, rfl⟩ := hrel
    by_cases hlt : k < docs.length
    · have ki : (k : Int) < (docs.length : Int) := by omega
      have sl := has09_any (.slice a3 rl.length c3) rl.length rl k w13 rfl D3.out
      have sm := has09_any (.slice a4 rm.length c4) rm.length rm k w13 rfl D4.out
      have s2 := has09_any (.slice a7 r2.length c7) r2.length r2 k w13 rfl D7.out
      have s1 := has09_any (.slice a10 r1.length c10) r1.length r1 k w13 rfl D10.out
      have s3 := has09_any (.slice a13 r3.length c13) r3.length r3 k w13 rfl D13.out
      rw [HFl.out k hlt] at sl
      rw [HFm.out k hlt] at sm
      rw [HF1.out k hlt] at s1
      rw [HF2.out k hlt] at s2
      rw [HF3.out k hlt] at s3
      generalize fitF l docs[k] = A at *
      generalize fitF m docs[k] = B at *
      cases A <;> cases B
      all_goals
        simp only [opB] at s1 s2 s3
        have HSl := Lib.hid sl
        have HSm := Lib.hid sm
        have HS1 := Lib.hid s1
        have HS2 := Lib.hid s2
        have HS3 := Lib.hid s3
        clear sl sm s1 s2 s3
        go_wp2_with (first
          | (go_at_call 24; (with_reducible refine (HSl.out).mono ?_); rintro e w' ⟨rfl, rfl⟩)
          | (go_at_call 24; (with_reducible refine (HSm.out).mono ?_); rintro e w' ⟨rfl, rfl⟩)
          | (go_at_call 24; (with_reducible refine (HS2.out).mono ?_); rintro e w' ⟨rfl, rfl⟩)
          | (go_at_call 24; (with_reducible refine (HS1.out).mono ?_); rintro e w' ⟨rfl, rfl⟩)
          | (go_at_call 24; (with_reducible refine (HS3.out).mono ?_); rintro e w' ⟨rfl, rfl⟩))
        go_roundw
        case rel => exact ⟨k + 1, by omega, by go_num, by first | rfl | trivial⟩
        case measure => simp [intOf]; omega
    · have ki : ¬ (k : Int) < (docs.length : Int) := by omega
      go_wp2_with (go_at_call 16; refine (HK.out _ HB13.out).mono ?_; rintro e w99 ⟨rfl, hb99⟩)
      go_ret
      exact ⟨rfl, HB13.out.trans (hb99.mono HB13.out.size)⟩

theorem bounds_walk (vd lv mv : Value) (docs : List (List UInt8)) (l m : List QOp) (w : World) (ht : Tabs w) (hd : DocsRd w vd docs) (hl : Rd w lv l.length 2 (ocells l)) (hm : Rd w mv m.length 2 (ocells m)) (hkl : ∀ s ∈ l, -9223372036854775808 ≤ s.1 ∧ s.1 ≤ 9223372036854775807) (hkm : ∀ s ∈ m, -9223372036854775808 ≤ s.1 ∧ s.1 ≤ 9223372036854775807) :
    Calls Tryd.prog 6 #[vd, lv, mv] w fun e w' => e = .returned (.bool true) ∧ Below w.heap.size w w' := by
  cases g1 : greatDocs docs with
  | true => exact bounds_great1 vd lv mv docs l m w ht hd hl hm hkl hkm g1
  | false =>
    cases g2 : great l with
    | true => exact bounds_great2 vd lv mv docs l m w ht hd hl hm hkl hkm g1 g2
    | false =>
      cases g3 : great m with
      | true => exact bounds_great3 vd lv mv docs l m w ht hd hl hm hkl hkm g1 g2 g3
      | false =>
        cases q1 : qRight l with
        | false => exact bounds_fail1 vd lv mv docs l m w ht hd hl hm hkl hkm g1 g2 g3 q1
        | true =>
          cases q2 : qRight m with
          | false => exact bounds_fail2 vd lv mv docs l m w ht hd hl hm hkl hkm g1 g2 g3 q1 q2
          | true =>
            cases q3 : qRight (l ++ m ++ [(2, [])]) with
            | false => exact bounds_fail3 vd lv mv docs l m w ht hd hl hm hkl hkm g1 g2 g3 q1 q2 q3
            | true => exact bounds_good vd lv mv docs l m w ht hd hl hm hkl hkm g1 g2 g3 q1 q2 q3

theorem bounds_call (vd : Value) (docs : List (List UInt8)) (lv : Value) (l : List QOp) (mv : Value) (m : List QOp) (w : World) (ht : Tabs w) (hd : DocsRd w vd docs) (hl : Rd w lv l.length 2 (ocells l)) (hkl : ∀ s ∈ l, -9223372036854775808 ≤ s.1 ∧ s.1 ≤ 9223372036854775807) (hm : Rd w mv m.length 2 (ocells m)) (hkm : ∀ s ∈ m, -9223372036854775808 ≤ s.1 ∧ s.1 ≤ 9223372036854775807) :
    Calls Tryd.prog 6 #[vd, lv, mv] w fun e w' => e = .returned (.bool true) ∧ Below w.heap.size w w' :=
  bounds_walk vd lv mv docs l m w ht hd hl hm hkl hkm
end Go.Proofs.YteegbjjpjdlcmaaDoor
