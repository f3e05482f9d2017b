/- rubricklaw17.EvalParts: the walk. -/
import Derived.Test.YteegbjjpjdlcmaaDoorEvalLaw2
import Derived.Test.YteegbjjpjdlcmaaDoorKnows17
set_option linter.unusedVariables false
namespace Go.Proofs.YteegbjjpjdlcmaaDoor
open Go.RowKit Go.Sort

theorem infoBytes' : (Tryd.prog.info? 72).map (fun i => (i.zero, i.size, i.bytes)) = some (some (.slice none 0 0), 1, 24) := by kernel_rfl
theorem resF_append (l : List QOp) (a b : List (List UInt8)) : resF l (a ++ b) = resF l a ++ (resF l b).map fun x => (a.length : Int) + x := by
  unfold resF
  split
  · unfold matchF
    rw [pickFrom_append]
    congr 1
    have := pickFrom_shift (fitF l) a.length b 0
    rw [Nat.add_zero] at this
    rw [Nat.zero_add, this]
  · rfl
theorem resF_bd (l : List QOp) (b : List (List UInt8)) : ∀ z ∈ resF l b, 0 ≤ z ∧ z < b.length := by
  intro z hz
  unfold resF at hz
  split at hz
  · obtain ⟨i, hi, h1, -⟩ := (pickFrom_mem _ _ _ _).1 hz
    omega
  · cases hz
/-- two slices of documents, one behind the other. -/
theorem docs_both {w w2 : World} {va vb v : Value} {a b : List (List UInt8)} {xs ys : List Value} {base : Nat} (hb : Below w.heap.size w w2)
    (ha : Rd w va a.length 1 xs ∧ ∀ i (hi : i < a.length), ∃ dv, xs[i]? = some dv ∧ Rd w dv a[i].length 1 (bcells a[i])) (hy : Rd w vb b.length 1 ys ∧ ∀ i (hi : i < b.length), ∃ dv, ys[i]? = some dv ∧ Rd w dv b[i].length 1 (bcells b[i]))
    (h : MRow w2 base 72 1 v (a.length + b.length) (xs ++ ys)) : DocsRd w2 v (a ++ b) := by
  have hxl := ha.1.1
  have hyl := hy.1.1
  rw [Nat.mul_one] at hxl hyl
  refine ⟨xs ++ ys, by rw [List.length_append]; exact h.rd, fun i hi => ?_⟩
  rw [List.length_append] at hi
  by_cases h1 : i < a.length
  · obtain ⟨dv, g1, g2⟩ := ha.2 i h1
    refine ⟨dv, by rw [List.getElem?_append_left (by omega)]; exact g1, ?_⟩
    rw [List.getElem_append_left h1]
    exact g2.below hb
  · obtain ⟨dv, g1, g2⟩ := hy.2 (i - a.length) (by omega)
    refine ⟨dv, by rw [List.getElem?_append_right (by omega), hxl]; exact g1, ?_⟩
    rw [List.getElem_append_right (by omega)]
    exact g2.below hb
theorem docs_one {w : World} {a : List (List UInt8)} {xs : List Value} {v : Value} (h : Rd w v a.length 1 xs) (hy : ∀ i (hi : i < a.length), ∃ dv, xs[i]? = some dv ∧ Rd w dv a[i].length 1 (bcells a[i])) : ∀ u ∈ xs, u.oneCell' = true := by
  intro u hu
  obtain ⟨i, hi, rfl⟩ := List.mem_iff_getElem.1 hu
  have hl := h.1
  obtain ⟨dv, g1, g2⟩ := hy i (by omega)
  rw [List.getElem?_eq_getElem hi] at g1
  cases g1
  obtain ⟨ao, c, he⟩ := bytes_shape g2
  rw [he]; rfl


set_option maxRecDepth 100000 in
set_option maxHeartbeats 2000000 in
theorem parts_great1 (va : Value) (a : List (List UInt8)) (vb : Value) (b : List (List UInt8)) (lv : Value) (l : List QOp) (w : World) (ht : Tabs w) (ha : DocsRd w va a) (hb : DocsRd w vb b) (hl : Rd w lv l.length 2 (ocells l)) (hkl : ∀ s ∈ l, -9223372036854775808 ≤ s.1 ∧ s.1 ≤ 9223372036854775807) (g1 : greatDocs a = true) :
    Calls Tryd.prog 5 #[va, vb, lv] w fun e w' => e = .returned (.bool true) ∧ Below w.heap.size w w' := by
  have HK := Lib.hid (fun W (hW : Below w.heap.size w W) => knows17_any W (ht.below hW))
  have HGA := greatdocs_any va a w ha
  have HGB := greatdocs_any vb b w hb
  have HGL := great_any lv l w hl
  rw [g1] at HGA
  have H1 := Lib.hid HGA
  have H2 := Lib.hid HGB
  have H3 := Lib.hid HGL
  obtain ⟨aa, ca, rfl, -⟩ := docs_cells ha
  obtain ⟨ab, cb, rfl, -⟩ := docs_cells hb
  obtain ⟨al, cl, rfl, -⟩ := ops_cells hl
  clear HGA HGB HGL ht ha hb hl hkl g1
  go_enter Tryd.func5, Tryd.ntmps5
  go_wp2_with (first
    | (go_at_call 22; (with_reducible refine H1.out.mono ?_); rintro e w' ⟨rfl, rfl⟩)
    | (go_at_call 22; (with_reducible refine H2.out.mono ?_); rintro e w' ⟨rfl, rfl⟩)
    | (go_at_call 15; (with_reducible refine H3.out.mono ?_); rintro e w' ⟨rfl, rfl⟩)
    | (go_at_call 16; refine (HK.out _ (Below.refl _ _)).mono ?_; rintro e w99 ⟨rfl, hb99⟩))
  go_ret
  exact ⟨rfl, hb99⟩

set_option maxRecDepth 100000 in
set_option maxHeartbeats 2000000 in
theorem parts_great2 (va : Value) (a : List (List UInt8)) (vb : Value) (b : List (List UInt8)) (lv : Value) (l : List QOp) (w : World) (ht : Tabs w) (ha : DocsRd w va a) (hb : DocsRd w vb b) (hl : Rd w lv l.length 2 (ocells l)) (hkl : ∀ s ∈ l, -9223372036854775808 ≤ s.1 ∧ s.1 ≤ 9223372036854775807) (g1 : greatDocs a = false) (g2 : greatDocs b = true) :
    Calls Tryd.prog 5 #[va, vb, lv] w fun e w' => e = .returned (.bool true) ∧ Below w.heap.size w w' := by
  have HK := Lib.hid (fun W (hW : Below w.heap.size w W) => knows17_any W (ht.below hW))
  have HGA := greatdocs_any va a w ha
  have HGB := greatdocs_any vb b w hb
  have HGL := great_any lv l w hl
  rw [g1] at HGA; rw [g2] at HGB
  have H1 := Lib.hid HGA
  have H2 := Lib.hid HGB
  have H3 := Lib.hid HGL
  obtain ⟨aa, ca, rfl, -⟩ := docs_cells ha
  obtain ⟨ab, cb, rfl, -⟩ := docs_cells hb
  obtain ⟨al, cl, rfl, -⟩ := ops_cells hl
  clear HGA HGB HGL ht ha hb hl hkl g1 g2
  go_enter Tryd.func5, Tryd.ntmps5
  go_wp2_with (first
    | (go_at_call 22; (with_reducible refine H1.out.mono ?_); rintro e w' ⟨rfl, rfl⟩)
    | (go_at_call 22; (with_reducible refine H2.out.mono ?_); rintro e w' ⟨rfl, rfl⟩)
    | (go_at_call 15; (with_reducible refine H3.out.mono ?_); rintro e w' ⟨rfl, rfl⟩)
    | (go_at_call 16; refine (HK.out _ (Below.refl _ _)).mono ?_; rintro e w99 ⟨rfl, hb99⟩))
  go_ret
  exact ⟨rfl, hb99⟩

set_option maxRecDepth 100000 in
set_option maxHeartbeats 2000000 in
theorem parts_great3 (va : Value) (a : List (List UInt8)) (vb : Value) (b : List (List UInt8)) (lv : Value) (l : List QOp) (w : World) (ht : Tabs w) (ha : DocsRd w va a) (hb : DocsRd w vb b) (hl : Rd w lv l.length 2 (ocells l)) (hkl : ∀ s ∈ l, -9223372036854775808 ≤ s.1 ∧ s.1 ≤ 9223372036854775807) (g1 : greatDocs a = false) (g2 : greatDocs b = false) (g3 : great l = true) :
    Calls Tryd.prog 5 #[va, vb, lv] w fun e w' => e = .returned (.bool true) ∧ Below w.heap.size w w' := by
  have HK := Lib.hid (fun W (hW : Below w.heap.size w W) => knows17_any W (ht.below hW))
  have HGA := greatdocs_any va a w ha
  have HGB := greatdocs_any vb b w hb
  have HGL := great_any lv l w hl
  rw [g1] at HGA; rw [g2] at HGB; rw [g3] at HGL
  have H1 := Lib.hid HGA
  have H2 := Lib.hid HGB
  have H3 := Lib.hid HGL
  obtain ⟨aa, ca, rfl, -⟩ := docs_cells ha
  obtain ⟨ab, cb, rfl, -⟩ := docs_cells hb
  obtain ⟨al, cl, rfl, -⟩ := ops_cells hl
  clear HGA HGB HGL ht ha hb hl hkl g1 g2 g3
  go_enter Tryd.func5, Tryd.ntmps5
  go_wp2_with (first
    | (go_at_call 22; (with_reducible refine H1.out.mono ?_); rintro e w' ⟨rfl, rfl⟩)
    | (go_at_call 22; (with_reducible refine H2.out.mono ?_); rintro e w' ⟨rfl, rfl⟩)
    | (go_at_call 15; (with_reducible refine H3.out.mono ?_); rintro e w' ⟨rfl, rfl⟩)
    | (go_at_call 16; refine (HK.out _ (Below.refl _ _)).mono ?_; rintro e w99 ⟨rfl, hb99⟩))
  go_ret
  exact ⟨rfl, hb99⟩

set_option maxRecDepth 100000 in
set_option maxHeartbeats 8000000 in
theorem parts_good (va : Value) (a : List (List UInt8)) (vb : Value) (b : List (List UInt8)) (lv : Value) (l : List QOp) (w : World) (ht : Tabs w) (ha : DocsRd w va a) (hb : DocsRd w vb b) (hl : Rd w lv l.length 2 (ocells l)) (hkl : ∀ s ∈ l, -9223372036854775808 ≤ s.1 ∧ s.1 ≤ 9223372036854775807) (g1 : greatDocs a = false) (g2 : greatDocs b = false) (g3 : great l = false) :
    Calls Tryd.prog 5 #[va, vb, lv] w fun e w' => e = .returned (.bool true) ∧ Below w.heap.size w w' := by
  obtain ⟨i0, hi, hz0, hz1, hz2⟩ := info_parts infoBytes'
  obtain ⟨j0, hj, hy0, hy1, hy2⟩ := info_parts infoInt
  have HK := Lib.hid (fun W (hW : Below w.heap.size w W) => knows17_any W (ht.below hW))
  have HGA := greatdocs_any va a w ha
  have HGB := greatdocs_any vb b w hb
  have HGL := great_any lv l w hl
  rw [g1] at HGA
  rw [g2] at HGB
  rw [g3] at HGL
  have H1 := Lib.hid HGA
  have H2 := Lib.hid HGB
  have H3 := Lib.hid HGL
  obtain ⟨hal, han⟩ := greatDocs_no g1
  obtain ⟨hbl, hbn⟩ := greatDocs_no g2
  obtain ⟨hll, hlt⟩ := great_no g3
  have HMA : ∀ (D : List (List UInt8)) (dv : Value) (W : World), Below w.heap.size w W → DocsRd W dv D → D.length ≤ 100 → (∀ d ∈ D, d.length ≤ 2500) → Calls Tryd.prog 23 #[dv, lv] W (GivesR W (erOf l) (resF l D)) :=
    fun D dv W hW hD h1 h2 => match_er dv lv D l W (ht.below hW) hD (by omega) (fun d hd => by have := h2 d hd; omega) (hl.below hW) (by omega) (fun s hs => by have := hlt s hs; omega) hkl
  have HCa := Lib.hid (fun W (hW : Below w.heap.size w W) => HMA a va W hW (ha.below hW) (by omega) han)
  have HCb := Lib.hid (fun W (hW : Below w.heap.size w W) => HMA b vb W hW (hb.below hW) (by omega) hbn)
  have HCc := Lib.hid (fun dv W (hW : Below w.heap.size w W) (hD : DocsRd W dv (a ++ b)) => HMA (a ++ b) dv W hW hD (by rw [List.length_append]; omega) (fun d hd => by rw [List.mem_append] at hd; rcases hd with h | h; exact han d h; exact hbn d h))
  rw [resF_append] at HCc
  have hyb := resF_bd l b
  have hxl := resF_len l a
  have hyl := resF_len l b
  have hee : (erOf l == erOf l) = true := beq_self_eq_true _
  obtain ⟨xs, hxr, hxe⟩ := ha
  obtain ⟨ys, hyr, hye⟩ := hb
  have HXO := Lib.hid (docs_one hxr hxe)
  have HYO := Lib.hid (docs_one hyr hye)
  have HXR := Lib.hid (And.intro hxr hxe)
  have HYR := Lib.hid (And.intro hyr hye)
  obtain ⟨aa, ca, rfl⟩ : ∃ ao c, va = .slice ao a.length c := by
    obtain ⟨-, -, ⟨ao, c, rfl, h0⟩ | ⟨b', off, c, rfl, -⟩⟩ := hxr
    · exact ⟨ao, c, by rw [h0]⟩
    · exact ⟨_, c, rfl⟩
  obtain ⟨ab, cb, rfl⟩ : ∃ ao c, vb = .slice ao b.length c := by
    obtain ⟨-, -, ⟨ao, c, rfl, h0⟩ | ⟨b', off, c, rfl, -⟩⟩ := hyr
    · exact ⟨ao, c, by rw [h0]⟩
    · exact ⟨_, c, rfl⟩
  obtain ⟨al, cl, rfl, -⟩ := ops_cells hl
  generalize erOf l = E at *
  generalize resF l a = X at *
  generalize resF l b = Y at *
  have HYB := Lib.hid hyb
  have HAL : Hid (∀ x : Int, (a.length : Int) + x = x + (a.length : Int)) := fun x => by omega
  clear HGA HGB HGL ht hl hkl g1 g2 g3 HMA hlt han hbn hyb hxr hyr hxe hye
  go_enter Tryd.func5, Tryd.ntmps5
  go_wp2_with (first
    | (go_at_call 22; (with_reducible refine H1.out.mono ?_); rintro e w' ⟨rfl, rfl⟩)
    | (go_at_call 22; (with_reducible refine H2.out.mono ?_); rintro e w' ⟨rfl, rfl⟩)
    | (go_at_call 15; (with_reducible refine H3.out.mono ?_); rintro e w' ⟨rfl, rfl⟩)
    | (go_at_call 23; (with_reducible refine (HCa.out w (Below.refl _ _)).mono ?_); rintro e w1 ⟨v1, rfl, o1, b1⟩; obtain ⟨a1, c1, rfl⟩ := own_shape o1)
    | (go_at_call 23; (with_reducible refine (HCb.out w1 b1).mono ?_); rintro e w2 ⟨v2, rfl, o2, b2⟩; obtain ⟨a2, c2, rfl⟩ := own_shape o2; have B2 := b1.trans (b2.mono b1.size); have p1 := own_below' o1 b2)
    | (at_builtin; refine wpList_first (ws := w2) rfl (.tmp 39) (.tmp 40) _ rfl 72 i0 _ 1 24 Tryd.underlying50 hi hz0 hz1 hz2 rfl _ rfl (by rfl) (.slice aa a.length ca) a.length xs (by rfl) (HXR.out.1.below B2) HXO.out (by omega) ?_; intro v3 w3 m3 b3; obtain ⟨a3, c3, rfl⟩ := m3.shape)
    | (at_builtin; refine wpList_more (ws := w2) rfl (.tmp 41) (.tmp 42) _ rfl 72 i0 _ 1 24 Tryd.underlying50 hi hz0 hz1 hz2 rfl (.slice a3 a.length c3) a.length _ (by rfl) m3 b3 (.slice ab b.length cb) b.length ys (by rfl) (HYR.out.1.below (B2.trans (b3.mono B2.size))) HYO.out (by unfold maxLen; omega) (by omega) ?_; intro v4 w4 m4 b4; obtain ⟨a4, c4, rfl⟩ := m4.shape; have B4 := B2.trans (b4.mono B2.size); have R4 := docs_both B4 HXR.out HYR.out m4)
    | (go_at_call 23; (with_reducible refine (HCc.out (.slice a4 (a.length + b.length) c4) w4 B4 R4).mono ?_); rintro e w5 ⟨v5, rfl, o5, b5⟩; obtain ⟨a5, c5, rfl⟩ := own_shape o5; have q5 := b4.trans (b5.mono b4.size); have B5 := B2.trans (q5.mono B2.size); have p2 := own_below' o2 q5; have p11 := own_below' p1 q5)
    | (at_builtin; refine wpList_first (ws := w5) rfl (.tmp 48) (.tmp 49) _ rfl 3 j0 _ 1 8 Tryd.underlying41 hj hy0 hy1 hy2 rfl _ rfl (by rfl) (.slice a1 X.length c1) X.length (icells X) (by rfl) (Rd.of_own p11) (icells_one X) (by omega) ?_; intro v6 w6 m6 b6; obtain ⟨a6, c6, rfl⟩ := m6.shape))
  have HM6 : Hid (MRow w6 w5.heap.size 3 1 (.slice a6 X.length c6) (X.length + 0) (icells X ++ icells ((Y.take 0).map fun x => (a.length : Int) + x))) := by
    show MRow _ _ _ _ _ _ _
    rw [List.take_zero, List.map_nil, show icells [] = [] from rfl, List.append_nil]
    exact m6
  have RY := Lib.hid (Rd.of_own p2)
  have RZ := Lib.hid (Rd.of_own o5)
  have HB5 := Lib.hid B5
  clear m3 m4 m6 o1 o2 o5 p1 p2 p11 b1 b2 b3 b4 b5 q5 B2 B4 B5 R4
  go_loopw [13, 14] (fun s13 i wr => ∃ (k : Nat), k ≤ Y.length ∧ i = .int .i64 k ∧ Hid (MRow wr w5.heap.size 3 1 s13 (X.length + k) (icells X ++ icells ((Y.take k).map fun x => (a.length : Int) + x))) ∧ Below w5.heap.size w5 wr) (fun _ i _ => Y.length - (intOf i).toNat)
  case atStart => exact ⟨0, Nat.zero_le _, rfl, HM6.out, b6⟩
  case round =>
    obtain ⟨k, hk, rfl, HM, bel⟩ := hrel
    obtain ⟨a7, c7, rfl⟩ := HM.out.shape
    by_cases hlt : k < Y.length
    · obtain ⟨ya, yc, hyv, hym, HYC⟩ := ints_cells rfl RY.out
      simp only [Value.slice.injEq, true_and] at hyv
      obtain ⟨rfl, rfl⟩ := hyv
      obtain ⟨yb, yo, rfl, hyc⟩ := HYC.out k hlt
      have hcur := cell_later bel hyc
      have ki : (k : Int) < (Y.length : Int) := by omega
      have k0 : (0 : Int) ≤ (k : Int) := by omega
      have hyk := HYB.out Y[k] (List.getElem_mem _)
      have HTK : Hid (icells ((Y.take (k + 1)).map fun x => (a.length : Int) + x) = icells ((Y.take k).map fun x => (a.length : Int) + x) ++ icells [(a.length : Int) + Y[k]]) := by
        show _ = _
        rw [List.take_succ_eq_append_getElem hlt, List.map_append, icells_append]
        rfl
      generalize Y[k] = z at *
      have i1 : IntKind.i64.wrap ((a.length : Int) + z) = (a.length : Int) + z := by rw [IntKind.wrap_i64]; omega
      clear hyc HYC hym
      go_wp2_with (at_builtin; refine wpList_more (ws := w5) rfl (.tmp 57) (.tmp 65) _ rfl 3 j0 _ 1 8 Tryd.underlying41 hj hy0 hy1 hy2 rfl (.slice a7 (X.length + k) c7) (X.length + k) _ (by rfl) (HM.out.below ((Below.refl _ _).alloc (Nat.le_refl _) _)) (bel.alloc bel.size _) _ 1 (icells [(a.length : Int) + z]) (by rfl) (rd_new wr #[.int .i64 ((a.length : Int) + z)] 3 1 1 rfl (by decide) (by decide)) (icells_one _) (by unfold maxLen; omega) (by omega) ?_; intro v8 w8 m8 b8; have HM8 := Lib.hid m8; clear m8)
      go_roundw
      case rel => exact ⟨k + 1, by omega, by go_num, by show MRow _ _ _ _ _ _ _; rw [HTK.out, ← List.append_assoc]; exact HM8.out, b8⟩
      case measure => simp [intOf]; omega
    · have ki : ¬ (k : Int) < (Y.length : Int) := by omega
      obtain rfl : k = Y.length := by omega
      have hr := HM.out.rd
      rw [List.take_length, ← icells_append] at hr
      have hlen : X.length + Y.length = (X ++ Y.map fun x => (a.length : Int) + x).length := by simp
      have BW := HB5.out.trans (bel.mono HB5.out.size)
      have hz := RZ.out.below bel
      rw [← hlen] at hz
      have hs := same09_any (.slice a5 (X.length + Y.length) c5) (.slice a7 (X.length + Y.length) c7) (X.length + Y.length) (X.length + Y.length) (X ++ Y.map fun x => (a.length : Int) + x) (X ++ Y.map fun x => (a.length : Int) + x) wr hlen.symm hlen.symm hz hr
      rw [show ((X ++ Y.map fun x => (a.length : Int) + x) == (X ++ Y.map fun x => (a.length : Int) + x)) = true from beq_self_eq_true _] at hs
      have HS := Lib.hid hs
      clear hs hr hlen hz
      go_wp2_with (first
        | (go_at_call 20; (with_reducible refine HS.out.mono ?_); rintro e w9 ⟨rfl, b9⟩; have B9 := BW.trans (b9.mono BW.size))
        | (go_at_call 16; refine (HK.out _ B9).mono ?_; rintro e w99 ⟨rfl, hb99⟩))
      go_ret
      exact ⟨rfl, B9.trans (hb99.mono B9.size)⟩

theorem parts_call (va : Value) (a : List (List UInt8)) (vb : Value) (b : List (List UInt8)) (lv : Value) (l : List QOp) (w : World) (ht : Tabs w) (ha : DocsRd w va a) (hb : DocsRd w vb b) (hl : Rd w lv l.length 2 (ocells l)) (hkl : ∀ s ∈ l, -9223372036854775808 ≤ s.1 ∧ s.1 ≤ 9223372036854775807) :
    Calls Tryd.prog 5 #[va, vb, lv] w fun e w' => e = .returned (.bool true) ∧ Below w.heap.size w w' := by
  cases g1 : greatDocs a with
  | true => exact parts_great1 va a vb b lv l w ht ha hb hl hkl g1
  | false =>
    cases g2 : greatDocs b with
    | true => exact parts_great2 va a vb b lv l w ht ha hb hl hkl g1 g2
    | false =>
      cases g3 : great l with
      | true => exact parts_great3 va a vb b lv l w ht ha hb hl hkl g1 g2 g3
      | false => exact parts_good va a vb b lv l w ht ha hb hl hkl g1 g2 g3
end Go.Proofs.YteegbjjpjdlcmaaDoor
