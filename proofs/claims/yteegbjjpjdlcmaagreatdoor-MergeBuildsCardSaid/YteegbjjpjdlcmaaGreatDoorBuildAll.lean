/- Build, Built, SegsAll: in one text. -/
import Derived.Test.YteegbjjpjdlcmaaGreatDoorMake
import Derived.Test.YteegbjjpjdlcmaaGreatDoorAllM
import Derived.Test.YteegbjjpjdlcmaaGreatDoorPartsLaw
/- segm.Build. -/
set_option linter.unusedVariables false
namespace Go.Proofs.YteegbjjpjdlcmaaGreatDoor
open Go.RowKit Go.Sort

def BuildPost (f t : Int) (U : List Ent) (w : World) (e : Ending) (w' : World) : Prop := ∃ v', e = .returned (.tuple #[.agg #[.int .i64 f, .int .i64 t, v'], .int .i64 0]) ∧ (∀ w2 : World, (∀ b, w.heap.size ≤ b → b < w'.heap.size → w2.heap[b]? = w'.heap[b]?) → DRd w2 v' U.length U) ∧ Below w.heap.size w w'

set_option maxRecDepth 100000 in
set_option maxHeartbeats 4000000 in
theorem build_any (dv : Value) (docs : List (List UInt8)) (f t : Nat) (w : World) (ht : Tabs w) (hd : DocsRd w dv docs) (h1 : docs.length ≤ 1000) (h2 : ∀ d ∈ docs, d.length ≤ 2000) (h3 : f < t) (h4 : t ≤ docs.length) :
    Calls Tryz.prog 15 #[dv, .agg #[.int .i64 f, .int .i64 t]] w (BuildPost f t (partD docs (f, t)) w) := by
  have hb0 : Below w.heap.size w (w.alloc (.cells #[.int .i64 f, .int .i64 t] 26)) := (Below.refl _ _).alloc (Nat.le_refl _) _
  have hn0 := heap_alloc_new w (.cells #[.int .i64 f, .int .i64 t] 26)
  obtain ⟨W0, hW0⟩ : ∃ W0, W0 = (w.alloc (.cells #[.int .i64 f, .int .i64 t] 26)) := ⟨_, rfl⟩
  rw [← hW0] at hb0 hn0
  have hb1 : Below W0.heap.size W0 (W0.alloc (.cells #[.int .i64 0, .int .i64 0, .slice none 0 0] 33)) := (Below.refl _ _).alloc (Nat.le_refl _) _
  have hn1 := heap_alloc_new W0 (.cells #[.int .i64 0, .int .i64 0, .slice none 0 0] 33)
  have hlt0 : w.heap.size < W0.heap.size := lt_of_block hn0
  have hB1 := hb0.trans (hb1.mono hb0.size)
  have c0 : (W0.alloc (.cells #[.int .i64 0, .int .i64 0, .slice none 0 0] 33)).cell? ⟨w.heap.size, 0, none⟩ = some (.int .i64 f) := cell_later hb1 (by rw [cell_of_row _ _ _ _ _ _ hn0]; rfl)
  have c1 : (W0.alloc (.cells #[.int .i64 0, .int .i64 0, .slice none 0 0] 33)).cell? ⟨w.heap.size, 1, none⟩ = some (.int .i64 t) := cell_later hb1 (by rw [cell_of_row _ _ _ _ _ _ hn0]; rfl)
  have HM := Lib.hid (make_any dv docs f t _ (ht.below hB1) (hd.below hB1) h1 h2 (Nat.le_of_lt h3) h4)
  have hsz1 : W0.heap.size < (W0.alloc (.cells #[.int .i64 0, .int .i64 0, .slice none 0 0] 33)).heap.size := lt_of_block hn1
  obtain ⟨W1, hW1⟩ : ∃ W1, W1 = (W0.alloc (.cells #[.int .i64 0, .int .i64 0, .slice none 0 0] 33)) := ⟨_, rfl⟩
  rw [← hW1] at hb1 hn1 hB1 c0 c1 HM hsz1
  have HW1 : Hid ((w.alloc (.cells #[.int .i64 f, .int .i64 t] 26)).alloc (.cells #[.int .i64 0, .int .i64 0, .slice none 0 0] 33) = W1) := by show _ = _; rw [hW1, hW0]
  obtain ⟨ao, c, rfl, -, -⟩ := docs_cells hd
  have q1 : ((f : Int) == (t : Int)) = false := beq_eq_false_iff_ne.2 (by omega)
  have hne : ¬ (f : Int) = (t : Int) := by omega
  have hsw : (w.alloc (.cells #[.int .i64 f, .int .i64 t] 26)).heap.size = W0.heap.size := by rw [hW0]
  have hs0 : W0.heap.size = w.heap.size + 1 := by rw [hW0]; simp
  rw [hs0] at hn1 hsz1
  clear hW0 hW1 hd h2 h3 h4 hsw hs0 hn0
  go_enter Tryz.func15, Tryz.ntmps15
  go_wp2_with fail
  rw [HW1.out]
  refine HM.out.mono ?_
  rintro e w3 ⟨v, rfl, hag, hb3⟩
  obtain ⟨a3, c3, rfl, -⟩ := dict_cells (hag w3 fun _ _ _ => rfl)
  have e0 := cell_later hb3 c0
  have e1 := cell_later hb3 c1
  have hn3 : w3.heap[w.heap.size + 1]? = some (.cells #[.int .i64 0, .int .i64 0, .slice none 0 0] 33 (0, 0)) := (hb3.block _ hsz1).trans hn1
  have k0 := cell_of_row _ _ 0 _ _ _ hn3
  have k1 := cell_of_row _ _ 1 _ _ _ hn3
  have k2 := cell_of_row _ _ 2 _ _ _ hn3
  have f0 := frozen_of_row _ _ 0 _ _ hn3
  have f1 := frozen_of_row _ _ 1 _ _ hn3
  have f2 := frozen_of_row _ _ 2 _ _ hn3
  have hs3 := hb3.size
  have HAG := Lib.hid hag
  have HML : Hid ((makeF docs f (t - f)) = partD docs (f, t)) := rfl
  generalize makeF docs f (t - f) = U at *
  have hB3 := hB1.trans (hb3.mono hB1.size)
  clear c0 c1 HM hag hn1
  go_wp2_with fail
  have h1 := heap_setCell_same w3 (w.heap.size + 1) 0 _ _ (.int .i64 f) hn3
  have h2 := heap_setCell_same _ (w.heap.size + 1) 1 _ _ (.int .i64 t) h1
  have h3 := heap_setCell_same _ (w.heap.size + 1) 2 _ _ (.slice a3 U.length c3) h2
  have hbf : Below w.heap.size w (((w3.setCell ⟨w.heap.size + 1, 0, none⟩ (.int .i64 f)).setCell ⟨w.heap.size + 1, 1, none⟩ (.int .i64 t)).setCell ⟨w.heap.size + 1, 2, none⟩ (.slice a3 U.length c3)) := (((hB3.setCell (by simp) _).setCell (by simp) _).setCell (by simp) _)
  have hdf : ∀ w2 : World, (∀ b, w.heap.size ≤ b → b < (((w3.setCell ⟨w.heap.size + 1, 0, none⟩ (.int .i64 f)).setCell ⟨w.heap.size + 1, 1, none⟩ (.int .i64 t)).setCell ⟨w.heap.size + 1, 2, none⟩ (.slice a3 U.length c3)).heap.size → w2.heap[b]? = (((w3.setCell ⟨w.heap.size + 1, 0, none⟩ (.int .i64 f)).setCell ⟨w.heap.size + 1, 1, none⟩ (.int .i64 t)).setCell ⟨w.heap.size + 1, 2, none⟩ (.slice a3 U.length c3)).heap[b]?) → DRd w2 (.slice a3 U.length c3) U.length U := fun w2 h2 => HAG.out w2 fun b g1 g2 => by
    rw [h2 b (by omega) (by simpa using g2), heap_setCell_other _ _ _ _ (by simp; omega), heap_setCell_other _ _ _ _ (by simp; omega), heap_setCell_other _ _ _ _ (by simp; omega)]
  rw [← HML.out]
  exact bodyPost_ret (v := .tuple #[.agg #[.int .i64 f, .int .i64 t, .slice a3 U.length c3], .int .i64 0]) (results_row_tmp (p := 4) (u := 5) (ty := 33) rfl _ _ (w.heap.size + 1) 33 _ (0, 0) _ rfl h3 Tryz.underlying33 rfl (by kernel_rfl)) rfl ⟨_, rfl, hdf, hbf⟩
end Go.Proofs.YteegbjjpjdlcmaaGreatDoor

/- rubricklaw13.built. -/
set_option linter.unusedVariables false
namespace Go.Proofs.YteegbjjpjdlcmaaGreatDoor
open Go.RowKit Go.Sort

theorem infoSeg : (Tryz.prog.info? 33).map (fun i => (i.zero, i.size, i.bytes)) = some (some (.agg #[.int .i64 0, .int .i64 0, .slice none 0 0]), 3, 40) := by kernel_rfl

/-- a dictionary that can be read, whatever becomes of one row. -/
def SegRob (w : World) (row : Option Nat) (v : Value) (d : List Ent) : Prop := ∀ w2 : World, (∀ b, b < w.heap.size → some b ≠ row → w2.heap[b]? = w.heap[b]?) → DRd w2 v d.length d

/-- the segments so far. -/
structure BIn (docs : List (List UInt8)) (w wr : World) (ps : List (Nat × Nat)) (ov : Value) (cells : List Value) : Prop where
  own : wr.ownsRow w.heap.size 33 3 ov ps.length cells
  seg : ∀ k (hk : k < ps.length), cells[k * 3]? = some (.int .i64 ps[k].1) ∧ cells[k * 3 + 1]? = some (.int .i64 ps[k].2) ∧ ∃ u, cells[k * 3 + 2]? = some u ∧ SegRob wr ov.ownBlock u (partD docs ps[k])
  bel : Below w.heap.size w wr

theorem SegRob.step {w w' : World} {row row' : Option Nat} {v : Value} {d : List Ent} (h : SegRob w row v d) (hg : ∀ b, b < w.heap.size → some b ≠ row → w'.heap[b]? = w.heap[b]?) (hs : w.heap.size ≤ w'.heap.size) (hr : row' = row ∨ ∃ g, row' = some g ∧ w.heap.size ≤ g) : SegRob w' row' v d := by
  intro w2 h2
  refine h w2 fun b hb hne => ?_
  rw [h2 b (by omega) (fun e => ?_), hg b hb hne]
  rcases hr with hr | ⟨g, hr, hle⟩
  · rw [hr] at e; exact hne e
  · rw [hr] at e
    simp only [Option.some.injEq] at e
    omega

theorem BIn.step {docs : List (List UInt8)} {w wr w1 w6 w7 : World} {ps : List (Nat × Nat)} {ov v' u : Value} {cells : List Value} {f t : Nat}
    (h : BIn docs w wr ps ov cells) (h1 : Below wr.heap.size wr w1) (hd : ∀ w2 : World, (∀ b, wr.heap.size ≤ b → b < w1.heap.size → w2.heap[b]? = w1.heap[b]?) → DRd w2 u (partD docs (f, t)).length (partD docs (f, t)))
    (h6 : Below w1.heap.size w1 w6) (happ : w7.ownsRow w.heap.size 33 3 v' (ps.length + 1) (cells ++ [.int .i64 f, .int .i64 t, u])) (hgr : w6.grownBy w7 ov.ownBlock) (hv : v'.ownBlock = ov.ownBlock ∨ v'.ownBlock = some w6.heap.size) :
    BIn docs w w7 (ps ++ [(f, t)]) v' (cells ++ [.int .i64 f, .int .i64 t, u]) := by
  have hcl : cells.length = ps.length * 3 := h.own.1
  have s1 := h1.size
  have s6 := h6.size
  have s7 := hgr.size
  have hB6 : Below wr.heap.size wr w6 := h1.trans (h6.mono h1.size)
  have hlow : ∀ g, ov.ownBlock = some g → g < wr.heap.size := fun g hg => (h.own.lt g hg).2
  refine ⟨by rw [List.length_append]; exact happ, fun k hk => ?_, ?_⟩
  · rw [List.length_append, List.length_singleton] at hk
    by_cases e : k = ps.length
    · subst e
      rw [List.getElem?_append_right (by omega), List.getElem?_append_right (by omega), List.getElem?_append_right (by omega), hcl, Nat.sub_self, show ps.length * 3 + 1 - ps.length * 3 = 1 by omega, show ps.length * 3 + 2 - ps.length * 3 = 2 by omega]
      simp only [List.getElem_append_right (Nat.le_refl _), Nat.sub_self, List.getElem_cons_zero]
      refine ⟨rfl, rfl, u, rfl, fun w2 h2 => hd w2 fun b g1 g2 => ?_⟩
      rw [h2 b (by omega) (fun e => ?_), hgr.block b (by omega) (fun e => ?_), h6.block b g2]
      · have := hlow b e.symm; omega
      · rcases hv with hv | hv
        · rw [hv] at e; have := hlow b e.symm; omega
        · rw [hv] at e
          simp only [Option.some.injEq] at e
          omega
    · have hk2 : k < ps.length := by omega
      obtain ⟨g1, g2, u', g3, g4⟩ := h.seg k hk2
      rw [List.getElem?_append_left (by omega), List.getElem?_append_left (by omega), List.getElem?_append_left (by omega)]
      simp only [List.getElem_append_left hk2]
      refine ⟨g1, g2, u', g3, g4.step (fun b hb hne => ?_) (by omega) ?_⟩
      · rw [hgr.block b (by omega) hne, hB6.block b hb]
      · rcases hv with hv | hv
        · exact .inl hv
        · exact .inr ⟨_, hv, by omega⟩
  · exact (h.bel.trans (hB6.mono h.bel.size)).grown hgr (by have := h.bel.size; omega) (fun q hq => (h.own.lt q hq).1)

/-- segments that can be read. -/
def SegsRd (docs : List (List UInt8)) (w : World) (v : Value) (ps : List (Nat × Nat)) : Prop := ∃ cells, Rd w v ps.length 3 cells ∧ ∀ k (hk : k < ps.length), cells[k * 3]? = some (.int .i64 ps[k].1) ∧ cells[k * 3 + 1]? = some (.int .i64 ps[k].2) ∧ ∃ u, cells[k * 3 + 2]? = some u ∧ DRd w u (partD docs ps[k]).length (partD docs ps[k])
theorem BIn.rd {docs : List (List UInt8)} {w wr : World} {ps : List (Nat × Nat)} {ov : Value} {cells : List Value} (h : BIn docs w wr ps ov cells) : SegsRd docs wr ov ps :=
  ⟨cells, Rd.of_own h.own, fun k hk => by
    obtain ⟨g1, g2, u, g3, g4⟩ := h.seg k hk
    exact ⟨g1, g2, u, g3, g4 wr fun _ _ _ => rfl⟩⟩
theorem SegsRd.below {docs : List (List UInt8)} {w w' : World} {v : Value} {ps : List (Nat × Nat)} (h : SegsRd docs w v ps) (hb : Below w.heap.size w w') : SegsRd docs w' v ps := by
  obtain ⟨cells, h1, h2⟩ := h
  exact ⟨cells, h1.below hb, fun k hk => by
    obtain ⟨g1, g2, u, g3, g4⟩ := h2 k hk
    exact ⟨g1, g2, u, g3, g4.below hb⟩⟩

theorem chain_snoc : ∀ {ps : List (Nat × Nat)} {lo hi t : Nat}, chain lo ps hi → hi < t → chain lo (ps ++ [(hi, t)]) t
  | [], lo, hi, t, h, ht => by
    obtain rfl : lo = hi := h
    exact ⟨rfl, ht, rfl⟩
  | p :: r, lo, hi, t, h, ht => ⟨h.1, h.2.1, chain_snoc h.2.2 ht⟩

def BuiltPost (docs : List (List UInt8)) (w : World) (e : Ending) (w' : World) : Prop := ∃ (v : Value) (ps : List (Nat × Nat)), e = .returned (.tuple #[v, .bool true]) ∧ SegsRd docs w' v ps ∧ chain 0 ps docs.length ∧ ps.length ≤ docs.length ∧ Below w.heap.size w w'

set_option maxRecDepth 100000 in
set_option maxHeartbeats 8000000 in
theorem built_any (dv : Value) (docs : List (List UInt8)) (a b : Int) (w : World) (ht : Tabs w) (hd : DocsRd w dv docs) (h1 : docs.length ≤ 1000) (h2 : ∀ d ∈ docs, d.length ≤ 2000) :
    Calls Tryz.prog 7 #[dv, .int .i64 a, .int .i64 b] w (BuiltPost docs w) := by
  have HB := Lib.hid (fun (f t : Nat) (W : World) (hW : Below w.heap.size w W) (h3 : f < t) (h4 : t ≤ docs.length) => build_any dv docs f t W (ht.below hW) (hd.below hW) h1 h2 h3 h4)
  obtain ⟨ao, c, rfl, -, -⟩ := docs_cells hd
  obtain ⟨n, hn⟩ : ∃ n, n = docs.length := ⟨_, rfl⟩
  have HN := Lib.hid hn
  rw [← hn] at h1 ⊢
  rw [← hn] at HB
  obtain ⟨i2, hi2, hi2a, hi2b, hi2c⟩ := info_parts infoSeg
  clear hd h2 ht hn
  go_enter Tryz.func7, Tryz.ntmps7
  go_wp2
  go_loopw [8, 9, 10] (fun ov av iv wr => ∃ (i at' : Nat) (ps : List (Nat × Nat)) (cells : List Value), i ≤ n + 1 ∧ at' < i ∧ (i ≤ n ∨ at' = n) ∧ ps.length < i ∧ av = .int .i64 at' ∧ iv = .int .i64 i ∧ Hid (chain 0 ps at') ∧ Hid (BIn docs w wr ps ov cells)) (fun _ _ iv _ => n + 1 - (intOf iv).toNat)
  case atStart => exact ⟨1, 0, [], [], by omega, by omega, by omega, by simp, rfl, rfl, rfl, ⟨⟨rfl, .inl ⟨rfl, rfl⟩⟩, fun k hk => by simp at hk, Below.refl _ _⟩⟩
  case round =>
    obtain ⟨i, at', ps, cells, hi, hat, hin, hpl, rfl, rfl, HC, HIN⟩ := hrel
    have hbel := HIN.out.bel
    by_cases hin2 : i ≤ n
    · have ki : (i : Int) ≤ (n : Int) := by omega
      by_cases hc : i < n ∧ (i : Int) ≠ a ∧ (i : Int) ≠ b
      · obtain ⟨c1, c2, c3⟩ := hc
        have k1 : (i : Int) < (n : Int) := by omega
        have k2 : ((i : Int) != a) = true := by simpa using c2
        have k3 : ((i : Int) != b) = true := by simpa using c3
        clear c2 c3
        go_wp2
        go_roundw
        case rel => exact ⟨i + 1, at', ps, cells, by omega, by omega, by omega, by omega, rfl, by go_num, HC.out, HIN.out⟩
        case measure => simp [intOf]; omega
      · have hc3 : (¬ (i : Int) < (n : Int)) ∨ ((i : Int) < (n : Int) ∧ ((i : Int) != a) = false) ∨ ((i : Int) < (n : Int) ∧ ((i : Int) != a) = true ∧ ((i : Int) != b) = false) := by
          by_cases e1 : (i : Int) < (n : Int)
          · by_cases e2 : (i : Int) = a
            · exact .inr (.inl ⟨e1, by simpa using e2⟩)
            · by_cases e3 : (i : Int) = b
              · exact .inr (.inr ⟨e1, by simpa using e2, by simpa using e3⟩)
              · exact absurd ⟨by omega, e2, e3⟩ hc
          · exact .inl e1
        have HBI := Lib.hid (HB.out at' i wr hbel hat (by omega))
        have HCN := Lib.hid (chain_snoc HC.out hat)
        have hszr := hbel.size
        clear hc
        rcases hc3 with e1 | ⟨e1, e2⟩ | ⟨e1, e2, e3⟩
        all_goals
          go_wp2_with (first
            | (go_at_call 15; refine HBI.out.mono ?_; rintro e w1 ⟨u, rfl, hu, hb1⟩; obtain ⟨ua, uc, rfl, -⟩ := dict_cells (hu w1 fun _ _ _ => rfl); have HUU := Lib.hid hu; clear hu)
            | (at_builtin; refine wpList_app rfl _ _ _ _ rfl w.heap.size 33 i2 _ 3 40 Tryz.underlying28 hi2 hi2a hi2b hi2c rfl _ ps.length _ rfl (own_below (own_below (own_below HIN.out.own hb1) ((Below.refl _ _).alloc (Nat.le_refl _) _)) ((Below.refl _ _).alloc (Nat.le_refl _) _)) _ 1 [.int .i64 at', .int .i64 i, .slice ua (partD docs (at', i)).length uc] rfl (src_at Tryz.underlying28 _ _ 3 1 1 (w1.heap.size + 1) (by simp) rfl (by intro u hu; simp at hu; rcases hu with rfl | rfl | rfl <;> rfl)) (by unfold maxLen; omega) (by omega) (by simp; have := hb1.size; omega) ?_; intro v' w7 hown7 hgr7 hv7 _))
          go_roundw
          case rel => exact ⟨i + 1, i, ps ++ [(at', i)], _, by omega, by omega, by omega, by rw [List.length_append, List.length_singleton]; omega, rfl, by go_num, HCN.out, HIN.out.step hb1 HUU.out (((Below.refl _ _).alloc (Nat.le_refl _) _).alloc (by simp) _) hown7 hgr7 hv7⟩
          case measure => simp [intOf]; omega
    · have HAT : Hid (at' = n) := by show at' = n; omega
      have ki : ¬ (i : Int) ≤ (n : Int) := by omega
      go_wp2
      go_ret2
      exact ⟨_, ps, rfl, HIN.out.rd, by have := HC.out; rwa [HAT.out, HN.out] at this, by rw [← HN.out]; omega, hbel⟩
end Go.Proofs.YteegbjjpjdlcmaaGreatDoor

/- merge.All of the segments of neighbouring spans. -/
set_option linter.unusedVariables false
namespace Go.Proofs.YteegbjjpjdlcmaaGreatDoor
open Go.RowKit Go.Sort

def sgD (docs : List (List UInt8)) (ps : List (Nat × Nat)) (i : Nat) : List Ent := (ps.map (partD docs)).getD i []
theorem sgD_at {docs : List (List UInt8)} {ps : List (Nat × Nat)} {i : Nat} (h : i < ps.length) : sgD docs ps i = partD docs ps[i] := by
  unfold sgD
  rw [List.getD_eq_getElem?_getD, List.getElem?_map, List.getElem?_eq_getElem h]; rfl
theorem sgD_rem (docs : List (List UInt8)) (ps : List (Nat × Nat)) : remL (sgD docs ps) (fun _ => 0) ps.length = ps.map (partD docs) := by
  unfold remL
  refine List.ext_getElem (by simp) fun i h1 h2 => ?_
  have hi : i < ps.length := by simpa using h2
  simp [sgD_at hi]
theorem sgD_ent {docs : List (List UInt8)} {ps : List (Nat × Nat)} (hp : ∀ p ∈ ps, p.2 ≤ 1000) (i : Nat) : ∀ e ∈ sgD docs ps i, e.1.length ≤ 100000 ∧ e.2.length ≤ 1000 := by
  intro e he
  rcases Nat.lt_or_ge i ps.length with h | h
  · rw [sgD_at h] at he
    have := hp _ (List.getElem_mem h)
    obtain ⟨-, g2, -, g4, -⟩ := makeF_ent (show e ∈ makeF docs ps[i].1 (ps[i].2 - ps[i].1) from he)
    omega
  · unfold sgD at he
    rw [List.getD_eq_getElem?_getD, List.getElem?_eq_none (by simpa using h)] at he
    cases he
theorem chain_mem : ∀ {ps : List (Nat × Nat)} {lo hi : Nat}, chain lo ps hi → ∀ p ∈ ps, lo ≤ p.1 ∧ p.1 < p.2 ∧ p.2 ≤ hi
  | [], lo, hi, h, p, hp => by cases hp
  | q :: r, lo, hi, h, p, hp => by
    obtain ⟨h1, h2, h3⟩ := h
    have h4 := chain_le h3
    rcases List.mem_cons.1 hp with rfl | hp
    · omega
    · have := chain_mem h3 p hp
      omega
theorem chain_row : ∀ {ps : List (Nat × Nat)} {lo hi : Nat}, chain lo ps hi → ∀ i (h : i + 1 < ps.length), ps[i + 1].1 = (ps[i]'(by omega)).2
  | [], lo, hi, h, i, hi' => by simp at hi'
  | [q], lo, hi, h, i, hi' => by simp at hi'
  | q :: r :: s, lo, hi, h, i, hi' => by
    obtain ⟨h1, h2, h3⟩ := h
    cases i with
    | zero => exact h3.1
    | succ i => exact chain_row h3 i (by simpa using hi')
theorem chain_last : ∀ {ps : List (Nat × Nat)} {lo hi : Nat}, chain lo ps hi → ∀ (h : 0 < ps.length), (ps[0]'h).1 = lo ∧ (ps[ps.length - 1]'(by omega)).2 = hi
  | [], lo, hi, h, h0 => by simp at h0
  | [q], lo, hi, h, h0 => ⟨h.1, h.2.2⟩
  | q :: r :: s, lo, hi, h, h0 => by
    obtain ⟨h1, h2, h3⟩ := h
    refine ⟨h1, ?_⟩
    have := (chain_last h3 (by simp)).2
    simpa using this

theorem SegsRd.segIn {docs : List (List UInt8)} {w : World} {v : Value} {ps : List (Nat × Nat)} (h : SegsRd docs w v ps) (hne : 0 < ps.length) :
    ∃ g off c V, v = .slice (some ⟨g, off, none⟩) ps.length c ∧ SegIn w g off ps.length (fun i => ((ps.getD i (0, 0)).1 : Int)) (fun i => ((ps.getD i (0, 0)).2 : Int)) V (sgD docs ps) := by
  obtain ⟨cells, ⟨hl, hm, hh⟩, hE⟩ := h
  rcases hh with ⟨ao, c, rfl, h0⟩ | ⟨b, off, c, rfl, h0, hnc, hcm, hcell⟩
  · omega
  · have hg : ∀ i (hi : i < ps.length), ps.getD i (0, 0) = ps[i] := fun i hi => by rw [List.getD_eq_getElem?_getD, List.getElem?_eq_getElem hi]; rfl
    refine ⟨b, off, c, fun i => cells.getD (i * 3 + 2) undef, rfl, fun i hi => ?_, fun i hi => ?_, fun i hi => ?_, fun i hi => ?_⟩
    · rw [hg i hi]; exact hcell _ _ (hE i hi).1
    · rw [hg i hi, Nat.add_assoc]; exact hcell _ _ (hE i hi).2.1
    · obtain ⟨-, -, u, g3, -⟩ := hE i hi
      rw [Nat.add_assoc, List.getD_eq_getElem?_getD, g3]
      exact hcell _ _ g3
    · obtain ⟨-, -, u, g3, g4⟩ := hE i hi
      rw [List.getD_eq_getElem?_getD, g3, sgD_at hi]
      exact g4

theorem all_parts (docs : List (List UInt8)) (v : Value) (ps : List (Nat × Nat)) (lo hi : Nat) (w : World) (ht : Tabs w) (h : SegsRd docs w v ps) (hc : chain lo ps hi) (hne : 0 < ps.length) (hpl : ps.length ≤ 1000) (hhi : hi ≤ 40) (h2 : ∀ d ∈ docs, d.length ≤ 2500) :
    Calls Tryz.prog 8 #[v] w (AllPost lo hi (partD docs (lo, hi)) w) := by
  obtain ⟨g, off, c, V, rfl, hS⟩ := h.segIn hne
  have hg : ∀ i (hi : i < ps.length), ps.getD i (0, 0) = ps[i] := fun i hi => by rw [List.getD_eq_getElem?_getD, List.getElem?_eq_getElem hi]; rfl
  have htot : total (ps.map (partD docs)) ≤ 100000 := by
    have := total_parts docs 2500 h2 hc
    omega
  refine allM_any g off ps.length c _ _ V (sgD docs ps) _ 100000 lo hi w ht hS hne hpl ?_ ?_ (by omega) (sgD_ent fun p hp => by have := chain_mem hc p hp; omega) (fun i hi => ?_) (fun i hi => ?_) ?_ ?_
  · rw [sgD_rem]; exact union_parts docs hc 100000 htot
  · rw [sgD_rem]; exact htot
  · rw [hg i hi, sgD_at hi]
    have := chain_mem hc _ (List.getElem_mem hi)
    exact partD_right docs ps[i] this.2.1 (by omega)
  · rw [hg (i + 1) hi, hg i (by omega), chain_row hc i hi]
  · rw [hg 0 hne, (chain_last hc hne).1]
  · rw [hg (ps.length - 1) (by omega), (chain_last hc hne).2]

/-- two segments in a block of their own. -/
theorem segs_pair {docs : List (List UInt8)} {w : World} {X : Nat} {p q : Nat × Nat} {v1 v2 : Value} {ty : TypeId} {fr : Nat × Nat} (h : w.heap[X]? = some (.cells #[.int .i64 p.1, .int .i64 p.2, v1, .int .i64 q.1, .int .i64 q.2, v2] ty fr))
    (h1 : DRd w v1 (partD docs p).length (partD docs p)) (h2 : DRd w v2 (partD docs q).length (partD docs q)) : SegsRd docs w (.slice (some ⟨X, 0, none⟩) 2 2) [p, q] := by
  refine ⟨[.int .i64 p.1, .int .i64 p.2, v1, .int .i64 q.1, .int .i64 q.2, v2], ⟨rfl, by unfold maxLen; simp, .inr ⟨X, 0, 2, rfl, by simp, by simp, by unfold maxLen; omega, fun i u hu => ?_⟩⟩, fun k hk => ?_⟩
  · rw [Nat.zero_add, cell_of_row _ _ _ _ _ _ h]
    simpa using hu
  · match k, hk with
    | 0, _ => exact ⟨rfl, rfl, v1, rfl, h1⟩
    | 1, _ => exact ⟨rfl, rfl, v2, rfl, h2⟩
/-- three segments: each, and the first and the last two. -/
theorem SegsRd.three {docs : List (List UInt8)} {w : World} {v : Value} {p q r : Nat × Nat} (h : SegsRd docs w v [p, q, r]) :
    ∃ (b off c : Nat) (v0 v2 : Value), v = .slice (some ⟨b, off, none⟩) 3 c ∧ 3 ≤ c ∧ c ≤ maxLen ∧
      (w.cell? ⟨b, off, none⟩ = some (.int .i64 p.1) ∧ w.cell? ⟨b, off + 1, none⟩ = some (.int .i64 p.2) ∧ w.cell? ⟨b, off + 2, none⟩ = some v0 ∧ DRd w v0 (partD docs p).length (partD docs p)) ∧
      (w.cell? ⟨b, off + 6, none⟩ = some (.int .i64 r.1) ∧ w.cell? ⟨b, off + 7, none⟩ = some (.int .i64 r.2) ∧ w.cell? ⟨b, off + 8, none⟩ = some v2 ∧ DRd w v2 (partD docs r).length (partD docs r)) ∧
      SegsRd docs w (.slice (some ⟨b, off, none⟩) 2 c) [p, q] ∧ SegsRd docs w (.slice (some ⟨b, off + 3, none⟩) 2 (c - 1)) [q, r] := by
  obtain ⟨cells, ⟨hl, hm, hh⟩, hE⟩ := h
  simp only [List.length_cons, List.length_nil] at hl hm hh
  rcases hh with ⟨ao, c, rfl, h0⟩ | ⟨b, off, c, rfl, h0, hnc, hcm, hcell⟩
  · omega
  · obtain ⟨a1, a2, v0, a3, a4⟩ := hE 0 (by simp)
    obtain ⟨b1, b2, v1, b3, b4⟩ := hE 1 (by simp)
    obtain ⟨c1, c2, v2, c3, c4⟩ := hE 2 (by simp)
    have e0 := hcell _ _ a1
    have e1 := hcell _ _ a2
    have e2 := hcell _ _ a3
    have e6 := hcell _ _ c1
    have e7 := hcell _ _ c2
    have e8 := hcell _ _ c3
    refine ⟨b, off, c, v0, v2, rfl, by omega, hcm, ⟨e0, e1, e2, a4⟩, ⟨e6, e7, e8, c4⟩, ?_, ?_⟩
    · refine ⟨cells.take 6, ⟨by rw [List.length_take, hl]; rfl, by simp only [List.length_cons, List.length_nil]; omega, .inr ⟨b, off, c, rfl, by simp, by simp only [List.length_cons, List.length_nil]; omega, hcm, fun i u hu => ?_⟩⟩, fun k hk => ?_⟩
      · rw [List.getElem?_take] at hu
        split at hu
        · exact hcell i u hu
        · cases hu
      · match k, hk with
        | 0, _ => exact ⟨by rw [List.getElem?_take, if_pos (by omega)]; exact a1, by rw [List.getElem?_take, if_pos (by omega)]; exact a2, v0, by rw [List.getElem?_take, if_pos (by omega)]; exact a3, a4⟩
        | 1, _ => exact ⟨by rw [List.getElem?_take, if_pos (by omega)]; exact b1, by rw [List.getElem?_take, if_pos (by omega)]; exact b2, v1, by rw [List.getElem?_take, if_pos (by omega)]; exact b3, b4⟩
    · refine ⟨cells.drop 3, ⟨by rw [List.length_drop, hl]; rfl, by simp only [List.length_cons, List.length_nil]; omega, .inr ⟨b, off + 3, c - 1, rfl, by simp, by simp only [List.length_cons, List.length_nil]; omega, by omega, fun i u hu => ?_⟩⟩, fun k hk => ?_⟩
      · rw [List.getElem?_drop] at hu
        rw [Nat.add_assoc]
        exact hcell _ u hu
      · match k, hk with
        | 0, _ => exact ⟨by rw [List.getElem?_drop]; exact b1, by rw [List.getElem?_drop]; exact b2, v1, by rw [List.getElem?_drop]; exact b3, b4⟩
        | 1, _ => exact ⟨by rw [List.getElem?_drop]; exact c1, by rw [List.getElem?_drop]; exact c2, v2, by rw [List.getElem?_drop]; exact c3, c4⟩
end Go.Proofs.YteegbjjpjdlcmaaGreatDoor
