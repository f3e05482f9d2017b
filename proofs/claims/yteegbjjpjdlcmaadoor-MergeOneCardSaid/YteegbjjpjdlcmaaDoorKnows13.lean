/- rubricklaw13.knows: the document's examples hold. -/
import Derived.Test.YteegbjjpjdlcmaaDoorRow
namespace Go.Proofs.YteegbjjpjdlcmaaDoor
open Go.RowKit

theorem settle_ex1 : settleF 2 (rowOf 0 [1, 1]) = [(0, 2)] := by decide +kernel
theorem settle_ex2 : settleF 3 (rowOf 0 [4, 2, 1]) = [(0, 4), (4, 6), (6, 7)] := by decide +kernel
theorem settle_ex3 : settleF 4 (rowOf 0 [4, 2, 1, 1]) = [(0, 8)] := by decide +kernel
theorem tier_ex : tierOf 1 4 = 1 := by decide +kernel

/-- a row of small numbers, settled. -/
theorem rowsettle (ks : List Int) (zs : List (Int × Int)) (hz : settleF ks.length (rowOf 0 ks) = zs) (hn : ks.length ≤ 100000) (v : Value) (w w' : World) (h : w'.ownsRow w.heap.size 23 2 v ks.length (spanCells (rowOf 0 ks))) (hrow : (∀ s ∈ rowOf 0 ks, s.2 ≤ 9223372036854775807)) :
    Calls Tryd.prog 28 #[v] w' (Gives w' 23 2 zs.length (spanCells zs)) := by
  have hl := rowOf_len ks 0
  have := settle_any v (rowOf 0 ks) w' (by rw [hl]; exact Rd.of_own h) hrow (by omega)
  rw [hl, hz] at this
  exact this

set_option maxHeartbeats 400000 in
theorem knows_any (w : World) : Calls Tryd.prog 10 #[] w fun e w' => e = .returned (.bool true) ∧ Below w.heap.size w w' := by
  go_enter Tryd.func10, Tryd.ntmps10
  go_wp2_with fail
  refine (row_any _ [1, 1] _ (rd_new w #[.int .i64 1, .int .i64 1] _ 1 2 rfl (by decide) (by omega)) (by simp) (by simp)).mono ?_
  rintro e w1 ⟨v1, rfl, hown1, hb1⟩
  go_wp2_with fail
  refine (rowsettle [1, 1] [(0, 2)] settle_ex1 (by simp) v1 _ w1 hown1 (by simp [rowOf])).mono ?_
  rintro e w2 ⟨v2, rfl, hown2, hb2⟩
  have B2 : Below w.heap.size w w2 := (((Below.refl _ _).alloc (Nat.le_refl _) _).trans (hb1.mono (by simp))).trans (hb2.mono (by have := hb1.size; simp at this; omega))
  clear hown1 hb1 hb2
  go_wp2_with fail
  refine (row_any _ [4, 2, 1] _ (rd_new w2 #[.int .i64 4, .int .i64 2, .int .i64 1] _ 1 3 rfl (by decide) (by omega)) (by simp) (by simp)).mono ?_
  rintro e w3 ⟨v3, rfl, hown3, hb3⟩
  go_wp2_with fail
  refine (rowsettle [4, 2, 1] [(0, 4), (4, 6), (6, 7)] settle_ex2 (by simp) v3 _ w3 hown3 (by simp [rowOf])).mono ?_
  rintro e w4 ⟨v4, rfl, hown4, hb4⟩
  have C4 : Below w2.heap.size w2 w4 := (((Below.refl _ _).alloc (Nat.le_refl _) _).trans (hb3.mono (by simp))).trans (hb4.mono (by have := hb3.size; simp at this; omega))
  clear hown3 hb3 hb4
  go_wp2_with fail
  refine (row_any _ [4, 2, 1, 1] _ (rd_new w4 #[.int .i64 4, .int .i64 2, .int .i64 1, .int .i64 1] _ 1 4 rfl (by decide) (by omega)) (by simp) (by simp)).mono ?_
  rintro e w5 ⟨v5, rfl, hown5, hb5⟩
  go_wp2_with fail
  refine (rowsettle [4, 2, 1, 1] [(0, 8)] settle_ex3 (by simp) v5 _ w5 hown5 (by simp [rowOf])).mono ?_
  rintro e w6 ⟨v6, rfl, hown6, hb6⟩
  have C6 : Below w4.heap.size w4 w6 := (((Below.refl _ _).alloc (Nat.le_refl _) _).trans (hb5.mono (by simp))).trans (hb6.mono (by have := hb5.size; simp at this; omega))
  clear hown5 hb5 hb6
  have o4 := own_below hown4 C6
  have o2 := own_below (own_below hown2 C4) C6
  have B6 := (B2.trans (C4.mono B2.size)).trans (C6.mono (Nat.le_trans B2.size C4.size))
  clear hown2 hown4 C4 C6 B2
  obtain ⟨g2, c2, rfl⟩ := own_form o2 (by simp)
  obtain ⟨g4, c4, rfl⟩ := own_form o4 (by simp)
  obtain ⟨g6, c6, rfl⟩ := own_form hown6 (by simp)
  have k2 := settle_cells o2 0 (by simp)
  have k6 := settle_cells hown6 0 (by simp)
  clear o2 o4 hown6
  have ht := tier_any 1 4 w6 (by omega)
  rw [tier_ex] at ht
  have HT := Lib.hid ht; clear ht
  go_wp2_with (go_at_call 30; refine HT.out.mono ?_; rintro e w7 ⟨rfl, hb7⟩)
  go_ret
  exact ⟨rfl, B6.trans (hb7.mono B6.size)⟩
end Go.Proofs.YteegbjjpjdlcmaaDoor
