/- rubricklaw10.Great, dict.Right, segm.whole. -/
import Derived.Test.YteegbjjpjdlcmaaGreatDoorDictLaw
import Derived.Test.YteegbjjpjdlcmaaGreatDoorPost
import Derived.Sort.Walk0
import Derived.WalkLawsBesides
import Derived.Shelf.Abstract
set_option linter.unusedVariables false
namespace Go.Proofs.YteegbjjpjdlcmaaGreatDoor
open Go.RowKit Go.Sort

theorem less_is' (x y : List UInt8) : Op.bytesLess (bstr x).toList (bstr y).toList = ltStr x y := by
  rw [btoList, btoList, bytesLess_eq]; rfl

/-- what the cells of a row of entries are. -/
def ECells (w : World) (d : List Ent) (cells : List Value) : Prop :=
  ∀ i (hi : i < d.length), cells[i * 2]? = some (str d[i].1) ∧ ∃ dv, cells[i * 2 + 1]? = some dv ∧ Rd w dv d[i].2.length 1 (icells d[i].2)
/-- a slice of n entries that can be read. -/
def DRd (w : World) (v : Value) (n : Nat) (d : List Ent) : Prop := d.length = n ∧ ∃ cells, Rd w v n 2 cells ∧ ECells w d cells

theorem DRd.below {w w' : World} {v : Value} {n : Nat} {d : List Ent} (h : DRd w v n d) (hb : Below w.heap.size w w') : DRd w' v n d := by
  obtain ⟨hl, cells, h1, h2⟩ := h
  refine ⟨hl, cells, h1.below hb, fun i hi => ?_⟩
  obtain ⟨g1, dv, g2, g3⟩ := h2 i hi
  exact ⟨g1, dv, g2, g3.below hb⟩

theorem dict_cells {w : World} {v : Value} {n : Nat} {d : List Ent} (h : DRd w v n d) :
    ∃ ao c, v = .slice ao n c ∧ n ≤ 9223372036854775807 ∧ Hid (∀ i (hi : i < d.length), ∃ b off da dc, ao = some ⟨b, off, none⟩ ∧ w.cell? ⟨b, off + i * 2, none⟩ = some (str d[i].1) ∧ w.cell? ⟨b, off + i * 2 + 1, none⟩ = some (.slice da d[i].2.length dc) ∧ Rd w (.slice da d[i].2.length dc) d[i].2.length 1 (icells d[i].2)) := by
  obtain ⟨hl, cells, ⟨hcl, hm, hh⟩, hE⟩ := h
  rcases hh with ⟨ao, c, rfl, h0⟩ | ⟨b, off, c, rfl, h0, hnc, hcm, hcell⟩
  · exact ⟨ao, c, by rw [h0], by unfold maxLen at hm; omega, fun i hi => by omega⟩
  · refine ⟨_, c, rfl, by unfold maxLen at hm; omega, fun i hi => ?_⟩
    obtain ⟨g1, dv, g2, g3⟩ := hE i hi
    obtain ⟨da, dc, rfl⟩ : ∃ da dc, dv = .slice da d[i].2.length dc := by
      obtain ⟨a, c, h, -⟩ := ints_cells rfl g3
      exact ⟨a, c, h⟩
    exact ⟨b, off, da, dc, rfl, hcell _ _ g1, by rw [Nat.add_assoc]; exact hcell _ _ g2, g3⟩

set_option maxRecDepth 100000 in
set_option maxHeartbeats 1000000 in
theorem whole_any (f t : Int) (w : World) : Calls Tryz.prog 24 #[.agg #[.int .i64 f, .int .i64 t]] w fun e w' => e = .returned (.bool (wholeB f t)) ∧ Below w.heap.size w w' := by
  have hb : Below w.heap.size w (w.alloc (.cells #[.int .i64 f, .int .i64 t] 26)) := (Below.refl _ _).alloc (Nat.le_refl _) _
  by_cases h1 : 0 ≤ f
  · by_cases h2 : f < t
    · by_cases h3 : t ≤ 1000
      · have hr : Hid (wholeB f t = true) := by show _ = _; simp [wholeB, h1, h2, h3]
        go_enter Tryz.func24, Tryz.ntmps24
        go_wp2
        go_ret
        exact ⟨by rw [hr.out]; first | rfl | simp [h1, h2, h3], hb⟩
      · have hr : Hid (wholeB f t = false) := by show _ = _; simp [wholeB, h3]
        go_enter Tryz.func24, Tryz.ntmps24
        go_wp2
        go_ret
        exact ⟨by rw [hr.out]; first | rfl | simp [h1, h2, h3], hb⟩
    · have hr : Hid (wholeB f t = false) := by show _ = _; simp [wholeB, h2]
      go_enter Tryz.func24, Tryz.ntmps24
      go_wp2
      go_ret
      exact ⟨by rw [hr.out]; first | rfl | simp [h1, h2], hb⟩
  · have hr : Hid (wholeB f t = false) := by show _ = _; simp [wholeB, h1]
    go_enter Tryz.func24, Tryz.ntmps24
    go_wp2
    go_ret
    exact ⟨by rw [hr.out]; first | rfl | simp [h1], hb⟩
end Go.Proofs.YteegbjjpjdlcmaaGreatDoor
