/- rubricklaw10.Great, dict.Right, segm.whole. -/
import Derived.Test.YteegbjjpjdlcmaaDoorDictLaw
import Derived.Test.YteegbjjpjdlcmaaDoorPost
import Derived.Sort.Walk0
import Derived.WalkLawsBesides
import Derived.Shelf.Abstract
set_option linter.unusedVariables false
namespace Go.Proofs.YteegbjjpjdlcmaaDoor
open Go.RowKit Go.Sort

theorem less_is' (x y : List UInt8) : Op.bytesLess (bstr x).toList (bstr y).toList = ltStr x y := by
  rw [btoList, btoList, bytesLess_eq]; rfl

/-- what the cells of a row of entries are. -/
def ECells (w : World) (d : List Ent) (cells : List Value) : Prop :=
  ∀ i (hi : i < d.length), cells[i * 2]? = some (str d[i].1) ∧ ∃ dv, cells[i * 2 + 1]? = some dv ∧ Rd w dv d[i].2.length 1 (icells d[i].2)
/-- a slice of n entries that can be read. -/
def DRd (w : World) (v : Value) (n : Nat) (d : List Ent) : Prop := d.length = n ∧ ∃ cells, Rd w v n 2 cells ∧ ECells w d cells

theorem DRd.below {w w' : World} {v : Value} {n : Nat} {d : List Ent} (h : DRd w v n d) (hb : Below w.heap.size w w') : DRd w' v n d := by
  obtain ⟨hl, cells, h1, h2⟩ := h
  refine ⟨hl, cells, h1.below hb, fun i hi => ?_⟩
  obtain ⟨g1, dv, g2, g3⟩ := h2 i hi
  exact ⟨g1, dv, g2, g3.below hb⟩

theorem dict_cells {w : World} {v : Value} {n : Nat} {d : List Ent} (h : DRd w v n d) :
    ∃ ao c, v = .slice ao n c ∧ n ≤ 9223372036854775807 ∧ Hid (∀ i (hi : i < d.length), ∃ b off da dc, ao = some ⟨b, off, none⟩ ∧ w.cell? ⟨b, off + i * 2, none⟩ = some (str d[i].1) ∧ w.cell? ⟨b, off + i * 2 + 1, none⟩ = some (.slice da d[i].2.length dc) ∧ Rd w (.slice da d[i].2.length dc) d[i].2.length 1 (icells d[i].2)) := by
  obtain ⟨hl, cells, ⟨hcl, hm, hh⟩, hE⟩ := h
  rcases hh with ⟨ao, c, rfl, h0⟩ | ⟨b, off, c, rfl, h0, hnc, hcm, hcell⟩
  · exact ⟨ao, c, by rw [h0], by unfold maxLen at hm; omega, fun i hi => by omega⟩
  · refine ⟨_, c, rfl, by unfold maxLen at hm; omega, fun i hi => ?_⟩
    obtain ⟨g1, dv, g2, g3⟩ := hE i hi
    obtain ⟨da, dc, rfl⟩ : ∃ da dc, dv = .slice da d[i].2.length dc := by
      obtain ⟨a, c, h, -⟩ := ints_cells rfl g3
      exact ⟨a, c, h⟩
    exact ⟨b, off, da, dc, rfl, hcell _ _ g1, by rw [Nat.add_assoc]; exact hcell _ _ g2, g3⟩

def great10 (d : List Ent) : Bool := (d.any fun e => decide (200 < e.1.length) || decide (200 < e.2.length)) || decide (100 < d.length)

set_option maxRecDepth 100000 in
set_option maxHeartbeats 4000000 in
theorem great10_any (v : Value) (n : Nat) (d : List Ent) (w : World) (h : DRd w v n d) :
    Calls Tryd.prog 9 #[v] w fun e w' => e = .returned (.bool (great10 d)) ∧ w = w' := by
  have hl := h.1
  obtain ⟨ao, c, rfl, hm, HC⟩ := dict_cells h
  have HL := Lib.hid hl
  clear h hl
  go_enter Tryd.func9, Tryd.ntmps9
  go_wp2
  go_loopw [3] (fun i wr => ∃ k : Nat, k ≤ n ∧ i = .int .i64 k ∧ Hid (∀ j (hj : j < d.length), j < k → d[j].1.length ≤ 200 ∧ d[j].2.length ≤ 200) ∧ wr = w) (fun i _ => n - (intOf i).toNat)
  case atStart => exact ⟨0, Nat.zero_le _, rfl, fun j hj h => by omega, by first | rfl | trivial⟩
  case round =>
    obtain ⟨k, hk, rfl, HA, rfl⟩ := hrel
    by_cases hlt : k < n
    · have hkd : k < d.length := by have := HL.out; omega
      obtain ⟨b, off, da, dc, rfl, c1, c2, -⟩ := HC.out k hkd
      have ki : (k : Int) < (n : Int) := by omega
      have HY : Hid (200 < d[k].1.length ∨ 200 < d[k].2.length → great10 d = true) := fun h => by
        unfold great10
        rw [Bool.or_eq_true, List.any_eq_true]
        exact .inl ⟨d[k], List.getElem_mem hkd, by simpa using h⟩
      have HN : Hid (d[k].1.length ≤ 200 → d[k].2.length ≤ 200 → ∀ j (hj : j < d.length), j < k + 1 → d[j].1.length ≤ 200 ∧ d[j].2.length ≤ 200) := fun g1 g2 j hj h => by
        by_cases e : j = k
        · subst e; exact ⟨g1, g2⟩
        · exact HA.out j hj (by omega)
      have s1 := size_bstr d[k].1
      generalize d[k].2.length = m at *
      obtain ⟨t, ht⟩ : ∃ t, t = d[k].1 := ⟨_, rfl⟩
      rw [← ht] at c1 s1 HY HN
      unfold str at c1
      clear ht
      by_cases h1 : 200 < t.length
      · have i1 : (200 : Int) < (t.length : Int) := by omega
        have HR := Lib.hid (HY.out (.inl h1))
        go_wp2
        go_ret
        exact ⟨by rw [HR.out]; rfl, rfl⟩
      · have i1 : ¬ (200 : Int) < (t.length : Int) := by omega
        by_cases h2 : 200 < m
        · have i2 : (200 : Int) < (m : Int) := by omega
          have HR := Lib.hid (HY.out (.inr h2))
          go_wp2
          go_ret
          exact ⟨by rw [HR.out]; rfl, rfl⟩
        · have i2 : ¬ (200 : Int) < (m : Int) := by omega
          have HR := Lib.hid (HN.out (by omega) (by omega))
          go_wp2
          go_roundw
          case rel => exact ⟨k + 1, by omega, by go_num, HR.out, by first | rfl | trivial⟩
          case measure => simp [intOf]; omega
    · have ki : ¬ (k : Int) < (n : Int) := by omega
      have hany : (d.any fun e => decide (200 < e.1.length) || decide (200 < e.2.length)) = false := by
        rw [List.any_eq_false]
        intro e he
        obtain ⟨j, hj, rfl⟩ := List.mem_iff_getElem.1 he
        have := HA.out j hj (by have := HL.out; omega)
        simp only [Bool.or_eq_true, decide_eq_true_eq]
        omega
      have hr : great10 d = decide (100 < n) := by unfold great10; rw [hany, HL.out]; rfl
      have HR := Lib.hid hr
      clear hr hany
      by_cases h100 : 100 < n
      · have i1 : (100 : Int) < (n : Int) := by omega
        go_wp2
        go_ret
        exact ⟨by rw [HR.out, decide_eq_true h100]; first | rfl | simp [i1], rfl⟩
      · have i1 : ¬ (100 : Int) < (n : Int) := by omega
        go_wp2
        go_ret
        exact ⟨by rw [HR.out, decide_eq_false h100]; first | rfl | simp [i1], rfl⟩

set_option maxRecDepth 100000 in
set_option maxHeartbeats 1000000 in
theorem whole_any (f t : Int) (w : World) : Calls Tryd.prog 56 #[.agg #[.int .i64 f, .int .i64 t]] w fun e w' => e = .returned (.bool (wholeB f t)) ∧ Below w.heap.size w w' := by
  have hb : Below w.heap.size w (w.alloc (.cells #[.int .i64 f, .int .i64 t] 23)) := (Below.refl _ _).alloc (Nat.le_refl _) _
  by_cases h1 : 0 ≤ f
  · by_cases h2 : f < t
    · by_cases h3 : t ≤ 1000
      · have hr : Hid (wholeB f t = true) := by show _ = _; simp [wholeB, h1, h2, h3]
        go_enter Tryd.func56, Tryd.ntmps56
        go_wp2
        go_ret
        exact ⟨by rw [hr.out]; first | rfl | simp [h1, h2, h3], hb⟩
      · have hr : Hid (wholeB f t = false) := by show _ = _; simp [wholeB, h3]
        go_enter Tryd.func56, Tryd.ntmps56
        go_wp2
        go_ret
        exact ⟨by rw [hr.out]; first | rfl | simp [h1, h2, h3], hb⟩
    · have hr : Hid (wholeB f t = false) := by show _ = _; simp [wholeB, h2]
      go_enter Tryd.func56, Tryd.ntmps56
      go_wp2
      go_ret
      exact ⟨by rw [hr.out]; first | rfl | simp [h1, h2], hb⟩
  · have hr : Hid (wholeB f t = false) := by show _ = _; simp [wholeB, h1]
    go_enter Tryd.func56, Tryd.ntmps56
    go_wp2
    go_ret
    exact ⟨by rw [hr.out]; first | rfl | simp [h1], hb⟩
end Go.Proofs.YteegbjjpjdlcmaaDoor
