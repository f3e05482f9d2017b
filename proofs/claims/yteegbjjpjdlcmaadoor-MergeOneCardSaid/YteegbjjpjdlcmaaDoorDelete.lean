/- slices.Delete of one span out of a row of the call's own. -/
import Derived.Test.YteegbjjpjdlcmaaDoorInPlace
import Derived.Test.YteegbjjpjdlcmaaDoorNext
import Derived.Test.YteegbjjpjdlcmaaDoorClone
namespace Go.Proofs.YteegbjjpjdlcmaaDoor
open Go.RowKit

theorem spanCells_one (xs : List (Int × Int)) : ∀ u ∈ spanCells xs, u.oneCell' = true := by
  intro u hu
  simp only [spanCells, List.mem_flatMap] at hu
  obtain ⟨s, _, hs⟩ := hu
  simp at hs
  rcases hs with rfl | rfl <;> rfl

theorem spanCells_append (xs ys : List (Int × Int)) : spanCells (xs ++ ys) = spanCells xs ++ spanCells ys := by simp [spanCells]

theorem spanCells_take (xs : List (Int × Int)) (p : Nat) (h : p ≤ xs.length) : (spanCells xs).take (p * 2) = spanCells (xs.take p) := by
  have h1 : spanCells xs = spanCells (xs.take p) ++ spanCells (xs.drop p) := by rw [← spanCells_append, List.take_append_drop]
  rw [h1, List.take_append_of_le_length (by rw [spanCells_len, List.length_take]; omega), List.take_of_length_le (by rw [spanCells_len, List.length_take]; omega)]

theorem spanCells_drop (xs : List (Int × Int)) (p : Nat) (h : p ≤ xs.length) : (spanCells xs).drop (p * 2) = spanCells (xs.drop p) := by
  have h1 : spanCells xs = spanCells (xs.take p) ++ spanCells (xs.drop p) := by rw [← spanCells_append, List.take_append_drop]
  rw [h1, List.drop_append_of_le_length (by rw [spanCells_len, List.length_take]; omega), List.drop_of_length_le (by rw [spanCells_len, List.length_take]; omega)]
  rfl

theorem zeroSpan (w : World) : (zeroValue 23).run Tryd.prog w = .ok (.agg #[.int .i64 0, .int .i64 0]) w := by kernel_rfl

theorem zeroSpan_one : ∀ u ∈ (Value.agg #[.int .i64 0, .int .i64 0]).cells.toList, u.oneCell' = true := by
  intro u hu
  simp [Value.cells] at hu
  subst hu; rfl

def DelPost (base g cap : Nat) (xs : List (Int × Int)) (p : Nat) (w : World) (e : Ending) (w' : World) : Prop :=
  e = .returned (.slice (some ⟨g, 0, none⟩) (xs.length - 1) cap) ∧ w'.ownsRow base 23 2 (.slice (some ⟨g, 0, none⟩) (xs.length - 1) cap) (xs.length - 1) (spanCells (xs.take p ++ xs.drop (p + 1))) ∧ Below g w w'

set_option maxHeartbeats 400000 in
theorem delete_any (base g cap p : Nat) (xs : List (Int × Int)) (w : World) (hown : w.ownsRow base 23 2 (.slice (some ⟨g, 0, none⟩) xs.length cap) xs.length (spanCells xs)) (hp : p < xs.length) :
    Calls Tryd.prog 55 #[.slice (some ⟨g, 0, none⟩) xs.length cap, .int .i64 p, .int .i64 (p + 1)] w (DelPost base g cap xs p w) := by
  obtain ⟨i0, hi, hz0, hz1, hz2⟩ := info_parts infoSpan
  obtain ⟨hnc, hcm, hbg, hgs⟩ := own_parts hown
  unfold maxLen at hcm
  have htk := own_take hown (Nat.le_of_lt hp)
  obtain ⟨A, hA, hsrc⟩ : ∃ A : Addr, (if cap = p + 1 then (⟨g, 0, none⟩ : Addr) else ⟨g, (p + 1) * 2, none⟩) = A ∧ Hid (∀ t u, (spanCells (xs.drop (p + 1)))[t]? = some u → w.drew.cell? (A.add t) = some u) := by
    refine ⟨_, rfl, ?_⟩
    intro t u hu
    by_cases h : cap = p + 1
    · rw [List.drop_of_length_le (by omega)] at hu
      simp [spanCells] at hu
    · rw [if_neg h, Addr.add_lit]
      rw [← spanCells_drop xs (p + 1) (by omega), List.getElem?_drop] at hu
      have hlt : (p + 1) * 2 + t < xs.length * 2 := by rw [← spanCells_len]; exact (List.getElem?_eq_some_iff.1 hu).1
      have := hown.cellAt ((p + 1) * 2 + t) hlt
      exact this.trans hu
  have s1 : Hid ((spanCells (xs.drop (p + 1))).length = (xs.length - (p + 1)) * 2) := by show _ = _; rw [spanCells_len, List.length_drop]
  have s2 := Lib.hid (spanCells_one (xs.drop (p + 1)))
  have s3 := Lib.hid hown
  have s4 := Lib.hid htk.drew
  have hne : ((p : Int) == (p : Int) + 1) = false := by simp; omega
  have H6 : Hid (xs.length = (p + (xs.length - (p + 1))) + 1) := by show _ = _; omega
  have HF : Hid (spanCells (xs.take p ++ xs.drop (p + 1)) = (spanCells xs).take (p * 2) ++ spanCells (xs.drop (p + 1))) := by
    show _ = _
    rw [spanCells_append, spanCells_take xs p (by omega)]
  clear hown htk
  have hpc : p ≤ cap := by omega
  have hpx : p + 1 ≤ xs.length := by omega
  have hpcc : p + 1 ≤ cap := by omega
  have hp0i : (0 : Int) ≤ (p : Int) + 1 := by omega
  have hp1i : (p : Int) + 1 ≤ (xs.length : Int) := by omega
  by_cases hcp : cap = p + 1
  · rw [if_pos hcp] at hA
    subst hA
    subst hcp
    have hl : xs.length = p + 1 := by omega
    have HL := Lib.hid hl; clear hl
    have HD : Hid (xs.drop (p + 1) = []) := List.drop_of_length_le hnc
    have hpi : (p : Int) ≤ (p : Int) + 1 := by omega
    have hpj : ¬ (p : Int) + 1 = (p : Int) := by omega
    clear hsrc s1 s2
    go_enter Tryd.func55, Tryd.ntmps55
    go_wp2_with fail
    go_region_law (refine step_app_fits rfl (.tmp 22) (.tmp 25) 65 rfl base 23 i0 2 Tryd.underlying65 hi hz1 g p (p + 1) _ (by simp [Act.eval, Act.put]) s4.out ⟨g, 0, none⟩ 0 0 [] (by simp [Act.eval, Act.put]) rfl (by simp) (by simp) (by omega) ?_; intro w1 hown1 hgr1)
    have q1 : (0 : Int) ≤ (p : Int) := by omega
    have q2 : p ≤ xs.length := by omega
    go_wp2_with (refine wpList_clear_own (o := ⟨none, _, _, _, _, _⟩) (by rfl) (.tmp 31) 65 (by rfl) base 23 (.agg #[.int .i64 0, .int .i64 0]) 2 Tryd.underlying65 zeroSpan rfl zeroSpan_one (by omega) g p (p + 1) _ hown1 p (xs.length - p) 1 (by rfl) (Nat.le_refl _) (by omega) (by omega) ?_; intro w2 hown2 hgr2)
    go_ret
    have hb : Below g w w2 := ((Below.refl _ _).drew.grown hgr1 (Nat.le_of_lt hgs) (by intro k hk; simp at hk; omega)).grown hgr2 (Nat.le_trans (Nat.le_of_lt hgs) hgr1.size) (by intro k hk; simp at hk; omega)
    have hx : p = xs.length - 1 := by have := HL.out; omega
    refine ⟨?_, ?_, hb⟩
    · rw [← hx]; rfl
    · rw [HF.out, HD.out, ← hx]; exact hown2
  · rw [if_neg hcp] at hA
    subst hA
    go_enter Tryd.func55, Tryd.ntmps55
    go_wp2_with fail
    go_region_law (refine step_app_fits rfl (.tmp 22) (.tmp 25) 65 rfl base 23 i0 2 Tryd.underlying65 hi hz1 g p cap _ (by simp [Act.eval, Act.put]) s4.out _ (xs.length - (p + 1)) (cap - (p + 1)) (spanCells (xs.drop (p + 1))) (by simp [Act.eval, Act.put]) s1.out hsrc.out s2.out (by omega) ?_; intro w1 hown1 hgr1)
    have q1 : (0 : Int) ≤ (p : Int) + ((xs.length - (p + 1) : Nat) : Int) := by omega
    have q2 : p + (xs.length - (p + 1)) ≤ xs.length := by omega
    have q3 : xs.length ≤ cap := hnc
    have q4 : ¬ cap = p + (xs.length - (p + 1)) := by omega
    go_wp2_with (refine wpList_clear_own (o := ⟨none, _, _, _, _, _⟩) (by rfl) (.tmp 31) 65 (by rfl) base 23 (.agg #[.int .i64 0, .int .i64 0]) 2 Tryd.underlying65 zeroSpan rfl zeroSpan_one (by omega) g (p + (xs.length - (p + 1))) cap _ hown1 (p + (xs.length - (p + 1))) (xs.length - (p + (xs.length - (p + 1)))) (cap - (p + (xs.length - (p + 1)))) (by rfl) (Nat.le_refl _) (by omega) (by omega) ?_; intro w2 hown2 hgr2)
    go_ret
    have hb : Below g w w2 := ((Below.refl _ _).drew.grown hgr1 (Nat.le_of_lt hgs) (by intro k hk; simp at hk; omega)).grown hgr2 (Nat.le_trans (Nat.le_of_lt hgs) hgr1.size) (by intro k hk; simp at hk; omega)
    have hx : p + (xs.length - (p + 1)) = xs.length - 1 := by have := H6.out; omega
    rw [hx] at hown2
    refine ⟨?_, ?_, hb⟩
    · rw [← hx]; rfl
    · rw [HF.out]; exact hown2
end Go.Proofs.YteegbjjpjdlcmaaDoor
