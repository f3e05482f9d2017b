/- merge.Next: the first of two spans to merge. -/
import Derived.Test.YteegbjjpjdlcmaaDoorMem
import Derived.Test.YteegbjjpjdlcmaaDoorTier
import Derived.BigQuiet
namespace Go.Proofs.YteegbjjpjdlcmaaDoor
open Go.RowKit Go.Sort

def spanCells (xs : List (Int × Int)) : List Value := xs.flatMap fun s => [.int .i64 s.1, .int .i64 s.2]

theorem spanCells_len (xs : List (Int × Int)) : (spanCells xs).length = xs.length * 2 := by
  induction xs with
  | nil => rfl
  | cons x xs ih => simp [spanCells] at ih ⊢; omega

theorem spanCells_from (xs : List (Int × Int)) (k : Nat) (h : k < xs.length) : (spanCells xs)[k * 2]? = some (.int .i64 xs[k].1) ∧ (spanCells xs)[k * 2 + 1]? = some (.int .i64 xs[k].2) := by
  induction xs generalizing k with
  | nil => simp at h
  | cons x xs ih =>
    cases k with
    | zero => simp [spanCells]
    | succ k =>
      have := ih k (by simpa using h)
      simp only [List.getElem_cons_succ]
      rw [← this.1, ← this.2]
      simp only [spanCells, List.flatMap_cons]
      constructor
      · rw [show (k + 1) * 2 = k * 2 + 2 from by omega]; simp
      · rw [show (k + 1) * 2 + 1 = (k * 2 + 1) + 2 from by omega]; simp

theorem spanCells_at {w : World} {xs : List (Int × Int)} {b off : Nat} (hcell : ∀ i u, (spanCells xs)[i]? = some u → w.cell? ⟨b, off + i, none⟩ = some u) (k : Nat) (hk : k < xs.length) :
    w.cell? ⟨b, off + k * 2, none⟩ = some (.int .i64 xs[k].1) ∧ w.cell? ⟨b, off + k * 2 + 1, none⟩ = some (.int .i64 xs[k].2) :=
  ⟨hcell _ _ (spanCells_from xs k hk).1, hcell _ _ (spanCells_from xs k hk).2⟩

def tierAt (xs : List (Int × Int)) (k : Nat) : Int := match xs[k]? with | some s => tierOf s.1 s.2 | none => 0

def nextFrom (xs : List (Int × Int)) : Nat → Int × Bool
  | 0 => (0, false)
  | k + 1 => if tierAt xs k ≤ tierAt xs (k + 1) then (k, true) else nextFrom xs k

def nextOf (xs : List (Int × Int)) : Int × Bool := nextFrom xs (xs.length - 1)

theorem tierAt_of (xs : List (Int × Int)) (k : Nat) (h : k < xs.length) : tierAt xs k = tierOf xs[k].1 xs[k].2 := by
  unfold tierAt; rw [List.getElem?_eq_getElem h]

theorem tierOf_bd (a b : Int) : -1 ≤ tierOf a b ∧ tierOf a b ≤ 64 := by
  unfold tierOf; have := halve_le 64 (b - a); split <;> omega

set_option maxHeartbeats 400000 in
theorem next_any (v : Value) (xs : List (Int × Int)) (w : World) (h : Rd w v xs.length 2 (spanCells xs)) (hb : ∀ s ∈ xs, s.2 ≤ 9223372036854775807) :
    Calls Tryd.prog 54 #[v] w fun e w' => e = .returned (.tuple #[.int .i64 (nextOf xs).1, .bool (nextOf xs).2]) ∧ Below w.heap.size w w' := by
  obtain ⟨-, hm, ⟨ao, c, rfl, hn⟩ | ⟨b, off, c, rfl, h0, hnc, hcm, hcell⟩⟩ := h
  · have hx : xs = [] := List.length_eq_zero_iff.1 hn
    subst hx
    go_enter Tryd.func54, Tryd.ntmps54
    go_wp2
    refine wp_loop_rounds 1 ?_; rw [rounds_succ]
    go_wp2
    go_ret2
    exact ⟨rfl, Below.refl _ _⟩
  · unfold maxLen at hm hcm
    go_enter Tryd.func54, Tryd.ntmps54
    go_wp2
    go_loopw [4] (fun i wr => ∃ q : Int, -2 ≤ q ∧ q ≤ (xs.length : Int) - 2 ∧ nextOf xs = nextFrom xs (q + 1).toNat ∧ i = .int .i64 q ∧ Below w.heap.size w wr) (fun i _ => (intOf i + 2).toNat)
    case atStart => exact ⟨(xs.length : Int) - 2, by omega, by omega, by unfold nextOf; congr 1; omega, rfl, Below.refl _ _⟩
    case round =>
      obtain ⟨q, hq1, hq2, hn, rfl, hbel⟩ := hrel
      have HN := Lib.hid hn; clear hn
      by_cases hq0 : 0 ≤ q
      · obtain ⟨k, rfl⟩ := Int.eq_ofNat_of_zero_le hq0
        have hk : k + 1 < xs.length := by omega
        have cells := fun i (hi : i < xs.length) => spanCells_at hcell i hi
        have r1 := cell_regrown ((hbel.cell (World.block_lt_of_cell? w _ (cells k (by omega)).1)).trans (cells k (by omega)).1)
        have r2 := cell_regrown ((hbel.cell (World.block_lt_of_cell? w _ (cells k (by omega)).2)).trans (cells k (by omega)).2)
        have r3 := cell_regrown ((hbel.cell (World.block_lt_of_cell? w _ (cells (k + 1) hk).1)).trans (cells (k + 1) hk).1)
        have r4 := cell_regrown ((hbel.cell (World.block_lt_of_cell? w _ (cells (k + 1) hk).2)).trans (cells (k + 1) hk).2)
        have b1 := hb xs[k] (List.getElem_mem _)
        have b2 := hb xs[k + 1] (List.getElem_mem _)
        have t1 := tierAt_of xs k (by omega)
        have t2 := tierAt_of xs (k + 1) (by omega)
        have T1 := fun d os => Calls.regrown_of (tier_any xs[k].1 xs[k].2 (grow (redrawn wr d) os) b1)
        have T2 := fun d os => Calls.regrown_of (tier_any xs[k + 1].1 xs[k + 1].2 (grow (redrawn wr d) os) b2)
        have i1 : (0 : Int) ≤ (k : Int) := by omega
        have i2 : (k : Int) < (xs.length : Int) := by omega
        have i3 : (0 : Int) ≤ (k : Int) + 1 := by omega
        have i4 : (k : Int) + 1 < (xs.length : Int) := by omega
        clear cells
        have TT1 := Lib.hid t1; have TT2 := Lib.hid t2
        clear t1 t2 hcell hb
        go_wp2_with fail
        refine wp_region_quiet_below (by kernel_rfl) (by kernel_rfl) ?_
        repeat (go_big_quiet_step (first | (go_at_call 30; with_reducible exact T1 _ _) | (go_at_call 30; with_reducible exact T2 _ _)))
        refine wpQuiet_nil ?_
        intro _ hw'
        obtain ⟨⟨dq, osq⟩, hw''⟩ := hw'
        have hbq : Below w.heap.size w (grow (redrawn wr dq) osq) := hbel.trans ((below_regrown wr dq osq).mono hbel.size)
        rw [← hw''] at hbq
        clear hw'' r1 r2 r3 r4 T1 T2
        go_wp2
        · go_ret2
          have hle : tierOf xs[k].1 xs[k].2 ≤ tierOf xs[k + 1].1 xs[k + 1].2 := by assumption
          refine ⟨?_, hbq⟩
          rw [HN.out, show ((k : Int) + 1).toNat = k + 1 from by omega]
          simp only [nextFrom]
          rw [TT1.out, TT2.out, if_pos hle]
          rfl
        · go_roundw
          case rel =>
            have hle : tierOf xs[k + 1].1 xs[k + 1].2 < tierOf xs[k].1 xs[k].2 := by assumption
            refine ⟨(k : Int) - 1, by omega, by omega, ?_, rfl, hbq⟩
            rw [HN.out, show ((k : Int) + 1).toNat = k + 1 from by omega, show ((k : Int) - 1 + 1).toNat = k from by omega]
            simp only [nextFrom]
            rw [TT1.out, TT2.out, if_neg (by omega)]
          case measure => simp [intOf]; omega
      · go_wp2
        go_ret2
        refine ⟨?_, hbel⟩
        rw [HN.out, show (q + 1).toNat = 0 from by omega]
        rfl
end Go.Proofs.YteegbjjpjdlcmaaDoor
