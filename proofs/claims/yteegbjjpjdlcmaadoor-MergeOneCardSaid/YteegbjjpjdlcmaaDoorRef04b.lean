/- rubrickref04.begins, Decode; rubrickref05.Right. -/
import Derived.Test.YteegbjjpjdlcmaaDoorRef04a
import Derived.Test.YteegbjjpjdlcmaaDoorRefLaw
import Derived.BigQuiet
import Derived.Lib.QuietBelow
set_option linter.unusedVariables false
namespace Go.Proofs.YteegbjjpjdlcmaaDoor
open Go.RowKit

theorem beg_bd (l : List UInt8) (n : Nat) : -250 ≤ beg l n 0 ∧ beg l n 0 ≤ 256 ∧ -20000 ≤ beg l n 1 ∧ beg l n 1 ≤ 20000 ∧ -1300000 ≤ beg l n 2 ∧ beg l n 2 ≤ 1300000 ∧ -90000000 ≤ beg l n 3 ∧ beg l n 3 ≤ 90000000 := by
  have h0 := chBd (l.getD 0 0)
  have h1 := chBd (l.getD 1 0)
  have h2 := chBd (l.getD 2 0)
  have h3 := chBd (l.getD 3 0)
  have hl : 0 ≤ lead n ∧ lead n ≤ 240 := by unfold lead; repeat' split
                                            all_goals decide
  simp only [beg]
  simp only [Nat.zero_add, Nat.reduceAdd]
  omega

theorem begins_bd (l : List UInt8) (n : Nat) (hn : n ≤ 4) : -90000000 ≤ begins l n ∧ begins l n ≤ 90000000 := by
  unfold begins
  split
  · decide
  · have := beg_bd l n
    have hc : n - 1 = 0 ∨ n - 1 = 1 ∨ n - 1 = 2 ∨ n - 1 = 3 := by omega
    rcases hc with h | h | h | h <;> rw [h] <;> omega

set_option maxHeartbeats 1000000 in
theorem begins_any (v : Value) (l : List UInt8) (n : Nat) (w : World) (h : Rd w v l.length 1 (bcells l)) (hl : 0 < l.length) (hn : 1 ≤ n) (hn4 : n ≤ 4) :
    Calls Tryd.prog 105 #[v, .int .i64 n] w fun e w' => e = .returned (.int .i64 (begins l n)) ∧ Below w.heap.size w w' := by
  obtain ⟨b, off, c, rfl, h1, h2, h3⟩ := bytes_cells h hl
  have HC := Lib.hid h3
  by_cases hlt : l.length < n
  · have hr : begins l n = -1 := by unfold begins; rw [if_pos hlt]
    rw [hr]
    have hlti : (l.length : Int) < (n : Int) := by omega
    clear h h3 HC hr
    go_enter Tryd.func105, Tryd.ntmps105
    go_wp2
    go_ret
    exact ⟨rfl, Below.refl _ _⟩
  · have hlti : ¬ (l.length : Int) < (n : Int) := by omega
    have hr : Hid (begins l n = beg l n (n - 1)) := by show _ = _; unfold begins; rw [if_neg hlt]
    have c0 := h3 0 hl
    rw [show off + 0 = off from rfl] at c0
    have hle : Hid (lead n = (if n = 2 then 192 else if n = 3 then 224 else if n = 4 then 240 else 0)) := rfl
    have hcc : n = 1 ∨ n = 2 ∨ n = 3 ∨ n = 4 := by omega
    have hb := beg_bd l n
    have HB := Lib.hid hb
    have hbeg0 : Hid (beg l n 0 = ch l[0] - lead n) := by
      show _ = _
      simp only [beg, List.getD, List.getElem?_eq_getElem hl, Option.getD_some]
    have h0i : (0 : Int) < (l.length : Int) := by omega
    have hlb := chBd l[0]
    generalize hx : l[0] = x0 at *
    clear h h3 hb
    have hWb : Below w.heap.size w (w.alloc (.cells #[.int .i64 0, .int .i64 0, .int .i64 192, .int .i64 224, .int .i64 240] 3)) := (Below.refl _ _).alloc (Nat.le_refl _) _
    have c0W := (hWb.cell (World.block_lt_of_cell? w _ c0)).trans c0
    have clW : ∀ j u, (#[.int .i64 0, .int .i64 0, .int .i64 192, .int .i64 224, .int .i64 240] : Array Value)[j]? = some u → (w.alloc (.cells #[.int .i64 0, .int .i64 0, .int .i64 192, .int .i64 224, .int .i64 240] 3)).cell? ⟨w.heap.size, j, none⟩ = some u := by
      intro j u hj
      rw [cell_of_row _ w.heap.size j _ _ _ (heap_alloc_new w _)]
      exact hj
    rcases hcc with rfl | rfl | rfl | rfl
    · have c1W := clW 1 (.int .i64 0) rfl
      have hl0 : lead 1 = 0 := rfl
      rw [hl0, Int.sub_zero] at hbeg0
      go_enter Tryd.func105, Tryd.ntmps105
      go_wp2_with fail
      generalize (w.alloc (.cells #[.int .i64 0, .int .i64 0, .int .i64 192, .int .i64 224, .int .i64 240] 3)) = W at *
      have r1 := cell_regrown c0W
      have r2 := cell_regrown c1W
      refine wp_region_quiet_below (by kernel_rfl) (by kernel_rfl) ?_
      repeat (go_big_quiet_step (fail))
      refine wpQuiet_nil ?_
      intro W2 hw'
      obtain ⟨⟨dq, osq⟩, hw''⟩ := hw'
      have hbq := hWb.trans ((below_regrown W dq osq).mono hWb.size)
      rw [← hw''] at hbq
      clear hw'' r1 r2 c0W c1W clW hWb c0
      rw [← hbeg0.out]
      go_wp2
      go_loopw [6, 7] (fun x i wr => ∃ (k : Nat), k + 1 ≤ 1 ∧ i = .int .i64 ((k + 1 : Nat) : Int) ∧ x = .int .i64 (beg l 1 k) ∧ Below w.heap.size w wr) (fun _ i _ => 1 - (intOf i).toNat)
      case atStart => exact ⟨0, by omega, rfl, rfl, hbq⟩
      case round =>
        obtain ⟨k, hk, rfl, rfl, hbel⟩ := hrel
        by_cases hkk : k + 1 < 1
        · exact absurd hkk (by omega)
        · have hk1 : k = 0 := by omega
          subst hk1
          go_wp2
          go_ret
          exact ⟨by rw [hr.out]; rfl, hbel⟩
    · have c1W := clW 2 (.int .i64 192) rfl
      have hl0 : lead 2 = 192 := rfl
      rw [hl0] at hbeg0
      go_enter Tryd.func105, Tryd.ntmps105
      go_wp2_with fail
      generalize (w.alloc (.cells #[.int .i64 0, .int .i64 0, .int .i64 192, .int .i64 224, .int .i64 240] 3)) = W at *
      have r1 := cell_regrown c0W
      have r2 := cell_regrown c1W
      refine wp_region_quiet_below (by kernel_rfl) (by kernel_rfl) ?_
      repeat (go_big_quiet_step (fail))
      refine wpQuiet_nil ?_
      intro W2 hw'
      obtain ⟨⟨dq, osq⟩, hw''⟩ := hw'
      have hbq := hWb.trans ((below_regrown W dq osq).mono hWb.size)
      rw [← hw''] at hbq
      clear hw'' r1 r2 c0W c1W clW hWb c0
      rw [← hbeg0.out]
      go_wp2
      go_loopw [6, 7] (fun x i wr => ∃ (k : Nat), k + 1 ≤ 2 ∧ i = .int .i64 ((k + 1 : Nat) : Int) ∧ x = .int .i64 (beg l 2 k) ∧ Below w.heap.size w wr) (fun _ i _ => 2 - (intOf i).toNat)
      case atStart => exact ⟨0, by omega, rfl, rfl, hbq⟩
      case round =>
        obtain ⟨k, hk, rfl, rfl, hbel⟩ := hrel
        by_cases hkk : k + 1 < 2
        · have hlk : k + 1 < l.length := by omega
          have ck0 := HC.out (k + 1) hlk
          have ck := (hbel.cell (World.block_lt_of_cell? w _ ck0)).trans ck0
          have hs : Hid (beg l 2 (k + 1) = beg l 2 k * 64 + ch l[k + 1] - 128) := by
            show _ = _
            simp only [beg, List.getD, List.getElem?_eq_getElem hlk, Option.getD_some]
          have hcb := chBd l[k + 1]
          have hbk : -1300000 ≤ beg l 2 k ∧ beg l 2 k ≤ 1300000 := by
            have := HB.out
            have hc : k = 0 ∨ k = 1 ∨ k = 2 := by omega
            rcases hc with h | h | h <;> rw [h] <;> omega
          have i1 : ((k + 1 : Nat) : Int) < 2 := by omega
          have i2 : ((k + 1 : Nat) : Int) < (l.length : Int) := by omega
          have i3 : (0 : Int) ≤ ((k + 1 : Nat) : Int) := by omega
          generalize l[k + 1] = y at *
          generalize beg l 2 k = g at *
          clear ck0
          go_wp2
          go_roundw
          case rel => exact ⟨k + 1, by omega, by go_num, by rw [hs.out], hbel⟩
          case measure => simp [intOf]; omega
        · have hk1 : k = 1 := by omega
          subst hk1
          go_wp2
          go_ret
          exact ⟨by rw [hr.out]; rfl, hbel⟩
    · have c1W := clW 3 (.int .i64 224) rfl
      have hl0 : lead 3 = 224 := rfl
      rw [hl0] at hbeg0
      go_enter Tryd.func105, Tryd.ntmps105
      go_wp2_with fail
      generalize (w.alloc (.cells #[.int .i64 0, .int .i64 0, .int .i64 192, .int .i64 224, .int .i64 240] 3)) = W at *
      have r1 := cell_regrown c0W
      have r2 := cell_regrown c1W
      refine wp_region_quiet_below (by kernel_rfl) (by kernel_rfl) ?_
      repeat (go_big_quiet_step (fail))
      refine wpQuiet_nil ?_
      intro W2 hw'
      obtain ⟨⟨dq, osq⟩, hw''⟩ := hw'
      have hbq := hWb.trans ((below_regrown W dq osq).mono hWb.size)
      rw [← hw''] at hbq
      clear hw'' r1 r2 c0W c1W clW hWb c0
      rw [← hbeg0.out]
      go_wp2
      go_loopw [6, 7] (fun x i wr => ∃ (k : Nat), k + 1 ≤ 3 ∧ i = .int .i64 ((k + 1 : Nat) : Int) ∧ x = .int .i64 (beg l 3 k) ∧ Below w.heap.size w wr) (fun _ i _ => 3 - (intOf i).toNat)
      case atStart => exact ⟨0, by omega, rfl, rfl, hbq⟩
      case round =>
        obtain ⟨k, hk, rfl, rfl, hbel⟩ := hrel
        by_cases hkk : k + 1 < 3
        · have hlk : k + 1 < l.length := by omega
          have ck0 := HC.out (k + 1) hlk
          have ck := (hbel.cell (World.block_lt_of_cell? w _ ck0)).trans ck0
          have hs : Hid (beg l 3 (k + 1) = beg l 3 k * 64 + ch l[k + 1] - 128) := by
            show _ = _
            simp only [beg, List.getD, List.getElem?_eq_getElem hlk, Option.getD_some]
          have hcb := chBd l[k + 1]
          have hbk : -1300000 ≤ beg l 3 k ∧ beg l 3 k ≤ 1300000 := by
            have := HB.out
            have hc : k = 0 ∨ k = 1 ∨ k = 2 := by omega
            rcases hc with h | h | h <;> rw [h] <;> omega
          have i1 : ((k + 1 : Nat) : Int) < 3 := by omega
          have i2 : ((k + 1 : Nat) : Int) < (l.length : Int) := by omega
          have i3 : (0 : Int) ≤ ((k + 1 : Nat) : Int) := by omega
          generalize l[k + 1] = y at *
          generalize beg l 3 k = g at *
          clear ck0
          go_wp2
          go_roundw
          case rel => exact ⟨k + 1, by omega, by go_num, by rw [hs.out], hbel⟩
          case measure => simp [intOf]; omega
        · have hk1 : k = 2 := by omega
          subst hk1
          go_wp2
          go_ret
          exact ⟨by rw [hr.out]; rfl, hbel⟩
    · have c1W := clW 4 (.int .i64 240) rfl
      have hl0 : lead 4 = 240 := rfl
      rw [hl0] at hbeg0
      go_enter Tryd.func105, Tryd.ntmps105
      go_wp2_with fail
      generalize (w.alloc (.cells #[.int .i64 0, .int .i64 0, .int .i64 192, .int .i64 224, .int .i64 240] 3)) = W at *
      have r1 := cell_regrown c0W
      have r2 := cell_regrown c1W
      refine wp_region_quiet_below (by kernel_rfl) (by kernel_rfl) ?_
      repeat (go_big_quiet_step (fail))
      refine wpQuiet_nil ?_
      intro W2 hw'
      obtain ⟨⟨dq, osq⟩, hw''⟩ := hw'
      have hbq := hWb.trans ((below_regrown W dq osq).mono hWb.size)
      rw [← hw''] at hbq
      clear hw'' r1 r2 c0W c1W clW hWb c0
      rw [← hbeg0.out]
      go_wp2
      go_loopw [6, 7] (fun x i wr => ∃ (k : Nat), k + 1 ≤ 4 ∧ i = .int .i64 ((k + 1 : Nat) : Int) ∧ x = .int .i64 (beg l 4 k) ∧ Below w.heap.size w wr) (fun _ i _ => 4 - (intOf i).toNat)
      case atStart => exact ⟨0, by omega, rfl, rfl, hbq⟩
      case round =>
        obtain ⟨k, hk, rfl, rfl, hbel⟩ := hrel
        by_cases hkk : k + 1 < 4
        · have hlk : k + 1 < l.length := by omega
          have ck0 := HC.out (k + 1) hlk
          have ck := (hbel.cell (World.block_lt_of_cell? w _ ck0)).trans ck0
          have hs : Hid (beg l 4 (k + 1) = beg l 4 k * 64 + ch l[k + 1] - 128) := by
            show _ = _
            simp only [beg, List.getD, List.getElem?_eq_getElem hlk, Option.getD_some]
          have hcb := chBd l[k + 1]
          have hbk : -1300000 ≤ beg l 4 k ∧ beg l 4 k ≤ 1300000 := by
            have := HB.out
            have hc : k = 0 ∨ k = 1 ∨ k = 2 := by omega
            rcases hc with h | h | h <;> rw [h] <;> omega
          have i1 : ((k + 1 : Nat) : Int) < 4 := by omega
          have i2 : ((k + 1 : Nat) : Int) < (l.length : Int) := by omega
          have i3 : (0 : Int) ≤ ((k + 1 : Nat) : Int) := by omega
          generalize l[k + 1] = y at *
          generalize beg l 4 k = g at *
          clear ck0
          go_wp2
          go_roundw
          case rel => exact ⟨k + 1, by omega, by go_num, by rw [hs.out], hbel⟩
          case measure => simp [intOf]; omega
        · have hk1 : k = 3 := by omega
          subst hk1
          go_wp2
          go_ret
          exact ⟨by rw [hr.out]; rfl, hbel⟩
end Go.Proofs.YteegbjjpjdlcmaaDoor
