/- rubrickref09.Right, Same; rubrickref12.spans; rubrickref10.Right, Same. -/
import Derived.Test.YteegbjjpjdlcmaaGreatDoorDictWz
set_option linter.unusedVariables false
namespace Go.Proofs.YteegbjjpjdlcmaaGreatDoor
open Go.RowKit Go.Sort

set_option maxRecDepth 100000 in
set_option maxHeartbeats 4000000 in
theorem same09_any (v1 v2 : Value) (n m : Nat) (x y : List Int) (w : World) (hx : x.length = n) (hy : y.length = m) (h1 : Rd w v1 n 1 (icells x)) (h2 : Rd w v2 m 1 (icells y)) :
    Calls Tryz.prog 27 #[v1, v2] w fun e w' => e = .returned (.bool (x == y)) ∧ Below w.heap.size w w' := by
  obtain ⟨ao, c, rfl, hm, HC⟩ := ints_cells hx h1
  obtain ⟨ao2, cb, rfl, hm2, HC2⟩ := ints_cells hy h2
  have mixed : Tryz.prog.follows .mixedOrders = true := by kernel_rfl
  have HL := Lib.hid (And.intro hx hy)
  clear h1 h2 hx hy
  by_cases hl : n = m
  · have hl2 : ((n : Int) != (m : Int)) = false := by rw [hl]; simp
    have HNM := Lib.hid hl
    clear hl
    go_enter Tryz.func27, Tryz.ntmps27
    go_wp2
    go_loopw [5] (fun i wr => ∃ (k : Nat), k ≤ n ∧ i = .int .i64 k ∧ Hid (x.take k = y.take k) ∧ Below w.heap.size w wr) (fun i _ => n - (intOf i).toNat)
    case atStart => exact ⟨0, Nat.zero_le _, rfl, rfl, Below.refl _ _⟩
    case round =>
      obtain ⟨k, hk, rfl, HT, hbel⟩ := hrel
      by_cases hlt : k < n
      · have hkx : k < x.length := by have := HL.out.1; omega
        have hky : k < y.length := by have := HL.out.2; have := HNM.out; omega
        obtain ⟨b, off, rfl, c1⟩ := HC.out k hkx
        obtain ⟨b', off', rfl, c2⟩ := HC2.out k hky
        have r1 := cell_regrown (cell_later hbel c1)
        have r2 := cell_regrown (cell_later hbel c2)
        have HX : Hid (x.take (k + 1) = x.take k ++ [x[k]] ∧ y.take (k + 1) = y.take k ++ [y[k]]) := ⟨List.take_succ_eq_append_getElem hkx, List.take_succ_eq_append_getElem hky⟩
        have HY : Hid (x[k] ≠ y[k] → x ≠ y) := fun h e => h (by subst e; rfl)
        have i1 : (k : Int) < (n : Int) := by omega
        have i2 : (0 : Int) ≤ (k : Int) := by omega
        have i3 : (k : Int) < (m : Int) := by have := HNM.out; omega
        generalize x[k] = p at *
        generalize y[k] = q at *
        clear c1 c2
        by_cases ht : p = q
        · subst ht
          have n1 : (p != p) = false := by simp
          go_wp2_with fail
          refine wp_region_quiet_below mixed (by kernel_rfl) ?_
          repeat (go_big_quiet_step (fail))
          refine wpQuiet_nil ?_
          intro W2 hw'
          obtain ⟨⟨dq, osq⟩, hw''⟩ := hw'
          have hbq := hbel.trans ((below_regrown wr dq osq).mono hbel.size)
          rw [← hw''] at hbq
          clear hw'' r1 r2
          go_wp2
          go_roundw
          case rel => exact ⟨k + 1, by omega, by go_num, by show _ = _; rw [HX.out.1, HX.out.2, HT.out], hbq⟩
          case measure => simp [intOf]; omega
        · have n1 : (p != q) = true := by rw [bne_iff_ne]; exact ht
          have HN := Lib.hid ht
          clear ht
          go_wp2_with fail
          refine wp_region_quiet_below mixed (by kernel_rfl) ?_
          repeat (go_big_quiet_step (fail))
          refine wpQuiet_nil ?_
          intro W2 hw'
          obtain ⟨⟨dq, osq⟩, hw''⟩ := hw'
          have hbq := hbel.trans ((below_regrown wr dq osq).mono hbel.size)
          rw [← hw''] at hbq
          clear hw'' r1 r2
          go_wp2
          go_ret
          exact ⟨ret_bool (by symm; simpa using HY.out HN.out), hbq⟩
      · have hxy : x = y := by
          have := HT.out
          rw [List.take_of_length_le (by have := HL.out.1; omega), List.take_of_length_le (by have := HL.out.2; have := HNM.out; omega)] at this
          exact this
        have ki : ¬ (k : Int) < (n : Int) := by omega
        have HXY := Lib.hid hxy
        clear hxy
        go_wp2
        go_ret
        exact ⟨ret_bool (by rw [HXY.out]; simp), hbel⟩
  · have hl2 : ((n : Int) != (m : Int)) = true := by rw [bne_iff_ne]; omega
    have HN : Hid ((x == y) = false) := by
      show _ = _
      rw [beq_eq_false_iff_ne]
      rintro rfl; exact hl (HL.out.1.symm.trans HL.out.2)
    clear hl
    go_enter Tryz.func27, Tryz.ntmps27
    go_wp2
    go_ret
    exact ⟨by rw [HN.out]; rfl, Below.refl _ _⟩
end Go.Proofs.YteegbjjpjdlcmaaGreatDoor
