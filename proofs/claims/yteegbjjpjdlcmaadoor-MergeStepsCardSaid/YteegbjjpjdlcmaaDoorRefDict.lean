/- rubrickref09.Right, Same; rubrickref12.spans; rubrickref10.Right, Same. -/
import Derived.Test.YteegbjjpjdlcmaaDoorDictW
import Derived.Test.YteegbjjpjdlcmaaDoorRefAll
set_option linter.unusedVariables false
namespace Go.Proofs.YteegbjjpjdlcmaaDoor
open Go.RowKit Go.Sort

set_option maxRecDepth 100000 in
set_option maxHeartbeats 8000000 in
theorem rpost_any (v : Value) (n : Nat) (l : List Int) (w : World) (hn : l.length = n) (h : Rd w v n 1 (icells l)) :
    Calls Tryd.prog 48 #[v] w fun e w' => e = .returned (.bool (postRight l)) ∧ Below w.heap.size w w' := by
  obtain ⟨ao, c, rfl, hm, HC⟩ := ints_cells hn h
  have mixed : Tryd.prog.follows .mixedOrders = true := by kernel_rfl
  have HN := Lib.hid hn
  clear h hn
  go_enter Tryd.func48, Tryd.ntmps48
  go_wp2
  go_loopw [3] (fun i wr => ∃ (k : Nat) (p : Int), k ≤ n ∧ i = .int .i64 k ∧ Hid (postRight l = postGo p (l.drop k)) ∧ Hid (-1 ≤ p ∧ (k = 0 → p = -1) ∧ ∀ j (hj : j < l.length), j + 1 = k → l[j] = p) ∧ Below w.heap.size w wr) (fun i _ => n - (intOf i).toNat)
  case atStart => exact ⟨0, -1, Nat.zero_le _, rfl, rfl, ⟨Int.le_refl _, fun _ => rfl, fun j hj h => by omega⟩, Below.refl _ _⟩
  case round =>
    obtain ⟨k, p, hk, rfl, HP, HQ, hbel⟩ := hrel
    by_cases hlt : k < n
    · have hkl : k < l.length := by have := HN.out; omega
      obtain ⟨b, off, rfl, hc⟩ := HC.out k hkl
      have ki : (k : Int) < (n : Int) := by omega
      have k0 : (0 : Int) ≤ (k : Int) := by omega
      have HS : Hid (postGo p (l.drop k) = (decide (p < l[k]) && decide (l[k] < 1000) && postGo l[k] (l.drop (k + 1)))) := by
        show _ = _
        rw [List.drop_eq_getElem_cons hkl, postGo_cons]
      have HNX : Hid (∀ j (hj : j < l.length), j + 1 = k + 1 → l[j] = l[k]) := fun j hj h => by
        obtain rfl : j = k := by omega
        rfl
      obtain ⟨x, hx⟩ : ∃ x, x = l[k] := ⟨_, rfl⟩
      rw [← hx] at hc HS HNX
      have hcw := cell_later hbel hc
      clear hx hc
      by_cases h0 : x < 0
      · have HS2 : Hid (postRight l = false) := by show _ = _; rw [HP.out, HS.out, decide_eq_false (by have := HQ.out.1; omega)]; simp
        have r1 := cell_regrown hcw
        have h0' : decide (x < 0) = true := decide_eq_true h0
        go_wp2_with fail
        refine wp_region_quiet_below mixed (by kernel_rfl) ?_
        repeat (go_big_quiet_step (fail))
        refine wpQuiet_nil ?_
        intro W2 hw'
        obtain ⟨⟨dq, osq⟩, hw''⟩ := hw'
        have hbq := hbel.trans ((below_regrown wr dq osq).mono hbel.size)
        rw [← hw''] at hbq
        clear hw'' r1
        go_wp2
        go_ret
        exact ⟨by rw [HS2.out]; rfl, hbq⟩
      · have h0' : decide (x < 0) = false := decide_eq_false h0
        by_cases h1 : x ≤ 999
        · have h1' : decide ((999 : Int) < x) = false := decide_eq_false (by omega)
          rcases Nat.eq_zero_or_pos k with hk0 | hk0
          · subst hk0
            have HS2 : Hid (postRight l = postGo x (l.drop 1)) := by show _ = _; rw [HP.out, HS.out, decide_eq_true (by have := HQ.out.2.1 rfl; omega), decide_eq_true (by omega)]; rfl
            rw [Nat.add_zero] at hcw
            have r1 := cell_regrown hcw
            rw [show ((0 : Nat) : Int) = 0 from rfl]
            go_wp2_with fail
            refine wp_region_quiet_below mixed (by kernel_rfl) ?_
            repeat (go_big_quiet_step (fail))
            refine wpQuiet_nil ?_
            intro W2 hw'
            obtain ⟨⟨dq, osq⟩, hw''⟩ := hw'
            have hbq := hbel.trans ((below_regrown wr dq osq).mono hbel.size)
            rw [← hw''] at hbq
            clear hw'' r1
            go_wp2
            go_roundw
            case rel => exact ⟨1, x, by omega, by go_num, HS2.out, ⟨by omega, fun h => by omega, HNX.out⟩, hbq⟩
            case measure => simp [intOf]; omega
          · have hkp : k - 1 < l.length := by omega
            obtain ⟨b', off', he, hp0⟩ := HC.out (k - 1) hkp
            simp only [Option.some.injEq, Addr.mk.injEq, and_true] at he
            obtain ⟨rfl, rfl⟩ := he
            rw [HQ.out.2.2 (k - 1) hkp (by omega)] at hp0
            have hpw := cell_later hbel hp0
            have i1 : (0 : Int) < (k : Int) := by omega
            have i5 : ¬ (k : Int) < 1 := by omega
            have i2 : (0 : Int) ≤ (k : Int) - 1 := by omega
            have i3 : (k : Int) - 1 < (n : Int) := by omega
            have i4 : ((k : Int) - 1).toNat = k - 1 := by omega
            have hwk : IntKind.i64.wrap ((k : Int) - 1) = (k : Int) - 1 := by rw [IntKind.wrap_i64]; omega
            have r1 := cell_regrown hcw
            have r2 := cell_regrown hpw
            clear hp0
            by_cases h2 : p < x
            · have h2' : decide (x ≤ p) = false := decide_eq_false (by omega)
              have HS2 : Hid (postRight l = postGo x (l.drop (k + 1))) := by show _ = _; rw [HP.out, HS.out, decide_eq_true h2, decide_eq_true (by omega)]; rfl
              go_wp2_with fail
              refine wp_region_quiet_below mixed (by kernel_rfl) ?_
              repeat (go_big_quiet_step (fail))
              refine wpQuiet_nil ?_
              intro W2 hw'
              obtain ⟨⟨dq, osq⟩, hw''⟩ := hw'
              have hbq := hbel.trans ((below_regrown wr dq osq).mono hbel.size)
              rw [← hw''] at hbq
              clear hw'' r1 r2
              go_wp2
              go_roundw
              case rel => exact ⟨k + 1, x, by omega, by go_num, HS2.out, ⟨by omega, fun h => by omega, HNX.out⟩, hbq⟩
              case measure => simp [intOf]; omega
            · have h2' : decide (x ≤ p) = true := decide_eq_true (by omega)
              have HS2 : Hid (postRight l = false) := by show _ = _; rw [HP.out, HS.out, decide_eq_false h2]; simp
              go_wp2_with fail
              refine wp_region_quiet_below mixed (by kernel_rfl) ?_
              repeat (go_big_quiet_step (fail))
              refine wpQuiet_nil ?_
              intro W2 hw'
              obtain ⟨⟨dq, osq⟩, hw''⟩ := hw'
              have hbq := hbel.trans ((below_regrown wr dq osq).mono hbel.size)
              rw [← hw''] at hbq
              clear hw'' r1 r2
              go_wp2
              go_ret
              exact ⟨by rw [HS2.out]; rfl, hbq⟩
        · have h1' : decide ((999 : Int) < x) = true := decide_eq_true (by omega)
          have HS2 : Hid (postRight l = false) := by show _ = _; rw [HP.out, HS.out, decide_eq_false (show ¬ x < 1000 by omega)]; simp
          have r1 := cell_regrown hcw
          go_wp2_with fail
          refine wp_region_quiet_below mixed (by kernel_rfl) ?_
          repeat (go_big_quiet_step (fail))
          refine wpQuiet_nil ?_
          intro W2 hw'
          obtain ⟨⟨dq, osq⟩, hw''⟩ := hw'
          have hbq := hbel.trans ((below_regrown wr dq osq).mono hbel.size)
          rw [← hw''] at hbq
          clear hw'' r1
          go_wp2
          go_ret
          exact ⟨by rw [HS2.out]; rfl, hbq⟩
    · have HS2 : Hid (postRight l = true) := by show _ = _; rw [HP.out, List.drop_of_length_le (by have := HN.out; omega)]; rfl
      have ki : ¬ (k : Int) < (n : Int) := by omega
      go_wp2
      go_ret
      exact ⟨by rw [HS2.out]; rfl, hbel⟩

set_option maxRecDepth 100000 in
set_option maxHeartbeats 4000000 in
theorem same09_any (v1 v2 : Value) (n m : Nat) (x y : List Int) (w : World) (hx : x.length = n) (hy : y.length = m) (h1 : Rd w v1 n 1 (icells x)) (h2 : Rd w v2 m 1 (icells y)) :
    Calls Tryd.prog 20 #[v1, v2] w fun e w' => e = .returned (.bool (x == y)) ∧ Below w.heap.size w w' := by
  obtain ⟨ao, c, rfl, hm, HC⟩ := ints_cells hx h1
  obtain ⟨ao2, cb, rfl, hm2, HC2⟩ := ints_cells hy h2
  have mixed : Tryd.prog.follows .mixedOrders = true := by kernel_rfl
  have HL := Lib.hid (And.intro hx hy)
  clear h1 h2 hx hy
  by_cases hl : n = m
  · have hl2 : ((n : Int) != (m : Int)) = false := by rw [hl]; simp
    have HNM := Lib.hid hl
    clear hl
    go_enter Tryd.func20, Tryd.ntmps20
    go_wp2
    go_loopw [5] (fun i wr => ∃ (k : Nat), k ≤ n ∧ i = .int .i64 k ∧ Hid (x.take k = y.take k) ∧ Below w.heap.size w wr) (fun i _ => n - (intOf i).toNat)
    case atStart => exact ⟨0, Nat.zero_le _, rfl, rfl, Below.refl _ _⟩
    case round =>
      obtain ⟨k, hk, rfl, HT, hbel⟩ := hrel
      by_cases hlt : k < n
      · have hkx : k < x.length := by have := HL.out.1; omega
        have hky : k < y.length := by have := HL.out.2; have := HNM.out; omega
        obtain ⟨b, off, rfl, c1⟩ := HC.out k hkx
        obtain ⟨b', off', rfl, c2⟩ := HC2.out k hky
        have r1 := cell_regrown (cell_later hbel c1)
        have r2 := cell_regrown (cell_later hbel c2)
        have HX : Hid (x.take (k + 1) = x.take k ++ [x[k]] ∧ y.take (k + 1) = y.take k ++ [y[k]]) := ⟨List.take_succ_eq_append_getElem hkx, List.take_succ_eq_append_getElem hky⟩
        have HY : Hid (x[k] ≠ y[k] → x ≠ y) := fun h e => h (by subst e; rfl)
        have i1 : (k : Int) < (n : Int) := by omega
        have i2 : (0 : Int) ≤ (k : Int) := by omega
        have i3 : (k : Int) < (m : Int) := by have := HNM.out; omega
        generalize x[k] = p at *
        generalize y[k] = q at *
        clear c1 c2
        by_cases ht : p = q
        · subst ht
          have n1 : (p != p) = false := by simp
          go_wp2_with fail
          refine wp_region_quiet_below mixed (by kernel_rfl) ?_
          repeat (go_big_quiet_step (fail))
          refine wpQuiet_nil ?_
          intro W2 hw'
          obtain ⟨⟨dq, osq⟩, hw''⟩ := hw'
          have hbq := hbel.trans ((below_regrown wr dq osq).mono hbel.size)
          rw [← hw''] at hbq
          clear hw'' r1 r2
          go_wp2
          go_roundw
          case rel => exact ⟨k + 1, by omega, by go_num, by show _ = _; rw [HX.out.1, HX.out.2, HT.out], hbq⟩
          case measure => simp [intOf]; omega
        · have n1 : (p != q) = true := by rw [bne_iff_ne]; exact ht
          have HN := Lib.hid ht
          clear ht
          go_wp2_with fail
          refine wp_region_quiet_below mixed (by kernel_rfl) ?_
          repeat (go_big_quiet_step (fail))
          refine wpQuiet_nil ?_
          intro W2 hw'
          obtain ⟨⟨dq, osq⟩, hw''⟩ := hw'
          have hbq := hbel.trans ((below_regrown wr dq osq).mono hbel.size)
          rw [← hw''] at hbq
          clear hw'' r1 r2
          go_wp2
          go_ret
          exact ⟨ret_bool (by symm; simpa using HY.out HN.out), hbq⟩
      · have hxy : x = y := by
          have := HT.out
          rw [List.take_of_length_le (by have := HL.out.1; omega), List.take_of_length_le (by have := HL.out.2; have := HNM.out; omega)] at this
          exact this
        have ki : ¬ (k : Int) < (n : Int) := by omega
        have HXY := Lib.hid hxy
        clear hxy
        go_wp2
        go_ret
        exact ⟨ret_bool (by rw [HXY.out]; simp), hbel⟩
  · have hl2 : ((n : Int) != (m : Int)) = true := by rw [bne_iff_ne]; omega
    have HN : Hid ((x == y) = false) := by
      show _ = _
      rw [beq_eq_false_iff_ne]
      rintro rfl; exact hl (HL.out.1.symm.trans HL.out.2)
    clear hl
    go_enter Tryd.func20, Tryd.ntmps20
    go_wp2
    go_ret
    exact ⟨by rw [HN.out]; rfl, Below.refl _ _⟩

theorem spans_any (f t : Int) (w : World) : Calls Tryd.prog 33 #[.agg #[.int .i64 f, .int .i64 t]] w fun e w' => e = .returned (.bool (wholeB f t)) ∧ Below w.heap.size w w' := by
  have hb : Below w.heap.size w (w.alloc (.cells #[.int .i64 f, .int .i64 t] 23)) := (Below.refl _ _).alloc (Nat.le_refl _) _
  by_cases h1 : 0 ≤ f
  · by_cases h2 : f < t
    · by_cases h3 : t ≤ 1000
      · have hr : Hid (wholeB f t = true) := by show _ = _; simp [wholeB, h1, h2, h3]
        go_enter Tryd.func33, Tryd.ntmps33
        go_wp2
        go_ret
        exact ⟨by rw [hr.out]; first | rfl | simp [h1, h2, h3], hb⟩
      · have hr : Hid (wholeB f t = false) := by show _ = _; simp [wholeB, h3]
        go_enter Tryd.func33, Tryd.ntmps33
        go_wp2
        go_ret
        exact ⟨by rw [hr.out]; first | rfl | simp [h1, h2, h3], hb⟩
    · have hr : Hid (wholeB f t = false) := by show _ = _; simp [wholeB, h2]
      go_enter Tryd.func33, Tryd.ntmps33
      go_wp2
      go_ret
      exact ⟨by rw [hr.out]; first | rfl | simp [h1, h2], hb⟩
  · have hr : Hid (wholeB f t = false) := by show _ = _; simp [wholeB, h1]
    go_enter Tryd.func33, Tryd.ntmps33
    go_wp2
    go_ret
    exact ⟨by rw [hr.out]; first | rfl | simp [h1], hb⟩

end Go.Proofs.YteegbjjpjdlcmaaDoor
