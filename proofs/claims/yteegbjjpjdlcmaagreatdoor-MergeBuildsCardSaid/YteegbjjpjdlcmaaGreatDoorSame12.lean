/- rubrickref10.Same, rubrickref12.Same, rubricklaw12.As. -/
import Derived.Test.YteegbjjpjdlcmaaGreatDoorSame09
set_option linter.unusedVariables false
namespace Go.Proofs.YteegbjjpjdlcmaaGreatDoor
open Go.RowKit Go.Sort

set_option maxRecDepth 100000 in
set_option maxHeartbeats 8000000 in
theorem same10_any (v1 v2 : Value) (n n2 : Nat) (x y : List Ent) (w : World) (h1 : DRd w v1 n x) (h2 : DRd w v2 n2 y) :
    Calls Tryz.prog 18 #[v1, v2] w fun e w' => e = .returned (.bool (x == y)) ∧ Below w.heap.size w w' := by
  obtain ⟨ao, c, rfl, hm, HC⟩ := dict_cells h1
  obtain ⟨ao2, cb, rfl, hm2, HC2⟩ := dict_cells h2
  have mixed : Tryz.prog.follows .mixedOrders = true := by kernel_rfl
  have HL := Lib.hid (And.intro h1.1 h2.1)
  clear h1 h2
  by_cases hl : n = n2
  · have hl2 : ((n : Int) != (n2 : Int)) = false := by rw [hl]; simp
    have HNM := Lib.hid hl
    clear hl
    go_enter Tryz.func18, Tryz.ntmps18
    go_wp2
    go_loopw [5] (fun i wr => ∃ (k : Nat), k ≤ n ∧ i = .int .i64 k ∧ Hid (x.take k = y.take k) ∧ Below w.heap.size w wr) (fun i _ => n - (intOf i).toNat)
    case atStart => exact ⟨0, Nat.zero_le _, rfl, rfl, Below.refl _ _⟩
    case round =>
      obtain ⟨k, hk, rfl, HT, hbel⟩ := hrel
      by_cases hlt : k < n
      · have hkx : k < x.length := by have := HL.out.1; omega
        have hky : k < y.length := by have := HL.out.2; have := HNM.out; omega
        obtain ⟨b, off, da, dc, rfl, c1, c2, hdr⟩ := HC.out k hkx
        obtain ⟨b', off', da2, dc2, rfl, e1, e2, hdr2⟩ := HC2.out k hky
        have HX : Hid (x.take (k + 1) = x.take k ++ [x[k]] ∧ y.take (k + 1) = y.take k ++ [y[k]]) := ⟨List.take_succ_eq_append_getElem hkx, List.take_succ_eq_append_getElem hky⟩
        have HY : Hid (x[k] ≠ y[k] → x ≠ y) := fun h e => h (by subst e; rfl)
        have i1 : (k : Int) < (n : Int) := by omega
        have i2 : (0 : Int) ≤ (k : Int) := by omega
        have i3 : (k : Int) < (n2 : Int) := by have := HNM.out; omega
        obtain ⟨⟨t, ds⟩, hx⟩ : ∃ q, q = x[k] := ⟨_, rfl⟩
        obtain ⟨⟨t2, ds2⟩, hy⟩ : ∃ q, q = y[k] := ⟨_, rfl⟩
        rw [← hx] at c1 c2 hdr HX HY
        rw [← hy] at e1 e2 hdr2 HX HY
        simp only at c1 c2 hdr e1 e2 hdr2
        clear hx hy
        have r1 := cell_regrown (cell_later hbel c1)
        have r2 := cell_regrown (cell_later hbel c2)
        have r3 := cell_regrown (cell_later hbel e1)
        have r4 := cell_regrown (cell_later hbel e2)
        unfold str at r1 r3
        clear c1 c2 e1 e2
        have T0 : Hid (∀ b, (ds == ds2) = b → ∀ d os, Calls Tryz.prog 27 #[.slice da ds.length dc, .slice da2 ds2.length dc2] (grow (redrawn wr d) os) fun e w'' => e = .returned (.bool b) ∧ ∃ p : Regrown, w'' = grow (redrawn wr p.d) p.os) := by
          rintro b rfl d os
          have hB : Below w.heap.size w (grow (redrawn wr d) os) := hbel.trans ((below_regrown wr d os).mono hbel.size)
          exact Calls.regrown_of (same09_any _ _ ds.length ds2.length ds ds2 (grow (redrawn wr d) os) rfl rfl (hdr.below hB) (hdr2.below hB))
        generalize ds.length = m at *
        generalize ds2.length = m2 at *
        clear hdr hdr2
        by_cases ht : t = t2
        · have n1 : ((bstr t).toList == (bstr t2).toList) = true := by rw [ht]; exact beq_self_eq_true _
          by_cases hd : ds = ds2
          · have T1 := T0.out true (by rw [hd]; simp)
            have HZ : Hid (x.take (k + 1) = y.take (k + 1)) := by show _ = _; rw [HX.out.1, HX.out.2, HT.out, ht, hd]
            clear ht hd
            go_wp2_with fail
            refine wp_region_quiet_below mixed (by kernel_rfl) ?_
            repeat (go_big_quiet_step ((go_at_call 27; with_reducible exact T1 _ _)))
            refine wpQuiet_nil ?_
            intro W2 hw'
            obtain ⟨⟨dq, osq⟩, hw''⟩ := hw'
            have hbq := hbel.trans ((below_regrown wr dq osq).mono hbel.size)
            rw [← hw''] at hbq
            clear hw'' r1 r2 r3 r4 T1
            go_wp2
            go_roundw
            case rel => exact ⟨k + 1, by omega, by go_num, HZ.out, hbq⟩
            case measure => simp [intOf]; omega
          · have T1 := T0.out false (by rw [beq_eq_false_iff_ne]; exact hd)
            have HZ := Lib.hid (HY.out (by rintro h; exact hd (by cases h; rfl)))
            clear ht hd
            go_wp2_with fail
            refine wp_region_quiet_below mixed (by kernel_rfl) ?_
            repeat (go_big_quiet_step ((go_at_call 27; with_reducible exact T1 _ _)))
            refine wpQuiet_nil ?_
            intro W2 hw'
            obtain ⟨⟨dq, osq⟩, hw''⟩ := hw'
            have hbq := hbel.trans ((below_regrown wr dq osq).mono hbel.size)
            rw [← hw''] at hbq
            clear hw'' r1 r2 r3 r4 T1
            go_wp2
            go_ret
            exact ⟨ret_bool (beq_eq_false_iff_ne.2 HZ.out).symm, hbq⟩
        · have n1 : ((bstr t).toList == (bstr t2).toList) = false := by rw [btoList, btoList, beq_eq_false_iff_ne]; exact ht
          have HZ := Lib.hid (HY.out (by rintro h; exact ht (by cases h; rfl)))
          clear ht
          go_wp2_with fail
          refine wp_region_quiet_below mixed (by kernel_rfl) ?_
          repeat (go_big_quiet_step (fail))
          refine wpQuiet_nil ?_
          intro W2 hw'
          obtain ⟨⟨dq, osq⟩, hw''⟩ := hw'
          have hbq := hbel.trans ((below_regrown wr dq osq).mono hbel.size)
          rw [← hw''] at hbq
          clear hw'' r1 r2 r3 r4
          go_wp2
          go_ret
          exact ⟨ret_bool (beq_eq_false_iff_ne.2 HZ.out).symm, hbq⟩
      · have hxy : x = y := by
          have := HT.out
          rw [List.take_of_length_le (by have := HL.out.1; omega), List.take_of_length_le (by have := HL.out.2; have := HNM.out; omega)] at this
          exact this
        have ki : ¬ (k : Int) < (n : Int) := by omega
        have HXY := Lib.hid hxy
        clear hxy
        go_wp2
        go_ret
        exact ⟨ret_bool (by rw [HXY.out]; simp), hbel⟩
  · have hl2 : ((n : Int) != (n2 : Int)) = true := by rw [bne_iff_ne]; omega
    have HN : Hid ((x == y) = false) := by
      show _ = _
      rw [beq_eq_false_iff_ne]
      rintro rfl; exact hl (HL.out.1.symm.trans HL.out.2)
    clear hl
    go_enter Tryz.func18, Tryz.ntmps18
    go_wp2
    go_ret
    exact ⟨by rw [HN.out]; rfl, Below.refl _ _⟩

set_option maxRecDepth 100000 in
set_option maxHeartbeats 1000000 in
theorem as12_any (f t : Int) (ao : Option Addr) (n c : Nat) (w : World) :
    Calls Tryz.prog 10 #[.agg #[.int .i64 f, .int .i64 t, .slice ao n c]] w fun e w' => e = .returned (.agg #[.int .i64 f, .int .i64 t, .slice ao n c]) ∧ Below w.heap.size w w' := by
  go_enter Tryz.func10, Tryz.ntmps10
  go_wp2
  have h0 := heap_alloc_new (w.alloc (.cells #[.int .i64 f, .int .i64 t, .slice ao n c] 33)) (.cells #[.int .i64 f, .int .i64 t, .slice ao n c] 38)
  rw [show (w.alloc (.cells #[.int .i64 f, .int .i64 t, .slice ao n c] 33)).heap.size = w.heap.size + 1 from by simp] at h0
  have hb : Below w.heap.size w ((w.alloc (.cells #[.int .i64 f, .int .i64 t, .slice ao n c] 33)).alloc (.cells #[.int .i64 f, .int .i64 t, .slice ao n c] 38)) := ((Below.refl _ _).alloc (Nat.le_refl _) _).alloc (by simp) _
  exact bodyPost_ret (v := .agg #[.int .i64 f, .int .i64 t, .slice ao n c]) (results_cell_row (p := 2) (ty := 38) rfl _ _ (w.heap.size + 1) 38 _ (0, 0) _ rfl h0 Tryz.underlying38 rfl (by kernel_rfl)) rfl ⟨rfl, hb⟩

set_option maxRecDepth 100000 in
set_option maxHeartbeats 1000000 in
theorem same12_any (f t f2 t2 : Int) (v1 v2 : Value) (n n2 : Nat) (x y : List Ent) (w : World) (h1 : DRd w v1 n x) (h2 : DRd w v2 n2 y) :
    Calls Tryz.prog 9 #[.agg #[.int .i64 f, .int .i64 t, v1], .agg #[.int .i64 f2, .int .i64 t2, v2]] w fun e w' => e = .returned (.bool ((f == f2) && (t == t2) && (x == y))) ∧ Below w.heap.size w w' := by
  have hb : Below w.heap.size w ((w.alloc (.cells #[.int .i64 f, .int .i64 t, v1] 38)).alloc (.cells #[.int .i64 f2, .int .i64 t2, v2] 38)) := ((Below.refl _ _).alloc (Nat.le_refl _) _).alloc (by simp) _
  have hT : Hid (Calls Tryz.prog 18 #[v1, v2] ((w.alloc (.cells #[.int .i64 f, .int .i64 t, v1] 38)).alloc (.cells #[.int .i64 f2, .int .i64 t2, v2] 38)) fun e w' => e = .returned (.bool (x == y)) ∧ Below w.heap.size w w') := by
    refine (same10_any v1 v2 n n2 x y _ (h1.below hb) (h2.below hb)).mono ?_
    rintro e w' ⟨rfl, h⟩
    exact ⟨rfl, hb.trans (h.mono hb.size)⟩
  clear h1 h2
  by_cases hf : f = f2
  · subst hf
    by_cases ht : t = t2
    · subst ht
      have HR : Hid (((f == f) && (t == t) && (x == y)) = (x == y)) := by show _ = _; simp
      generalize (x == y) = b at *
      go_enter Tryz.func9, Tryz.ntmps9
      go_wp2_with (go_at_call 18; refine hT.out.mono ?_; rintro e w5 ⟨rfl, hb5⟩)
      go_ret
      exact ⟨by rw [HR.out]; rfl, hb5⟩
    · have HR : Hid (((f == f) && (t == t2) && (x == y)) = false) := by show _ = _; simp [ht]
      go_enter Tryz.func9, Tryz.ntmps9
      go_wp2
      go_ret
      exact ⟨by rw [HR.out]; rfl, hb⟩
  · have HR : Hid (((f == f2) && (t == t2) && (x == y)) = false) := by show _ = _; simp [hf]
    go_enter Tryz.func9, Tryz.ntmps9
    go_wp2
    go_ret
    exact ⟨by rw [HR.out]; rfl, hb⟩
end Go.Proofs.YteegbjjpjdlcmaaGreatDoor
