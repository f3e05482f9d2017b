/- rubrickref02.Same: are two lists of texts alike? -/
import Derived.Test.YtjbmihgfneamlaaDoorTerms
import Derived.Test.YtjbmihgfneamlaaDoorTokRight
import Derived.Lib.QuietBelow
import Derived.BigQuiet
set_option linter.unusedVariables false
namespace Go.Proofs.YtjbmihgfneamlaaDoor
open Go.RowKit Go.Sort

/-- a slice of texts that can be read: its shape, and its cells. -/
theorem strs_cells {w : World} {v : Value} {l : List (List UInt8)} (h : Rd w v l.length 1 (scells l)) :
    ∃ ao c, v = .slice ao l.length c ∧ l.length ≤ 9223372036854775807 ∧ Hid (∀ i (hi : i < l.length), ∃ b off, ao = some ⟨b, off, none⟩ ∧ w.cell? ⟨b, off + i, none⟩ = some (str l[i])) := by
  obtain ⟨-, hm, ⟨ao, c, rfl, h0⟩ | ⟨b, off, c, rfl, -, -, -, h3⟩⟩ := h
  · exact ⟨ao, c, by rw [h0], by omega, fun i hi => by omega⟩
  · exact ⟨_, c, rfl, by unfold maxLen at hm; omega, fun i hi => ⟨b, off, rfl, h3 i _ (by simp [scells, hi])⟩⟩

set_option maxRecDepth 100000 in
set_option maxHeartbeats 4000000 in
theorem same02_any (v1 v2 : Value) (x y : List (List UInt8)) (w : World) (h1 : Rd w v1 x.length 1 (scells x)) (h2 : Rd w v2 y.length 1 (scells y)) :
    Calls Tryd.prog 23 #[v1, v2] w fun e w' => e = .returned (.bool (x == y)) ∧ Below w.heap.size w w' := by
  obtain ⟨ao, c, rfl, hm, HC⟩ := strs_cells h1
  obtain ⟨ao2, cb, rfl, hm2, HC2⟩ := strs_cells h2
  have mixed : Tryd.prog.follows .mixedOrders = true := by kernel_rfl
  clear h1 h2
  by_cases hl : x.length = y.length
  · have hl2 : ((x.length : Int) != (y.length : Int)) = false := by rw [hl]; simp
    have HL := Lib.hid hl
    clear hl
    go_enter Tryd.func23, Tryd.ntmps23
    go_wp2
    go_loopw [5] (fun i wr => ∃ (k : Nat), k ≤ x.length ∧ i = .int .i64 k ∧ Hid (x.take k = y.take k) ∧ Below w.heap.size w wr) (fun i _ => x.length - (intOf i).toNat)
    case atStart => exact ⟨0, Nat.zero_le _, rfl, rfl, Below.refl _ _⟩
    case round =>
      obtain ⟨k, hk, rfl, HT, hbel⟩ := hrel
      by_cases hlt : k < x.length
      · obtain ⟨b, off, rfl, c1⟩ := HC.out k hlt
        have hly : k < y.length := by have := HL.out; omega
        obtain ⟨b', off', rfl, c2⟩ := HC2.out k hly
        have r1 := cell_regrown (cell_later hbel c1)
        have r2 := cell_regrown (cell_later hbel c2)
        have HX : Hid (x.take (k + 1) = x.take k ++ [x[k]] ∧ y.take (k + 1) = y.take k ++ [y[k]]) := ⟨List.take_succ_eq_append_getElem hlt, List.take_succ_eq_append_getElem hly⟩
        have HY : Hid (x[k] ≠ y[k] → x ≠ y) := fun h e => h (by subst e; rfl)
        have i1 : (k : Int) < (x.length : Int) := by omega
        have i2 : (0 : Int) ≤ (k : Int) := by omega
        have i3 : (k : Int) < (y.length : Int) := by omega
        generalize x[k] = tx at *
        generalize y[k] = ty at *
        have e1 := btoList tx
        have e2 := btoList ty
        unfold str at *
        clear c1 c2
        by_cases ht : tx = ty
        · subst ht
          have n1 : ((bstr tx).toList == (bstr tx).toList) = true := beq_self_eq_true _
          clear e1 e2
          go_wp2_with fail
          refine wp_region_quiet_below mixed (by kernel_rfl) ?_
          repeat (go_big_quiet_step (fail))
          refine wpQuiet_nil ?_
          intro W2 hw'
          obtain ⟨⟨dq, osq⟩, hw''⟩ := hw'
          have hbq := hbel.trans ((below_regrown wr dq osq).mono hbel.size)
          rw [← hw''] at hbq
          clear hw'' r1 r2
          go_wp2
          go_roundw
          case rel => exact ⟨k + 1, by omega, by go_num, by show _ = _; rw [HX.out.1, HX.out.2, HT.out], hbq⟩
          case measure => simp [intOf]; omega
        · have n1 : ((bstr tx).toList == (bstr ty).toList) = false := by rw [e1, e2]; simpa using ht
          have HN := Lib.hid ht
          clear e1 e2 ht
          go_wp2_with fail
          refine wp_region_quiet_below mixed (by kernel_rfl) ?_
          repeat (go_big_quiet_step (fail))
          refine wpQuiet_nil ?_
          intro W2 hw'
          obtain ⟨⟨dq, osq⟩, hw''⟩ := hw'
          have hbq := hbel.trans ((below_regrown wr dq osq).mono hbel.size)
          rw [← hw''] at hbq
          clear hw'' r1 r2
          go_wp2
          go_ret
          exact ⟨ret_bool (by symm; simpa using HY.out HN.out), hbq⟩
      · have hke : k = x.length := by omega
        subst hke
        have hxy : x = y := by
          have := HT.out
          rw [List.take_length, HL.out, List.take_length] at this
          exact this
        have HXY := Lib.hid hxy
        clear hxy
        go_wp2
        go_ret
        exact ⟨ret_bool (by rw [HXY.out]; simp), hbel⟩
  · have hl2 : ((x.length : Int) != (y.length : Int)) = true := by rw [bne_iff_ne]; omega
    have HN : Hid ((x == y) = false) := by
      show _ = _
      rw [beq_eq_false_iff_ne]
      rintro rfl; exact hl rfl
    clear hl
    go_enter Tryd.func23, Tryd.ntmps23
    go_wp2
    go_ret
    exact ⟨by rw [HN.out]; rfl, Below.refl _ _⟩
end Go.Proofs.YtjbmihgfneamlaaDoor
