/- rubricklaw05.TokenPlaces: the walk. -/
import Derived.Test.YtjbmihgfneamlaaDoorCutsWalk
import Derived.Test.YtjbmihgfneamlaaDoorRefPos
set_option linter.unusedVariables false
namespace Go.Proofs.YtjbmihgfneamlaaDoor
open Go.RowKit Go.Sort

set_option maxRecDepth 100000 in
set_option maxHeartbeats 8000000 in
theorem places_walk (v : Value) (b t : List UInt8) (w : World) (ht : Tabs w) (h : Rd w v b.length 1 (bcells b)) (hs : True) :
    Calls Tryd.prog 7 #[v, .string (bstr t)] w fun e w' => e = .returned (.bool true) ∧ Below w.heap.size w w' := by
  have HK : Hid (∀ W, Below w.heap.size w W → Calls Tryd.prog 22 #[] W fun e w' => e = .returned (.bool true) ∧ Below W.heap.size W w') := fun W hW => knows05_any W (ht.below hW)
  obtain ⟨ao, c, rfl⟩ := rd_shape h
  have mixed : Tryd.prog.follows .mixedOrders = true := by kernel_rfl
  have hs1 := size_bstr t
  by_cases hlong : 2000 < b.length
  · have hG := Lib.hid (fun W => great05_yes ao b.length c W hlong)
    clear h ht hs1
    go_enter Tryd.func7, Tryd.ntmps7
    go_wp2_with (first | (go_at_call 21; refine (hG.out _).mono ?_; rintro e w' ⟨rfl, rfl⟩) | (go_at_call 22; refine (HK.out _ (Below.refl _ _)).mono ?_; rintro e w2 ⟨rfl, hb2⟩))
    go_ret
    exact ⟨rfl, hb2⟩
  · have hG := Lib.hid (fun W => great05_no ao b.length c W hlong)
    by_cases hsl : 1000 < t.length
    · have i1 : (1000 : Int) < (t.length : Int) := by omega
      clear h ht
      go_enter Tryd.func7, Tryd.ntmps7
      go_wp2_with (first | (go_at_call 21; refine (hG.out _).mono ?_; rintro e w' ⟨rfl, rfl⟩) | (go_at_call 22; refine (HK.out _ (Below.refl _ _)).mono ?_; rintro e w2 ⟨rfl, hb2⟩))
      go_ret
      exact ⟨rfl, hb2⟩
    · have i1 : ¬ (1000 : Int) < (t.length : Int) := by omega
      have HTP := Lib.hid (fun W (hW : Below w.heap.size w W) => tplaces_any (.slice ao b.length c) b t W (ht.below hW) (h.below hW) (by omega))
      have HRP := Lib.hid (fun W (hW : Below w.heap.size w W) => rplaces_any (.slice ao b.length c) b t W (h.below hW) (by omega))
      have HTQ := Lib.hid (fun W (hW : Below w.heap.size w W) => tpos_any (.slice ao b.length c) b W (ht.below hW) (h.below hW) (by omega))
      have HRQ := Lib.hid (fun W (hW : Below w.heap.size w W) => rpos_any (.slice ao b.length c) b W (h.below hW) (by omega))
      have hpl := placesFrom_len t (terms b) 0
      have htl := terms_len b
      have hps : (positions (terms b)).length ≤ (terms b).length := by
        unfold positions rise
        refine Nat.le_trans (Lib.compact_length_le _) ?_
        rw [List.length_mergeSort, atsFrom_len]
        exact Nat.le_refl _
      have hpl2 : (placesFrom 0 t (terms b)).length ≤ 2000 := by omega
      have hps2 : (positions (terms b)).length ≤ 2000 := by omega
      clear hpl htl hps
      generalize placesFrom 0 t (terms b) = pl at *
      generalize positions (terms b) = ps at *
      have hlen1 : ((pl.length : Int) != (pl.length : Int)) = false := by simp
      have hlen2 : ((ps.length : Int) != (ps.length : Int)) = false := by simp
      clear h ht hlong hsl
      go_enter Tryd.func7, Tryd.ntmps7
      go_wp2_with (first
        | (go_at_call 21; refine (hG.out _).mono ?_; rintro e w' ⟨rfl, rfl⟩)
        | (go_at_call 31; refine (HRQ.out _ B3).mono ?_; rintro e w4 ⟨v4, rfl, hown4, hb4⟩; have B4 := B3.trans (hb4.mono B3.size); obtain ⟨a4, d8, rfl⟩ := own_shape hown4)
        | (go_at_call 30; refine (HTQ.out _ B2).mono ?_; rintro e w3 ⟨v3, rfl, hown3, hb3⟩; have B3 := B2.trans (hb3.mono B2.size); obtain ⟨a3, d7, rfl⟩ := own_shape hown3)
        | (go_at_call 29; refine (HRP.out _ hb1).mono ?_; rintro e w2 ⟨v2, rfl, hown2, hb2⟩; have B2 := hb1.trans (hb2.mono hb1.size); obtain ⟨a2, d6, rfl⟩ := own_shape hown2)
        | (go_at_call 28; refine (HTP.out _ (Below.refl _ _)).mono ?_; rintro e w1 ⟨v1, rfl, hown1, hb1⟩; obtain ⟨a1, d5, rfl⟩ := own_shape hown1))
      have O1 := Lib.hid (own_below' (own_below' (own_below' hown1 hb2) hb3) hb4)
      have O2 := Lib.hid (own_below' (own_below' hown2 hb3) hb4)
      have O3 := Lib.hid (own_below' hown3 hb4)
      have O4 := Lib.hid hown4
      clear hown1 hown2 hown3 hown4
      go_loopw [9] (fun i W => ∃ k : Nat, k ≤ pl.length ∧ i = .int .i64 k ∧ Below w4.heap.size w4 W) (fun i _ => pl.length - (intOf i).toNat)
      case atStart => exact ⟨0, Nat.zero_le _, rfl, Below.refl _ _⟩
      case round =>
        obtain ⟨k, hk, rfl, hbel⟩ := hrel
        by_cases hlt : k < pl.length
        · obtain ⟨g5, e5, hg5⟩ := own_form O1.out (by omega)
          obtain ⟨g6, e6, hg6⟩ := own_form O2.out (by omega)
          simp only [Value.slice.injEq, true_and] at hg5 hg6
          obtain ⟨rfl, rfl⟩ := hg5
          obtain ⟨rfl, rfl⟩ := hg6
          have c1 := (own_below' O1.out hbel).cellAt k (by omega)
          have c2 := (own_below' O2.out hbel).cellAt k (by omega)
          rw [show (icells pl)[k]? = some (.int .i64 pl[k]) from by simp [icells, hlt]] at c1 c2
          have ki : (k : Int) < (pl.length : Int) := by omega
          have k0 : (0 : Int) ≤ (k : Int) := by omega
          have r1 := cell_regrown c1
          have r2 := cell_regrown c2
          generalize pl[k] = x at *
          have hx : (x != x) = false := by simp
          clear c1 c2
          go_wp2_with fail
          refine wp_region_quiet_below mixed (by kernel_rfl) ?_
          repeat (go_big_quiet_step (fail))
          refine wpQuiet_nil ?_
          intro W2 hw'
          obtain ⟨⟨dq, osq⟩, hw''⟩ := hw'
          have hbq := hbel.trans ((below_regrown wr dq osq).mono hbel.size)
          rw [← hw''] at hbq
          clear hw'' r1 r2
          go_wp2
          go_roundw
          case rel => exact ⟨k + 1, by omega, by go_num, hbq⟩
          case measure => simp [intOf]; omega
        · have ki : ¬ (k : Int) < (pl.length : Int) := by omega
          go_wp2
          go_loopw [10] (fun i W => ∃ k : Nat, k ≤ ps.length ∧ i = .int .i64 k ∧ Below w4.heap.size w4 W) (fun i _ => ps.length - (intOf i).toNat)
          case atStart => exact ⟨0, Nat.zero_le _, rfl, hbel⟩
          case round =>
            clear hbel hk hlt ki
            obtain ⟨k, hk, rfl, hbel⟩ := hrel
            by_cases hlt : k < ps.length
            · obtain ⟨g7, e7, hg7⟩ := own_form O3.out (by omega)
              obtain ⟨g8, e8, hg8⟩ := own_form O4.out (by omega)
              simp only [Value.slice.injEq, true_and] at hg7 hg8
              obtain ⟨rfl, rfl⟩ := hg7
              obtain ⟨rfl, rfl⟩ := hg8
              have c1 := (own_below' O3.out hbel).cellAt (k * 2) (by omega)
              have c2 := (own_below' O3.out hbel).cellAt (k * 2 + 1) (by omega)
              have c3 := (own_below' O4.out hbel).cellAt (k * 2) (by omega)
              have c4 := (own_below' O4.out hbel).cellAt (k * 2 + 1) (by omega)
              rw [(acell_at hlt).1] at c1 c3
              rw [(acell_at hlt).2] at c2 c4
              have ki : (k : Int) < (ps.length : Int) := by omega
              have k0 : (0 : Int) ≤ (k : Int) := by omega
              generalize ps[k].1 = xs at *
              generalize ps[k].2 = xi at *
              unfold str at c1 c3
              have r1 := cell_regrown c1
              have r2 := cell_regrown c2
              have r3 := cell_regrown c3
              have r4 := cell_regrown c4
              have n1 : ((bstr xs).toList == (bstr xs).toList) = true := beq_self_eq_true _
              have hx : (xi != xi) = false := by simp
              clear c1 c2 c3 c4
              go_wp2_with fail
              refine wp_region_quiet_below mixed (by kernel_rfl) ?_
              repeat (go_big_quiet_step (fail))
              refine wpQuiet_nil ?_
              intro W2 hw'
              obtain ⟨⟨dq, osq⟩, hw''⟩ := hw'
              have hbq := hbel.trans ((below_regrown wr dq osq).mono hbel.size)
              rw [← hw''] at hbq
              clear hw'' r1 r2 r3 r4
              go_wp2
              go_roundw
              case rel => exact ⟨k + 1, by omega, by go_num, hbq⟩
              case measure => simp [intOf]; omega
            · have ki : ¬ (k : Int) < (ps.length : Int) := by omega
              have BW := B4.trans (hbel.mono B4.size)
              go_wp2_with (go_at_call 22; refine (HK.out _ BW).mono ?_; rintro e w9 ⟨rfl, hb9⟩)
              go_ret
              exact ⟨rfl, BW.trans (hb9.mono BW.size)⟩
end Go.Proofs.YtjbmihgfneamlaaDoor
