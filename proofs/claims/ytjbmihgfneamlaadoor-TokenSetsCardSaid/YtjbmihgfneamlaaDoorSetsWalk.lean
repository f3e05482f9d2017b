/- rubricklaw05.TokenSets: the walk. -/
import Derived.Test.YtjbmihgfneamlaaDoorCutsWalk
import Derived.Test.YtjbmihgfneamlaaDoorHeld2
set_option linter.unusedVariables false
namespace Go.Proofs.YtjbmihgfneamlaaDoor
open Go.RowKit Go.Sort

def PosLen (w : World) (e : Ending) (w' : World) : Prop := ∃ a m c, e = .returned (.slice a m c) ∧ ((m : Int) == 0) = false ∧ Below w.heap.size w w'

theorem rises_step {ss : List (List UInt8)} (h : Rises ltStr ss) (k : Nat) (h0 : 0 < k) (hk : k < ss.length) : ltStr (ss[k - 1]'(by omega)) ss[k] = true :=
  List.pairwise_iff_getElem.1 h (k - 1) k (by omega) hk (by omega)

theorem mem_take_succ {ss : List (List UInt8)} {t : List UInt8} (k : Nat) (hk : k < ss.length) : (decide (t ∈ ss.take (k + 1))) = (decide (t ∈ ss.take k) || decide (ss[k] = t)) := by
  rw [List.take_succ_eq_append_getElem hk]
  have : t ∈ ss.take k ++ [ss[k]] ↔ t ∈ ss.take k ∨ ss[k] = t := by
    rw [List.mem_append, List.mem_singleton]
    constructor
    · rintro (h | h)
      · exact .inl h
      · exact .inr h.symm
    · rintro (h | h)
      · exact .inl h
      · exact .inr h.symm
  rw [Bool.eq_iff_iff]
  simp only [decide_eq_true_eq, Bool.or_eq_true]
  exact this

set_option maxRecDepth 100000 in
set_option maxHeartbeats 8000000 in
theorem sets_walk (v : Value) (b : List UInt8) (w : World) (ht : Tabs w) (h : Rd w v b.length 1 (bcells b)) :
    Calls Tryd.prog 10 #[v] w fun e w' => e = .returned (.bool true) ∧ Below w.heap.size w w' := by
  have HK : Hid (∀ W, Below w.heap.size w W → Calls Tryd.prog 22 #[] W fun e w' => e = .returned (.bool true) ∧ Below W.heap.size W w') := fun W hW => knows05_any W (ht.below hW)
  obtain ⟨ao, c, rfl⟩ := rd_shape h
  have mixed : Tryd.prog.follows .mixedOrders = true := by kernel_rfl
  by_cases hlong : 2000 < b.length
  · have hG := Lib.hid (fun W => great05_yes ao b.length c W hlong)
    clear h ht
    go_enter Tryd.func10, Tryd.ntmps10
    go_wp2_with (first | (go_at_call 21; refine (hG.out _).mono ?_; rintro e w' ⟨rfl, rfl⟩) | (go_at_call 22; refine (HK.out _ (Below.refl _ _)).mono ?_; rintro e w2 ⟨rfl, hb2⟩))
    go_ret
    exact ⟨rfl, hb2⟩
  · have hG := Lib.hid (fun W => great05_no ao b.length c W hlong)
    have HTT := Lib.hid (fun W (hW : Below w.heap.size w W) => terms_any (.slice ao b.length c) b W (ht.below hW) (h.below hW) (by omega))
    have HTS := Lib.hid (fun W (hW : Below w.heap.size w W) => tset_any (.slice ao b.length c) b W (ht.below hW) (h.below hW) (by omega))
    have HPL : Hid (∀ W t, Below w.heap.size w W → t ∈ terms b → Calls Tryd.prog 28 #[.slice ao b.length c, .string (bstr t)] W (PosLen W)) := fun W t hW ht' => by
      refine (tplaces_any (.slice ao b.length c) b t W (ht.below hW) (h.below hW) (by omega)).mono ?_
      rintro e w' ⟨v', rfl, hown, hb⟩
      have hne := List.length_pos_iff.2 (placesFrom_pos ht' 0)
      obtain ⟨a', c', rfl⟩ := own_shape hown
      exact ⟨_, _, _, rfl, beq_eq_false_iff_ne.2 (by omega), hb⟩
    have hri := rises_setOf (terms b)
    have hme : ∀ t, t ∈ setOf (terms b) ↔ t ∈ terms b := fun t => mem_setOf
    generalize setOf (terms b) = ss at *
    generalize terms b = ts at *
    have HRI := Lib.hid hri
    have HME := Lib.hid hme
    clear h ht hlong hri hme
    go_enter Tryd.func10, Tryd.ntmps10
    go_wp2_with (first
      | (go_at_call 21; refine (hG.out _).mono ?_; rintro e w' ⟨rfl, rfl⟩)
      | (go_at_call 26; refine (HTS.out _ hb1).mono ?_; rintro e w2 ⟨v2, rfl, hown2, hb2⟩; have B2 := hb1.trans (hb2.mono hb1.size); have hO1 := own_below' hown1 hb2; obtain ⟨a2, c2, rfl⟩ := own_shape hown2)
      | (go_at_call 24; refine (HTT.out _ (Below.refl _ _)).mono ?_; rintro e w1 ⟨v1, rfl, hown1, hb1⟩; obtain ⟨a1, c1, rfl⟩ := own_shape hown1))
    obtain ⟨ao1, co1, hv1, hm1, HC1⟩ := strs_cells (Rd.of_own hO1)
    simp only [Value.slice.injEq, true_and] at hv1
    obtain ⟨rfl, rfl⟩ := hv1
    obtain ⟨ao2, co2, hv2, hm2, HC2⟩ := strs_cells (Rd.of_own hown2)
    simp only [Value.slice.injEq, true_and] at hv2
    obtain ⟨rfl, rfl⟩ := hv2
    clear hown1 hown2 hO1
    go_loopw [5] (fun i wr => ∃ k : Nat, k ≤ ss.length ∧ i = .int .i64 k ∧ Below w2.heap.size w2 wr) (fun i _ => ss.length - (intOf i).toNat)
    case atStart => exact ⟨0, Nat.zero_le _, rfl, Below.refl _ _⟩
    case round =>
      obtain ⟨k, hk, rfl, hbel⟩ := hrel
      have BW := B2.trans (hbel.mono B2.size)
      by_cases hlt : k < ss.length
      · obtain ⟨b0, off, rfl, hc0⟩ := HC2.out k hlt
        have cK := cell_later hbel hc0
        have ki : (k : Int) < (ss.length : Int) := by omega
        have k0' : (0 : Int) ≤ (k : Int) := by omega
        have HPK := Lib.hid (HPL.out wr.drew ss[k] BW.drew ((HME.out _).1 (List.getElem_mem hlt)))
        rcases Nat.eq_zero_or_pos k with h0 | h0
        · subst h0
          obtain ⟨t, hx⟩ : ∃ t, t = ss[0] := ⟨_, rfl⟩
          rw [← hx] at cK HPK
          unfold str at cK
          rw [Nat.add_zero] at cK
          clear hx hc0
          rw [show ((0 : Nat) : Int) = 0 from rfl]
          go_wp2_with fail
          refine L_begin (fun W => W.cell? ⟨b0, off, none⟩ = some (.string (bstr t))) 20 (by kernel_rfl) ?_
          have hS : wr.drew.cell? ⟨b0, off, none⟩ = some (.string (bstr t)) := cK
          have hB1 := hbel.drew
          clear hbel cK
          generalize wr.drew = wd at *
          refine L_free (fuel := 23) 0 (.int .i64 0) rfl (by kernel_rfl) (by kernel_rfl) (by kernel_rfl) (by kernel_rfl) (fun _ _ _ h => h) (by kernel_rfl) ?_ hS ?_
          · intro W
            go_simp
          refine L_free (fuel := 22) 1 (.bool false) rfl (by kernel_rfl) (by kernel_rfl) (by kernel_rfl) (by kernel_rfl) (fun _ _ _ h => h) (by kernel_rfl) ?_ hS ?_
          · intro W
            go_simp
          refine L_free (fuel := 21) 2 (.bool false) rfl (by kernel_rfl) (by kernel_rfl) (by kernel_rfl) (by kernel_rfl) (fun _ _ _ h => h) (by kernel_rfl) ?_ hS ?_
          · intro W
            go_simp
          refine L_skip (fuel := 20) 3 rfl (by kernel_rfl) (by kernel_rfl) (by kernel_rfl) (by kernel_rfl) (fun _ _ _ h => h) (by kernel_rfl) hS ?_
          refine L_skip (fuel := 19) 4 rfl (by kernel_rfl) (by kernel_rfl) (by kernel_rfl) (by kernel_rfl) (fun _ _ _ h => h) (by kernel_rfl) hS ?_
          refine L_skip (fuel := 18) 5 rfl (by kernel_rfl) (by kernel_rfl) (by kernel_rfl) (by kernel_rfl) (fun _ _ _ h => h) (by kernel_rfl) hS ?_
          refine L_skip (fuel := 17) 6 rfl (by kernel_rfl) (by kernel_rfl) (by kernel_rfl) (by kernel_rfl) (fun _ _ _ h => h) (by kernel_rfl) hS ?_
          refine L_skip (fuel := 16) 7 rfl (by kernel_rfl) (by kernel_rfl) (by kernel_rfl) (by kernel_rfl) (fun _ _ _ h => h) (by kernel_rfl) hS ?_
          refine L_skip (fuel := 15) 8 rfl (by kernel_rfl) (by kernel_rfl) (by kernel_rfl) (by kernel_rfl) (fun _ _ _ h => h) (by kernel_rfl) hS ?_
          refine L_skip (fuel := 14) 9 rfl (by kernel_rfl) (by kernel_rfl) (by kernel_rfl) (by kernel_rfl) (fun _ _ _ h => h) (by kernel_rfl) hS ?_
          refine L_skip (fuel := 13) 10 rfl (by kernel_rfl) (by kernel_rfl) (by kernel_rfl) (by kernel_rfl) (fun _ _ _ h => h) (by kernel_rfl) hS ?_
          refine L_skip (fuel := 12) 11 rfl (by kernel_rfl) (by kernel_rfl) (by kernel_rfl) (by kernel_rfl) (fun _ _ _ h => h) (by kernel_rfl) hS ?_
          refine L_skip (fuel := 11) 12 rfl (by kernel_rfl) (by kernel_rfl) (by kernel_rfl) (by kernel_rfl) (fun _ _ _ h => h) (by kernel_rfl) hS ?_
          refine L_free (fuel := 10) 13 (.bool false) rfl (by kernel_rfl) (by kernel_rfl) (by kernel_rfl) (by kernel_rfl) (fun _ _ _ h => h) (by kernel_rfl) ?_ hS ?_
          · intro W
            go_simp
          refine L_free (fuel := 9) 14 (.bool false) rfl (by kernel_rfl) (by kernel_rfl) (by kernel_rfl) (by kernel_rfl) (fun _ _ _ h => h) (by kernel_rfl) ?_ hS ?_
          · intro W
            go_simp
          refine L_free (fuel := 8) 15 (.slice ao b.length c) rfl (by kernel_rfl) (by kernel_rfl) (by kernel_rfl) (by kernel_rfl) (fun _ _ _ h => h) (by kernel_rfl) ?_ hS ?_
          · intro W
            go_simp
          refine L_free (fuel := 7) 16 (.slice (some ⟨b0, off, none⟩) ss.length c2) rfl (by kernel_rfl) (by kernel_rfl) (by kernel_rfl) (by kernel_rfl) (fun _ _ _ h => h) (by kernel_rfl) ?_ hS ?_
          · intro W
            go_simp
          refine L_free (fuel := 6) 17 (.int .i64 0) rfl (by kernel_rfl) (by kernel_rfl) (by kernel_rfl) (by kernel_rfl) (fun _ _ _ h => h) (by kernel_rfl) ?_ hS ?_
          · intro W
            go_simp
          refine L_free (fuel := 5) 18 (.pointer (some ⟨b0, off, none⟩)) rfl (by kernel_rfl) (by kernel_rfl) (by kernel_rfl) (by kernel_rfl) (fun _ _ _ h => h) (by kernel_rfl) ?_ hS ?_
          · intro W
            go_simp
          refine L_take (fuel := 4) 19 (.string (bstr t)) rfl (by kernel_rfl) (by kernel_rfl) (by kernel_rfl) (by kernel_rfl) (fun _ _ _ h => h) (by kernel_rfl) ?_ hS ?_
          · intro W hW
            have q1 := hW
            go_simp
          refine L_end (fuel := 3) 20 (by kernel_rfl) rfl (by kernel_rfl) ?_
          intro K hK
          go_simp
          refine HPK.out.mono ?_
          rintro e w4 ⟨a4, n4, c4, rfl, h4, hb4⟩
          go_simp
          refine hK _ _ ?_
          clear hK K
          refine L_end (fuel := 2) 21 (by kernel_rfl) rfl (by kernel_rfl) ?_
          intro K hK
          go_simp
          refine hK _ _ ?_
          clear hK K
          refine L_end (fuel := 1) 22 (by kernel_rfl) rfl (by kernel_rfl) ?_
          intro K hK
          go_simp
          refine hK _ _ ?_
          clear hK K
          refine L_end (fuel := 0) 23 (by kernel_rfl) rfl (by kernel_rfl) ?_
          intro K hK
          go_simp
          refine hK _ _ ?_
          clear hK K
          refine L_done (by kernel_rfl) ?_ 0
          have B4 := hB1.trans (hb4.mono hB1.size)
          go_wp2
          go_roundw
          case rel => exact ⟨1, by omega, by go_num, B4⟩
          case measure => simp [intOf]; omega
        · have hkp : k - 1 < ss.length := by omega
          obtain ⟨b0', off', he', hp0⟩ := HC2.out (k - 1) hkp
          simp only [Option.some.injEq, Addr.mk.injEq, and_true] at he'
          obtain ⟨rfl, rfl⟩ := he'
          have cP := cell_later hbel hp0
          have hl := less_is (ss[k - 1]'hkp) ss[k]
          rw [rises_step HRI.out k h0 hlt] at hl
          obtain ⟨t, hx⟩ : ∃ t, t = ss[k] := ⟨_, rfl⟩
          obtain ⟨tp, hxp⟩ : ∃ t, t = ss[k - 1]'hkp := ⟨_, rfl⟩
          rw [← hx] at cK HPK hl
          rw [← hxp] at cP hl
          unfold str at cK cP
          have i1 : (0 : Int) < (k : Int) := by omega
          have i5 : ¬ (k : Int) < 1 := by omega
          have i2 : (0 : Int) ≤ (k : Int) - 1 := by omega
          have i3 : (k : Int) - 1 < (ss.length : Int) := by omega
          have i4 : ((k : Int) - 1).toNat = k - 1 := by omega
          have hwk : IntKind.i64.wrap ((k : Int) - 1) = (k : Int) - 1 := by rw [IntKind.wrap_i64]; omega
          clear hx hxp hc0 hp0
          go_wp2_with fail
          refine L_begin (fun W => W.cell? ⟨b0, off + (k - 1), none⟩ = some (.string (bstr tp)) ∧ W.cell? ⟨b0, off + k, none⟩ = some (.string (bstr t))) 12 (by kernel_rfl) ?_
          have hS : wr.drew.cell? ⟨b0, off + (k - 1), none⟩ = some (.string (bstr tp)) ∧ wr.drew.cell? ⟨b0, off + k, none⟩ = some (.string (bstr t)) := ⟨cP, cK⟩
          have hB1 := hbel.drew
          clear hbel cK cP
          generalize wr.drew = wd at *
          refine L_free (fuel := 23) 0 (.int .i64 k) rfl (by kernel_rfl) (by kernel_rfl) (by kernel_rfl) (by kernel_rfl) (fun _ _ _ h => h) (by kernel_rfl) ?_ hS ?_
          · intro W
            go_simp
          refine L_free (fuel := 22) 1 (.bool true) rfl (by kernel_rfl) (by kernel_rfl) (by kernel_rfl) (by kernel_rfl) (fun _ _ _ h => h) (by kernel_rfl) ?_ hS ?_
          · intro W
            go_simp
          refine L_free (fuel := 21) 2 (.bool true) rfl (by kernel_rfl) (by kernel_rfl) (by kernel_rfl) (by kernel_rfl) (fun _ _ _ h => h) (by kernel_rfl) ?_ hS ?_
          · intro W
            go_simp
          refine L_free (fuel := 20) 3 (.slice (some ⟨b0, off, none⟩) ss.length c2) rfl (by kernel_rfl) (by kernel_rfl) (by kernel_rfl) (by kernel_rfl) (fun _ _ _ h => h) (by kernel_rfl) ?_ hS ?_
          · intro W
            go_simp
          refine L_free (fuel := 19) 4 (.int .i64 k) rfl (by kernel_rfl) (by kernel_rfl) (by kernel_rfl) (by kernel_rfl) (fun _ _ _ h => h) (by kernel_rfl) ?_ hS ?_
          · intro W
            go_simp
          refine L_free (fuel := 18) 5 (.int .i64 ((k : Int) - 1)) rfl (by kernel_rfl) (by kernel_rfl) (by kernel_rfl) (by kernel_rfl) (fun _ _ _ h => h) (by kernel_rfl) ?_ hS ?_
          · intro W
            go_simp
          refine L_free (fuel := 17) 6 (.pointer (some ⟨b0, off + (k - 1), none⟩)) rfl (by kernel_rfl) (by kernel_rfl) (by kernel_rfl) (by kernel_rfl) (fun _ _ _ h => h) (by kernel_rfl) ?_ hS ?_
          · intro W
            go_simp
          refine L_take (fuel := 16) 7 (.string (bstr tp)) rfl (by kernel_rfl) (by kernel_rfl) (by kernel_rfl) (by kernel_rfl) (fun _ _ _ h => h) (by kernel_rfl) ?_ hS ?_
          · intro W hW
            obtain ⟨q1, q2⟩ := hW
            go_simp
          refine L_free (fuel := 15) 8 (.slice (some ⟨b0, off, none⟩) ss.length c2) rfl (by kernel_rfl) (by kernel_rfl) (by kernel_rfl) (by kernel_rfl) (fun _ _ _ h => h) (by kernel_rfl) ?_ hS ?_
          · intro W
            go_simp
          refine L_free (fuel := 14) 9 (.int .i64 k) rfl (by kernel_rfl) (by kernel_rfl) (by kernel_rfl) (by kernel_rfl) (fun _ _ _ h => h) (by kernel_rfl) ?_ hS ?_
          · intro W
            go_simp
          refine L_free (fuel := 13) 10 (.pointer (some ⟨b0, off + k, none⟩)) rfl (by kernel_rfl) (by kernel_rfl) (by kernel_rfl) (by kernel_rfl) (fun _ _ _ h => h) (by kernel_rfl) ?_ hS ?_
          · intro W
            go_simp
          refine L_take (fuel := 12) 11 (.string (bstr t)) rfl (by kernel_rfl) (by kernel_rfl) (by kernel_rfl) (by kernel_rfl) (fun _ _ _ h => h) (by kernel_rfl) ?_ hS ?_
          · intro W hW
            obtain ⟨q1, q2⟩ := hW
            go_simp
          refine L_end (fuel := 11) 12 (by kernel_rfl) rfl (by kernel_rfl) ?_
          intro K hK
          go_simp
          refine hK _ _ ?_
          clear hK K
          refine L_free (fuel := 10) 13 (.bool false) rfl (by kernel_rfl) (by kernel_rfl) (by kernel_rfl) (by kernel_rfl) (fun _ _ _ h => h) (by kernel_rfl) ?_ hS ?_
          · intro W
            go_simp
          refine L_free (fuel := 9) 14 (.bool false) rfl (by kernel_rfl) (by kernel_rfl) (by kernel_rfl) (by kernel_rfl) (fun _ _ _ h => h) (by kernel_rfl) ?_ hS ?_
          · intro W
            go_simp
          refine L_free (fuel := 8) 15 (.slice ao b.length c) rfl (by kernel_rfl) (by kernel_rfl) (by kernel_rfl) (by kernel_rfl) (fun _ _ _ h => h) (by kernel_rfl) ?_ hS ?_
          · intro W
            go_simp
          refine L_free (fuel := 7) 16 (.slice (some ⟨b0, off, none⟩) ss.length c2) rfl (by kernel_rfl) (by kernel_rfl) (by kernel_rfl) (by kernel_rfl) (fun _ _ _ h => h) (by kernel_rfl) ?_ hS ?_
          · intro W
            go_simp
          refine L_free (fuel := 6) 17 (.int .i64 k) rfl (by kernel_rfl) (by kernel_rfl) (by kernel_rfl) (by kernel_rfl) (fun _ _ _ h => h) (by kernel_rfl) ?_ hS ?_
          · intro W
            go_simp
          refine L_free (fuel := 5) 18 (.pointer (some ⟨b0, off + k, none⟩)) rfl (by kernel_rfl) (by kernel_rfl) (by kernel_rfl) (by kernel_rfl) (fun _ _ _ h => h) (by kernel_rfl) ?_ hS ?_
          · intro W
            go_simp
          refine L_end (fuel := 4) 19 (by kernel_rfl) rfl (by kernel_rfl) ?_
          intro K hK
          go_simp
          refine hK _ _ ?_
          clear hK K
          refine L_end (fuel := 3) 20 (by kernel_rfl) rfl (by kernel_rfl) ?_
          intro K hK
          go_simp
          refine HPK.out.mono ?_
          rintro e w4 ⟨a4, n4, c4, rfl, h4, hb4⟩
          go_simp
          refine hK _ _ ?_
          clear hK K
          refine L_end (fuel := 2) 21 (by kernel_rfl) rfl (by kernel_rfl) ?_
          intro K hK
          go_simp
          refine hK _ _ ?_
          clear hK K
          refine L_end (fuel := 1) 22 (by kernel_rfl) rfl (by kernel_rfl) ?_
          intro K hK
          go_simp
          refine hK _ _ ?_
          clear hK K
          refine L_end (fuel := 0) 23 (by kernel_rfl) rfl (by kernel_rfl) ?_
          intro K hK
          go_simp
          refine hK _ _ ?_
          clear hK K
          refine L_done (by kernel_rfl) ?_ 0
          have B4 := hB1.trans (hb4.mono hB1.size)
          go_wp2
          go_roundw
          case rel => exact ⟨k + 1, by omega, by go_num, B4⟩
          case measure => simp [intOf]; omega
      · have ki : ¬ (k : Int) < (ss.length : Int) := by omega
        clear hlt BW
        go_wp2
        go_loopw [6] (fun i W => ∃ q : Nat, q ≤ ts.length ∧ i = .int .i64 q ∧ Below w2.heap.size w2 W) (fun i _ => ts.length - (intOf i).toNat)
        case atStart => exact ⟨0, Nat.zero_le _, rfl, hbel⟩
        case round =>
          clear hbel
          obtain ⟨q, hq, rfl, hbel⟩ := hrel
          by_cases hqt : q < ts.length
          · obtain ⟨b1, off1, rfl, hq0⟩ := HC1.out q hqt
            have qi : (q : Int) < (ts.length : Int) := by omega
            have hin : ts[q] ∈ ss := (HME.out _).2 (List.getElem_mem hqt)
            obtain ⟨t, hx⟩ : ∃ t, t = ts[q] := ⟨_, rfl⟩
            rw [← hx] at hq0 hin
            have e2 := btoList t
            unfold str at hq0
            clear hx
            go_wp2
            go_loopw [7, 8] (fun fv jv W => ∃ (j : Nat) (fb : Bool), j ≤ ss.length ∧ fv = .bool fb ∧ jv = .int .i64 j ∧ Hid (fb = decide (t ∈ ss.take j)) ∧ Below w2.heap.size w2 W) (fun _ jv _ => ss.length - (intOf jv).toNat)
            case atStart => exact ⟨0, false, Nat.zero_le _, rfl, rfl, by show _ = _; simp, hbel⟩
            case round =>
              clear hbel
              obtain ⟨j, fb, hj, rfl, rfl, HF, hbel⟩ := hrel
              by_cases hjs : j < ss.length
              · obtain ⟨b0, off, rfl, hj0⟩ := HC2.out j hjs
                have ji : (j : Int) < (ss.length : Int) := by omega
                have j0' : (0 : Int) ≤ (j : Int) := by omega
                have q0' : (0 : Int) ≤ (q : Int) := by omega
                have HM := Lib.hid (mem_take_succ (t := t) j hjs)
                obtain ⟨x, hx⟩ : ∃ x, x = ss[j] := ⟨_, rfl⟩
                rw [← hx] at hj0 HM
                have e1 := btoList x
                unfold str at hj0
                have r1 := cell_regrown (cell_later hbel hj0)
                have r2 := cell_regrown (cell_later hbel hq0)
                clear hx hj0
                cases fb with
                | true =>
                  have HF2 : Hid (true = decide (t ∈ ss.take (j + 1))) := by show _ = _; rw [HM.out, ← HF.out]; rfl
                  clear e1 e2
                  go_wp2_with fail
                  refine wp_region_quiet_below mixed (by kernel_rfl) ?_
                  repeat (go_big_quiet_step (fail))
                  refine wpQuiet_nil ?_
                  intro W2 hw'
                  obtain ⟨⟨dq, osq⟩, hw''⟩ := hw'
                  have hbq := hbel.trans ((below_regrown wr dq osq).mono hbel.size)
                  rw [← hw''] at hbq
                  clear hw'' r1 r2
                  go_wp2
                  go_roundw
                  case rel => exact ⟨j + 1, true, by omega, rfl, by go_num, HF2.out, hbq⟩
                  case measure => simp [intOf]; omega
                | false =>
                  by_cases hxt : x = t
                  · have n1 : ((bstr x).toList == (bstr t).toList) = true := by rw [hxt]; exact beq_self_eq_true _
                    have HF2 : Hid (true = decide (t ∈ ss.take (j + 1))) := by show _ = _; rw [HM.out, ← HF.out, decide_eq_true hxt]; rfl
                    clear e1 e2 hxt
                    go_wp2_with fail
                    refine wp_region_quiet_below mixed (by kernel_rfl) ?_
                    repeat (go_big_quiet_step (fail))
                    refine wpQuiet_nil ?_
                    intro W2 hw'
                    obtain ⟨⟨dq, osq⟩, hw''⟩ := hw'
                    have hbq := hbel.trans ((below_regrown wr dq osq).mono hbel.size)
                    rw [← hw''] at hbq
                    clear hw'' r1 r2
                    go_wp2
                    go_roundw
                    case rel => exact ⟨j + 1, true, by omega, rfl, by go_num, HF2.out, hbq⟩
                    case measure => simp [intOf]; omega
                  · have n1 : ((bstr x).toList == (bstr t).toList) = false := by rw [e1, e2]; simpa using hxt
                    have HF2 : Hid (false = decide (t ∈ ss.take (j + 1))) := by show _ = _; rw [HM.out, ← HF.out, decide_eq_false hxt]; rfl
                    clear e1 e2 hxt
                    go_wp2_with fail
                    refine wp_region_quiet_below mixed (by kernel_rfl) ?_
                    repeat (go_big_quiet_step (fail))
                    refine wpQuiet_nil ?_
                    intro W2 hw'
                    obtain ⟨⟨dq, osq⟩, hw''⟩ := hw'
                    have hbq := hbel.trans ((below_regrown wr dq osq).mono hbel.size)
                    rw [← hw''] at hbq
                    clear hw'' r1 r2
                    go_wp2
                    go_roundw
                    case rel => exact ⟨j + 1, false, by omega, rfl, by go_num, HF2.out, hbq⟩
                    case measure => simp [intOf]; omega
              · have ji : ¬ (j : Int) < (ss.length : Int) := by omega
                have hf := HF.out
                rw [show ss.take j = ss from List.take_of_length_le (by omega), decide_eq_true hin] at hf
                subst hf
                go_wp2
                go_roundw
                case rel => exact ⟨q + 1, by omega, by go_num, hbel⟩
                case measure => simp [intOf]; omega
          · have qi : ¬ (q : Int) < (ts.length : Int) := by omega
            have BW := B2.trans (hbel.mono B2.size)
            go_wp2_with (go_at_call 22; refine (HK.out _ BW).mono ?_; rintro e w9 ⟨rfl, hb9⟩)
            go_ret
            exact ⟨rfl, BW.trans (hb9.mono BW.size)⟩
end Go.Proofs.YtjbmihgfneamlaaDoor
