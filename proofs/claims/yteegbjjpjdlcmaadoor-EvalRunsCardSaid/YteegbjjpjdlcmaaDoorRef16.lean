/- rubrickref16.Right. -/
import Derived.Test.YteegbjjpjdlcmaaDoorQRight
import Derived.Test.YteegbjjpjdlcmaaDoorRefAll
set_option linter.unusedVariables false
namespace Go.Proofs.YteegbjjpjdlcmaaDoor
open Go.RowKit

set_option maxRecDepth 100000 in
set_option maxHeartbeats 4000000 in
theorem r16_any (v : Value) (l : List QOp) (w : World) (h : Rd w v l.length 2 (ocells l)) (hn : l.length ≤ 100000) (hts : ∀ s ∈ l, s.2.length ≤ 100000) (hks : ∀ s ∈ l, -9223372036854775808 ≤ s.1 ∧ s.1 ≤ 9223372036854775807) :
    Calls Tryd.prog 25 #[v] w fun e w' => e = .returned (.bool (qRight l)) ∧ Below w.heap.size w w' := by
  obtain ⟨ao, c, rfl, hm, hcell⟩ := ops_cells h
  have HC := Lib.hid hcell
  have HTS := Lib.hid hts
  have HKS := Lib.hid hks
  clear hcell h hm hts hks
  have HR : Hid (qRight l = rightGo 0 0 l) := rfl
  go_enter Tryd.func25, Tryd.ntmps25
  go_wp2
  go_loopw [3, 4] (fun x i wr => ∃ (k q : Nat) (p : Int), k ≤ l.length ∧ i = .int .i64 k ∧ x = .int .i64 q ∧ q ≤ k ∧ p = 2 * (q : Int) - k ∧ 0 ≤ p ∧ Hid (qRight l = rightGo p q (l.drop k)) ∧ Below w.heap.size w wr) (fun _ i _ => l.length - (intOf i).toNat)
  case atStart => exact ⟨0, 0, 0, Nat.zero_le _, rfl, rfl, Nat.le_refl _, by omega, by omega, rfl, Below.refl _ _⟩
  case round =>
    obtain ⟨k, q, p, hk, rfl, rfl, hqk, hp, hp0, HQ, hbel⟩ := hrel
    have hsz := hbel.size
    by_cases hlt : k < l.length
    · obtain ⟨b, off, rfl, h1, h2⟩ := HC.out k hlt
      have c1 := cell_later hbel h1
      have c2 := cell_later hbel h2
      have hdrop : l.drop k = l[k] :: l.drop (k + 1) := List.drop_eq_getElem_cons hlt
      have htl := HTS.out l[k] (List.getElem_mem _)
      have hkb := HKS.out l[k] (List.getElem_mem _)
      have ki : (k : Int) < (l.length : Int) := by omega
      have k0 : (0 : Int) ≤ (k : Int) := by omega
      clear h1 h2
      obtain ⟨⟨kk, tt⟩, hx⟩ : ∃ s, s = l[k] := ⟨_, rfl⟩
      rw [← hx] at hdrop c1 c2 htl hkb
      simp only at c1 c2 htl hkb
      have hstep : qRight l = rightGo p q ((kk, tt) :: l.drop (k + 1)) := by rw [HQ.out, hdrop]
      have HST := Lib.hid hstep
      have HP := Lib.hid hp
      have hqb : (q : Int) ≤ 100000 := by omega
      have hkb2 : (k : Int) ≤ 100000 := by omega
      clear hstep hdrop hx HQ hp
      by_cases hk0 : kk = 0
      · subst hk0
        have hrt := rtok05_any tt wr htl
        cases hrr : rightTok tt with
        | true =>
          rw [hrr] at hrt
          have HRT := Lib.hid hrt
          have hst : Hid (qRight l = rightGo (p + 1) ((q : Int) + 1) (l.drop (k + 1))) := by
            show _ = _
            rw [HST.out]; simp only [rightGo]; rw [if_pos trivial, if_pos hrr]
          clear hrt hrr
          go_wp2_with (go_at_call 51; refine HRT.out.mono ?_; rintro e w2 ⟨rfl, hb2⟩)
          go_roundw
          case rel => exact ⟨k + 1, q + 1, p + 1, by omega, by go_num, by go_num, by omega, by have := HP.out; omega, by omega, by rw [show ((q + 1 : Nat) : Int) = (q : Int) + 1 from by omega]; exact hst.out, hbel.trans (hb2.mono hsz)⟩
          case measure => simp [intOf]; omega
        | false =>
          rw [hrr] at hrt
          have HRT := Lib.hid hrt
          have hst : Hid (qRight l = false) := by
            show _ = _
            rw [HST.out]; simp only [rightGo]; rw [if_pos trivial, if_neg (by simp [hrr])]
          clear hrt hrr
          go_wp2_with (go_at_call 51; refine HRT.out.mono ?_; rintro e w2 ⟨rfl, hb2⟩)
          go_ret
          exact ⟨ret_bool hst.out.symm, hbel.trans (hb2.mono hsz)⟩
      · have hk0' : (kk == 0) = false := beq_eq_false_iff_ne.2 hk0
        by_cases hneg : kk < 0
        · have hst : Hid (qRight l = false) := by
            show _ = _
            rw [HST.out]; simp only [rightGo]; rw [if_neg hk0, if_neg (by omega)]
          clear hk0
          go_wp2
          go_ret
          exact ⟨ret_bool hst.out.symm, hbel⟩
        · by_cases hbig : 3 < kk
          · have hst : Hid (qRight l = false) := by
              show _ = _
              rw [HST.out]; simp only [rightGo]; rw [if_neg hk0, if_neg (by omega)]
            clear hk0
            go_wp2
            go_ret
            exact ⟨ret_bool hst.out.symm, hbel⟩
          · have hk3 : kk = 1 ∨ kk = 2 ∨ kk = 3 := by omega
            by_cases htt : tt = []
            · have he1 : (bstr tt).toList.isEmpty = true := by rw [btoList, htt]; rfl
              by_cases hp2 : p < 2
              · have hst : Hid (qRight l = false) := by
                  show _ = _
                  rw [HST.out]; simp only [rightGo]; rw [if_neg hk0, if_pos hk3, if_pos (.inr hp2)]
                have i1 : (q : Int) < (k : Int) - (q : Int) + 2 := by have := HP.out; omega
                clear hk0 hk3 hp2
                subst htt
                go_wp2
                go_ret
                exact ⟨ret_bool hst.out.symm, hbel⟩
              · have hst : Hid (qRight l = rightGo (p - 1) q (l.drop (k + 1))) := by
                  show _ = _
                  rw [HST.out]; simp only [rightGo]; rw [if_neg hk0, if_pos hk3, if_neg (by simp [htt]; omega)]
                have i1 : ¬ (q : Int) < (k : Int) - (q : Int) + 2 := by have := HP.out; omega
                have HP2 := Lib.hid hp2
                clear hk0 hk3 hp2
                subst htt
                go_wp2
                go_roundw
                case rel => exact ⟨k + 1, q, p - 1, by omega, by go_num, rfl, by omega, by have := HP.out; omega, by have := HP2.out; omega, hst.out, hbel⟩
                case measure => simp [intOf]; omega
            · have he1 : (bstr tt).toList.isEmpty = false := by rw [btoList]; cases tt with | nil => exact absurd rfl htt | cons a r => rfl
              have he2 : ¬ (bstr tt).toList = [] := by rw [btoList]; exact htt
              have hst : Hid (qRight l = false) := by
                show _ = _
                rw [HST.out]; simp only [rightGo]; rw [if_neg hk0, if_pos hk3, if_pos (.inl htt)]
              clear hk0 hk3 htt
              go_wp2
              go_ret
              exact ⟨ret_bool hst.out.symm, hbel⟩
    · have ki : ¬ (k : Int) < (l.length : Int) := by omega
      have hkl : k = l.length := by omega
      have hq2 := HQ.out
      rw [List.drop_of_length_le (by omega)] at hq2
      simp only [rightGo] at hq2
      have HQ2 := Lib.hid hq2
      have hqb : (q : Int) ≤ 100000 := by omega
      have hlb : (l.length : Int) ≤ 100000 := by omega
      clear hq2 HQ HR
      by_cases h1 : (q : Int) = (l.length : Int) - (q : Int) + 1
      · have e1 : ((q : Int) == (l.length : Int) - (q : Int) + 1) = true := by rw [← h1]; exact beq_self_eq_true _
        by_cases h2 : (q : Int) ≤ 16
        · have hr : Hid (qRight l = true) := by show _ = _; rw [HQ2.out, decide_eq_true (show p = 1 by omega), decide_eq_true h2]; rfl
          clear h1
          go_wp2
          go_ret
          exact ⟨ret_bool hr.out.symm, hbel⟩
        · have hr : Hid (qRight l = false) := by show _ = _; rw [HQ2.out, decide_eq_false h2]; simp
          clear h1
          go_wp2
          go_ret
          exact ⟨ret_bool hr.out.symm, hbel⟩
      · have e1 : ((q : Int) == (l.length : Int) - (q : Int) + 1) = false := beq_eq_false_iff_ne.2 h1
        have hr : Hid (qRight l = false) := by show _ = _; rw [HQ2.out, decide_eq_false (show ¬ p = 1 by omega)]; rfl
        clear h1
        go_wp2
        go_ret
        exact ⟨ret_bool hr.out.symm, hbel⟩
end Go.Proofs.YteegbjjpjdlcmaaDoor
