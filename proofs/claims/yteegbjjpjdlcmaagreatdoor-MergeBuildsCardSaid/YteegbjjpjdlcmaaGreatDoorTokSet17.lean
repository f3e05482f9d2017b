/- cmp.Compare, slices.CompactFunc, token.rising and token.Set at strings. -/
import Derived.Test.YteegbjjpjdlcmaaGreatDoorSorted17
import Derived.Test.YteegbjjpjdlcmaaGreatDoorSetLaw
import Derived.Test.YteegbjjpjdlcmaaGreatDoorTerms
import Derived.Test.YteegbjjpjdlcmaaGreatDoorTokRight
import Derived.Test.YteegbjjpjdlcmaaGreatDoorShelfT
import Derived.Test.YteegbjjpjdlcmaaGreatDoorInPlace
import Derived.Sort.Walk0
import Derived.Deep.RegionHeld3
import Derived.WalkLawsBesides
import Derived.Lib.QuietBelow
import Derived.Lib.OwnBridge
set_option linter.unusedVariables false
namespace Go.Proofs.YteegbjjpjdlcmaaGreatDoor
open Go.RowKit Go.Sort

def cmpS (x y : List UInt8) : Int := if ltStr x y then -1 else if ltStr y x then 1 else 0
theorem isNaN_any (x : List UInt8) (w : World) : Calls Tryz.prog 58 #[str x] w fun e w' => e = .returned (.bool false) ∧ w = w' := by
  have h1 : ((bstr x).toList == (bstr x).toList) = true := beq_self_eq_true _
  unfold str
  go_enter Tryz.func58, Tryz.ntmps58
  go_wp2
  go_ret
  exact ⟨by first | rfl | simp, rfl⟩
set_option maxRecDepth 100000 in
set_option maxHeartbeats 1000000 in
theorem cmpS_any (x y : List UInt8) (w : World) : Calls Tryz.prog 43 #[str x, str y] w fun e w' => e = .returned (.int .i64 (cmpS x y)) ∧ w = w' := by
  have hx := fun W => isNaN_any x W
  have hy := fun W => isNaN_any y W
  unfold str at *
  have l1 := less_is x y
  have e1 := btoList x
  have e2 := btoList y
  cases h1 : ltStr x y with
  | true =>
    rw [h1] at l1
    have hr : Hid (cmpS x y = -1) := by show _ = _; unfold cmpS; rw [if_pos h1]
    clear e1 e2 h1
    go_enter Tryz.func43, Tryz.ntmps43
    go_wp2_with (first | (go_at_call 58; refine (hx _).mono ?_; rintro e w' ⟨rfl, rfl⟩) | (go_at_call 58; refine (hy _).mono ?_; rintro e w' ⟨rfl, rfl⟩))
    go_ret
    exact ⟨by rw [hr.out]; rfl, rfl⟩
  | false =>
    rw [h1] at l1
    by_cases he : x = y
    · subst he
      have hr : Hid (cmpS x x = 0) := by show _ = _; unfold cmpS; rw [if_neg (by simp [h1]), if_neg (by simp [h1])]
      have h2 : ((bstr x).toList == (bstr x).toList) = true := beq_self_eq_true _
      clear e1 e2 h1
      go_enter Tryz.func43, Tryz.ntmps43
      go_wp2_with (first | (go_at_call 58; refine (hx _).mono ?_; rintro e w' ⟨rfl, rfl⟩))
      go_ret
      exact ⟨by rw [hr.out]; rfl, rfl⟩
    · have h3 : ltStr y x = true := by
        cases h : ltStr y x with
        | true => rfl
        | false => exact absurd (totStr x y h1 h) he
      have hr : Hid (cmpS x y = 1) := by show _ = _; unfold cmpS; rw [if_neg (by simp [h1]), if_pos h3]
      have h2 : ((bstr x).toList == (bstr y).toList) = false := by rw [e1, e2]; simpa using he
      clear e1 e2 h1 h3 he
      go_enter Tryz.func43, Tryz.ntmps43
      go_wp2_with (first | (go_at_call 58; refine (hx _).mono ?_; rintro e w' ⟨rfl, rfl⟩) | (go_at_call 58; refine (hy _).mono ?_; rintro e w' ⟨rfl, rfl⟩))
      go_ret
      exact ⟨by rw [hr.out]; rfl, rfl⟩
theorem cmpS_zero (x y : List UInt8) : (cmpS x y == 0) = decide (x = y) := by
  unfold cmpS
  cases h1 : ltStr x y with
  | true =>
    have : x ≠ y := by rintro rfl; rw [swo_ltStr.irrefl] at h1; cases h1
    simp [this]
  | false =>
    cases h2 : ltStr y x with
    | true =>
      have : x ≠ y := by rintro rfl; rw [swo_ltStr.irrefl] at h2; cases h2
      simp [this]
    | false => simp [totStr x y h1 h2]
theorem ltOf_cmpS : ltOf cmpS = ltStr := by
  funext x y
  unfold ltOf cmpS
  cases h1 : ltStr x y with
  | true => simp
  | false => cases h2 : ltStr y x <;> simp
theorem risS_any (x y : List UInt8) (bx : Nat) (W : World) (hb : W.cell? ⟨bx, 0, none⟩ = some (.func (.func 43) #[] #[])) :
    Calls Tryz.prog 53 #[str x, str y, .pointer (some ⟨bx, 0, none⟩)] W fun e w' => e = .returned (.bool (decide (x = y))) ∧ Below W.heap.size W w' := by
  have eg : ∀ args w, (callFunc 43 args).run Tryz.prog w = .ok (.enter 43 args) w := enters_of Tryz.func43 (by kernel_rfl) rfl
  have hc := cmpS_any x y W
  have hz := cmpS_zero x y
  generalize cmpS x y = r at *
  unfold str at *
  have HZ := Lib.hid hz
  clear hz
  go_enter Tryz.func53, Tryz.ntmps53
  go_wp2_with (go_at_fn 43; refine hc.mono ?_; rintro e w' ⟨rfl, rfl⟩)
  go_ret
  exact ⟨ret_bool HZ.out, Below.refl _ _⟩
theorem compInv_take {α : Type} [Inhabited α] [DecidableEq α] {zs dk : List α} {k : Nat} (h : Lib.CompInv zs.toArray zs.length k dk.toArray) : Lib.compact zs = dk.take k := by
  have hs : dk.length = zs.length := by simpa using h.size
  have hl := h.lt
  unfold Lib.compact
  apply List.ext_getElem?
  intro j
  by_cases hj : j < k
  · rw [h.low j hj, List.getElem?_take_of_lt hj]
    simp [show j < dk.length by omega]
  · rw [List.getElem?_eq_none (by rw [h.len]; omega), List.getElem?_eq_none (by rw [List.length_take]; omega)]
/-- clear behind the end of an owned row, the place typed freely. -/
theorem wpList_clear_at {P : Program} {w : World} {ops : Array Oper} {rest : List Oper} {o : Oper} {a : Act} {Q : Exit → Act → World → Prop} (hgd : o.guard = none) (s : Operand) (t : TypeId)
    (ho : o.op = .call { callee := .builtin .clear, args := #[s], argTypes := #[t] })
    (base : Nat) (e : TypeId) (z : Value) (size : Nat) (ht : P.underlying t = some (.slice e)) (hv : ∀ w, (zeroValue e).run P w = .ok z w)
    (hz : z.cells.size = size) (h1 : ∀ u ∈ z.cells.toList, u.oneCell' = true) (hs0 : 0 < size)
    (g n cap : Nat) (xs : List Value) (hown : w.ownsRow base e size (.slice (some ⟨g, 0, none⟩) n cap) n xs) (k kc m c : Nat) (hkc : kc = k * size) (hs : a.eval s = .slice (some ⟨g, kc, none⟩) m c) (hk : n ≤ k) (hm : k + m ≤ cap) (hm0 : 0 < m)
    (h : ∀ w', w'.ownsRow base e size (.slice (some ⟨g, 0, none⟩) n cap) n xs → w.grownBy w' (some g) → wpList P ops Q rest (a.put o.dst (.tuple #[])) w') : wpList P ops Q (o :: rest) a w := by
  subst hkc
  exact wpList_clear_own hgd s t ho base e z size ht hv hz h1 hs0 g n cap xs hown k m c hs hk hm hm0 h
theorem scell_at {l : List (List UInt8)} {k : Nat} (h : k < l.length) : (scells l)[k]? = some (str l[k]) := by simp [scells, h]
theorem zeroStr (w : World) : (zeroValue 9).run Tryz.prog w = .ok (.string ByteArray.empty) w := by kernel_rfl
theorem zeroStr_one : ∀ u ∈ (Value.string ByteArray.empty).cells.toList, u.oneCell' = true := by
  intro u hu
  simp [Value.cells] at hu
  subst hu; rfl
def CompPost (base : Nat) (zs : List (List UInt8)) (w : World) (e : Ending) (w' : World) : Prop :=
  ∃ v, e = .returned v ∧ w'.ownsRow base 9 1 v (Lib.compact zs).length (scells (Lib.compact zs)) ∧ Below base w w'
set_option maxRecDepth 100000 in
set_option maxHeartbeats 4000000 in
theorem compS_any (bx g cap base : Nat) (zs : List (List UInt8)) (w : World) (hbx : w.cell? ⟨bx, 0, none⟩ = some (.func (.func 43) #[] #[])) (hbb : bx < base)
    (hown : w.ownsRow base 9 1 (.slice (some ⟨g, 0, none⟩) zs.length cap) zs.length (scells zs)) :
    Calls Tryz.prog 52 #[.slice (some ⟨g, 0, none⟩) zs.length cap, .func (.func 53) #[] #[.pointer (some ⟨bx, 0, none⟩)]] w (CompPost base zs w) := by
  obtain ⟨hnc, hcm, hbg, hgs⟩ := own_parts hown
  unfold maxLen at hcm
  have eg : ∀ args w, (callFunc 53 args).run Tryz.prog w = .ok (.enter 53 args) w := enters_of Tryz.func53 (by kernel_rfl) rfl
  have mixed : Tryz.prog.follows .mixedOrders = true := by kernel_rfl
  have same : (∀ j, j < zs.length → Lib.keeps zs.toArray j = true) → Lib.compact zs = zs := Lib.compact_all zs
  have SAME := Lib.hid same
  clear same
  by_cases h2 : zs.length < 2
  · have HO := Lib.hid hown
    clear hown
    go_enter Tryz.func52, Tryz.ntmps52
    go_wp2
    go_ret
    refine ⟨_, rfl, ?_, Below.refl _ _⟩
    rw [SAME.out (fun j hj => Lib.keeps_lt_one _ _ (by omega))]
    exact HO.out
  · have HO := Lib.hid hown
    clear hown
    go_enter Tryz.func52, Tryz.ntmps52
    go_wp2
    go_loopw [5] (fun s wr => ∃ k : Nat, 1 ≤ k ∧ k ≤ zs.length ∧ s = .int .i64 k ∧ Hid (∀ j, j < k → Lib.keeps zs.toArray j = true) ∧ Below w.heap.size w wr) (fun s _ => zs.length - (intOf s).toNat)
    case atStart => exact ⟨1, Nat.le_refl _, by omega, rfl, Lib.keeps_lt_one _, Below.refl _ _⟩
    case round =>
      obtain ⟨k, hk1, hk, rfl, HK, hbel⟩ := hrel
      have hcb := cell_later hbel hbx
      by_cases hlt : k < zs.length
      · have hk0 : k - 1 < zs.length := by omega
        have c1 := (own_below' HO.out hbel).cellAt k (by omega)
        have c0 := (own_below' HO.out hbel).cellAt (k - 1) (by omega)
        rw [scell_at hlt] at c1
        rw [scell_at hk0] at c0
        have B : Hid (zs.toArray[k]! = zs[k] ∧ zs.toArray[k - 1]! = zs[k - 1]) := ⟨by simp [hlt], by simp [hk0]⟩
        generalize zs[k] = x at *
        generalize zs[k - 1] = y at *
        have T1 := fun d os => Calls.regrown_of (risS_any x y bx (grow (redrawn wr d) os) (cell_regrown hcb d os))
        have r1 := cell_regrown c1
        have r0 := cell_regrown c0
        have i1 : (k : Int) < (zs.length : Int) := by omega
        have i2 : (0 : Int) ≤ (k : Int) - 1 := by omega
        have i3 : (k : Int) - 1 < (zs.length : Int) := by omega
        have i4 : ((k : Int) - 1).toNat = k - 1 := by omega
        unfold str at *
        clear c0 c1 hcb
        by_cases hdup : x = y
        · subst hdup
          have hT : decide (x = x) = true := by simp
          rw [hT] at T1
          clear hT
          go_wp2_with fail
          refine wp_region_quiet_below mixed (by kernel_rfl) ?_
          repeat (go_big_quiet_step (first | (go_at_fn 53; with_reducible exact T1 _ _)))
          refine wpQuiet_nil ?_
          intro W2 hw'
          obtain ⟨⟨dq, osq⟩, hw''⟩ := hw'
          have hbq := hbel.trans ((below_regrown wr dq osq).mono hbel.size)
          rw [← hw''] at hbq
          clear hw'' T1 r0 r1
          have i5 : (0 : Int) ≤ (k : Int) := by omega
          have i6 : (k : Int) ≤ (zs.length : Int) := by omega
          have HN : Hid (Lib.keeps zs.toArray k = false) := Lib.keeps_neg (by omega) (by rw [B.out.1, B.out.2])
          go_wp2
          go_loopw [5, 7] (fun s5 s7 W => ∃ (kk k2 : Nat) (dk : List (List UInt8)), s5 = .int .i64 kk ∧ s7 = .int .i64 k2 ∧ 1 ≤ k2 ∧ k + k2 ≤ zs.length ∧ Hid (Lib.CompInv zs.toArray (k + k2) kk dk.toArray) ∧ kk < k + k2 ∧ Hid (dk.length = zs.length) ∧ W.ownsRow base 9 1 (.slice (some ⟨g, 0, none⟩) zs.length cap) zs.length (scells dk) ∧ Below base w W) (fun _ s7 _ => zs.length - (intOf s7).toNat)
          case atStart => exact ⟨k, 1, zs, rfl, rfl, Nat.le_refl _, by omega, Lib.CompInv.start HK.out HN.out, by omega, rfl, own_below' HO.out hbq, hbq.mono (by omega)⟩
          case round =>
            obtain ⟨kk, k2, dk, rfl, rfl, h1, hle, HI, hkk, HDL, hownW, hB⟩ := hrel
            have hcb := (hB.cell hbb).trans hbx
            by_cases hlt2 : k + k2 < zs.length
            · have hdl := HDL.out
              have u1 : k + k2 < dk.length := by omega
              have u0 : k + k2 - 1 < dk.length := by omega
              have c1 := hownW.cellAt (k + k2) (by omega)
              have c0 := hownW.cellAt (k + k2 - 1) (by omega)
              rw [scell_at u1] at c1
              rw [scell_at u0] at c0
              have C : Hid (zs.toArray[k + k2]! = dk[k + k2] ∧ zs.toArray[k + k2 - 1]! = dk[k + k2 - 1]) := ⟨by rw [← HI.out.high _ (by omega)]; simp [u1], by rw [← HI.out.high _ (by omega)]; simp [u0]⟩
              have c0 : wr.cell? ⟨g, k + (k2 - 1), none⟩ = some (str dk[k + k2 - 1]) := by rw [show k + (k2 - 1) = k + k2 - 1 from by omega]; exact c0
              have cK := hownW.cellAt kk (by omega)
              rw [scell_at (show kk < dk.length by omega)] at cK
              have fK := hownW.frozenAt kk
              generalize dk[kk] = old at *
              obtain ⟨x2, hx2⟩ : ∃ t, t = dk[k + k2] := ⟨_, rfl⟩
              obtain ⟨y2, hy2⟩ : ∃ t, t = dk[k + k2 - 1] := ⟨_, rfl⟩
              rw [← hx2] at c1 C
              rw [← hy2] at c0 C
              have T2 := fun d os => Calls.regrown_of (risS_any x2 y2 bx (grow (redrawn wr d) os) (cell_regrown hcb d os))
              have r1 := cell_regrown c1
              have r0 := cell_regrown c0
              have j1 : (k2 : Int) < ((zs.length - k : Nat) : Int) := by omega
              have j2 : (0 : Int) ≤ (k2 : Int) - 1 := by omega
              have j3 : (k2 : Int) - 1 < ((zs.length - k : Nat) : Int) := by omega
              have j4 : ((k2 : Int) - 1).toNat = k2 - 1 := by omega
              have HO2 := Lib.hid hownW
              unfold str at r0 r1 c1 cK T2
              clear c0 hcb hx2 hy2 hownW
              by_cases huv : x2 = y2
              · subst huv
                have hT : decide (x2 = x2) = true := by simp
                have HSK := Lib.hid (HI.out.skip (Lib.keeps_neg (by omega) (by rw [C.out.1, C.out.2])))
                rw [hT] at T2
                clear hT cK fK
                go_wp2_with fail
                refine wp_region_quiet_below mixed (by kernel_rfl) ?_
                repeat (go_big_quiet_step (first | (go_at_fn 53; with_reducible exact T2 _ _)))
                refine wpQuiet_nil ?_
                intro W3 hw'
                obtain ⟨⟨dq, osq⟩, hw''⟩ := hw'
                have hb3 : Below wr.heap.size wr W3 := by rw [hw'']; exact below_regrown wr dq osq
                have hO3 := own_below' HO2.out hb3
                have hB3 := hB.trans (hb3.mono (Nat.le_trans (by omega) hB.size))
                clear hw'' T2 r0 r1 c1
                go_wp2
                go_roundw
                case rel => exact ⟨kk, k2 + 1, dk, rfl, by go_num, by omega, by omega, HSK.out, by omega, HDL.out, hO3, hB3⟩
                case measure => simp [intOf]; omega
              · have hT : decide (x2 = y2) = false := by simp [huv]
                have HKP := Lib.hid (HI.out.keep (by simp; omega) (Lib.keeps_pos (by rw [C.out.1, C.out.2]; exact huv)))
                rw [hT] at T2
                clear hT
                go_wp2_with fail
                refine wp_region_quiet_below mixed (by kernel_rfl) ?_
                repeat (go_big_quiet_step (first | (go_at_fn 53; with_reducible exact T2 _ _)))
                refine wpQuiet_nil ?_
                intro W3 hw'
                obtain ⟨⟨dq, osq⟩, hw''⟩ := hw'
                have hb3 : Below wr.heap.size wr W3 := by rw [hw'']; exact below_regrown wr dq osq
                have hO3 := own_below' HO2.out hb3
                have hB3 := hB.trans (hb3.mono (Nat.le_trans (by omega) hB.size))
                have c3 := cell_later hb3 c1
                have cK3 := cell_later hb3 cK
                have fK3 := hO3.frozenAt kk
                have hst := hO3.stored kk (.string (bstr x2))
                have HST := Lib.hid hst
                have HB3 := Lib.hid hB3
                clear hw'' T2 r0 r1 c1 cK fK hst hO3 hB3
                go_wp2
                go_roundw
                case rel =>
                  refine ⟨kk + 1, k2 + 1, dk.set kk x2, by go_num, by go_num, by omega, by omega, ?_, by omega, by show _ = _; rw [List.length_set]; exact HDL.out, ?_, HB3.out.setCell hbg _⟩
                  · have := HKP.out
                    rw [C.out.1] at this
                    show Lib.CompInv _ _ _ _
                    rw [show k + (k2 + 1) = k + k2 + 1 from by omega]
                    simpa using this
                  · have := HST.out.1
                    rw [show (scells dk).set kk (Value.string (bstr x2)) = scells (dk.set kk x2) from by simp [scells, str]] at this
                    exact this
                case measure => simp [intOf]; omega
            · have hend : k + k2 = zs.length := by omega
              have j1 : ¬ (k2 : Int) < ((zs.length - k : Nat) : Int) := by omega
              have hkz : kk < zs.length := by omega
              have j5 : (0 : Int) ≤ (kk : Int) := by omega
              have j6 : (kk : Int) ≤ (zs.length : Int) := by omega
              have j7 : (kk : Int) ≤ (cap : Int) := by omega
              have htk := own_take hownW (show kk ≤ zs.length by omega)
              rw [Nat.mul_one] at htk
              have hfin : Hid (Lib.compact zs = dk.take kk) := by
                have := HI.out
                rw [hend] at this
                exact compInv_take this
              have HDL2 : Hid ((dk.take kk).length = kk) := by show _ = _; rw [List.length_take]; have := HDL.out; omega
              have HTK := Lib.hid htk
              have HB3 := Lib.hid hB
              have hgW := (own_parts hownW).2.2.2
              clear htk hB hcb hownW
              go_wp2_with (refine wpList_clear_at (o := ⟨none, _, _, _, _, _⟩) (by rfl) (.tmp 61) 64 (by rfl) base 9 (.string ByteArray.empty) 1 Tryz.underlying64 zeroStr rfl zeroStr_one (by omega) g kk cap _ HTK.out kk kk (zs.length - kk) (cap - kk) (by omega) (by rfl) (Nat.le_refl _) (by omega) (by omega) ?_; intro w4 hown4 hgr4; have hB4 := HB3.out.grown hgr4 (Nat.le_trans hbg (Nat.le_of_lt hgW)) (by intro j hj; simp only [Option.some.injEq] at hj; omega))
              go_ret
              refine ⟨_, rfl, ?_, hB4⟩
              rw [hfin.out, HDL2.out, show scells (dk.take kk) = (scells dk).take kk from by simp [scells, List.map_take]]
              exact hown4
        · have hT : decide (x = y) = false := by simp [hdup]
          have HN : Hid (∀ j, j < k + 1 → Lib.keeps zs.toArray j = true) := fun j hj => by
            by_cases e : j = k
            · subst e; exact Lib.keeps_pos (by rw [B.out.1, B.out.2]; exact hdup)
            · exact HK.out j (by omega)
          rw [hT] at T1
          clear hT
          go_wp2_with fail
          refine wp_region_quiet_below mixed (by kernel_rfl) ?_
          repeat (go_big_quiet_step (first | (go_at_fn 53; with_reducible exact T1 _ _)))
          refine wpQuiet_nil ?_
          intro W2 hw'
          obtain ⟨⟨dq, osq⟩, hw''⟩ := hw'
          have hbq := hbel.trans ((below_regrown wr dq osq).mono hbel.size)
          rw [← hw''] at hbq
          clear hw'' T1 r0 r1
          go_wp2
          go_roundw
          case rel => exact ⟨k + 1, by omega, by omega, by go_num, HN.out, hbq⟩
          case measure => simp [intOf]; omega
      · have hke : k = zs.length := by omega
        subst hke
        have ki : ¬ (zs.length : Int) < (zs.length : Int) := by omega
        have HO2 := Lib.hid (own_below' HO.out hbel)
        have HSAME := Lib.hid (SAME.out HK.out)
        go_wp2
        go_ret
        refine ⟨_, rfl, ?_, hbel.mono (by omega)⟩
        rw [HSAME.out]
        exact HO2.out
theorem own_putRow {w : World} {base : Nat} {e : TypeId} {sz g n cap q : Nat} {cells ys : List Value} (h : w.ownsRow base e sz (.slice (some ⟨g, 0, none⟩) n cap) n cells) (hy : ys.length = n * sz) :
    (putRow id (Sort.ahead w q) g 0 ys.toArray).ownsRow base e sz (.slice (some ⟨g, 0, none⟩) n cap) n ys := by
  rcases h.2 with ⟨e0, _⟩ | ⟨g', cap', cur, e0, hb, hg, hn, hm, hs, ht⟩
  · cases e0
  · injection e0 with e1 _ e3
    injection e1 with e1
    injection e1 with e1
    subst e1; subst e3
    have hle : n * sz ≤ cap * sz := Nat.mul_le_mul_right _ hn
    refine ⟨hy, .inr ⟨g, cap, putCells id 0 ys.toArray cur, rfl, hb, ?_, hn, hm, by simpa [putCells] using hs, ?_⟩⟩
    · simp [putRow, mapBlock, Sort.ahead, Array.getElem?_modify, hg, onCells]
    · apply List.ext_getElem?
      intro j
      rw [List.getElem?_take, Array.getElem?_toList]
      by_cases hj : j < n * sz
      · have hjc : j < cur.size := by omega
        simp only [if_pos hj, putCells, Array.getElem?_mapIdx, Array.getElem?_eq_getElem hjc, Option.map_some]
        rw [if_pos (by simp; omega), List.getElem?_eq_getElem (by omega)]
        simp [getElem!_pos, show j < ys.length by omega]
      · rw [if_neg hj, List.getElem?_eq_none (by omega)]
theorem own_holds {w : World} {base : Nat} {e : TypeId} {sz g n cap : Nat} {cells : List Value} (h : w.ownsRow base e sz (.slice (some ⟨g, 0, none⟩) n cap) n cells) : Holds id w g 0 cells.toArray := by
  intro j hj
  have hj' : j < cells.length := by simpa using hj
  have hl := h.1
  refine ⟨?_, ?_⟩
  · rw [Nat.zero_add, h.cellAt j (by omega), List.getElem?_eq_getElem hj']
    simp [hj']
  · rw [Nat.zero_add]; exact h.frozenAt j
theorem below_grow' {B : Nat} {w0 w : World} (h : Below B w0 w) (hB : B ≤ w.heap.size) (os : Array Obj) : Below B w0 (grow w os) :=
  h.trans ⟨rfl, rfl, rfl, by simp [grow], fun k hk => heap_grow_old w os (by omega)⟩
theorem scells_enc (l : List (List UInt8)) : scells l = l.map encStr := rfl

/-! ### slices.SortFunc -/
def SortPost (base : Nat) (E : TypeId) (sz n : Nat) (v : Value) (cells : List Value) (w : World) (e : Ending) (w' : World) : Prop :=
  e = .returned (.tuple #[]) ∧ w'.ownsRow base E sz v n cells ∧ Below base w w'
theorem sortS_any (g cap n base : Nat) (l : List (List UInt8)) (w : World) (hln : l.length = n) (hn : n ≤ 100000) (hown : w.ownsRow base 9 1 (.slice (some ⟨g, 0, none⟩) n cap) n (scells l)) :
    Calls Tryz.prog 51 #[.slice (some ⟨g, 0, none⟩) n cap, .func (.func 43) #[] #[]] w (SortPost base 9 1 n (.slice (some ⟨g, 0, none⟩) n cap) (scells (l.mergeSort fun x y => !ltStr y x)) w) := by
  obtain ⟨hnc, hcm, hbg, hgs⟩ := own_parts hown
  rcases Nat.eq_zero_or_pos n with h0 | h0
  · subst h0
    have hx : l = [] := List.length_eq_zero_iff.1 hln
    subst hx
    refine (Tryz.slices_SortFunc_none (α := Nat) (some ⟨g, 0, none⟩) cap _ w).mono ?_
    rintro e w' ⟨rfl, rfl⟩
    exact ⟨rfl, by simpa using hown, Below.refl _ _⟩
  · have eg : ∀ args w, (callFunc 43 args).run Tryz.prog w = .ok (.enter 43 args) w := enters_of Tryz.func43 (by kernel_rfl) rfl
    have hcmp : CmpLays1 Tryz.prog 43 #[] encStr cmpS g 0 l.toArray.size w := fun m os dk hdk x y => (cmpS_any x y _).mono fun e w' ⟨h1, h2⟩ => ⟨h1, 0, #[], by rw [grow_empty]; exact h2.symm⟩
    have hH : Holds encStr w g 0 l.toArray := by
      obtain ⟨g', cap', hv, _, _, _, _, _, hH⟩ := Lib.holds_of_ownsRow (enc := encStr) (zs := l) hown (by intro e; cases e)
      simp only [Value.slice.injEq, Option.some.injEq, Addr.mk.injEq, and_true, true_and] at hv
      rw [hv.1]; exact hH
    have hs := Tryz.slices_SortFunc_total encStr (fun _ => rfl) cmpS (by rw [ltOf_cmpS]; exact swo_ltStr) 43 #[] g 0 cap l.toArray w eg hcmp hH hgs (by simp; omega) (by rw [ltOf_cmpS]; exact totStr)
    rw [ltOf_cmpS] at hs
    simp only [List.size_toArray, hln] at hs
    refine hs.mono ?_
    rintro e w' ⟨rfl, nn, os, rfl⟩
    have hlen : (l.mergeSort fun x y => !ltStr y x).length = n := by rw [List.length_mergeSort]; exact hln
    have o1 := Lib.ownsRow_putRow (q := nn) (k := n) (ys := l.mergeSort fun x y => !ltStr y x) (zs := l) (enc := encStr) hown hlen (Nat.le_refl _)
    rw [List.take_of_length_le (by omega)] at o1
    have b1 : Below base w (putRow encStr (Sort.ahead w nn) g 0 (l.mergeSort fun x y => !ltStr y x).toArray) := Lib.below_putRow (Below.refl _ _) hbg
    exact ⟨rfl, own_below' o1 (below_grow' (Below.refl _ _) (Nat.le_refl _) os), below_grow' b1 (Nat.le_trans (by omega) b1.size) os⟩
theorem own_form' {w : World} {base : Nat} {e : TypeId} {size : Nat} {v : Value} {n : Nat} {xs : List Value} (h : w.ownsRow base e size v n xs) (hv : v ≠ .slice none 0 0) : ∃ g cap, v = .slice (some ⟨g, 0, none⟩) n cap := by
  rcases h.2 with ⟨h0, _⟩ | ⟨g, cap, cur, hv', _⟩
  · exact absurd h0 hv
  · exact ⟨g, cap, hv'⟩
theorem compS_n (bx g cap base n : Nat) (zs : List (List UInt8)) (w : World) (hn : zs.length = n) (hbx : w.cell? ⟨bx, 0, none⟩ = some (.func (.func 43) #[] #[])) (hbb : bx < base)
    (hown : w.ownsRow base 9 1 (.slice (some ⟨g, 0, none⟩) n cap) n (scells zs)) :
    Calls Tryz.prog 52 #[.slice (some ⟨g, 0, none⟩) n cap, .func (.func 53) #[] #[.pointer (some ⟨bx, 0, none⟩)]] w (CompPost base zs w) := by
  subst hn
  exact compS_any bx g cap base zs w hbx hbb hown
theorem compS_none (ao : Option Addr) (c : Nat) (fv : Value) (w : World) :
    Calls Tryz.prog 52 #[.slice ao 0 c, fv] w fun e w' => e = .returned (.slice ao 0 c) ∧ w = w' := by
  go_enter Tryz.func52, Tryz.ntmps52
  go_wp2
  go_ret
  exact ⟨rfl, rfl⟩
set_option maxRecDepth 100000 in
set_option maxHeartbeats 4000000 in
theorem risingS_any (v : Value) (n base : Nat) (l : List (List UInt8)) (w : World) (hln : l.length = n) (hn : n ≤ 100000) (hown : w.ownsRow base 9 1 v n (scells l)) :
    Calls Tryz.prog 41 #[v, .func (.func 43) #[] #[]] w (Gives w 9 1 (rise ltStr l).length (scells (rise ltStr l))) := by
  obtain ⟨j0, hj, hy0, hy1, hy2⟩ := info_parts infoStr
  have hbA : Below w.heap.size w (w.alloc (.cells #[.func (.func 43) #[] #[]] 80)) := (Below.refl _ _).alloc (Nat.le_refl _) _
  have hbx : (w.alloc (.cells #[.func (.func 43) #[] #[]] 80)).cell? ⟨w.heap.size, 0, none⟩ = some (.func (.func 43) #[] #[]) := by
    rw [cell_of_row _ _ _ _ _ _ (heap_alloc_new w _)]; rfl
  have hsz1 : (w.alloc (.cells #[.func (.func 43) #[] #[]] 80)).heap.size = w.heap.size + 1 := by simp
  by_cases hv : v = .slice none 0 0
  · subst hv
    have hl0 : l = [] := by
      rcases hown.2 with ⟨_, h0⟩ | ⟨g, cap, cur, hv', _⟩
      · exact List.length_eq_zero_iff.1 (hln.trans h0)
      · cases hv'
    subst hl0
    have hr : Hid (rise ltStr [] = []) := List.eq_nil_iff_forall_not_mem.2 fun x hx => by rw [mem_rise] at hx; cases hx
    have h1 := Lib.hid (fun W => Tryz.slices_Clone_nil 0 0 W)
    have h2 := Lib.hid (fun fv W => Tryz.slices_SortFunc_none (α := Nat) none 0 fv W)
    have h3 := Lib.hid (fun fv W => compS_none none 0 fv W)
    have HB := Lib.hid hbA
    clear hbA hsz1 hown
    go_enter Tryz.func41, Tryz.ntmps41
    go_wp2_with (first
      | (go_at_call 50; refine (h1.out _).mono ?_; rintro e w2 ⟨rfl, rfl⟩)
      | (go_at_call 51; refine (h2.out _ _).mono ?_; rintro e w2 ⟨rfl, rfl⟩)
      | (go_at_call 52; refine (h3.out _ _).mono ?_; rintro e w2 ⟨rfl, rfl⟩))
    go_ret
    rw [hr.out]
    exact ⟨_, rfl, World.ownsRow_nil _ _ _ _, HB.out⟩
  · obtain ⟨g0, c0, rfl⟩ := own_form' hown hv
    have hown1 := own_below' (own_mono hown (Nat.zero_le _)) (hbA.mono (Nat.le_refl _))
    obtain ⟨w1, hw1⟩ : ∃ w1, w1 = (w.alloc (.cells #[.func (.func 43) #[] #[]] 80)) := ⟨_, rfl⟩
    rw [← hw1] at hbA hbx hsz1 hown1
    have hcl := Tryz.slices_Clone j0 _ 1 16 hj hy0 hy1 hy2 rfl (by omega) Tryz.sizeOf9 g0 0 n c0 (scells l) w1 hown1.1 (by unfold maxLen; omega) (by omega) (fun j u hu => by
      have hjl : j < n * 1 := by rw [← hown1.1]; exact (List.getElem?_eq_some_iff.1 hu).1
      rw [Nat.zero_add, hown1.cellAt j hjl, hu]) (scells_one l)
    have HCL := Lib.hid hcl
    have HRS : Hid (rise ltStr l = Lib.compact (l.mergeSort fun x y => !ltStr y x)) := rfl
    have hml : (l.mergeSort fun x y => !ltStr y x).length = n := by rw [List.length_mergeSort]; exact hln
    have HSO := Lib.hid (fun (g cap : Nat) (W : World) (h : W.ownsRow w1.heap.size 9 1 (.slice (some ⟨g, 0, none⟩) n cap) n (scells l)) => sortS_any g cap n w1.heap.size l W hln hn h)
    generalize (l.mergeSort fun x y => !ltStr y x) = zs at *
    have HCO := Lib.hid (fun (g cap : Nat) (W : World) (hb : W.cell? ⟨w.heap.size, 0, none⟩ = some (.func (.func 43) #[] #[])) (h : W.ownsRow w1.heap.size 9 1 (.slice (some ⟨g, 0, none⟩) n cap) n (scells zs)) => compS_n w.heap.size g cap w1.heap.size n zs W hml hb (by omega) h)
    have hlt1 : w.heap.size < w1.heap.size := by omega
    have HB := Lib.hid hbA
    have HX := Lib.hid hbx
    have HCL2 : Hid (Calls Tryz.prog 50 #[.slice (some ⟨g0, 0, none⟩) n c0] (w.alloc (.cells #[.func (.func 43) #[] #[]] 80)) fun e w' => ∃ v', e = .returned v' ∧ w'.ownsRow w1.heap.size 9 1 v' n (scells l) ∧ v' ≠ .slice none 0 0 ∧ Below w1.heap.size w1 w') := by
      show Calls _ _ _ _ _
      rw [← hw1]; exact hcl
    clear hcl hv hown hown1 hbA hml HCL hw1 hbx hsz1
    go_enter Tryz.func41, Tryz.ntmps41
    go_wp2_with (first
      | (go_at_call 50; refine HCL2.out.mono ?_; rintro e w2 ⟨v2, rfl, hown2, hne2, hb2⟩; obtain ⟨g, cap, rfl⟩ := own_form' hown2 hne2; have hbx2 := cell_later hb2 HX.out; have HS2 := Lib.hid (HSO.out g cap w2 hown2); clear hown2 hne2)
      | (go_at_call 51; refine HS2.out.mono ?_; rintro e w3 ⟨rfl, hown3, hb3⟩; have HC3 := Lib.hid (HCO.out g cap w3 ((hb3.cell hlt1).trans hbx2) hown3); clear hown3)
      | (go_at_call 52; refine HC3.out.mono ?_; rintro e w4 ⟨v4, rfl, hown4, hb4⟩))
    go_ret
    rw [HRS.out]
    have hB := (hb2.trans hb3).trans hb4
    exact ⟨_, rfl, own_mono hown4 (Nat.le_of_lt hlt1), HB.out.trans (hB.mono (Nat.le_of_lt hlt1))⟩
theorem terms_len' (l : List UInt8) (hn : l.length ≤ 100000) : (terms l).length ≤ 100000 := by have := terms_len l; omega
set_option maxRecDepth 100000 in
set_option maxHeartbeats 4000000 in
theorem tset_any (v : Value) (l : List UInt8) (w : World) (ht : Tabs w) (h : Rd w v l.length 1 (bcells l)) (hn : l.length ≤ 100000) :
    Calls Tryz.prog 31 #[v] w (Gives w 9 1 (setOf (terms l)).length (scells (setOf (terms l)))) := by
  have hT := terms_any v l w ht h hn
  have hlen := terms_len' l hn
  generalize terms l = ts at *
  have HT := Lib.hid hT
  clear hT h ht
  go_enter Tryz.func31, Tryz.ntmps31
  go_wp2_with (first
    | (go_at_call 42; refine HT.out.mono ?_; rintro e w1 ⟨v1, rfl, hown1, hb1⟩; have HR := Lib.hid (risingS_any v1 ts.length _ ts w1 rfl hlen hown1); clear hown1)
    | (go_at_call 41; refine HR.out.mono ?_; rintro e w2 ⟨v2, rfl, hown2, hb2⟩))
  go_ret
  exact ⟨_, rfl, own_mono hown2 hb1.size, hb1.trans (hb2.mono hb1.size)⟩
end Go.Proofs.YteegbjjpjdlcmaaGreatDoor
