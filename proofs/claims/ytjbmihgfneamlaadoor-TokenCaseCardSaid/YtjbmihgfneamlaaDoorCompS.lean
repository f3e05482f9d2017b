/- slices.CompactFunc at strings, under token.rising's test of two. -/
import Derived.Test.YtjbmihgfneamlaaDoorCmp
import Derived.Test.YtjbmihgfneamlaaDoorInPlace
import Derived.Lib.QuietBelow
set_option linter.unusedVariables false
namespace Go.Proofs.YtjbmihgfneamlaaDoor
open Go.RowKit Go.Sort

theorem risS_any (x y : List UInt8) (bx : Nat) (W : World) (hb : W.cell? ⟨bx, 0, none⟩ = some (.func (.func 48) #[] #[])) :
    Calls Tryd.prog 71 #[str x, str y, .pointer (some ⟨bx, 0, none⟩)] W fun e w' => e = .returned (.bool (decide (x = y))) ∧ Below W.heap.size W w' := by
  have eg : ∀ args w, (callFunc 48 args).run Tryd.prog w = .ok (.enter 48 args) w := enters_of Tryd.func48 (by kernel_rfl) rfl
  have hc := cmpS_any x y W
  have hz := cmpS_zero x y
  generalize cmpS x y = r at *
  unfold str at *
  have HZ := Lib.hid hz
  clear hz
  go_enter Tryd.func71, Tryd.ntmps71
  go_wp2_with (go_at_fn 48; refine hc.mono ?_; rintro e w' ⟨rfl, rfl⟩)
  go_ret
  exact ⟨ret_bool HZ.out, Below.refl _ _⟩

theorem compInv_take {α : Type} [Inhabited α] [DecidableEq α] {zs dk : List α} {k : Nat} (h : Lib.CompInv zs.toArray zs.length k dk.toArray) : Lib.compact zs = dk.take k := by
  have hs : dk.length = zs.length := by simpa using h.size
  have hl := h.lt
  unfold Lib.compact
  apply List.ext_getElem?
  intro j
  by_cases hj : j < k
  · rw [h.low j hj, List.getElem?_take_of_lt hj]
    simp [show j < dk.length by omega]
  · rw [List.getElem?_eq_none (by rw [h.len]; omega), List.getElem?_eq_none (by rw [List.length_take]; omega)]

/-- clear behind the end of an owned row, the place typed freely. -/
theorem wpList_clear_at {P : Program} {w : World} {ops : Array Oper} {rest : List Oper} {o : Oper} {a : Act} {Q : Exit → Act → World → Prop} (hgd : o.guard = none) (s : Operand) (t : TypeId)
    (ho : o.op = .call { callee := .builtin .clear, args := #[s], argTypes := #[t] })
    (base : Nat) (e : TypeId) (z : Value) (size : Nat) (ht : P.underlying t = some (.slice e)) (hv : ∀ w, (zeroValue e).run P w = .ok z w)
    (hz : z.cells.size = size) (h1 : ∀ u ∈ z.cells.toList, u.oneCell' = true) (hs0 : 0 < size)
    (g n cap : Nat) (xs : List Value) (hown : w.ownsRow base e size (.slice (some ⟨g, 0, none⟩) n cap) n xs) (k kc m c : Nat) (hkc : kc = k * size) (hs : a.eval s = .slice (some ⟨g, kc, none⟩) m c) (hk : n ≤ k) (hm : k + m ≤ cap) (hm0 : 0 < m)
    (h : ∀ w', w'.ownsRow base e size (.slice (some ⟨g, 0, none⟩) n cap) n xs → w.grownBy w' (some g) → wpList P ops Q rest (a.put o.dst (.tuple #[])) w') : wpList P ops Q (o :: rest) a w := by
  subst hkc
  exact wpList_clear_own hgd s t ho base e z size ht hv hz h1 hs0 g n cap xs hown k m c hs hk hm hm0 h

theorem scell_at {l : List (List UInt8)} {k : Nat} (h : k < l.length) : (scells l)[k]? = some (str l[k]) := by simp [scells, h]
theorem zeroStr (w : World) : (zeroValue 9).run Tryd.prog w = .ok (.string ByteArray.empty) w := by kernel_rfl
theorem zeroStr_one : ∀ u ∈ (Value.string ByteArray.empty).cells.toList, u.oneCell' = true := by
  intro u hu
  simp [Value.cells] at hu
  subst hu; rfl

def CompPost (base : Nat) (zs : List (List UInt8)) (w : World) (e : Ending) (w' : World) : Prop :=
  ∃ v, e = .returned v ∧ w'.ownsRow base 9 1 v (Lib.compact zs).length (scells (Lib.compact zs)) ∧ Below base w w'

set_option maxRecDepth 100000 in
set_option maxHeartbeats 4000000 in
theorem compS_any (bx g cap base : Nat) (zs : List (List UInt8)) (w : World) (hbx : w.cell? ⟨bx, 0, none⟩ = some (.func (.func 48) #[] #[])) (hbb : bx < base)
    (hown : w.ownsRow base 9 1 (.slice (some ⟨g, 0, none⟩) zs.length cap) zs.length (scells zs)) :
    Calls Tryd.prog 70 #[.slice (some ⟨g, 0, none⟩) zs.length cap, .func (.func 71) #[] #[.pointer (some ⟨bx, 0, none⟩)]] w (CompPost base zs w) := by
  obtain ⟨hnc, hcm, hbg, hgs⟩ := own_parts hown
  unfold maxLen at hcm
  have eg : ∀ args w, (callFunc 71 args).run Tryd.prog w = .ok (.enter 71 args) w := enters_of Tryd.func71 (by kernel_rfl) rfl
  have mixed : Tryd.prog.follows .mixedOrders = true := by kernel_rfl
  have same : (∀ j, j < zs.length → Lib.keeps zs.toArray j = true) → Lib.compact zs = zs := Lib.compact_all zs
  have SAME := Lib.hid same
  clear same
  by_cases h2 : zs.length < 2
  · have HO := Lib.hid hown
    clear hown
    go_enter Tryd.func70, Tryd.ntmps70
    go_wp2
    go_ret
    refine ⟨_, rfl, ?_, Below.refl _ _⟩
    rw [SAME.out (fun j hj => Lib.keeps_lt_one _ _ (by omega))]
    exact HO.out
  · have HO := Lib.hid hown
    clear hown
    go_enter Tryd.func70, Tryd.ntmps70
    go_wp2
    go_loopw [5] (fun s wr => ∃ k : Nat, 1 ≤ k ∧ k ≤ zs.length ∧ s = .int .i64 k ∧ Hid (∀ j, j < k → Lib.keeps zs.toArray j = true) ∧ Below w.heap.size w wr) (fun s _ => zs.length - (intOf s).toNat)
    case atStart => exact ⟨1, Nat.le_refl _, by omega, rfl, Lib.keeps_lt_one _, Below.refl _ _⟩
    case round =>
      obtain ⟨k, hk1, hk, rfl, HK, hbel⟩ := hrel
      have hcb := cell_later hbel hbx
      by_cases hlt : k < zs.length
      · have hk0 : k - 1 < zs.length := by omega
        have c1 := (own_below' HO.out hbel).cellAt k (by omega)
        have c0 := (own_below' HO.out hbel).cellAt (k - 1) (by omega)
        rw [scell_at hlt] at c1
        rw [scell_at hk0] at c0
        have B : Hid (zs.toArray[k]! = zs[k] ∧ zs.toArray[k - 1]! = zs[k - 1]) := ⟨by simp [hlt], by simp [hk0]⟩
        generalize zs[k] = x at *
        generalize zs[k - 1] = y at *
        have T1 := fun d os => Calls.regrown_of (risS_any x y bx (grow (redrawn wr d) os) (cell_regrown hcb d os))
        have r1 := cell_regrown c1
        have r0 := cell_regrown c0
        have i1 : (k : Int) < (zs.length : Int) := by omega
        have i2 : (0 : Int) ≤ (k : Int) - 1 := by omega
        have i3 : (k : Int) - 1 < (zs.length : Int) := by omega
        have i4 : ((k : Int) - 1).toNat = k - 1 := by omega
        unfold str at *
        clear c0 c1 hcb
        by_cases hdup : x = y
        · subst hdup
          have hT : decide (x = x) = true := by simp
          rw [hT] at T1
          clear hT
          go_wp2_with fail
          refine wp_region_quiet_below mixed (by kernel_rfl) ?_
          repeat (go_big_quiet_step (first | (go_at_fn 71; with_reducible exact T1 _ _)))
          refine wpQuiet_nil ?_
          intro W2 hw'
          obtain ⟨⟨dq, osq⟩, hw''⟩ := hw'
          have hbq := hbel.trans ((below_regrown wr dq osq).mono hbel.size)
          rw [← hw''] at hbq
          clear hw'' T1 r0 r1
          have i5 : (0 : Int) ≤ (k : Int) := by omega
          have i6 : (k : Int) ≤ (zs.length : Int) := by omega
          have HN : Hid (Lib.keeps zs.toArray k = false) := Lib.keeps_neg (by omega) (by rw [B.out.1, B.out.2])
          go_wp2
          go_loopw [5, 7] (fun s5 s7 W => ∃ (kk k2 : Nat) (dk : List (List UInt8)), s5 = .int .i64 kk ∧ s7 = .int .i64 k2 ∧ 1 ≤ k2 ∧ k + k2 ≤ zs.length ∧ Hid (Lib.CompInv zs.toArray (k + k2) kk dk.toArray) ∧ kk < k + k2 ∧ Hid (dk.length = zs.length) ∧ W.ownsRow base 9 1 (.slice (some ⟨g, 0, none⟩) zs.length cap) zs.length (scells dk) ∧ Below base w W) (fun _ s7 _ => zs.length - (intOf s7).toNat)
          case atStart => exact ⟨k, 1, zs, rfl, rfl, Nat.le_refl _, by omega, Lib.CompInv.start HK.out HN.out, by omega, rfl, own_below' HO.out hbq, hbq.mono (by omega)⟩
          case round =>
            obtain ⟨kk, k2, dk, rfl, rfl, h1, hle, HI, hkk, HDL, hownW, hB⟩ := hrel
            have hcb := (hB.cell hbb).trans hbx
            by_cases hlt2 : k + k2 < zs.length
            · have hdl := HDL.out
              have u1 : k + k2 < dk.length := by omega
              have u0 : k + k2 - 1 < dk.length := by omega
              have c1 := hownW.cellAt (k + k2) (by omega)
              have c0 := hownW.cellAt (k + k2 - 1) (by omega)
              rw [scell_at u1] at c1
              rw [scell_at u0] at c0
              have C : Hid (zs.toArray[k + k2]! = dk[k + k2] ∧ zs.toArray[k + k2 - 1]! = dk[k + k2 - 1]) := ⟨by rw [← HI.out.high _ (by omega)]; simp [u1], by rw [← HI.out.high _ (by omega)]; simp [u0]⟩
              have c0 : wr.cell? ⟨g, k + (k2 - 1), none⟩ = some (str dk[k + k2 - 1]) := by rw [show k + (k2 - 1) = k + k2 - 1 from by omega]; exact c0
              have cK := hownW.cellAt kk (by omega)
              rw [scell_at (show kk < dk.length by omega)] at cK
              have fK := hownW.frozenAt kk
              generalize dk[kk] = old at *
              obtain ⟨x2, hx2⟩ : ∃ t, t = dk[k + k2] := ⟨_, rfl⟩
              obtain ⟨y2, hy2⟩ : ∃ t, t = dk[k + k2 - 1] := ⟨_, rfl⟩
              rw [← hx2] at c1 C
              rw [← hy2] at c0 C
              have T2 := fun d os => Calls.regrown_of (risS_any x2 y2 bx (grow (redrawn wr d) os) (cell_regrown hcb d os))
              have r1 := cell_regrown c1
              have r0 := cell_regrown c0
              have j1 : (k2 : Int) < ((zs.length - k : Nat) : Int) := by omega
              have j2 : (0 : Int) ≤ (k2 : Int) - 1 := by omega
              have j3 : (k2 : Int) - 1 < ((zs.length - k : Nat) : Int) := by omega
              have j4 : ((k2 : Int) - 1).toNat = k2 - 1 := by omega
              have HO2 := Lib.hid hownW
              unfold str at r0 r1 c1 cK T2
              clear c0 hcb hx2 hy2 hownW
              by_cases huv : x2 = y2
              · subst huv
                have hT : decide (x2 = x2) = true := by simp
                have HSK := Lib.hid (HI.out.skip (Lib.keeps_neg (by omega) (by rw [C.out.1, C.out.2])))
                rw [hT] at T2
                clear hT cK fK
                go_wp2_with fail
                refine wp_region_quiet_below mixed (by kernel_rfl) ?_
                repeat (go_big_quiet_step (first | (go_at_fn 71; with_reducible exact T2 _ _)))
                refine wpQuiet_nil ?_
                intro W3 hw'
                obtain ⟨⟨dq, osq⟩, hw''⟩ := hw'
                have hb3 : Below wr.heap.size wr W3 := by rw [hw'']; exact below_regrown wr dq osq
                have hO3 := own_below' HO2.out hb3
                have hB3 := hB.trans (hb3.mono (Nat.le_trans (by omega) hB.size))
                clear hw'' T2 r0 r1 c1
                go_wp2
                go_roundw
                case rel => exact ⟨kk, k2 + 1, dk, rfl, by go_num, by omega, by omega, HSK.out, by omega, HDL.out, hO3, hB3⟩
                case measure => simp [intOf]; omega
              · have hT : decide (x2 = y2) = false := by simp [huv]
                have HKP := Lib.hid (HI.out.keep (by simp; omega) (Lib.keeps_pos (by rw [C.out.1, C.out.2]; exact huv)))
                rw [hT] at T2
                clear hT
                go_wp2_with fail
                refine wp_region_quiet_below mixed (by kernel_rfl) ?_
                repeat (go_big_quiet_step (first | (go_at_fn 71; with_reducible exact T2 _ _)))
                refine wpQuiet_nil ?_
                intro W3 hw'
                obtain ⟨⟨dq, osq⟩, hw''⟩ := hw'
                have hb3 : Below wr.heap.size wr W3 := by rw [hw'']; exact below_regrown wr dq osq
                have hO3 := own_below' HO2.out hb3
                have hB3 := hB.trans (hb3.mono (Nat.le_trans (by omega) hB.size))
                have c3 := cell_later hb3 c1
                have cK3 := cell_later hb3 cK
                have fK3 := hO3.frozenAt kk
                have hst := hO3.stored kk (.string (bstr x2))
                have HST := Lib.hid hst
                have HB3 := Lib.hid hB3
                clear hw'' T2 r0 r1 c1 cK fK hst hO3 hB3
                go_wp2
                go_roundw
                case rel =>
                  refine ⟨kk + 1, k2 + 1, dk.set kk x2, by go_num, by go_num, by omega, by omega, ?_, by omega, by show _ = _; rw [List.length_set]; exact HDL.out, ?_, HB3.out.setCell hbg _⟩
                  · have := HKP.out
                    rw [C.out.1] at this
                    show Lib.CompInv _ _ _ _
                    rw [show k + (k2 + 1) = k + k2 + 1 from by omega]
                    simpa using this
                  · have := HST.out.1
                    rw [show (scells dk).set kk (Value.string (bstr x2)) = scells (dk.set kk x2) from by simp [scells, str]] at this
                    exact this
                case measure => simp [intOf]; omega
            · have hend : k + k2 = zs.length := by omega
              have j1 : ¬ (k2 : Int) < ((zs.length - k : Nat) : Int) := by omega
              have hkz : kk < zs.length := by omega
              have j5 : (0 : Int) ≤ (kk : Int) := by omega
              have j6 : (kk : Int) ≤ (zs.length : Int) := by omega
              have j7 : (kk : Int) ≤ (cap : Int) := by omega
              have htk := own_take hownW (show kk ≤ zs.length by omega)
              rw [Nat.mul_one] at htk
              have hfin : Hid (Lib.compact zs = dk.take kk) := by
                have := HI.out
                rw [hend] at this
                exact compInv_take this
              have HDL2 : Hid ((dk.take kk).length = kk) := by show _ = _; rw [List.length_take]; have := HDL.out; omega
              have HTK := Lib.hid htk
              have HB3 := Lib.hid hB
              have hgW := (own_parts hownW).2.2.2
              clear htk hB hcb hownW
              go_wp2_with (refine wpList_clear_at (o := ⟨none, _, _, _, _, _⟩) (by rfl) (.tmp 61) 41 (by rfl) base 9 (.string ByteArray.empty) 1 Tryd.underlying41 zeroStr rfl zeroStr_one (by omega) g kk cap _ HTK.out kk kk (zs.length - kk) (cap - kk) (by omega) (by rfl) (Nat.le_refl _) (by omega) (by omega) ?_; intro w4 hown4 hgr4; have hB4 := HB3.out.grown hgr4 (Nat.le_trans hbg (Nat.le_of_lt hgW)) (by intro j hj; simp only [Option.some.injEq] at hj; omega))
              go_ret
              refine ⟨_, rfl, ?_, hB4⟩
              rw [hfin.out, HDL2.out, show scells (dk.take kk) = (scells dk).take kk from by simp [scells, List.map_take]]
              exact hown4
        · have hT : decide (x = y) = false := by simp [hdup]
          have HN : Hid (∀ j, j < k + 1 → Lib.keeps zs.toArray j = true) := fun j hj => by
            by_cases e : j = k
            · subst e; exact Lib.keeps_pos (by rw [B.out.1, B.out.2]; exact hdup)
            · exact HK.out j (by omega)
          rw [hT] at T1
          clear hT
          go_wp2_with fail
          refine wp_region_quiet_below mixed (by kernel_rfl) ?_
          repeat (go_big_quiet_step (first | (go_at_fn 71; with_reducible exact T1 _ _)))
          refine wpQuiet_nil ?_
          intro W2 hw'
          obtain ⟨⟨dq, osq⟩, hw''⟩ := hw'
          have hbq := hbel.trans ((below_regrown wr dq osq).mono hbel.size)
          rw [← hw''] at hbq
          clear hw'' T1 r0 r1
          go_wp2
          go_roundw
          case rel => exact ⟨k + 1, by omega, by omega, by go_num, HN.out, hbq⟩
          case measure => simp [intOf]; omega
      · have hke : k = zs.length := by omega
        subst hke
        have ki : ¬ (zs.length : Int) < (zs.length : Int) := by omega
        have HO2 := Lib.hid (own_below' HO.out hbel)
        have HSAME := Lib.hid (SAME.out HK.out)
        go_wp2
        go_ret
        refine ⟨_, rfl, ?_, hbel.mono (by omega)⟩
        rw [HSAME.out]
        exact HO2.out
end Go.Proofs.YtjbmihgfneamlaaDoor
