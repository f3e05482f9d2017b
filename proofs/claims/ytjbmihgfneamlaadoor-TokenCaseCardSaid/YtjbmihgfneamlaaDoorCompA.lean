/- slices.CompactFunc at token.At, under token.rising's test of two. -/
import Derived.Test.YtjbmihgfneamlaaDoorCompS
import Derived.Test.YtjbmihgfneamlaaDoorPos1
set_option linter.unusedVariables false
namespace Go.Proofs.YtjbmihgfneamlaaDoor
open Go.RowKit Go.Sort

theorem acells_len (l : List (List UInt8 × Int)) : (acells l).length = l.length * 2 := by
  induction l with
  | nil => rfl
  | cons x l ih => simp only [acells, List.flatMap_cons, List.length_append] at ih ⊢; simp [ih]; omega
theorem acells_append (a b : List (List UInt8 × Int)) : acells (a ++ b) = acells a ++ acells b := by simp [acells]
theorem acells_one (l : List (List UInt8 × Int)) : ∀ u ∈ acells l, u.oneCell' = true := by
  intro u hu
  simp only [acells, List.mem_flatMap] at hu
  obtain ⟨s, _, hs⟩ := hu
  simp at hs
  rcases hs with rfl | rfl <;> rfl
theorem acell_at {l : List (List UInt8 × Int)} {k : Nat} (h : k < l.length) : (acells l)[k * 2]? = some (str l[k].1) ∧ (acells l)[k * 2 + 1]? = some (.int .i64 l[k].2) := by
  induction l generalizing k with
  | nil => simp at h
  | cons x l ih =>
    cases k with
    | zero => simp [acells]
    | succ k =>
      have := ih (k := k) (by simpa using h)
      simp only [acells] at this
      simp only [acells, List.flatMap_cons]
      rw [show (k + 1) * 2 = k * 2 + 2 from by omega, show k * 2 + 2 + 1 = (k * 2 + 1) + 2 from by omega]
      simpa using this
theorem acells_set (l : List (List UInt8 × Int)) (k : Nat) (h : k < l.length) (x : List UInt8 × Int) : ((acells l).set (k * 2) (str x.1)).set (k * 2 + 1) (.int .i64 x.2) = acells (l.set k x) := by
  induction l generalizing k with
  | nil => simp at h
  | cons y l ih =>
    cases k with
    | zero => simp [acells]
    | succ k =>
      have := ih k (by simpa using h)
      simp only [acells] at this
      simp only [acells, List.flatMap_cons, List.set_cons_succ]
      rw [← this, show (k + 1) * 2 = k * 2 + 2 from by omega, show k * 2 + 2 + 1 = (k * 2 + 1) + 2 from by omega]
      simp
theorem acells_take (l : List (List UInt8 × Int)) (k : Nat) : (acells l).take (k * 2) = acells (l.take k) := by
  induction l generalizing k with
  | nil => simp [acells]
  | cons y l ih =>
    cases k with
    | zero => simp [acells]
    | succ k =>
      have := ih k
      simp only [acells] at this
      simp only [acells, List.flatMap_cons, List.take_succ_cons]
      rw [← this, show (k + 1) * 2 = k * 2 + 2 from by omega]
      simp
theorem zeroAt (w : World) : (zeroValue 50).run Tryd.prog w = .ok (.agg #[.string ByteArray.empty, .int .i64 0]) w := by kernel_rfl
theorem zeroAt_one : ∀ u ∈ (Value.agg #[.string ByteArray.empty, .int .i64 0]).cells.toList, u.oneCell' = true := by
  intro u hu
  simp [Value.cells] at hu
  rcases hu with rfl | rfl <;> rfl

def CompPostA (base : Nat) (zs : List (List UInt8 × Int)) (w : World) (e : Ending) (w' : World) : Prop :=
  ∃ v, e = .returned v ∧ w'.ownsRow base 50 2 v (Lib.compact zs).length (acells (Lib.compact zs)) ∧ Below base w w'

set_option maxRecDepth 100000 in
set_option maxHeartbeats 4000000 in
theorem compA_any (bx g cap base : Nat) (zs : List (List UInt8 × Int)) (w : World) (hbx : w.cell? ⟨bx, 0, none⟩ = some (.func (.func 51) #[] #[])) (hbb : bx < base)
    (hown : w.ownsRow base 50 2 (.slice (some ⟨g, 0, none⟩) zs.length cap) zs.length (acells zs)) :
    Calls Tryd.prog 76 #[.slice (some ⟨g, 0, none⟩) zs.length cap, .func (.func 77) #[] #[.pointer (some ⟨bx, 0, none⟩)]] w (CompPostA base zs w) := by
  obtain ⟨hnc, hcm, hbg, hgs⟩ := own_parts hown
  unfold maxLen at hcm
  have eg : ∀ args w, (callFunc 77 args).run Tryd.prog w = .ok (.enter 77 args) w := enters_of Tryd.func77 (by kernel_rfl) rfl
  have mixed : Tryd.prog.follows .mixedOrders = true := by kernel_rfl
  have same : (∀ j, j < zs.length → Lib.keeps zs.toArray j = true) → Lib.compact zs = zs := Lib.compact_all zs
  have SAME := Lib.hid same
  clear same
  by_cases h2 : zs.length < 2
  · have HO := Lib.hid hown
    clear hown
    go_enter Tryd.func76, Tryd.ntmps76
    go_wp2
    go_ret
    refine ⟨_, rfl, ?_, Below.refl _ _⟩
    rw [SAME.out (fun j hj => Lib.keeps_lt_one _ _ (by omega))]
    exact HO.out
  · have HO := Lib.hid hown
    clear hown
    go_enter Tryd.func76, Tryd.ntmps76
    go_wp2
    go_loopw [5] (fun s wr => ∃ k : Nat, 1 ≤ k ∧ k ≤ zs.length ∧ s = .int .i64 k ∧ Hid (∀ j, j < k → Lib.keeps zs.toArray j = true) ∧ Below w.heap.size w wr) (fun s _ => zs.length - (intOf s).toNat)
    case atStart => exact ⟨1, Nat.le_refl _, by omega, rfl, Lib.keeps_lt_one _, Below.refl _ _⟩
    case round =>
      obtain ⟨k, hk1, hk, rfl, HK, hbel⟩ := hrel
      have hcb := cell_later hbel hbx
      by_cases hlt : k < zs.length
      · have hk0 : k - 1 < zs.length := by omega
        have c1 := (own_below' HO.out hbel).cellAt (k * 2) (by omega)
        have d1 := (own_below' HO.out hbel).cellAt (k * 2 + 1) (by omega)
        have c0 := (own_below' HO.out hbel).cellAt ((k - 1) * 2) (by omega)
        have d0 := (own_below' HO.out hbel).cellAt ((k - 1) * 2 + 1) (by omega)
        rw [(acell_at hlt).1] at c1
        rw [(acell_at hlt).2] at d1
        rw [(acell_at hk0).1] at c0
        rw [(acell_at hk0).2] at d0
        have B : Hid (zs.toArray[k]! = zs[k] ∧ zs.toArray[k - 1]! = zs[k - 1]) := ⟨by simp [hlt], by simp [hk0]⟩
        generalize zs[k] = x at *
        generalize zs[k - 1] = y at *
        have T1 := fun d os => Calls.regrown_of (risA_any x y bx (grow (redrawn wr d) os) (cell_regrown hcb d os))
        obtain ⟨xs, xi⟩ := x
        obtain ⟨ys, yi⟩ := y
        unfold aval at T1
        simp only at T1 c1 c0 d1 d0
        have r1 := cell_regrown c1
        have r0 := cell_regrown c0
        have q1 := cell_regrown d1
        have q0 := cell_regrown d0
        have i1 : (k : Int) < (zs.length : Int) := by omega
        have i2 : (0 : Int) ≤ (k : Int) - 1 := by omega
        have i3 : (k : Int) - 1 < (zs.length : Int) := by omega
        have i4 : ((k : Int) - 1).toNat = k - 1 := by omega
        unfold str at *
        clear c0 c1 d0 d1 hcb
        by_cases hdup : (xs, xi) = (ys, yi)
        · simp only [Prod.mk.injEq] at hdup
          obtain ⟨rfl, rfl⟩ := hdup
          have hT : decide ((xs, xi) = (xs, xi)) = true := by simp
          rw [hT] at T1
          clear hT
          go_wp2_with fail
          refine wp_region_quiet_below mixed (by kernel_rfl) ?_
          repeat (go_big_quiet_step (first | (go_at_fn 77; with_reducible exact T1 _ _)))
          refine wpQuiet_nil ?_
          intro W2 hw'
          obtain ⟨⟨dq, osq⟩, hw''⟩ := hw'
          have hbq := hbel.trans ((below_regrown wr dq osq).mono hbel.size)
          rw [← hw''] at hbq
          clear hw'' T1 r0 r1 q0 q1
          have i5 : (0 : Int) ≤ (k : Int) := by omega
          have i6 : (k : Int) ≤ (zs.length : Int) := by omega
          have HN : Hid (Lib.keeps zs.toArray k = false) := Lib.keeps_neg (by omega) (by rw [B.out.1, B.out.2])
          go_wp2
          go_loopw [5, 7] (fun s5 s7 W => ∃ (kk k2 : Nat) (dk : List (List UInt8 × Int)), s5 = .int .i64 kk ∧ s7 = .int .i64 k2 ∧ 1 ≤ k2 ∧ k + k2 ≤ zs.length ∧ Hid (Lib.CompInv zs.toArray (k + k2) kk dk.toArray) ∧ kk < k + k2 ∧ Hid (dk.length = zs.length) ∧ W.ownsRow base 50 2 (.slice (some ⟨g, 0, none⟩) zs.length cap) zs.length (acells dk) ∧ Below base w W) (fun _ s7 _ => zs.length - (intOf s7).toNat)
          case atStart => exact ⟨k, 1, zs, rfl, rfl, Nat.le_refl _, by omega, Lib.CompInv.start HK.out HN.out, by omega, rfl, own_below' HO.out hbq, hbq.mono (by omega)⟩
          case round =>
            obtain ⟨kk, k2, dk, rfl, rfl, h1, hle, HI, hkk, HDL, hownW, hB⟩ := hrel
            have hcb := (hB.cell hbb).trans hbx
            by_cases hlt2 : k + k2 < zs.length
            · have hdl := HDL.out
              have u1 : k + k2 < dk.length := by omega
              have u0 : k + k2 - 1 < dk.length := by omega
              have c1 := hownW.cellAt ((k + k2) * 2) (by omega)
              have d1 := hownW.cellAt ((k + k2) * 2 + 1) (by omega)
              have c0 := hownW.cellAt ((k + k2 - 1) * 2) (by omega)
              have d0 := hownW.cellAt ((k + k2 - 1) * 2 + 1) (by omega)
              rw [(acell_at u1).1] at c1
              rw [(acell_at u1).2] at d1
              rw [(acell_at u0).1] at c0
              rw [(acell_at u0).2] at d0
              have C : Hid (zs.toArray[k + k2]! = dk[k + k2] ∧ zs.toArray[k + k2 - 1]! = dk[k + k2 - 1]) := ⟨by rw [← HI.out.high _ (by omega)]; simp [u1], by rw [← HI.out.high _ (by omega)]; simp [u0]⟩
              have c1 : wr.cell? ⟨g, k * 2 + k2 * 2, none⟩ = some (str dk[k + k2].1) := by rw [show k * 2 + k2 * 2 = (k + k2) * 2 from by omega]; exact c1
              have d1 : wr.cell? ⟨g, k * 2 + k2 * 2 + 1, none⟩ = some (.int .i64 dk[k + k2].2) := by rw [show k * 2 + k2 * 2 + 1 = (k + k2) * 2 + 1 from by omega]; exact d1
              have c0 : wr.cell? ⟨g, k * 2 + (k2 - 1) * 2, none⟩ = some (str dk[k + k2 - 1].1) := by rw [show k * 2 + (k2 - 1) * 2 = (k + k2 - 1) * 2 from by omega]; exact c0
              have d0 : wr.cell? ⟨g, k * 2 + (k2 - 1) * 2 + 1, none⟩ = some (.int .i64 dk[k + k2 - 1].2) := by rw [show k * 2 + (k2 - 1) * 2 + 1 = (k + k2 - 1) * 2 + 1 from by omega]; exact d0
              have hkl : kk < dk.length := by omega
              have cK := hownW.cellAt (kk * 2) (by omega)
              have dK := hownW.cellAt (kk * 2 + 1) (by omega)
              rw [(acell_at hkl).1] at cK
              rw [(acell_at hkl).2] at dK
              have fK := hownW.frozenAt (kk * 2)
              have gK := hownW.frozenAt (kk * 2 + 1)
              generalize dk[kk].1 = old1 at *
              generalize dk[kk].2 = old2 at *
              obtain ⟨x2, hx2⟩ : ∃ t, t = dk[k + k2] := ⟨_, rfl⟩
              obtain ⟨y2, hy2⟩ : ∃ t, t = dk[k + k2 - 1] := ⟨_, rfl⟩
              rw [← hx2] at c1 d1 C
              rw [← hy2] at c0 d0 C
              have T2 := fun d os => Calls.regrown_of (risA_any x2 y2 bx (grow (redrawn wr d) os) (cell_regrown hcb d os))
              obtain ⟨x2s, x2i⟩ := x2
              obtain ⟨y2s, y2i⟩ := y2
              unfold aval at T2
              simp only at T2 c1 c0 d1 d0
              have r1 := cell_regrown c1
              have r0 := cell_regrown c0
              have q1 := cell_regrown d1
              have q0 := cell_regrown d0
              have j1 : (k2 : Int) < ((zs.length - k : Nat) : Int) := by omega
              have j2 : (0 : Int) ≤ (k2 : Int) - 1 := by omega
              have j3 : (k2 : Int) - 1 < ((zs.length - k : Nat) : Int) := by omega
              have j4 : ((k2 : Int) - 1).toNat = k2 - 1 := by omega
              have HO2 := Lib.hid hownW
              unfold str at r0 r1 c1 cK T2
              clear c0 d0 hcb hx2 hy2 hownW
              by_cases huv : (x2s, x2i) = (y2s, y2i)
              · simp only [Prod.mk.injEq] at huv
                obtain ⟨rfl, rfl⟩ := huv
                have hT : decide ((x2s, x2i) = (x2s, x2i)) = true := by simp
                have HSK := Lib.hid (HI.out.skip (Lib.keeps_neg (by omega) (by rw [C.out.1, C.out.2])))
                rw [hT] at T2
                clear hT cK fK dK gK
                go_wp2_with fail
                refine wp_region_quiet_below mixed (by kernel_rfl) ?_
                repeat (go_big_quiet_step (first | (go_at_fn 77; with_reducible exact T2 _ _)))
                refine wpQuiet_nil ?_
                intro W3 hw'
                obtain ⟨⟨dq, osq⟩, hw''⟩ := hw'
                have hb3 : Below wr.heap.size wr W3 := by rw [hw'']; exact below_regrown wr dq osq
                have hO3 := own_below' HO2.out hb3
                have hB3 := hB.trans (hb3.mono (Nat.le_trans (by omega) hB.size))
                clear hw'' T2 r0 r1 q0 q1 c1 d1
                go_wp2
                go_roundw
                case rel => exact ⟨kk, k2 + 1, dk, rfl, by go_num, by omega, by omega, HSK.out, by omega, HDL.out, hO3, hB3⟩
                case measure => simp [intOf]; omega
              · have hT : decide ((x2s, x2i) = (y2s, y2i)) = false := decide_eq_false huv
                have HKP := Lib.hid (HI.out.keep (by simp; omega) (Lib.keeps_pos (by rw [C.out.1, C.out.2]; exact huv)))
                rw [hT] at T2
                clear hT
                go_wp2_with fail
                refine wp_region_quiet_below mixed (by kernel_rfl) ?_
                repeat (go_big_quiet_step (first | (go_at_fn 77; with_reducible exact T2 _ _)))
                refine wpQuiet_nil ?_
                intro W3 hw'
                obtain ⟨⟨dq, osq⟩, hw''⟩ := hw'
                have hb3 : Below wr.heap.size wr W3 := by rw [hw'']; exact below_regrown wr dq osq
                have hO3 := own_below' HO2.out hb3
                have hB3 := hB.trans (hb3.mono (Nat.le_trans (by omega) hB.size))
                have c3 := cell_later hb3 c1
                have d3 := cell_later hb3 d1
                have cK3 := cell_later hb3 cK
                have dK3 := cell_later hb3 dK
                have fK3 := hO3.frozenAt (kk * 2)
                have gK3 := hO3.frozenAt (kk * 2 + 1)
                have hst := (hO3.stored (kk * 2) (.string (bstr x2s))).1.stored (kk * 2 + 1) (.int .i64 x2i)
                have HST := Lib.hid hst
                have HKL := Lib.hid hkl
                have HB3 := Lib.hid hB3
                clear hw'' T2 r0 r1 q0 q1 c1 d1 cK dK fK gK hst hO3 hB3 hkl
                go_wp2
                go_roundw
                case rel =>
                  refine ⟨kk + 1, k2 + 1, dk.set kk (x2s, x2i), by go_num, by go_num, by omega, by omega, ?_, by omega, by show _ = _; rw [List.length_set]; exact HDL.out, ?_, (HB3.out.setCell hbg _).setCell hbg _⟩
                  · have := HKP.out
                    rw [C.out.1] at this
                    show Lib.CompInv _ _ _ _
                    rw [show k + (k2 + 1) = k + k2 + 1 from by omega]
                    simpa using this
                  · have := HST.out.1
                    rw [show ((acells dk).set (kk * 2) (Value.string (bstr x2s))).set (kk * 2 + 1) (.int .i64 x2i) = acells (dk.set kk (x2s, x2i)) from acells_set dk kk HKL.out (x2s, x2i)] at this
                    exact this
                case measure => simp [intOf]; omega
            · have hend : k + k2 = zs.length := by omega
              have j1 : ¬ (k2 : Int) < ((zs.length - k : Nat) : Int) := by omega
              have hkz : kk < zs.length := by omega
              have j5 : (0 : Int) ≤ (kk : Int) := by omega
              have j6 : (kk : Int) ≤ (zs.length : Int) := by omega
              have j7 : (kk : Int) ≤ (cap : Int) := by omega
              have htk := own_take hownW (show kk ≤ zs.length by omega)
              have hfin : Hid (Lib.compact zs = dk.take kk) := by
                have := HI.out
                rw [hend] at this
                exact compInv_take this
              have HDL2 : Hid ((dk.take kk).length = kk) := by show _ = _; rw [List.length_take]; have := HDL.out; omega
              have HTK := Lib.hid htk
              have HB3 := Lib.hid hB
              have hgW := (own_parts hownW).2.2.2
              clear htk hB hcb hownW
              go_wp2_with (refine wpList_clear_at (o := ⟨none, _, _, _, _, _⟩) (by rfl) (.tmp 61) 45 (by rfl) base 50 (.agg #[.string ByteArray.empty, .int .i64 0]) 2 Tryd.underlying45 zeroAt rfl zeroAt_one (by omega) g kk cap _ HTK.out kk (kk * 2) (zs.length - kk) (cap - kk) rfl (by rfl) (Nat.le_refl _) (by omega) (by omega) ?_; intro w4 hown4 hgr4; have hB4 := HB3.out.grown hgr4 (Nat.le_trans hbg (Nat.le_of_lt hgW)) (by intro j hj; simp only [Option.some.injEq] at hj; omega))
              go_ret
              refine ⟨_, rfl, ?_, hB4⟩
              rw [hfin.out, HDL2.out, ← acells_take]
              exact hown4
        · have hT : decide ((xs, xi) = (ys, yi)) = false := decide_eq_false hdup
          have HN : Hid (∀ j, j < k + 1 → Lib.keeps zs.toArray j = true) := fun j hj => by
            by_cases e : j = k
            · subst e; exact Lib.keeps_pos (by rw [B.out.1, B.out.2]; exact hdup)
            · exact HK.out j (by omega)
          rw [hT] at T1
          clear hT
          go_wp2_with fail
          refine wp_region_quiet_below mixed (by kernel_rfl) ?_
          repeat (go_big_quiet_step (first | (go_at_fn 77; with_reducible exact T1 _ _)))
          refine wpQuiet_nil ?_
          intro W2 hw'
          obtain ⟨⟨dq, osq⟩, hw''⟩ := hw'
          have hbq := hbel.trans ((below_regrown wr dq osq).mono hbel.size)
          rw [← hw''] at hbq
          clear hw'' T1 r0 r1 q0 q1
          go_wp2
          go_roundw
          case rel => exact ⟨k + 1, by omega, by omega, by go_num, HN.out, hbq⟩
          case measure => simp [intOf]; omega
      · have hke : k = zs.length := by omega
        subst hke
        have ki : ¬ (zs.length : Int) < (zs.length : Int) := by omega
        have HO2 := Lib.hid (own_below' HO.out hbel)
        have HSAME := Lib.hid (SAME.out HK.out)
        go_wp2
        go_ret
        refine ⟨_, rfl, ?_, hbel.mono (by omega)⟩
        rw [HSAME.out]
        exact HO2.out
end Go.Proofs.YtjbmihgfneamlaaDoor
