/- query.operator, query.Print. -/
import Derived.Test.YtjbmihgfneamlaaDoorQRight
import Derived.BigQuiet
set_option linter.unusedVariables false
namespace Go.Proofs.YtjbmihgfneamlaaDoor
open Go.RowKit Go.Sort

def opByte (k : Int) : UInt8 := if k = 1 then 38 else if k = 2 then 124 else 33

theorem operator_any (k : Int) (w : World) : Calls Tryd.prog 36 #[.int .i64 k] w fun e w' => e = .returned (.string (bstr [opByte k])) ∧ w = w' := by
  by_cases h1 : k = 1
  · subst h1
    go_enter Tryd.func36, Tryd.ntmps36
    go_wp2
    go_ret
    exact ⟨rfl, rfl⟩
  · by_cases h2 : k = 2
    · subst h2
      go_enter Tryd.func36, Tryd.ntmps36
      go_wp2
      go_ret
      exact ⟨rfl, rfl⟩
    · have he : opByte k = 33 := by unfold opByte; rw [if_neg h1, if_neg h2]
      rw [he]
      have n1 : (k == 1) = false := beq_eq_false_iff_ne.2 h1
      have n2 : (k == 2) = false := beq_eq_false_iff_ne.2 h2
      clear h1 h2 he
      go_enter Tryd.func36, Tryd.ntmps36
      go_wp2
      go_ret
      exact ⟨rfl, rfl⟩

def wrapOp (k : Int) (x y : List UInt8) : List UInt8 := [40] ++ x ++ [opByte k] ++ y ++ [41]

def prGo : List (List UInt8) → List QOp → List (List UInt8)
  | st, [] => st
  | st, (k, t) :: r => if k = 0 then prGo (t :: st) r else match st with
    | y :: x :: s => prGo (wrapOp k x y :: s) r
    | _ => st
def qPrint (l : List QOp) : List UInt8 := (prGo [] l).headD []

theorem bstr_append (a b : List UInt8) : bstr a ++ bstr b = bstr (a ++ b) := by
  unfold bstr
  apply ByteArray.ext
  simp

def total : List (List UInt8) → Nat
  | [] => 0
  | x :: r => x.length + total r

theorem rightTok_len {t : List UInt8} (h : rightTok t = true) : t.length ≤ 64 := by
  have h1 := eq_of_beq h
  exact terms_le t t (by rw [h1]; simp)

set_option maxRecDepth 10000 in
set_option maxHeartbeats 2000000 in
theorem print_yes (v : Value) (l : List QOp) (w : World) (ht : Tabs w) (h : Rd w v l.length 2 (ocells l)) (hn : l.length ≤ 100000) (hts : ∀ s ∈ l, s.2.length ≤ 100000) (hks : ∀ s ∈ l, -9223372036854775808 ≤ s.1 ∧ s.1 ≤ 9223372036854775807) (hr : qRight l = true) :
    Calls Tryd.prog 15 #[v] w fun e w' => e = .returned (.tuple #[.string (bstr (qPrint l)), .int .i64 0]) ∧ Below w.heap.size w w' := by
  obtain ⟨j0, hj, hy0, hy1, hy2⟩ := info_parts infoStr
  have hqr := qright_any v l w ht h hn hts hks
  rw [hr] at hqr
  have HQR := Lib.hid hqr
  have HR := Lib.hid hr
  obtain ⟨ao, c, rfl, hm, hcell⟩ := ops_cells h
  have HC := Lib.hid hcell
  clear hcell h hm hts hqr hr hks
  go_enter Tryd.func15, Tryd.ntmps15
  go_wp2_with (go_at_call 34; refine HQR.out.mono ?_; rintro e w1 ⟨rfl, hb1⟩)
  go_loopw [4, 14] (fun u i wr => ∃ (k : Nat) (st : List (List UInt8)) (q : Int), k ≤ l.length ∧ i = .int .i64 k ∧ total st ≤ 70 * k ∧ st.length ≤ k ∧ Hid (rightGo st.length q (l.drop k) = true) ∧ Hid (prGo [] l = prGo st (l.drop k)) ∧ wr.ownsRow w1.heap.size 9 1 u st.length (scells st.reverse) ∧ Below w1.heap.size w1 wr) (fun _ i _ => l.length - (intOf i).toNat)
  case atStart => exact ⟨0, [], 0, Nat.zero_le _, rfl, Nat.le_refl _, Nat.le_refl _, HR.out, rfl, World.ownsRow_nil _ _ _ _, Below.refl _ _⟩
  case round =>
    obtain ⟨k, st, q, hk, rfl, htot, hst, HG, HP, hown, hbel⟩ := hrel
    have hsz := hbel.size
    by_cases hlt : k < l.length
    · obtain ⟨b, off, rfl, h1, h2⟩ := HC.out k hlt
      have hbw := hb1.trans (hbel.mono hb1.size)
      have c1 := (hbw.cell (World.block_lt_of_cell? w _ h1)).trans h1
      have c2 := (hbw.cell (World.block_lt_of_cell? w _ h2)).trans h2
      have hdrop : l.drop k = l[k] :: l.drop (k + 1) := List.drop_eq_getElem_cons hlt
      clear h1 h2
      obtain ⟨⟨kk, tt⟩, hx⟩ : ∃ s, s = l[k] := ⟨_, rfl⟩
      rw [← hx] at hdrop c1 c2
      simp only at c1 c2
      have hg2 := HG.out
      have hp2 := HP.out
      rw [hdrop] at hg2 hp2
      clear hdrop hx HG HP
      simp only [rightGo, prGo] at hg2 hp2
      by_cases hk0 : kk = 0
      · subst hk0
        rw [if_pos rfl] at hg2 hp2
        have hrt : rightTok tt = true := by
          cases h : rightTok tt with
          | true => rfl
          | false => rw [if_neg (by simp [h])] at hg2; exact hg2
        rw [if_pos hrt] at hg2
        have htl := rightTok_len hrt
        have HG := Lib.hid hg2
        have HP := Lib.hid hp2
        have hN2 : ∀ u ∈ [Value.string (bstr tt)], u.oneCell' = true := by intro u hu; simp at hu; subst hu; rfl
        have HN2 := Lib.hid hN2
        clear hN2 hg2 hp2 hrt
        go_wp2_with (at_builtin; refine wpList_app rfl _ _ _ _ rfl w1.heap.size 9 j0 _ 1 16 Tryd.underlying41 hj hy0 hy1 hy2 rfl _ st.length _ rfl ((hown.alloc (.cells #[.int .i64 0, .string (bstr tt)] 38)).alloc _) _ 1 [.string (bstr tt)] rfl (src_at Tryd.underlying41 (wr.alloc (.cells #[.int .i64 0, .string (bstr tt)] 38)) #[.string (bstr tt)] 1 1 1 (wr.heap.size + 1) (by simp) rfl HN2.out) (by unfold maxLen; omega) (by omega) (by simp; omega) ?_; intro v4 w4 hown4 hgr _ _)
        have hB4 : Below w1.heap.size w1 w4 := ((hbel.alloc hsz _).alloc (by simp; omega) _).grown hgr (by simp; omega) (fun j hj => (hown.lt j hj).1)
        clear hgr
        go_wp2
        go_roundw
        case rel =>
          refine ⟨k + 1, tt :: st, q + 1, by omega, by go_num, by simp only [total]; omega, by simp; omega, ?_, HP.out, ?_, hB4⟩
          · have := HG.out
            simp only [List.length_cons]
            rw [show ((st.length + 1 : Nat) : Int) = (st.length : Int) + 1 from by omega]
            exact this
          · rw [List.length_cons, List.reverse_cons, scells_append]
            exact hown4
        case measure => simp [intOf]; omega
      · have hk0' : (kk == 0) = false := beq_eq_false_iff_ne.2 hk0
        rw [if_neg hk0] at hg2 hp2
        by_cases hk3 : kk = 1 ∨ kk = 2 ∨ kk = 3
        · rw [if_pos hk3] at hg2
          by_cases hbad : tt ≠ [] ∨ (st.length : Int) < 2
          · rw [if_pos hbad] at hg2; simp at hg2
          · rw [if_neg hbad] at hg2
            match st, hst, htot, hown, hg2, hp2, hbad with
            | [], _, _, _, _, _, hbad => exact absurd (.inr (by simp)) hbad
            | [_], _, _, _, _, _, hbad => exact absurd (.inr (by simp)) hbad
            | y :: x :: s, hst, htot, hown, hg2, hp2, _ =>
              clear hbad
              have HG := Lib.hid hg2
              have HP := Lib.hid hp2
              clear hg2 hp2 hk0 hk3
              simp only [total] at htot
              simp only [List.length_cons] at hst hown
              obtain ⟨g, cp, rfl⟩ := own_form hown (by omega)
              have hop := own_parts hown
              have e1 : (scells (y :: x :: s).reverse)[s.length]? = some (.string (bstr x)) := by simp [scells, str]
              have e2 : (scells (y :: x :: s).reverse)[s.length + 1]? = some (.string (bstr y)) := by simp [scells, str]
              have k1 := (hown.cellAt s.length (by omega)).trans e1
              have k2 := (hown.cellAt (s.length + 1) (by omega)).trans e2
              clear e1 e2
              have HO := Lib.hid hown
              have k1W : (wr.alloc (.cells #[.int .i64 kk, .string (bstr tt)] 38)).cell? ⟨g, s.length, none⟩ = some (.string (bstr x)) := (((Below.refl _ _).alloc (Nat.le_refl _) _).cell hop.2.2.2).trans k1
              have k2W : (wr.alloc (.cells #[.int .i64 kk, .string (bstr tt)] 38)).cell? ⟨g, s.length + 1, none⟩ = some (.string (bstr y)) := (((Below.refl _ _).alloc (Nat.le_refl _) _).cell hop.2.2.2).trans k2
              have k3W : (wr.alloc (.cells #[.int .i64 kk, .string (bstr tt)] 38)).cell? ⟨wr.heap.size, 0, none⟩ = some (.int .i64 kk) := by
                have hb : (wr.alloc (.cells #[.int .i64 kk, .string (bstr tt)] 38)).heap[wr.heap.size]? = some (.cells #[.int .i64 kk, .string (bstr tt)] 38 (0, 0)) := heap_alloc_new wr _
                rw [cell_of_row _ wr.heap.size 0 _ _ (0, 0) hb]; rfl
              have hWb := (Below.refl wr.heap.size wr).alloc (Nat.le_refl _) (.cells #[.int .i64 kk, .string (bstr tt)] 38)
              clear hown k1 k2
              go_wp2_with fail
              generalize hW : wr.alloc (.cells #[.int .i64 kk, .string (bstr tt)] 38) = W at *
              clear hW
              have r1 := cell_regrown k1W
              have r2 := cell_regrown k2W
              have r3 := cell_regrown k3W
              have T1 := fun d os => Calls.regrown_of ((operator_any kk (grow (redrawn W d) os)).mono fun e w' ⟨h1, h2⟩ => ⟨h1, by rw [← h2]; exact Below.refl _ _⟩)
              have i1 : (0 : Int) ≤ (s.length : Int) := by omega
              have i2 : (s.length : Int) < (s.length : Int) + 1 + 1 := by omega
              have i3 : (0 : Int) ≤ (s.length : Int) + 1 := by omega
              have i4 : (s.length : Int) + 1 < (s.length : Int) + 1 + 1 := by omega
              have z1 := size_bstr x
              have z2 := size_bstr y
              have z3 := size_bstr [opByte kk]
              have n1 : ¬ 9223372036854775807 < 1 + (bstr x).size := by omega
              have n2 : ¬ 9223372036854775807 < 1 + (bstr x).size + (bstr [opByte kk]).size := by simp only [List.length_singleton] at z3; omega
              have n3 : ¬ 9223372036854775807 < 1 + (bstr x).size + (bstr [opByte kk]).size + (bstr y).size := by simp only [List.length_singleton] at z3; omega
              have n4 : ¬ 9223372036854775807 < 1 + (bstr x).size + (bstr [opByte kk]).size + (bstr y).size + 1 := by simp only [List.length_singleton] at z3; omega
              clear z1 z2 z3
              refine wp_region_quiet_below (by kernel_rfl) (by kernel_rfl) ?_
              repeat (go_big_quiet_step (first | (go_at_call 36; with_reducible exact T1 _ _)))
              refine wpQuiet_nil ?_
              intro W2 hw'
              obtain ⟨⟨dq, osq⟩, hw''⟩ := hw'
              have hbq := hWb.trans ((below_regrown W dq osq).mono hWb.size)
              rw [← hw''] at hbq
              clear hw'' r1 r2 r3 T1 k1W k2W k3W hWb n1 n2 n3 n4
              have hstr : (({ data := #[40] } : ByteArray) ++ bstr x ++ bstr [opByte kk] ++ bstr y ++ { data := #[41] }) = bstr (wrapOp kk x y) := by
                rw [show ({ data := #[40] } : ByteArray) = bstr [40] from rfl, show ({ data := #[41] } : ByteArray) = bstr [41] from rfl]
                simp only [bstr_append, wrapOp]
              have hlenw : (wrapOp kk x y).length = x.length + y.length + 3 := by simp [wrapOp]; omega
              have HLW := Lib.hid hlenw
              have HO2 : Hid (W2.ownsRow w1.heap.size 9 1 (.slice (some ⟨g, 0, none⟩) s.length cp) s.length (scells s.reverse)) := by
                have := own_take (own_below' HO.out hbq) (show s.length ≤ s.length + 1 + 1 by omega)
                have e : (scells (y :: x :: s).reverse).take (s.length * 1) = scells s.reverse := by
                  rw [List.reverse_cons, List.reverse_cons, scells_append, scells_append, List.append_assoc, List.take_append_of_le_length (by simp [scells])]
                  exact List.take_of_length_le (by simp [scells])
                rw [e] at this
                exact this
              have hN2 : ∀ u ∈ [Value.string (bstr (wrapOp kk x y))], u.oneCell' = true := by intro u hu; simp at hu; subst hu; rfl
              have HN2 := Lib.hid hN2
              clear hN2 hlenw
              have hcp := hop.1
              have hcp1 : s.length ≤ cp := by omega
              have hcp2 : (s.length : Int) ≤ (cp : Int) := by omega
              have hbs := hbq.size
              go_wp2_with (at_builtin; refine wpList_app rfl _ _ _ _ rfl w1.heap.size 9 j0 _ 1 16 Tryd.underlying41 hj hy0 hy1 hy2 rfl _ s.length _ rfl (HO2.out.alloc _) _ 1 [.string (bstr (wrapOp kk x y))] rfl (src_new Tryd.underlying41 W2 _ 1 1 1 rfl HN2.out) (by unfold maxLen; omega) (by omega) (by simp; omega) ?_; intro v4 w4 hown4 hgr _ _)
              have hB4 : Below w1.heap.size w1 w4 := ((hbel.trans (hbq.mono hsz)).alloc (by omega) _).grown hgr (by simp; omega) (fun j hj => (HO2.out.lt j hj).1)
              clear hgr
              go_wp2
              go_roundw
              case rel =>
                refine ⟨k + 1, wrapOp kk x y :: s, q, by omega, by go_num, ?_, by simp; omega, ?_, HP.out, ?_, hB4⟩
                · have := HLW.out; simp only [total]; omega
                · have := HG.out
                  simp only [List.length_cons] at this ⊢
                  rw [show ((s.length + 1 + 1 : Nat) : Int) - 1 = ((s.length + 1 : Nat) : Int) from by omega] at this
                  exact this
                · rw [List.length_cons, List.reverse_cons, scells_append]
                  exact hown4
              case measure => simp [intOf]; omega
        · rw [if_neg hk3] at hg2; simp at hg2
    · have hke : l.drop k = [] := List.drop_of_length_le (by omega)
      have hg2 := HG.out
      have hp2 := HP.out
      rw [hke] at hg2 hp2
      simp only [rightGo, prGo, Bool.and_eq_true, decide_eq_true_eq] at hg2 hp2
      have h1 : st.length = 1 := by omega
      obtain ⟨t, rfl⟩ := List.length_eq_one_iff.1 h1
      have HQ : Hid (qPrint l = t) := by show _ = _; unfold qPrint; rw [hp2]; rfl
      simp only [List.length_singleton, List.reverse_singleton] at hown
      obtain ⟨g, cp, rfl⟩ := own_form hown (by omega)
      have hc := hown.cellAt 0 (by omega)
      simp [scells, str] at hc
      clear hg2 hp2 hke HG HP h1
      go_wp2
      go_ret2
      exact ⟨by rw [HQ.out]; rfl, hb1.trans (hbel.mono hb1.size)⟩

set_option maxHeartbeats 1000000 in
theorem print_no (v : Value) (l : List QOp) (w : World) (ht : Tabs w) (h : Rd w v l.length 2 (ocells l)) (hn : l.length ≤ 100000) (hts : ∀ s ∈ l, s.2.length ≤ 100000) (hks : ∀ s ∈ l, -9223372036854775808 ≤ s.1 ∧ s.1 ≤ 9223372036854775807) (hr : qRight l = false) :
    Calls Tryd.prog 15 #[v] w fun e w' => e = .returned (.tuple #[.string (bstr []), .int .i64 1]) ∧ Below w.heap.size w w' := by
  have hqr := qright_any v l w ht h hn hts hks
  rw [hr] at hqr
  have HQR := Lib.hid hqr
  clear hqr hr hks hts h
  go_enter Tryd.func15, Tryd.ntmps15
  go_wp2_with (go_at_call 34; refine HQR.out.mono ?_; rintro e w1 ⟨rfl, hb1⟩)
  go_ret2
  exact ⟨rfl, hb1⟩
end Go.Proofs.YtjbmihgfneamlaaDoor
