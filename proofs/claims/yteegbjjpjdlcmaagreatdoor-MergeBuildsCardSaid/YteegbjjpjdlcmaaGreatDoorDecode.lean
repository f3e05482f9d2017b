/- utf.first at whatever bytes; utf.Decode. -/
import Derived.Test.YteegbjjpjdlcmaaGreatDoorFirst
import Derived.Test.YteegbjjpjdlcmaaGreatDoorUtfLaw
set_option linter.unusedVariables false
namespace Go.Proofs.YteegbjjpjdlcmaaGreatDoor
open Go.RowKit

theorem isChar_small {c : Int} (h0 : 0 ≤ c) (h1 : c < 55296) : isChar c = true := by
  simp only [isChar, Bool.and_eq_true, Bool.or_eq_true, decide_eq_true_eq]; omega

theorem cont_false {b : UInt8} (h : cont b = false) : ch b < 128 ∨ 192 ≤ ch b := by
  simp only [cont, Bool.and_eq_false_iff, decide_eq_false_iff_not] at h; omega
theorem cont_true {b : UInt8} (h : cont b = true) : 128 ≤ ch b ∧ ch b < 192 := by
  simp only [cont, Bool.and_eq_true, decide_eq_true_eq] at h; exact h

theorem first_any (l : List UInt8) (b off c : Nat) (w : World) (hc : ∀ i (hi : i < l.length), w.cell? ⟨b, off + i, none⟩ = some (.int .u8 (ch l[i]))) (hl : 0 < l.length) (hnc : l.length ≤ c) (hnn : l.length ≤ 9223372036854775807) :
    Calls Tryz.prog 69 #[.slice (some ⟨b, off, none⟩) l.length c] w (FirstIs (first l).1 (first l).2 w) := by
  match l, hl with
  | b0 :: r, _ =>
    have c0 : w.cell? ⟨b, off, none⟩ = some (.int .u8 (ch b0)) := hc 0 (by simp)
    have z0 := ch_bd b0
    obtain ⟨n, hn⟩ : ∃ n, r.length + 1 = n := ⟨_, rfl⟩
    rw [List.length_cons, hn] at hnc hnn ⊢
    have hc' : ∀ i x, (b0 :: r)[i]? = some x → w.cell? ⟨b, off + i, none⟩ = some (.int .u8 (ch x)) := by
      intro i x hi
      obtain ⟨h1, h2⟩ := List.getElem?_eq_some_iff.1 hi
      rw [hc i h1, h2]
    clear hc
    have hn0 : 0 < n := by omega
    simp only [first]
    by_cases h1 : ch b0 < 128
    · rw [if_pos h1]; exact first_ascii b off c n w hn0 hnn hnc _ c0 z0.1 h1
    rw [if_neg h1]
    by_cases h2 : ch b0 < 192
    · rw [if_pos h2]; exact first_low b off c n w hn0 hnn hnc _ c0 (by omega) h2
    rw [if_neg h2]
    by_cases h3 : ch b0 < 224
    · rw [if_pos h3]
      match r, hn with
      | [], hn => exact first_short2 b off c n w hn0 hnn hnc _ c0 (by omega) h3 (by simp at hn; omega)
      | b1 :: r', hn =>
        simp only [List.length_cons] at hn
        have c1 : w.cell? ⟨b, off + 1, none⟩ = some (.int .u8 (ch b1)) := hc' 1 _ rfl
        have z1 := ch_bd b1
        simp only [first2]
        cases hk1 : cont b1 with
        | false => exact first_cont2_1 b off c n w hn0 hnn hnc _ c0 (by omega) h3 (by omega) _ c1 z1.1 z1.2 (cont_false hk1)
        | true =>
          have k1 := cont_true hk1
          by_cases hs : 128 ≤ (ch b0 - 192) * 64 + (ch b1 - 128)
          · simp only [hs, decide_true, Bool.and_self, if_true]
            exact first_ok2 b off c n w hn0 hnn hnc _ c0 (by omega) h3 (by omega) _ c1 k1.1 k1.2 (isChar_small (by omega) (by omega)) (by unfold csize; rw [if_neg (by omega), if_pos (by omega)])
          · simp only [hs, decide_false, Bool.and_false, Bool.false_eq_true, if_false]
            exact first_no2_size b off c n w hn0 hnn hnc _ c0 (by omega) h3 (by omega) _ c1 k1.1 k1.2 (isChar_small (by omega) (by omega)) (by unfold csize; rw [if_pos (by omega)]; rfl)
    rw [if_neg h3]
    by_cases h4 : ch b0 < 240
    · rw [if_pos h4]
      match r, hn with
      | [], hn => exact first_short3 b off c n w hn0 hnn hnc _ c0 (by omega) h4 (by simp at hn; omega)
      | [b1], hn => exact first_short3 b off c n w hn0 hnn hnc _ c0 (by omega) h4 (by simp at hn; omega)
      | b1 :: b2 :: r', hn =>
        simp only [List.length_cons] at hn
        have c1 : w.cell? ⟨b, off + 1, none⟩ = some (.int .u8 (ch b1)) := hc' 1 _ rfl
        have c2 : w.cell? ⟨b, off + 1 + 1, none⟩ = some (.int .u8 (ch b2)) := hc' 2 _ rfl
        have z1 := ch_bd b1
        have z2 := ch_bd b2
        simp only [first3]
        cases hk1 : cont b1 with
        | false => exact first_cont3_1 b off c n w hn0 hnn hnc _ c0 (by omega) h4 (by omega) _ c1 z1.1 z1.2 (cont_false hk1)
        | true =>
          have k1 := cont_true hk1
          cases hk2 : cont b2 with
          | false => exact first_cont3_2 b off c n w hn0 hnn hnc _ c0 (by omega) h4 (by omega) _ c1 z1.1 z1.2 _ c2 z2.1 z2.2 k1.1 k1.2 (cont_false hk2)
          | true =>
            have k2 := cont_true hk2
            cases hi : isChar (((ch b0 - 224) * 64 + (ch b1 - 128)) * 64 + (ch b2 - 128)) with
            | false => exact first_no3_char b off c n w hn0 hnn hnc _ c0 (by omega) h4 (by omega) _ c1 k1.1 k1.2 _ c2 k2.1 k2.2 hi
            | true =>
              by_cases hs : 2048 ≤ ((ch b0 - 224) * 64 + (ch b1 - 128)) * 64 + (ch b2 - 128)
              · simp only [hs, decide_true, Bool.and_self, if_true]
                exact first_ok3 b off c n w hn0 hnn hnc _ c0 (by omega) h4 (by omega) _ c1 k1.1 k1.2 _ c2 k2.1 k2.2 hi (by unfold csize; rw [if_neg (by omega), if_neg (by omega), if_pos (by omega)])
              · simp only [hs, decide_false, Bool.and_false, Bool.false_eq_true, if_false]
                refine first_no3_size b off c n w hn0 hnn hnc _ c0 (by omega) h4 (by omega) _ c1 k1.1 k1.2 _ c2 k2.1 k2.2 hi ?_
                rw [bne_iff_ne]; unfold csize; split
                · omega
                · rw [if_pos (by omega)]; omega
    rw [if_neg h4]
    by_cases h5 : ch b0 < 248
    · rw [if_pos h5]
      match r, hn with
      | [], hn => exact first_short4 b off c n w hn0 hnn hnc _ c0 (by omega) h5 (by simp at hn; omega)
      | [b1], hn => exact first_short4 b off c n w hn0 hnn hnc _ c0 (by omega) h5 (by simp at hn; omega)
      | [b1, b2], hn => exact first_short4 b off c n w hn0 hnn hnc _ c0 (by omega) h5 (by simp at hn; omega)
      | b1 :: b2 :: b3 :: r', hn =>
        simp only [List.length_cons] at hn
        have c1 : w.cell? ⟨b, off + 1, none⟩ = some (.int .u8 (ch b1)) := hc' 1 _ rfl
        have c2 : w.cell? ⟨b, off + 1 + 1, none⟩ = some (.int .u8 (ch b2)) := hc' 2 _ rfl
        have c3 : w.cell? ⟨b, off + 1 + 2, none⟩ = some (.int .u8 (ch b3)) := hc' 3 _ rfl
        have z1 := ch_bd b1
        have z2 := ch_bd b2
        have z3 := ch_bd b3
        simp only [first4]
        cases hk1 : cont b1 with
        | false => exact first_cont4_1 b off c n w hn0 hnn hnc _ c0 (by omega) h5 (by omega) _ c1 z1.1 z1.2 (cont_false hk1)
        | true =>
          have k1 := cont_true hk1
          cases hk2 : cont b2 with
          | false => exact first_cont4_2 b off c n w hn0 hnn hnc _ c0 (by omega) h5 (by omega) _ c1 z1.1 z1.2 _ c2 z2.1 z2.2 k1.1 k1.2 (cont_false hk2)
          | true =>
            have k2 := cont_true hk2
            cases hk3 : cont b3 with
            | false => exact first_cont4_3 b off c n w hn0 hnn hnc _ c0 (by omega) h5 (by omega) _ c1 z1.1 z1.2 _ c2 z2.1 z2.2 _ c3 z3.1 z3.2 k1.1 k1.2 k2.1 k2.2 (cont_false hk3)
            | true =>
              have k3 := cont_true hk3
              cases hi : isChar ((((ch b0 - 240) * 64 + (ch b1 - 128)) * 64 + (ch b2 - 128)) * 64 + (ch b3 - 128)) with
              | false => exact first_no4_char b off c n w hn0 hnn hnc _ c0 (by omega) h5 (by omega) _ c1 k1.1 k1.2 _ c2 k2.1 k2.2 _ c3 k3.1 k3.2 hi
              | true =>
                by_cases hs : 65536 ≤ (((ch b0 - 240) * 64 + (ch b1 - 128)) * 64 + (ch b2 - 128)) * 64 + (ch b3 - 128)
                · simp only [hs, decide_true, Bool.and_self, if_true]
                  exact first_ok4 b off c n w hn0 hnn hnc _ c0 (by omega) h5 (by omega) _ c1 k1.1 k1.2 _ c2 k2.1 k2.2 _ c3 k3.1 k3.2 hi (by unfold csize; rw [if_neg (by omega), if_neg (by omega), if_neg (by omega)])
                · simp only [hs, decide_false, Bool.and_false, Bool.false_eq_true, if_false]
                  refine first_no4_size b off c n w hn0 hnn hnc _ c0 (by omega) h5 (by omega) _ c1 k1.1 k1.2 _ c2 k2.1 k2.2 _ c3 k3.1 k3.2 hi ?_
                  rw [bne_iff_ne]; unfold csize; split
                  · omega
                  · split
                    · omega
                    · rw [if_pos (by omega)]; omega
    rw [if_neg h5]
    exact first_high b off c n w hn0 hnn hnc _ c0 (by omega) z0.2

theorem infoInt : (Tryz.prog.info? 3).map (fun i => (i.zero, i.size, i.bytes)) = some (some (.int .i64 0), 1, 8) := by kernel_rfl
def icells (l : List Int) : List Value := l.map (Value.int .i64)

/-- a slice that is cut at its beginning, p elements on. -/
theorem bytes_cells {w : World} {v : Value} {l : List UInt8} (h : Rd w v l.length 1 (bcells l)) (h0 : 0 < l.length) : ∃ b off c, v = .slice (some ⟨b, off, none⟩) l.length c ∧ l.length ≤ c ∧ c ≤ maxLen ∧ ∀ i (hi : i < l.length), w.cell? ⟨b, off + i, none⟩ = some (.int .u8 (ch l[i])) := by
  obtain ⟨-, -, ⟨ao, c, -, hn⟩ | ⟨b, off, c, rfl, _, h1, h2, h3⟩⟩ := h
  · omega
  · exact ⟨b, off, c, rfl, h1, h2, fun i hi => h3 i _ (by simp [bcells, hi])⟩

set_option maxRecDepth 10000 in
set_option maxHeartbeats 1000000 in
theorem decode_any (v : Value) (l : List UInt8) (w : World) (h : Rd w v l.length 1 (bcells l)) (hn : l.length ≤ 100000) :
    Calls Tryz.prog 54 #[v] w (Gives w 3 1 (decode l).length (icells (decode l))) := by
  obtain ⟨i0, hi, hz0, hz1, hz2⟩ := info_parts infoInt
  rcases Nat.eq_zero_or_pos l.length with h0 | h0
  · have hx : l = [] := List.length_eq_zero_iff.1 h0
    subst hx
    obtain ⟨-, -, ⟨ao, c, rfl, -⟩ | ⟨b, off, c, -, h1, -⟩⟩ := h
    · go_enter Tryz.func54, Tryz.ntmps54
      go_wp2
      refine wp_loop_rounds 1 ?_; rw [rounds_succ]
      go_wp2
      go_ret
      exact ⟨_, rfl, World.ownsRow_nil _ _ _ _, Below.refl _ _⟩
    · simp at h1
  · obtain ⟨b, off, c, rfl, hnc, hcm, hcell⟩ := bytes_cells h h0
    have HC := Lib.hid hcell; clear hcell h
    unfold maxLen at hcm
    go_enter Tryz.func54, Tryz.ntmps54
    go_wp2
    go_loopw [0, 3] (fun s o wr => ∃ (p q r d : Nat) (cs : List Int), Hid (r + p = l.length) ∧ r ≤ d ∧ d ≤ 9223372036854775807 ∧ (0 < r → q = off + p) ∧ s = .slice (some ⟨b, q, none⟩) r d ∧ Hid (decode l = cs ++ decode (l.drop p)) ∧ cs.length ≤ p ∧ wr.ownsRow w.heap.size 3 1 o cs.length (icells cs) ∧ Below w.heap.size w wr) (fun s _ _ => lenOf s)
    case atStart => exact ⟨0, off, l.length, c, [], rfl, hnc, by omega, fun _ => rfl, rfl, rfl, Nat.le_refl _, World.ownsRow_nil _ _ _ _, Below.refl _ _⟩
    case round =>
      obtain ⟨p, q, r, d, cs, HR, hrd, hd9, hq, rfl, HD, hcs, hown, hbel⟩ := hrel
      have hsz := hbel.size
      by_cases hlt : 0 < r
      · obtain rfl := hq hlt
        clear hq
        have hfa : Hid (∃ (m : Nat) (cc : Int), 1 ≤ m ∧ m ≤ r ∧ decode (l.drop p) = cc :: decode (l.drop (p + m)) ∧ Calls Tryz.prog 69 #[.slice (some ⟨b, off + p, none⟩) r d] wr (FirstIs cc m wr)) := by
          have hrp := HR.out
          have hne : l.drop p ≠ [] := by intro e; have := congrArg List.length e; simp at this; omega
          have hfl := first_len _ hne
          rw [List.length_drop] at hfl
          have hs := decode_step _ hne
          have hfa := first_any (l.drop p) b (off + p) d wr (fun i hi => by
            rw [List.length_drop] at hi
            have h1 := HC.out (p + i) (by omega)
            rw [Nat.add_assoc, hbel.cell (World.block_lt_of_cell? w _ h1), h1, List.getElem_drop]) (by rw [List.length_drop]; omega) (by rw [List.length_drop]; omega) (by rw [List.length_drop]; omega)
          rw [List.length_drop, show l.length - p = r from by omega] at hfa
          rw [List.drop_drop] at hs
          exact ⟨_, _, hfl.1, by omega, hs, hfa⟩
        obtain ⟨m, cc, hm1, hm2, hs, hfa⟩ := hfa
        have HS := Lib.hid hs; clear hs
        have HF := Lib.hid hfa; clear hfa
        have hcl : cs.length < 100001 := by have := HR.out; omega
        have hg0 : (0 : Int) ≤ (m : Int) := by omega
        have hg2 : (m : Int) ≤ (r : Int) := by omega
        have hnews : ∀ u ∈ [Value.int .i64 cc], u.oneCell' = true := by intro u hu; simp at hu; subst hu; rfl
        have HN := Lib.hid hnews; clear hnews
        have fin : Hid (∀ (v' : Value) (w1 : World), w1.ownsRow w.heap.size 3 1 v' (cs.length + 1) (icells cs ++ [.int .i64 cc]) → (wr.alloc (.cells #[.int .i64 cc] 3)).grownBy w1 u3.ownBlock → w1.ownsRow w.heap.size 3 1 v' (cs ++ [cc]).length (icells (cs ++ [cc])) ∧ Below w.heap.size w w1) := by
          intro v' w1 h1 h2
          refine ⟨by simpa [icells] using h1, (hbel.alloc hsz _).grown h2 (by simp; omega) (fun j hj => (hown.lt j hj).1)⟩
        have hstep : Hid (∀ q' d', (0 < r - m → q' = off + p + m) → r - m ≤ d' → d' ≤ 9223372036854775807 → ∀ (v' : Value) (w1 : World), w1.ownsRow w.heap.size 3 1 v' (cs ++ [cc]).length (icells (cs ++ [cc])) → Below w.heap.size w w1 → ∃ (p1 q1 r1 d1 : Nat) (cs1 : List Int), Hid (r1 + p1 = l.length) ∧ r1 ≤ d1 ∧ d1 ≤ 9223372036854775807 ∧ (0 < r1 → q1 = off + p1) ∧ Value.slice (some ⟨b, q', none⟩) (r - m) d' = .slice (some ⟨b, q1, none⟩) r1 d1 ∧ Hid (decode l = cs1 ++ decode (l.drop p1)) ∧ cs1.length ≤ p1 ∧ w1.ownsRow w.heap.size 3 1 v' cs1.length (icells cs1) ∧ Below w.heap.size w w1) := by
          intro q' d' hq' hd1 hd2 v' w1 h1 h2
          refine ⟨p + m, q', r - m, d', cs ++ [cc], by have := HR.out; show _ = _; omega, hd1, hd2, fun h => by rw [hq' h]; omega, rfl, ?_, by simp; omega, h1, h2⟩
          show _ = _
          rw [HD.out, HS.out]; simp
        by_cases hcm2 : d = m
        · subst hcm2
          have hrd' : r ≤ d := hrd
          go_wp2_with (first | (go_at_call 69; refine HF.out.mono ?_; rintro e w' ⟨rfl, rfl⟩) | (at_builtin; refine wpList_app rfl _ _ _ _ rfl w.heap.size 3 i0 _ 1 8 Tryz.underlying46 hi hz0 hz1 hz2 rfl _ cs.length _ rfl (hown.alloc _) _ 1 [.int .i64 cc] rfl (src_new Tryz.underlying46 wr _ 1 1 1 rfl HN.out) (by unfold maxLen; omega) (by omega) (by simp; omega) ?_; intro v' w1 hown1 hgr _ _; obtain ⟨f1, f2⟩ := fin.out v' w1 hown1 hgr; clear hown1 hgr))
          go_roundw
          case rel =>
            have hx := hstep.out (off + p) 0 (fun h => by omega) (by omega) (by omega) _ _ f1 f2
            rw [show r - d = 0 from by omega] at hx
            exact hx
          case measure => simp [lenOf]; omega
        · go_wp2_with (first | (go_at_call 69; refine HF.out.mono ?_; rintro e w' ⟨rfl, rfl⟩) | (at_builtin; refine wpList_app rfl _ _ _ _ rfl w.heap.size 3 i0 _ 1 8 Tryz.underlying46 hi hz0 hz1 hz2 rfl _ cs.length _ rfl (hown.alloc _) _ 1 [.int .i64 cc] rfl (src_new Tryz.underlying46 wr _ 1 1 1 rfl HN.out) (by unfold maxLen; omega) (by omega) (by simp; omega) ?_; intro v' w1 hown1 hgr _ _; obtain ⟨f1, f2⟩ := fin.out v' w1 hown1 hgr; clear hown1 hgr))
          go_roundw
          case rel => exact hstep.out _ _ (fun h => by first | rfl | omega) (by omega) (by omega) _ _ f1 f2
          case measure => simp [lenOf]; omega
      · have hr0 : r = 0 := by omega
        subst hr0
        clear hq
        go_wp2
        go_ret
        have hpl : l.drop p = [] := List.drop_of_length_le (by have := HR.out; omega)
        have hd := HD.out
        rw [hpl, decode_nil, List.append_nil] at hd
        rw [hd]
        exact ⟨_, rfl, hown, hbel⟩
end Go.Proofs.YteegbjjpjdlcmaaGreatDoor
