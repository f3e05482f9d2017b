/- post.pick: the walk. -/
import Derived.Test.YteegbjjpjdlcmaaDoorPost
import Derived.Shelf.Abstract
set_option linter.unusedVariables false
namespace Go.Proofs.YteegbjjpjdlcmaaDoor
open Go.RowKit Go.Sort

set_option maxRecDepth 100000 in
set_option maxHeartbeats 16000000 in
theorem pick_any (keep : Int → Bool → Bool → Bool) (g : Nat) (cb : Array Value) (va vb : Value) (na nb : Nat) (A B : List Int) (w : World) (eg : ∀ args w, (callFunc g args).run Tryd.prog w = .ok (.enter g args) w)
    (hkeep : ∀ n x y W, Below w.heap.size w W → Calls Tryd.prog g (#[.int .i64 n, .bool x, .bool y] ++ cb) W fun e w' => e = .returned (.bool (keep n x y)) ∧ W = w')
    (hna : A.length = na) (hnb : B.length = nb) (ha : Rd w va na 1 (icells A)) (hb : Rd w vb nb 1 (icells B)) (hA : postRight A = true) (hB : postRight B = true) (hn : na + nb ≤ 100000) :
    Calls Tryd.prog 70 #[va, vb, .func (.func g) #[] cb] w (Gives w 3 1 (pickL keep A B).length (icells (pickL keep A B))) := by
  obtain ⟨i0, hi, hz0, hz1, hz2⟩ := info_parts infoInt
  have mixed : Tryd.prog.follows .mixedOrders = true := by kernel_rfl
  have PA := Lib.hid (fun W (hW : Below w.heap.size w W) => postright_any va na A W hna (ha.below hW))
  have PB := Lib.hid (fun W (hW : Below w.heap.size w W) => postright_any vb nb B W hnb (hb.below hW))
  rw [hA] at PA
  rw [hB] at PB
  obtain ⟨aa, ac, rfl, hma, -⟩ := ints_cells hna ha
  obtain ⟨ba, bc, rfl, hmb, -⟩ := ints_cells hnb hb
  have HKP := Lib.hid hkeep
  have HN1 : Hid (∀ z : Int, ∀ u ∈ [Value.int .i64 z], u.oneCell' = true) := fun z u hu => by simp at hu; subst hu; rfl
  have HA := Lib.hid ha
  have HB := Lib.hid hb
  have HNA := Lib.hid (And.intro hna hnb)
  clear hA hB hkeep ha hb hna hnb
  go_enter Tryd.func70, Tryd.ntmps70
  go_wp2_with (first | (go_at_call 39; with_reducible refine (PA.out _ (Below.refl _ _)).mono ?_; rintro e w' ⟨rfl, rfl⟩) | (go_at_call 39; with_reducible refine (PB.out _ (Below.refl _ _)).mono ?_; rintro e w' ⟨rfl, rfl⟩))
  go_loopw [0, 1, 7] (fun s0 s1 o wr => ∃ (x y z : Nat) (xs ys out : List Int), Hid (xs.length = x ∧ ys.length = y ∧ out.length = z) ∧ x + y + z ≤ 100000 ∧ Hid (pickL keep A B = out ++ pickL keep xs ys) ∧ Hid (Rd w s0 x 1 (icells xs)) ∧ Hid (Rd w s1 y 1 (icells ys)) ∧ lenOf s0 = x ∧ lenOf s1 = y ∧ wr.ownsRow w.heap.size 3 1 o z (icells out) ∧ Below w.heap.size w wr) (fun s0 s1 _ _ => lenOf s0 + lenOf s1)
  case atStart => exact ⟨na, nb, 0, A, B, [], ⟨HNA.out.1, HNA.out.2, rfl⟩, by omega, rfl, HA.out, HB.out, rfl, rfl, World.ownsRow_nil _ _ _ _, Below.refl _ _⟩
  case round =>
    obtain ⟨x, y, z, xs, ys, out, HL, hsum, HP, HX, HY, hlx, hly, hown, hbel⟩ := hrel
    have hsz := hbel.size
    obtain ⟨xa, xc, rfl, -, -⟩ := ints_cells HL.out.1 HX.out
    obtain ⟨ya, yc, rfl, -, -⟩ := ints_cells HL.out.2.1 HY.out
    obtain ⟨oa, oc, rfl⟩ := own_shape hown
    clear hlx hly
    cases xs with
    | nil =>
      obtain rfl : 0 = x := HL.out.1
      cases ys with
      | nil =>
        obtain rfl : 0 = y := HL.out.2.1
        have hfin : Hid (pickL keep A B = out) := by show _ = _; rw [HP.out, pickL_nil, List.append_nil]
        have HZ := Lib.hid HL.out.2.2
        go_wp2
        go_ret
        rw [hfin.out]
        exact ⟨_, rfl, by rw [HZ.out]; exact hown, hbel⟩
      | cons q ys =>
        obtain ⟨y', rfl⟩ : ∃ y', y = y' + 1 := ⟨ys.length, by have := HL.out.2.1; simp at this; omega⟩
        obtain ⟨b2, off2, rfl, cb2, hyc⟩ := rd_head HY.out
        have yi : (0 : Int) < ((y' + 1 : Nat) : Int) := by omega
        have ye : (((y' + 1 : Nat) : Int) == 0) = false := beq_eq_false_iff_ne.2 (by omega)
        have ye2 : ((y' : Int) + 1 == 0) = false := beq_eq_false_iff_ne.2 (by omega)
        have ye3 : ¬ (y' : Int) + 1 = 0 := by omega
        have yg : (1 : Int) ≤ ((y' + 1 : Nat) : Int) := by omega
        have HKC := Lib.hid (HKP.out q false true)
        have HQ : Hid (pickL keep A B = out ++ ((if keep q false true then [q] else []) ++ pickL keep [] ys)) := by show _ = _; rw [HP.out, pickL_b keep q ys]
        have rb := cell_regrown (cell_later hbel cb2)
        go_wp2_with fail
        refine wp_region_quiet_below mixed (by kernel_rfl) ?_
        repeat (go_big_quiet_step (fail))
        refine wpQuiet_nil ?_
        intro W1 hw'
        obtain ⟨⟨dq, osq⟩, hw''⟩ := hw'
        have hbel1 := hbel.trans ((below_regrown wr dq osq).mono hbel.size)
        have hown1 := own_below' hown (below_regrown wr dq osq)
        rw [← hw''] at hbel1 hown1
        clear hw'' hown rb
        have rb := cell_regrown (cell_later hbel1 cb2)
        go_wp2_with fail
        refine wp_region_quiet_below mixed (by kernel_rfl) ?_
        repeat (go_big_quiet_step (fail))
        refine wpQuiet_nil ?_
        intro W2 hw'
        obtain ⟨⟨dq, osq⟩, hw''⟩ := hw'
        have hbel2 := hbel1.trans ((below_regrown W1 dq osq).mono hbel1.size)
        have hown2 := own_below' hown1 (below_regrown W1 dq osq)
        rw [← hw''] at hbel2 hown2
        clear hw'' hown1 rb
        by_cases hyc1 : yc = 1
        · subst hyc1
          obtain rfl : y' = 0 := by omega
          have rb := cell_regrown (cell_later hbel2 cb2)
          go_wp2_with fail
          refine wp_region_quiet_below mixed (by kernel_rfl) ?_
          repeat (go_big_quiet_step (fail))
          refine wpQuiet_nil ?_
          intro W3 hw'
          obtain ⟨⟨dq, osq⟩, hw''⟩ := hw'
          have hbel3 := hbel2.trans ((below_regrown W2 dq osq).mono hbel2.size)
          have hown3 := own_below' hown2 (below_regrown W2 dq osq)
          rw [← hw''] at hbel3 hown3
          clear hw'' hown2 rb
          cases hkv : keep q false true with
          | true =>
            rw [hkv] at HKC HQ
            clear hkv
            go_wp2_with (first | (go_at_fn g; refine (HKC.out _ hbel3).mono ?_; rintro e w' ⟨rfl, rfl⟩) | (at_builtin; refine wpList_app rfl _ _ _ _ rfl w.heap.size 3 i0 _ 1 8 Tryd.underlying41 hi hz0 hz1 hz2 rfl (.slice oa z oc) z _ rfl (hown3.alloc _) _ 1 [Value.int .i64 q] rfl (src_new Tryd.underlying41 W3 _ 1 1 1 rfl (HN1.out q)) (by unfold maxLen; omega) (by omega) (by have := hbel3.size; simp; omega) ?_; intro v9 w9 hown9 hgr9 _ _))
            have hB9 : Below w.heap.size w w9 := (hbel3.alloc hbel3.size _).grown hgr9 (by have := hbel3.size; simp; omega) (fun j hj => (hown3.lt j hj).1)
            clear hgr9
            go_wp2
            go_roundw
            case rel => exact ⟨0, 0, z + 1, [], ys, out ++ [q], ⟨HL.out.1, by have := HL.out.2.1; simpa using this, by rw [List.length_append, HL.out.2.2]; rfl⟩, by omega, by show _ = _; rw [HQ.out]; simp, HX.out, (rd_tail HY.out).1 rfl, rfl, rfl, by rw [icells_append]; exact hown9, hB9⟩
            case measure => simp [lenOf]; try omega
          | false =>
            rw [hkv] at HKC HQ
            clear hkv
            go_wp2_with (go_at_fn g; refine (HKC.out _ hbel3).mono ?_; rintro e w' ⟨rfl, rfl⟩)
            go_roundw
            case rel => exact ⟨0, 0, z, [], ys, out, ⟨HL.out.1, by have := HL.out.2.1; simpa using this, HL.out.2.2⟩, by omega, by show _ = _; rw [HQ.out]; simp, HX.out, (rd_tail HY.out).1 rfl, rfl, rfl, hown3, hbel3⟩
            case measure => simp [lenOf]; try omega
        · have rb := cell_regrown (cell_later hbel2 cb2)
          go_wp2_with fail
          refine wp_region_quiet_below mixed (by kernel_rfl) ?_
          repeat (go_big_quiet_step (fail))
          refine wpQuiet_nil ?_
          intro W3 hw'
          obtain ⟨⟨dq, osq⟩, hw''⟩ := hw'
          have hbel3 := hbel2.trans ((below_regrown W2 dq osq).mono hbel2.size)
          have hown3 := own_below' hown2 (below_regrown W2 dq osq)
          rw [← hw''] at hbel3 hown3
          clear hw'' hown2 rb
          cases hkv : keep q false true with
          | true =>
            rw [hkv] at HKC HQ
            clear hkv
            go_wp2_with (first | (go_at_fn g; refine (HKC.out _ hbel3).mono ?_; rintro e w' ⟨rfl, rfl⟩) | (at_builtin; refine wpList_app rfl _ _ _ _ rfl w.heap.size 3 i0 _ 1 8 Tryd.underlying41 hi hz0 hz1 hz2 rfl (.slice oa z oc) z _ rfl (hown3.alloc _) _ 1 [Value.int .i64 q] rfl (src_new Tryd.underlying41 W3 _ 1 1 1 rfl (HN1.out q)) (by unfold maxLen; omega) (by omega) (by have := hbel3.size; simp; omega) ?_; intro v9 w9 hown9 hgr9 _ _))
            have hB9 : Below w.heap.size w w9 := (hbel3.alloc hbel3.size _).grown hgr9 (by have := hbel3.size; simp; omega) (fun j hj => (hown3.lt j hj).1)
            clear hgr9
            go_wp2
            go_roundw
            case rel => exact ⟨0, y', z + 1, [], ys, out ++ [q], ⟨HL.out.1, by have := HL.out.2.1; simpa using this, by rw [List.length_append, HL.out.2.2]; rfl⟩, by omega, by show _ = _; rw [HQ.out]; simp, HX.out, (rd_tail HY.out).2 hyc1, rfl, rfl, by rw [icells_append]; exact hown9, hB9⟩
            case measure => simp [lenOf]; try omega
          | false =>
            rw [hkv] at HKC HQ
            clear hkv
            go_wp2_with (go_at_fn g; refine (HKC.out _ hbel3).mono ?_; rintro e w' ⟨rfl, rfl⟩)
            go_roundw
            case rel => exact ⟨0, y', z, [], ys, out, ⟨HL.out.1, by have := HL.out.2.1; simpa using this, HL.out.2.2⟩, by omega, by show _ = _; rw [HQ.out]; simp, HX.out, (rd_tail HY.out).2 hyc1, rfl, rfl, hown3, hbel3⟩
            case measure => simp [lenOf]; try omega
    | cons p xs =>
      cases ys with
      | nil =>
        obtain rfl : 0 = y := HL.out.2.1
        obtain ⟨x', rfl⟩ : ∃ x', x = x' + 1 := ⟨xs.length, by have := HL.out.1; simp at this; omega⟩
        obtain ⟨b1, off1, rfl, ca, hxc⟩ := rd_head HX.out
        have xi : (0 : Int) < ((x' + 1 : Nat) : Int) := by omega
        have xe : (((x' + 1 : Nat) : Int) == 0) = false := beq_eq_false_iff_ne.2 (by omega)
        have xe2 : ((x' : Int) + 1 == 0) = false := beq_eq_false_iff_ne.2 (by omega)
        have xe3 : ¬ (x' : Int) + 1 = 0 := by omega
        have xg : (1 : Int) ≤ ((x' + 1 : Nat) : Int) := by omega
        have HKC := Lib.hid (HKP.out p true false)
        have HQ : Hid (pickL keep A B = out ++ ((if keep p true false then [p] else []) ++ pickL keep xs [])) := by show _ = _; rw [HP.out, pickL_a keep p xs]
        have ra := cell_regrown (cell_later hbel ca)
        go_wp2_with fail
        refine wp_region_quiet_below mixed (by kernel_rfl) ?_
        repeat (go_big_quiet_step (fail))
        refine wpQuiet_nil ?_
        intro W1 hw'
        obtain ⟨⟨dq, osq⟩, hw''⟩ := hw'
        have hbel1 := hbel.trans ((below_regrown wr dq osq).mono hbel.size)
        have hown1 := own_below' hown (below_regrown wr dq osq)
        rw [← hw''] at hbel1 hown1
        clear hw'' hown ra 
        have ra := cell_regrown (cell_later hbel1 ca)
        go_wp2_with fail
        refine wp_region_quiet_below mixed (by kernel_rfl) ?_
        repeat (go_big_quiet_step (fail))
        refine wpQuiet_nil ?_
        intro W2 hw'
        obtain ⟨⟨dq, osq⟩, hw''⟩ := hw'
        have hbel2 := hbel1.trans ((below_regrown W1 dq osq).mono hbel1.size)
        have hown2 := own_below' hown1 (below_regrown W1 dq osq)
        rw [← hw''] at hbel2 hown2
        clear hw'' hown1 ra 
        by_cases hxc1 : xc = 1
        · subst hxc1
          obtain rfl : x' = 0 := by omega
          have ra := cell_regrown (cell_later hbel2 ca)
          go_wp2_with fail
          refine wp_region_quiet_below mixed (by kernel_rfl) ?_
          repeat (go_big_quiet_step (fail))
          refine wpQuiet_nil ?_
          intro W3 hw'
          obtain ⟨⟨dq, osq⟩, hw''⟩ := hw'
          have hbel3 := hbel2.trans ((below_regrown W2 dq osq).mono hbel2.size)
          have hown3 := own_below' hown2 (below_regrown W2 dq osq)
          rw [← hw''] at hbel3 hown3
          clear hw'' hown2 ra 
          cases hkv : keep p true false with
          | true =>
            rw [hkv] at HKC HQ
            clear hkv
            go_wp2_with (first | (go_at_fn g; refine (HKC.out _ hbel3).mono ?_; rintro e w' ⟨rfl, rfl⟩) | (at_builtin; refine wpList_app rfl _ _ _ _ rfl w.heap.size 3 i0 _ 1 8 Tryd.underlying41 hi hz0 hz1 hz2 rfl (.slice oa z oc) z _ rfl (hown3.alloc _) _ 1 [Value.int .i64 p] rfl (src_new Tryd.underlying41 W3 _ 1 1 1 rfl (HN1.out p)) (by unfold maxLen; omega) (by omega) (by have := hbel3.size; simp; omega) ?_; intro v9 w9 hown9 hgr9 _ _))
            have hB9 : Below w.heap.size w w9 := (hbel3.alloc hbel3.size _).grown hgr9 (by have := hbel3.size; simp; omega) (fun j hj => (hown3.lt j hj).1)
            clear hgr9
            go_wp2
            go_roundw
            case rel => exact ⟨0, 0, z + 1, xs, [], out ++ [p], ⟨by have := HL.out.1; simpa using this, HL.out.2.1, by rw [List.length_append, HL.out.2.2]; rfl⟩, by omega, by show _ = _; rw [HQ.out]; simp, (rd_tail HX.out).1 rfl, HY.out, rfl, rfl, by rw [icells_append]; exact hown9, hB9⟩
            case measure => simp [lenOf]; try omega
          | false =>
            rw [hkv] at HKC HQ
            clear hkv
            go_wp2_with (go_at_fn g; refine (HKC.out _ hbel3).mono ?_; rintro e w' ⟨rfl, rfl⟩)
            go_roundw
            case rel => exact ⟨0, 0, z, xs, [], out, ⟨by have := HL.out.1; simpa using this, HL.out.2.1, HL.out.2.2⟩, by omega, by show _ = _; rw [HQ.out]; simp, (rd_tail HX.out).1 rfl, HY.out, rfl, rfl, hown3, hbel3⟩
            case measure => simp [lenOf]; try omega
        · have ra := cell_regrown (cell_later hbel2 ca)
          go_wp2_with fail
          refine wp_region_quiet_below mixed (by kernel_rfl) ?_
          repeat (go_big_quiet_step (fail))
          refine wpQuiet_nil ?_
          intro W3 hw'
          obtain ⟨⟨dq, osq⟩, hw''⟩ := hw'
          have hbel3 := hbel2.trans ((below_regrown W2 dq osq).mono hbel2.size)
          have hown3 := own_below' hown2 (below_regrown W2 dq osq)
          rw [← hw''] at hbel3 hown3
          clear hw'' hown2 ra 
          cases hkv : keep p true false with
          | true =>
            rw [hkv] at HKC HQ
            clear hkv
            go_wp2_with (first | (go_at_fn g; refine (HKC.out _ hbel3).mono ?_; rintro e w' ⟨rfl, rfl⟩) | (at_builtin; refine wpList_app rfl _ _ _ _ rfl w.heap.size 3 i0 _ 1 8 Tryd.underlying41 hi hz0 hz1 hz2 rfl (.slice oa z oc) z _ rfl (hown3.alloc _) _ 1 [Value.int .i64 p] rfl (src_new Tryd.underlying41 W3 _ 1 1 1 rfl (HN1.out p)) (by unfold maxLen; omega) (by omega) (by have := hbel3.size; simp; omega) ?_; intro v9 w9 hown9 hgr9 _ _))
            have hB9 : Below w.heap.size w w9 := (hbel3.alloc hbel3.size _).grown hgr9 (by have := hbel3.size; simp; omega) (fun j hj => (hown3.lt j hj).1)
            clear hgr9
            go_wp2
            go_roundw
            case rel => exact ⟨x', 0, z + 1, xs, [], out ++ [p], ⟨by have := HL.out.1; simpa using this, HL.out.2.1, by rw [List.length_append, HL.out.2.2]; rfl⟩, by omega, by show _ = _; rw [HQ.out]; simp, (rd_tail HX.out).2 hxc1, HY.out, rfl, rfl, by rw [icells_append]; exact hown9, hB9⟩
            case measure => simp [lenOf]; try omega
          | false =>
            rw [hkv] at HKC HQ
            clear hkv
            go_wp2_with (go_at_fn g; refine (HKC.out _ hbel3).mono ?_; rintro e w' ⟨rfl, rfl⟩)
            go_roundw
            case rel => exact ⟨x', 0, z, xs, [], out, ⟨by have := HL.out.1; simpa using this, HL.out.2.1, HL.out.2.2⟩, by omega, by show _ = _; rw [HQ.out]; simp, (rd_tail HX.out).2 hxc1, HY.out, rfl, rfl, hown3, hbel3⟩
            case measure => simp [lenOf]; try omega
      | cons q ys =>
        by_cases hpq : p < q
        · obtain ⟨x', rfl⟩ : ∃ x', x = x' + 1 := ⟨xs.length, by have := HL.out.1; simp at this; omega⟩
          obtain ⟨b1, off1, rfl, ca, hxc⟩ := rd_head HX.out
          have xi : (0 : Int) < ((x' + 1 : Nat) : Int) := by omega
          have xe : (((x' + 1 : Nat) : Int) == 0) = false := beq_eq_false_iff_ne.2 (by omega)
          have xe2 : ((x' : Int) + 1 == 0) = false := beq_eq_false_iff_ne.2 (by omega)
          have xe3 : ¬ (x' : Int) + 1 = 0 := by omega
          have xg : (1 : Int) ≤ ((x' + 1 : Nat) : Int) := by omega
          obtain ⟨y', rfl⟩ : ∃ y', y = y' + 1 := ⟨ys.length, by have := HL.out.2.1; simp at this; omega⟩
          obtain ⟨b2, off2, rfl, cb2, hyc⟩ := rd_head HY.out
          have yi : (0 : Int) < ((y' + 1 : Nat) : Int) := by omega
          have ye : (((y' + 1 : Nat) : Int) == 0) = false := beq_eq_false_iff_ne.2 (by omega)
          have ye2 : ((y' : Int) + 1 == 0) = false := beq_eq_false_iff_ne.2 (by omega)
          have ye3 : ¬ (y' : Int) + 1 = 0 := by omega
          have yg : (1 : Int) ≤ ((y' + 1 : Nat) : Int) := by omega
          have l1 : p ≤ q := by omega
          have l2 : decide (q ≤ p) = false := decide_eq_false (by omega)
          have HKC := Lib.hid (HKP.out p true false)
          have HQ : Hid (pickL keep A B = out ++ ((if keep p true false then [p] else []) ++ pickL keep xs (q :: ys))) := by show _ = _; rw [HP.out, pickL_lt keep xs ys hpq]
          have ra := cell_regrown (cell_later hbel ca)
          have rb := cell_regrown (cell_later hbel cb2)
          go_wp2_with fail
          refine wp_region_quiet_below mixed (by kernel_rfl) ?_
          repeat (go_big_quiet_step (fail))
          refine wpQuiet_nil ?_
          intro W1 hw'
          obtain ⟨⟨dq, osq⟩, hw''⟩ := hw'
          have hbel1 := hbel.trans ((below_regrown wr dq osq).mono hbel.size)
          have hown1 := own_below' hown (below_regrown wr dq osq)
          rw [← hw''] at hbel1 hown1
          clear hw'' hown ra rb
          have ra := cell_regrown (cell_later hbel1 ca)
          have rb := cell_regrown (cell_later hbel1 cb2)
          go_wp2_with fail
          refine wp_region_quiet_below mixed (by kernel_rfl) ?_
          repeat (go_big_quiet_step (fail))
          refine wpQuiet_nil ?_
          intro W2 hw'
          obtain ⟨⟨dq, osq⟩, hw''⟩ := hw'
          have hbel2 := hbel1.trans ((below_regrown W1 dq osq).mono hbel1.size)
          have hown2 := own_below' hown1 (below_regrown W1 dq osq)
          rw [← hw''] at hbel2 hown2
          clear hw'' hown1 ra rb
          by_cases hxc1 : xc = 1
          · subst hxc1
            obtain rfl : x' = 0 := by omega
            have ra := cell_regrown (cell_later hbel2 ca)
            have rb := cell_regrown (cell_later hbel2 cb2)
            go_wp2_with fail
            refine wp_region_quiet_below mixed (by kernel_rfl) ?_
            repeat (go_big_quiet_step (fail))
            refine wpQuiet_nil ?_
            intro W3 hw'
            obtain ⟨⟨dq, osq⟩, hw''⟩ := hw'
            have hbel3 := hbel2.trans ((below_regrown W2 dq osq).mono hbel2.size)
            have hown3 := own_below' hown2 (below_regrown W2 dq osq)
            rw [← hw''] at hbel3 hown3
            clear hw'' hown2 ra rb
            cases hkv : keep p true false with
            | true =>
              rw [hkv] at HKC HQ
              clear hkv
              go_wp2_with (first | (go_at_fn g; refine (HKC.out _ hbel3).mono ?_; rintro e w' ⟨rfl, rfl⟩) | (at_builtin; refine wpList_app rfl _ _ _ _ rfl w.heap.size 3 i0 _ 1 8 Tryd.underlying41 hi hz0 hz1 hz2 rfl (.slice oa z oc) z _ rfl (hown3.alloc _) _ 1 [Value.int .i64 p] rfl (src_new Tryd.underlying41 W3 _ 1 1 1 rfl (HN1.out p)) (by unfold maxLen; omega) (by omega) (by have := hbel3.size; simp; omega) ?_; intro v9 w9 hown9 hgr9 _ _))
              have hB9 : Below w.heap.size w w9 := (hbel3.alloc hbel3.size _).grown hgr9 (by have := hbel3.size; simp; omega) (fun j hj => (hown3.lt j hj).1)
              clear hgr9
              go_wp2
              go_roundw
              case rel => exact ⟨0, (y' + 1), z + 1, xs, (q :: ys), out ++ [p], ⟨by have := HL.out.1; simpa using this, HL.out.2.1, by rw [List.length_append, HL.out.2.2]; rfl⟩, by omega, by show _ = _; rw [HQ.out]; simp, (rd_tail HX.out).1 rfl, HY.out, rfl, rfl, by rw [icells_append]; exact hown9, hB9⟩
              case measure => simp [lenOf]; try omega
            | false =>
              rw [hkv] at HKC HQ
              clear hkv
              go_wp2_with (go_at_fn g; refine (HKC.out _ hbel3).mono ?_; rintro e w' ⟨rfl, rfl⟩)
              go_roundw
              case rel => exact ⟨0, (y' + 1), z, xs, (q :: ys), out, ⟨by have := HL.out.1; simpa using this, HL.out.2.1, HL.out.2.2⟩, by omega, by show _ = _; rw [HQ.out]; simp, (rd_tail HX.out).1 rfl, HY.out, rfl, rfl, hown3, hbel3⟩
              case measure => simp [lenOf]; try omega
          · have ra := cell_regrown (cell_later hbel2 ca)
            have rb := cell_regrown (cell_later hbel2 cb2)
            go_wp2_with fail
            refine wp_region_quiet_below mixed (by kernel_rfl) ?_
            repeat (go_big_quiet_step (fail))
            refine wpQuiet_nil ?_
            intro W3 hw'
            obtain ⟨⟨dq, osq⟩, hw''⟩ := hw'
            have hbel3 := hbel2.trans ((below_regrown W2 dq osq).mono hbel2.size)
            have hown3 := own_below' hown2 (below_regrown W2 dq osq)
            rw [← hw''] at hbel3 hown3
            clear hw'' hown2 ra rb
            cases hkv : keep p true false with
            | true =>
              rw [hkv] at HKC HQ
              clear hkv
              go_wp2_with (first | (go_at_fn g; refine (HKC.out _ hbel3).mono ?_; rintro e w' ⟨rfl, rfl⟩) | (at_builtin; refine wpList_app rfl _ _ _ _ rfl w.heap.size 3 i0 _ 1 8 Tryd.underlying41 hi hz0 hz1 hz2 rfl (.slice oa z oc) z _ rfl (hown3.alloc _) _ 1 [Value.int .i64 p] rfl (src_new Tryd.underlying41 W3 _ 1 1 1 rfl (HN1.out p)) (by unfold maxLen; omega) (by omega) (by have := hbel3.size; simp; omega) ?_; intro v9 w9 hown9 hgr9 _ _))
              have hB9 : Below w.heap.size w w9 := (hbel3.alloc hbel3.size _).grown hgr9 (by have := hbel3.size; simp; omega) (fun j hj => (hown3.lt j hj).1)
              clear hgr9
              go_wp2
              go_roundw
              case rel => exact ⟨x', (y' + 1), z + 1, xs, (q :: ys), out ++ [p], ⟨by have := HL.out.1; simpa using this, HL.out.2.1, by rw [List.length_append, HL.out.2.2]; rfl⟩, by omega, by show _ = _; rw [HQ.out]; simp, (rd_tail HX.out).2 hxc1, HY.out, rfl, rfl, by rw [icells_append]; exact hown9, hB9⟩
              case measure => simp [lenOf]; try omega
            | false =>
              rw [hkv] at HKC HQ
              clear hkv
              go_wp2_with (go_at_fn g; refine (HKC.out _ hbel3).mono ?_; rintro e w' ⟨rfl, rfl⟩)
              go_roundw
              case rel => exact ⟨x', (y' + 1), z, xs, (q :: ys), out, ⟨by have := HL.out.1; simpa using this, HL.out.2.1, HL.out.2.2⟩, by omega, by show _ = _; rw [HQ.out]; simp, (rd_tail HX.out).2 hxc1, HY.out, rfl, rfl, hown3, hbel3⟩
              case measure => simp [lenOf]; try omega
        · by_cases hqp : q < p
          · have hpq := hqp
            obtain ⟨x', rfl⟩ : ∃ x', x = x' + 1 := ⟨xs.length, by have := HL.out.1; simp at this; omega⟩
            obtain ⟨b1, off1, rfl, ca, hxc⟩ := rd_head HX.out
            have xi : (0 : Int) < ((x' + 1 : Nat) : Int) := by omega
            have xe : (((x' + 1 : Nat) : Int) == 0) = false := beq_eq_false_iff_ne.2 (by omega)
            have xe2 : ((x' : Int) + 1 == 0) = false := beq_eq_false_iff_ne.2 (by omega)
            have xe3 : ¬ (x' : Int) + 1 = 0 := by omega
            have xg : (1 : Int) ≤ ((x' + 1 : Nat) : Int) := by omega
            obtain ⟨y', rfl⟩ : ∃ y', y = y' + 1 := ⟨ys.length, by have := HL.out.2.1; simp at this; omega⟩
            obtain ⟨b2, off2, rfl, cb2, hyc⟩ := rd_head HY.out
            have yi : (0 : Int) < ((y' + 1 : Nat) : Int) := by omega
            have ye : (((y' + 1 : Nat) : Int) == 0) = false := beq_eq_false_iff_ne.2 (by omega)
            have ye2 : ((y' : Int) + 1 == 0) = false := beq_eq_false_iff_ne.2 (by omega)
            have ye3 : ¬ (y' : Int) + 1 = 0 := by omega
            have yg : (1 : Int) ≤ ((y' + 1 : Nat) : Int) := by omega
            have l1 : decide (p ≤ q) = false := decide_eq_false (by omega)
            have l2 : q ≤ p := by omega
            have HKC := Lib.hid (HKP.out q false true)
            have HQ : Hid (pickL keep A B = out ++ ((if keep q false true then [q] else []) ++ pickL keep (p :: xs) ys)) := by show _ = _; rw [HP.out, pickL_gt keep xs ys hpq]
            have ra := cell_regrown (cell_later hbel ca)
            have rb := cell_regrown (cell_later hbel cb2)
            go_wp2_with fail
            refine wp_region_quiet_below mixed (by kernel_rfl) ?_
            repeat (go_big_quiet_step (fail))
            refine wpQuiet_nil ?_
            intro W1 hw'
            obtain ⟨⟨dq, osq⟩, hw''⟩ := hw'
            have hbel1 := hbel.trans ((below_regrown wr dq osq).mono hbel.size)
            have hown1 := own_below' hown (below_regrown wr dq osq)
            rw [← hw''] at hbel1 hown1
            clear hw'' hown ra rb
            have ra := cell_regrown (cell_later hbel1 ca)
            have rb := cell_regrown (cell_later hbel1 cb2)
            go_wp2_with fail
            refine wp_region_quiet_below mixed (by kernel_rfl) ?_
            repeat (go_big_quiet_step (fail))
            refine wpQuiet_nil ?_
            intro W2 hw'
            obtain ⟨⟨dq, osq⟩, hw''⟩ := hw'
            have hbel2 := hbel1.trans ((below_regrown W1 dq osq).mono hbel1.size)
            have hown2 := own_below' hown1 (below_regrown W1 dq osq)
            rw [← hw''] at hbel2 hown2
            clear hw'' hown1 ra rb
            by_cases hyc1 : yc = 1
            · subst hyc1
              obtain rfl : y' = 0 := by omega
              have ra := cell_regrown (cell_later hbel2 ca)
              have rb := cell_regrown (cell_later hbel2 cb2)
              go_wp2_with fail
              refine wp_region_quiet_below mixed (by kernel_rfl) ?_
              repeat (go_big_quiet_step (fail))
              refine wpQuiet_nil ?_
              intro W3 hw'
              obtain ⟨⟨dq, osq⟩, hw''⟩ := hw'
              have hbel3 := hbel2.trans ((below_regrown W2 dq osq).mono hbel2.size)
              have hown3 := own_below' hown2 (below_regrown W2 dq osq)
              rw [← hw''] at hbel3 hown3
              clear hw'' hown2 ra rb
              cases hkv : keep q false true with
              | true =>
                rw [hkv] at HKC HQ
                clear hkv
                go_wp2_with (first | (go_at_fn g; refine (HKC.out _ hbel3).mono ?_; rintro e w' ⟨rfl, rfl⟩) | (at_builtin; refine wpList_app rfl _ _ _ _ rfl w.heap.size 3 i0 _ 1 8 Tryd.underlying41 hi hz0 hz1 hz2 rfl (.slice oa z oc) z _ rfl (hown3.alloc _) _ 1 [Value.int .i64 q] rfl (src_new Tryd.underlying41 W3 _ 1 1 1 rfl (HN1.out q)) (by unfold maxLen; omega) (by omega) (by have := hbel3.size; simp; omega) ?_; intro v9 w9 hown9 hgr9 _ _))
                have hB9 : Below w.heap.size w w9 := (hbel3.alloc hbel3.size _).grown hgr9 (by have := hbel3.size; simp; omega) (fun j hj => (hown3.lt j hj).1)
                clear hgr9
                go_wp2
                go_roundw
                case rel => exact ⟨(x' + 1), 0, z + 1, (p :: xs), ys, out ++ [q], ⟨HL.out.1, by have := HL.out.2.1; simpa using this, by rw [List.length_append, HL.out.2.2]; rfl⟩, by omega, by show _ = _; rw [HQ.out]; simp, HX.out, (rd_tail HY.out).1 rfl, rfl, rfl, by rw [icells_append]; exact hown9, hB9⟩
                case measure => simp [lenOf]; try omega
              | false =>
                rw [hkv] at HKC HQ
                clear hkv
                go_wp2_with (go_at_fn g; refine (HKC.out _ hbel3).mono ?_; rintro e w' ⟨rfl, rfl⟩)
                go_roundw
                case rel => exact ⟨(x' + 1), 0, z, (p :: xs), ys, out, ⟨HL.out.1, by have := HL.out.2.1; simpa using this, HL.out.2.2⟩, by omega, by show _ = _; rw [HQ.out]; simp, HX.out, (rd_tail HY.out).1 rfl, rfl, rfl, hown3, hbel3⟩
                case measure => simp [lenOf]; try omega
            · have ra := cell_regrown (cell_later hbel2 ca)
              have rb := cell_regrown (cell_later hbel2 cb2)
              go_wp2_with fail
              refine wp_region_quiet_below mixed (by kernel_rfl) ?_
              repeat (go_big_quiet_step (fail))
              refine wpQuiet_nil ?_
              intro W3 hw'
              obtain ⟨⟨dq, osq⟩, hw''⟩ := hw'
              have hbel3 := hbel2.trans ((below_regrown W2 dq osq).mono hbel2.size)
              have hown3 := own_below' hown2 (below_regrown W2 dq osq)
              rw [← hw''] at hbel3 hown3
              clear hw'' hown2 ra rb
              cases hkv : keep q false true with
              | true =>
                rw [hkv] at HKC HQ
                clear hkv
                go_wp2_with (first | (go_at_fn g; refine (HKC.out _ hbel3).mono ?_; rintro e w' ⟨rfl, rfl⟩) | (at_builtin; refine wpList_app rfl _ _ _ _ rfl w.heap.size 3 i0 _ 1 8 Tryd.underlying41 hi hz0 hz1 hz2 rfl (.slice oa z oc) z _ rfl (hown3.alloc _) _ 1 [Value.int .i64 q] rfl (src_new Tryd.underlying41 W3 _ 1 1 1 rfl (HN1.out q)) (by unfold maxLen; omega) (by omega) (by have := hbel3.size; simp; omega) ?_; intro v9 w9 hown9 hgr9 _ _))
                have hB9 : Below w.heap.size w w9 := (hbel3.alloc hbel3.size _).grown hgr9 (by have := hbel3.size; simp; omega) (fun j hj => (hown3.lt j hj).1)
                clear hgr9
                go_wp2
                go_roundw
                case rel => exact ⟨(x' + 1), y', z + 1, (p :: xs), ys, out ++ [q], ⟨HL.out.1, by have := HL.out.2.1; simpa using this, by rw [List.length_append, HL.out.2.2]; rfl⟩, by omega, by show _ = _; rw [HQ.out]; simp, HX.out, (rd_tail HY.out).2 hyc1, rfl, rfl, by rw [icells_append]; exact hown9, hB9⟩
                case measure => simp [lenOf]; try omega
              | false =>
                rw [hkv] at HKC HQ
                clear hkv
                go_wp2_with (go_at_fn g; refine (HKC.out _ hbel3).mono ?_; rintro e w' ⟨rfl, rfl⟩)
                go_roundw
                case rel => exact ⟨(x' + 1), y', z, (p :: xs), ys, out, ⟨HL.out.1, by have := HL.out.2.1; simpa using this, HL.out.2.2⟩, by omega, by show _ = _; rw [HQ.out]; simp, HX.out, (rd_tail HY.out).2 hyc1, rfl, rfl, hown3, hbel3⟩
                case measure => simp [lenOf]; try omega
          · obtain rfl : p = q := by omega
            obtain ⟨x', rfl⟩ : ∃ x', x = x' + 1 := ⟨xs.length, by have := HL.out.1; simp at this; omega⟩
            obtain ⟨b1, off1, rfl, ca, hxc⟩ := rd_head HX.out
            have xi : (0 : Int) < ((x' + 1 : Nat) : Int) := by omega
            have xe : (((x' + 1 : Nat) : Int) == 0) = false := beq_eq_false_iff_ne.2 (by omega)
            have xe2 : ((x' : Int) + 1 == 0) = false := beq_eq_false_iff_ne.2 (by omega)
            have xe3 : ¬ (x' : Int) + 1 = 0 := by omega
            have xg : (1 : Int) ≤ ((x' + 1 : Nat) : Int) := by omega
            obtain ⟨y', rfl⟩ : ∃ y', y = y' + 1 := ⟨ys.length, by have := HL.out.2.1; simp at this; omega⟩
            obtain ⟨b2, off2, rfl, cb2, hyc⟩ := rd_head HY.out
            have yi : (0 : Int) < ((y' + 1 : Nat) : Int) := by omega
            have ye : (((y' + 1 : Nat) : Int) == 0) = false := beq_eq_false_iff_ne.2 (by omega)
            have ye2 : ((y' : Int) + 1 == 0) = false := beq_eq_false_iff_ne.2 (by omega)
            have ye3 : ¬ (y' : Int) + 1 = 0 := by omega
            have yg : (1 : Int) ≤ ((y' + 1 : Nat) : Int) := by omega
            have l1 : p ≤ p := by omega
            have HKC := Lib.hid (HKP.out p true true)
            have HQ : Hid (pickL keep A B = out ++ ((if keep p true true then [p] else []) ++ pickL keep xs ys)) := by show _ = _; rw [HP.out, pickL_eq keep p xs ys]
            have ra := cell_regrown (cell_later hbel ca)
            have rb := cell_regrown (cell_later hbel cb2)
            go_wp2_with fail
            refine wp_region_quiet_below mixed (by kernel_rfl) ?_
            repeat (go_big_quiet_step (fail))
            refine wpQuiet_nil ?_
            intro W1 hw'
            obtain ⟨⟨dq, osq⟩, hw''⟩ := hw'
            have hbel1 := hbel.trans ((below_regrown wr dq osq).mono hbel.size)
            have hown1 := own_below' hown (below_regrown wr dq osq)
            rw [← hw''] at hbel1 hown1
            clear hw'' hown ra rb
            have ra := cell_regrown (cell_later hbel1 ca)
            have rb := cell_regrown (cell_later hbel1 cb2)
            go_wp2_with fail
            refine wp_region_quiet_below mixed (by kernel_rfl) ?_
            repeat (go_big_quiet_step (fail))
            refine wpQuiet_nil ?_
            intro W2 hw'
            obtain ⟨⟨dq, osq⟩, hw''⟩ := hw'
            have hbel2 := hbel1.trans ((below_regrown W1 dq osq).mono hbel1.size)
            have hown2 := own_below' hown1 (below_regrown W1 dq osq)
            rw [← hw''] at hbel2 hown2
            clear hw'' hown1 ra rb
            by_cases hxc1 : xc = 1
            · subst hxc1
              obtain rfl : x' = 0 := by omega
              have ra := cell_regrown (cell_later hbel2 ca)
              have rb := cell_regrown (cell_later hbel2 cb2)
              go_wp2_with fail
              refine wp_region_quiet_below mixed (by kernel_rfl) ?_
              repeat (go_big_quiet_step (fail))
              refine wpQuiet_nil ?_
              intro W3 hw'
              obtain ⟨⟨dq, osq⟩, hw''⟩ := hw'
              have hbel3 := hbel2.trans ((below_regrown W2 dq osq).mono hbel2.size)
              have hown3 := own_below' hown2 (below_regrown W2 dq osq)
              rw [← hw''] at hbel3 hown3
              clear hw'' hown2 ra rb
              by_cases hyc1 : yc = 1
              · subst hyc1
                obtain rfl : y' = 0 := by omega
                have ra := cell_regrown (cell_later hbel3 ca)
                have rb := cell_regrown (cell_later hbel3 cb2)
                go_wp2_with fail
                refine wp_region_quiet_below mixed (by kernel_rfl) ?_
                repeat (go_big_quiet_step (fail))
                refine wpQuiet_nil ?_
                intro W4 hw'
                obtain ⟨⟨dq, osq⟩, hw''⟩ := hw'
                have hbel4 := hbel3.trans ((below_regrown W3 dq osq).mono hbel3.size)
                have hown4 := own_below' hown3 (below_regrown W3 dq osq)
                rw [← hw''] at hbel4 hown4
                clear hw'' hown3 ra rb
                cases hkv : keep p true true with
                | true =>
                  rw [hkv] at HKC HQ
                  clear hkv
                  go_wp2_with (first | (go_at_fn g; refine (HKC.out _ hbel4).mono ?_; rintro e w' ⟨rfl, rfl⟩) | (at_builtin; refine wpList_app rfl _ _ _ _ rfl w.heap.size 3 i0 _ 1 8 Tryd.underlying41 hi hz0 hz1 hz2 rfl (.slice oa z oc) z _ rfl (hown4.alloc _) _ 1 [Value.int .i64 p] rfl (src_new Tryd.underlying41 W4 _ 1 1 1 rfl (HN1.out p)) (by unfold maxLen; omega) (by omega) (by have := hbel4.size; simp; omega) ?_; intro v9 w9 hown9 hgr9 _ _))
                  have hB9 : Below w.heap.size w w9 := (hbel4.alloc hbel4.size _).grown hgr9 (by have := hbel4.size; simp; omega) (fun j hj => (hown4.lt j hj).1)
                  clear hgr9
                  go_wp2
                  go_roundw
                  case rel => exact ⟨0, 0, z + 1, xs, ys, out ++ [p], ⟨by have := HL.out.1; simpa using this, by have := HL.out.2.1; simpa using this, by rw [List.length_append, HL.out.2.2]; rfl⟩, by omega, by show _ = _; rw [HQ.out]; simp, (rd_tail HX.out).1 rfl, (rd_tail HY.out).1 rfl, rfl, rfl, by rw [icells_append]; exact hown9, hB9⟩
                  case measure => simp [lenOf]; try omega
                | false =>
                  rw [hkv] at HKC HQ
                  clear hkv
                  go_wp2_with (go_at_fn g; refine (HKC.out _ hbel4).mono ?_; rintro e w' ⟨rfl, rfl⟩)
                  go_roundw
                  case rel => exact ⟨0, 0, z, xs, ys, out, ⟨by have := HL.out.1; simpa using this, by have := HL.out.2.1; simpa using this, HL.out.2.2⟩, by omega, by show _ = _; rw [HQ.out]; simp, (rd_tail HX.out).1 rfl, (rd_tail HY.out).1 rfl, rfl, rfl, hown4, hbel4⟩
                  case measure => simp [lenOf]; try omega
              · have ra := cell_regrown (cell_later hbel3 ca)
                have rb := cell_regrown (cell_later hbel3 cb2)
                go_wp2_with fail
                refine wp_region_quiet_below mixed (by kernel_rfl) ?_
                repeat (go_big_quiet_step (fail))
                refine wpQuiet_nil ?_
                intro W4 hw'
                obtain ⟨⟨dq, osq⟩, hw''⟩ := hw'
                have hbel4 := hbel3.trans ((below_regrown W3 dq osq).mono hbel3.size)
                have hown4 := own_below' hown3 (below_regrown W3 dq osq)
                rw [← hw''] at hbel4 hown4
                clear hw'' hown3 ra rb
                cases hkv : keep p true true with
                | true =>
                  rw [hkv] at HKC HQ
                  clear hkv
                  go_wp2_with (first | (go_at_fn g; refine (HKC.out _ hbel4).mono ?_; rintro e w' ⟨rfl, rfl⟩) | (at_builtin; refine wpList_app rfl _ _ _ _ rfl w.heap.size 3 i0 _ 1 8 Tryd.underlying41 hi hz0 hz1 hz2 rfl (.slice oa z oc) z _ rfl (hown4.alloc _) _ 1 [Value.int .i64 p] rfl (src_new Tryd.underlying41 W4 _ 1 1 1 rfl (HN1.out p)) (by unfold maxLen; omega) (by omega) (by have := hbel4.size; simp; omega) ?_; intro v9 w9 hown9 hgr9 _ _))
                  have hB9 : Below w.heap.size w w9 := (hbel4.alloc hbel4.size _).grown hgr9 (by have := hbel4.size; simp; omega) (fun j hj => (hown4.lt j hj).1)
                  clear hgr9
                  go_wp2
                  go_roundw
                  case rel => exact ⟨0, y', z + 1, xs, ys, out ++ [p], ⟨by have := HL.out.1; simpa using this, by have := HL.out.2.1; simpa using this, by rw [List.length_append, HL.out.2.2]; rfl⟩, by omega, by show _ = _; rw [HQ.out]; simp, (rd_tail HX.out).1 rfl, (rd_tail HY.out).2 hyc1, rfl, rfl, by rw [icells_append]; exact hown9, hB9⟩
                  case measure => simp [lenOf]; try omega
                | false =>
                  rw [hkv] at HKC HQ
                  clear hkv
                  go_wp2_with (go_at_fn g; refine (HKC.out _ hbel4).mono ?_; rintro e w' ⟨rfl, rfl⟩)
                  go_roundw
                  case rel => exact ⟨0, y', z, xs, ys, out, ⟨by have := HL.out.1; simpa using this, by have := HL.out.2.1; simpa using this, HL.out.2.2⟩, by omega, by show _ = _; rw [HQ.out]; simp, (rd_tail HX.out).1 rfl, (rd_tail HY.out).2 hyc1, rfl, rfl, hown4, hbel4⟩
                  case measure => simp [lenOf]; try omega
            · have ra := cell_regrown (cell_later hbel2 ca)
              have rb := cell_regrown (cell_later hbel2 cb2)
              go_wp2_with fail
              refine wp_region_quiet_below mixed (by kernel_rfl) ?_
              repeat (go_big_quiet_step (fail))
              refine wpQuiet_nil ?_
              intro W3 hw'
              obtain ⟨⟨dq, osq⟩, hw''⟩ := hw'
              have hbel3 := hbel2.trans ((below_regrown W2 dq osq).mono hbel2.size)
              have hown3 := own_below' hown2 (below_regrown W2 dq osq)
              rw [← hw''] at hbel3 hown3
              clear hw'' hown2 ra rb
              by_cases hyc1 : yc = 1
              · subst hyc1
                obtain rfl : y' = 0 := by omega
                have ra := cell_regrown (cell_later hbel3 ca)
                have rb := cell_regrown (cell_later hbel3 cb2)
                go_wp2_with fail
                refine wp_region_quiet_below mixed (by kernel_rfl) ?_
                repeat (go_big_quiet_step (fail))
                refine wpQuiet_nil ?_
                intro W4 hw'
                obtain ⟨⟨dq, osq⟩, hw''⟩ := hw'
                have hbel4 := hbel3.trans ((below_regrown W3 dq osq).mono hbel3.size)
                have hown4 := own_below' hown3 (below_regrown W3 dq osq)
                rw [← hw''] at hbel4 hown4
                clear hw'' hown3 ra rb
                cases hkv : keep p true true with
                | true =>
                  rw [hkv] at HKC HQ
                  clear hkv
                  go_wp2_with (first | (go_at_fn g; refine (HKC.out _ hbel4).mono ?_; rintro e w' ⟨rfl, rfl⟩) | (at_builtin; refine wpList_app rfl _ _ _ _ rfl w.heap.size 3 i0 _ 1 8 Tryd.underlying41 hi hz0 hz1 hz2 rfl (.slice oa z oc) z _ rfl (hown4.alloc _) _ 1 [Value.int .i64 p] rfl (src_new Tryd.underlying41 W4 _ 1 1 1 rfl (HN1.out p)) (by unfold maxLen; omega) (by omega) (by have := hbel4.size; simp; omega) ?_; intro v9 w9 hown9 hgr9 _ _))
                  have hB9 : Below w.heap.size w w9 := (hbel4.alloc hbel4.size _).grown hgr9 (by have := hbel4.size; simp; omega) (fun j hj => (hown4.lt j hj).1)
                  clear hgr9
                  go_wp2
                  go_roundw
                  case rel => exact ⟨x', 0, z + 1, xs, ys, out ++ [p], ⟨by have := HL.out.1; simpa using this, by have := HL.out.2.1; simpa using this, by rw [List.length_append, HL.out.2.2]; rfl⟩, by omega, by show _ = _; rw [HQ.out]; simp, (rd_tail HX.out).2 hxc1, (rd_tail HY.out).1 rfl, rfl, rfl, by rw [icells_append]; exact hown9, hB9⟩
                  case measure => simp [lenOf]; try omega
                | false =>
                  rw [hkv] at HKC HQ
                  clear hkv
                  go_wp2_with (go_at_fn g; refine (HKC.out _ hbel4).mono ?_; rintro e w' ⟨rfl, rfl⟩)
                  go_roundw
                  case rel => exact ⟨x', 0, z, xs, ys, out, ⟨by have := HL.out.1; simpa using this, by have := HL.out.2.1; simpa using this, HL.out.2.2⟩, by omega, by show _ = _; rw [HQ.out]; simp, (rd_tail HX.out).2 hxc1, (rd_tail HY.out).1 rfl, rfl, rfl, hown4, hbel4⟩
                  case measure => simp [lenOf]; try omega
              · have ra := cell_regrown (cell_later hbel3 ca)
                have rb := cell_regrown (cell_later hbel3 cb2)
                go_wp2_with fail
                refine wp_region_quiet_below mixed (by kernel_rfl) ?_
                repeat (go_big_quiet_step (fail))
                refine wpQuiet_nil ?_
                intro W4 hw'
                obtain ⟨⟨dq, osq⟩, hw''⟩ := hw'
                have hbel4 := hbel3.trans ((below_regrown W3 dq osq).mono hbel3.size)
                have hown4 := own_below' hown3 (below_regrown W3 dq osq)
                rw [← hw''] at hbel4 hown4
                clear hw'' hown3 ra rb
                cases hkv : keep p true true with
                | true =>
                  rw [hkv] at HKC HQ
                  clear hkv
                  go_wp2_with (first | (go_at_fn g; refine (HKC.out _ hbel4).mono ?_; rintro e w' ⟨rfl, rfl⟩) | (at_builtin; refine wpList_app rfl _ _ _ _ rfl w.heap.size 3 i0 _ 1 8 Tryd.underlying41 hi hz0 hz1 hz2 rfl (.slice oa z oc) z _ rfl (hown4.alloc _) _ 1 [Value.int .i64 p] rfl (src_new Tryd.underlying41 W4 _ 1 1 1 rfl (HN1.out p)) (by unfold maxLen; omega) (by omega) (by have := hbel4.size; simp; omega) ?_; intro v9 w9 hown9 hgr9 _ _))
                  have hB9 : Below w.heap.size w w9 := (hbel4.alloc hbel4.size _).grown hgr9 (by have := hbel4.size; simp; omega) (fun j hj => (hown4.lt j hj).1)
                  clear hgr9
                  go_wp2
                  go_roundw
                  case rel => exact ⟨x', y', z + 1, xs, ys, out ++ [p], ⟨by have := HL.out.1; simpa using this, by have := HL.out.2.1; simpa using this, by rw [List.length_append, HL.out.2.2]; rfl⟩, by omega, by show _ = _; rw [HQ.out]; simp, (rd_tail HX.out).2 hxc1, (rd_tail HY.out).2 hyc1, rfl, rfl, by rw [icells_append]; exact hown9, hB9⟩
                  case measure => simp [lenOf]; try omega
                | false =>
                  rw [hkv] at HKC HQ
                  clear hkv
                  go_wp2_with (go_at_fn g; refine (HKC.out _ hbel4).mono ?_; rintro e w' ⟨rfl, rfl⟩)
                  go_roundw
                  case rel => exact ⟨x', y', z, xs, ys, out, ⟨by have := HL.out.1; simpa using this, by have := HL.out.2.1; simpa using this, HL.out.2.2⟩, by omega, by show _ = _; rw [HQ.out]; simp, (rd_tail HX.out).2 hxc1, (rd_tail HY.out).2 hyc1, rfl, rfl, hown4, hbel4⟩
                  case measure => simp [lenOf]; try omega
end Go.Proofs.YteegbjjpjdlcmaaDoor
