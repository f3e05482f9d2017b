/- DictR, Pick, PostIn, SegR: in one text. -/
import Derived.Test.YteegbjjpjdlcmaaGreatDoorDictWz
import Derived.Test.YteegbjjpjdlcmaaGreatDoorPost
import Derived.Shelf.Abstract
import Derived.Deep.RegionHeld3
/- dict.Right. -/
set_option linter.unusedVariables false
namespace Go.Proofs.YteegbjjpjdlcmaaGreatDoor
open Go.RowKit Go.Sort

set_option maxRecDepth 100000 in
set_option maxHeartbeats 8000000 in
theorem dictright_any (v : Value) (n : Nat) (d : List Ent) (w : World) (ht : Tabs w) (h : DRd w v n d) (hts : ∀ e ∈ d, e.1.length ≤ 100000) :
    Calls Tryz.prog 25 #[v] w fun e w' => e = .returned (.bool (dictRight d)) ∧ Below w.heap.size w w' := by
  have hl := h.1
  obtain ⟨ao, c, rfl, hm, HC⟩ := dict_cells h
  have mixed : Tryz.prog.follows .mixedOrders = true := by kernel_rfl
  have HL := Lib.hid hl
  have HTS := Lib.hid hts
  have HTK := Lib.hid (fun (t : List UInt8) W (hW : Below w.heap.size w W) (hl : t.length ≤ 100000) => tokright_any t W (ht.below hW) hl)
  clear h hl ht hts
  go_enter Tryz.func25, Tryz.ntmps25
  go_wp2
  go_loopw [7] (fun i wr => ∃ k : Nat, k ≤ n ∧ i = .int .i64 k ∧ Hid (∀ j (hj : j < d.length), j < k → entOK d[j] = true) ∧ Hid (∀ j (hj : j + 1 < d.length), j + 1 < k → ltStr (d[j]'(by omega)).1 d[j + 1].1 = true) ∧ Below w.heap.size w wr) (fun i _ => n - (intOf i).toNat)
  case atStart => exact ⟨0, Nat.zero_le _, rfl, fun j hj h => by omega, fun j hj h => by omega, Below.refl _ _⟩
  case round =>
    obtain ⟨k, hk, rfl, HA, HB, hbel⟩ := hrel
    have hsz := hbel.size
    by_cases hlt : k < n
    · have hkd : k < d.length := by have := HL.out; omega
      obtain ⟨b, off, da, dc, rfl, c1, c2, hdr⟩ := HC.out k hkd
      have ki : (k : Int) < (n : Int) := by omega
      have k0' : (0 : Int) ≤ (k : Int) := by omega
      have htl := HTS.out d[k] (List.getElem_mem hkd)
      have HNO : Hid (entOK d[k] = false → dictRight d = false) := dictRight_no1 k hkd
      have HOK := Lib.hid (entOK_iff d[k])
      have HNXT : Hid (entOK d[k] = true → ∀ j (hj : j < d.length), j < k + 1 → entOK d[j] = true) := fun g j hj h => by
        by_cases e : j = k
        · subst e; exact g
        · exact HA.out j hj (by omega)
      have hcw := cell_later hbel c1
      have hcd := cell_later hbel c2
      have HB1 : Hid (k = 0 ∨ ltStr (d[k - 1]'(by omega)).1 d[k].1 = true → ∀ j (hj : j + 1 < d.length), j + 1 < k + 1 → ltStr (d[j]'(by omega)).1 d[j + 1].1 = true) := fun g j hj h => by
        by_cases e : j + 1 = k
        · rcases g with g | g
          · omega
          · subst e; exact g
        · exact HB.out j hj (by omega)
      have HBAD : Hid (0 < k → ltStr (d[k - 1]'(by omega)).1 d[k].1 = false → dictRight d = false) := fun g0 g => by
        refine dictRight_no2 (k - 1) (by omega) ?_
        simp only [show k - 1 + 1 = k from by omega]
        exact g
      obtain ⟨tp, htp⟩ : ∃ tp, tp = (d[k - 1]'(by omega)).1 := ⟨_, rfl⟩
      have HP : Hid (0 < k → wr.cell? ⟨b, off + (k - 1) * 2, none⟩ = some (str tp)) := fun g => by
        obtain ⟨b', off', _, _, he, g1, _⟩ := HC.out (k - 1) (by omega)
        simp only [Option.some.injEq, Addr.mk.injEq, and_true] at he
        obtain ⟨rfl, rfl⟩ := he
        rw [htp]; exact cell_later hbel g1
      rw [← htp] at HB1 HBAD
      obtain ⟨⟨t, ds⟩, hx⟩ : ∃ x, x = d[k] := ⟨_, rfl⟩
      rw [← hx] at hcw hcd htl HNO HOK HNXT hdr HB1 HBAD
      simp only at hcw hcd htl hdr HB1 HBAD
      obtain ⟨m, hmm⟩ : ∃ m, m = ds.length := ⟨_, rfl⟩
      rw [← hmm] at hcd hdr
      have HDS : Hid (ds.length = m) := hmm.symm
      have HDR := Lib.hid hdr
      clear hmm hdr hx htp c1 c2
      unfold str at hcw
      have hnew := heap_alloc_new wr (.cells #[.string (bstr t), .slice da m dc] 61)
      have e0' : (wr.alloc (.cells #[.string (bstr t), .slice da m dc] 61)).cell? ⟨wr.heap.size, 0, none⟩ = some (.string (bstr t)) := by rw [cell_of_row _ _ _ _ _ _ hnew]; rfl
      have e1' : (wr.alloc (.cells #[.string (bstr t), .slice da m dc] 61)).cell? ⟨wr.heap.size, 1, none⟩ = some (.slice da m dc) := by rw [cell_of_row _ _ _ _ _ _ hnew]; rfl
      have hB1 : Below w.heap.size w (wr.alloc (.cells #[.string (bstr t), .slice da m dc] 61)) := hbel.alloc hsz _
      have hbA : Below wr.heap.size wr (wr.alloc (.cells #[.string (bstr t), .slice da m dc] 61)) := (Below.refl _ _).alloc (Nat.le_refl _) _
      clear hnew
      rcases Nat.eq_zero_or_pos k with h0 | h0
      · subst h0
        have HBN := Lib.hid (HB1.out (.inl rfl))
        simp only [Nat.zero_mul, Nat.add_zero] at hcw hcd
        go_wp2_with fail
        generalize hW1 : (wr.alloc (.cells #[.string (bstr t), .slice da m dc] 61)) = W1 at *
        clear hW1
        go_wp2_with fail
        refine wp_region_quiet_below mixed (by kernel_rfl) ?_
        repeat (go_big_quiet_step (fail))
        refine wpQuiet_nil ?_
        intro W2 hw'
        obtain ⟨⟨dq, osq⟩, hw''⟩ := hw'
        have hbW := below_regrown W1 dq osq
        rw [← hw''] at hbW
        clear hw''
        have e0 := cell_later hbW e0'
        have e1 := cell_later hbW e1'
        have B2 : Below w.heap.size w W2 := hB1.trans (hbW.mono hB1.size)
        by_cases hm0 : m = 0
        · have i0 : ((m : Int) == 0) = true := by rw [hm0]; rfl
          have hbad : entOK (t, ds) = false := by
            rw [Bool.eq_false_iff]
            intro g
            exact (HOK.out.1 g).1 (List.length_eq_zero_iff.1 (HDS.out.trans hm0))
          have HR := Lib.hid (HNO.out hbad)
          clear hbad
          go_wp2
          go_ret
          exact ⟨by rw [HR.out]; rfl, B2⟩
        · have i0 : ((m : Int) == 0) = false := beq_eq_false_iff_ne.2 (by omega)
          have HPR := Lib.hid (postright_any (.slice da m dc) m ds W2 HDS.out (HDR.out.below B2))
          cases hpr : postRight ds with
          | false =>
            have hbad : entOK (t, ds) = false := by
              rw [Bool.eq_false_iff]
              intro g
              have := (HOK.out.1 g).2.1
              rw [hpr] at this
              cases this
            have HR := Lib.hid (HNO.out hbad)
            rw [hpr] at HPR
            clear hbad hpr
            go_wp2_with (go_at_call 34; refine HPR.out.mono ?_; rintro e w' ⟨rfl, rfl⟩)
            go_ret
            exact ⟨by rw [HR.out]; rfl, B2⟩
          | true =>
            rw [hpr] at HPR
            have HTK2 := HTK.out t W2 B2 htl
            cases hrt : rightTok t with
            | false =>
              have hbad : entOK (t, ds) = false := by
                rw [Bool.eq_false_iff]
                intro g
                have := (HOK.out.1 g).2.2
                rw [hrt] at this
                cases this
              have HR := Lib.hid (HNO.out hbad)
              rw [hrt] at HTK2
              have HTK3 := Lib.hid HTK2
              clear hbad hpr hrt HTK2
              go_wp2_with (first | (go_at_call 34; refine HPR.out.mono ?_; rintro e w' ⟨rfl, rfl⟩) | (go_at_call 35; refine HTK3.out.mono ?_; rintro e w5 ⟨rfl, hb5⟩; have B5 := B2.trans (hb5.mono B2.size)))
              go_ret
              exact ⟨by rw [HR.out]; rfl, B5⟩
            | true =>
              have hgood : entOK (t, ds) = true := HOK.out.2 ⟨fun e => hm0 (by have := HDS.out; rw [show ds = [] from e] at this; simpa using this.symm), hpr, hrt⟩
              have HR := Lib.hid (HNXT.out hgood)
              rw [hrt] at HTK2
              have HTK3 := Lib.hid HTK2
              clear hgood hpr hrt HTK2
              go_wp2_with (first | (go_at_call 34; refine HPR.out.mono ?_; rintro e w' ⟨rfl, rfl⟩) | (go_at_call 35; refine HTK3.out.mono ?_; rintro e w5 ⟨rfl, hb5⟩; have B5 := B2.trans (hb5.mono B2.size)))
              go_roundw
              case rel => exact ⟨0 + 1, by omega, by go_num, HR.out, HBN.out, B5⟩
              case measure => simp [intOf]; omega
      · have hcp := HP.out h0
        have cp1 := cell_later hbA hcp
        unfold str at cp1
        have i1 : (0 : Int) < (k : Int) := by omega
        have i5 : ¬ (k : Int) < 1 := by omega
        have i2 : (0 : Int) ≤ (k : Int) - 1 := by omega
        have i3 : (k : Int) - 1 < (n : Int) := by omega
        have i4 : ((k : Int) - 1).toNat = k - 1 := by omega
        have hwk : IntKind.i64.wrap ((k : Int) - 1) = (k : Int) - 1 := by rw [IntKind.wrap_i64]; omega
        have nl := less_is' t tp
        have b1 := btoList t
        have b2 := btoList tp
        clear hcp
        go_wp2_with fail
        generalize hW1 : (wr.alloc (.cells #[.string (bstr t), .slice da m dc] 61)) = W1 at *
        clear hW1
        cases hlt2 : ltStr tp t with
        | true =>
          have HBN := Lib.hid (HB1.out (.inr hlt2))
          have hne : ((bstr t).toList == (bstr tp).toList) = false := by
            rw [b1, b2, beq_eq_false_iff_ne]
            rintro rfl
            rw [swo_ltStr.irrefl] at hlt2; cases hlt2
          rw [swo_ltStr.asymmA hlt2] at nl
          clear b1 b2 hlt2
          have e0r := cell_regrown e0'
          have cpr := cell_regrown cp1
          go_wp2_with fail
          refine wp_region_quiet_below mixed (by kernel_rfl) ?_
          repeat (go_big_quiet_step (fail))
          refine wpQuiet_nil ?_
          intro W2 hw'
          obtain ⟨⟨dq, osq⟩, hw''⟩ := hw'
          have hbW := below_regrown W1 dq osq
          rw [← hw''] at hbW
          clear hw'' e0r cpr
          have e0 := cell_later hbW e0'
          have e1 := cell_later hbW e1'
          have B2 : Below w.heap.size w W2 := hB1.trans (hbW.mono hB1.size)
          by_cases hm0 : m = 0
          · have i0 : ((m : Int) == 0) = true := by rw [hm0]; rfl
            have hbad : entOK (t, ds) = false := by
              rw [Bool.eq_false_iff]
              intro g
              exact (HOK.out.1 g).1 (List.length_eq_zero_iff.1 (HDS.out.trans hm0))
            have HR := Lib.hid (HNO.out hbad)
            clear hbad
            go_wp2
            go_ret
            exact ⟨by rw [HR.out]; rfl, B2⟩
          · have i0 : ((m : Int) == 0) = false := beq_eq_false_iff_ne.2 (by omega)
            have HPR := Lib.hid (postright_any (.slice da m dc) m ds W2 HDS.out (HDR.out.below B2))
            cases hpr : postRight ds with
            | false =>
              have hbad : entOK (t, ds) = false := by
                rw [Bool.eq_false_iff]
                intro g
                have := (HOK.out.1 g).2.1
                rw [hpr] at this
                cases this
              have HR := Lib.hid (HNO.out hbad)
              rw [hpr] at HPR
              clear hbad hpr
              go_wp2_with (go_at_call 34; refine HPR.out.mono ?_; rintro e w' ⟨rfl, rfl⟩)
              go_ret
              exact ⟨by rw [HR.out]; rfl, B2⟩
            | true =>
              rw [hpr] at HPR
              have HTK2 := HTK.out t W2 B2 htl
              cases hrt : rightTok t with
              | false =>
                have hbad : entOK (t, ds) = false := by
                  rw [Bool.eq_false_iff]
                  intro g
                  have := (HOK.out.1 g).2.2
                  rw [hrt] at this
                  cases this
                have HR := Lib.hid (HNO.out hbad)
                rw [hrt] at HTK2
                have HTK3 := Lib.hid HTK2
                clear hbad hpr hrt HTK2
                go_wp2_with (first | (go_at_call 34; refine HPR.out.mono ?_; rintro e w' ⟨rfl, rfl⟩) | (go_at_call 35; refine HTK3.out.mono ?_; rintro e w5 ⟨rfl, hb5⟩; have B5 := B2.trans (hb5.mono B2.size)))
                go_ret
                exact ⟨by rw [HR.out]; rfl, B5⟩
              | true =>
                have hgood : entOK (t, ds) = true := HOK.out.2 ⟨fun e => hm0 (by have := HDS.out; rw [show ds = [] from e] at this; simpa using this.symm), hpr, hrt⟩
                have HR := Lib.hid (HNXT.out hgood)
                rw [hrt] at HTK2
                have HTK3 := Lib.hid HTK2
                clear hgood hpr hrt HTK2
                go_wp2_with (first | (go_at_call 34; refine HPR.out.mono ?_; rintro e w' ⟨rfl, rfl⟩) | (go_at_call 35; refine HTK3.out.mono ?_; rintro e w5 ⟨rfl, hb5⟩; have B5 := B2.trans (hb5.mono B2.size)))
                go_roundw
                case rel => exact ⟨k + 1, by omega, by go_num, HR.out, HBN.out, B5⟩
                case measure => simp [intOf]; omega
        | false =>
          have HR := Lib.hid (HBAD.out h0 hlt2)
          by_cases he : t = tp
          · have hne : ((bstr t).toList == (bstr tp).toList) = true := by rw [he]; exact beq_self_eq_true _
            have nl2 : Op.bytesLess (bstr t).toList (bstr tp).toList = false := by rw [nl, he]; exact swo_ltStr.irrefl _
            clear b1 b2 hlt2 he nl
            have e0r := cell_regrown e0'
            have cpr := cell_regrown cp1
            go_wp2_with fail
            refine wp_region_quiet_below mixed (by kernel_rfl) ?_
            repeat (go_big_quiet_step (fail))
            refine wpQuiet_nil ?_
            intro W2 hw'
            obtain ⟨⟨dq, osq⟩, hw''⟩ := hw'
            have hbW := below_regrown W1 dq osq
            rw [← hw''] at hbW
            clear hw'' e0r cpr
            go_wp2
            go_ret
            exact ⟨by rw [HR.out]; rfl, hB1.trans (hbW.mono hB1.size)⟩
          · have nl2 : Op.bytesLess (bstr t).toList (bstr tp).toList = true := by
              rw [nl]
              cases h : ltStr t tp with
              | true => rfl
              | false => exact absurd (totStr t tp h hlt2) he
            have hne : ((bstr t).toList == (bstr tp).toList) = false := by rw [b1, b2, beq_eq_false_iff_ne]; exact he
            clear b1 b2 hlt2 he nl
            have e0r := cell_regrown e0'
            have cpr := cell_regrown cp1
            go_wp2_with fail
            refine wp_region_quiet_below mixed (by kernel_rfl) ?_
            repeat (go_big_quiet_step (fail))
            refine wpQuiet_nil ?_
            intro W2 hw'
            obtain ⟨⟨dq, osq⟩, hw''⟩ := hw'
            have hbW := below_regrown W1 dq osq
            rw [← hw''] at hbW
            clear hw'' e0r cpr
            go_wp2
            go_ret
            exact ⟨by rw [HR.out]; rfl, hB1.trans (hbW.mono hB1.size)⟩
    · have ki : ¬ (k : Int) < (n : Int) := by omega
      have HR : Hid (dictRight d = true) := dictRight_yes (fun j hj => HA.out j hj (by have := HL.out; omega)) (fun j hj => HB.out j hj (by have := HL.out; omega))
      go_wp2
      go_ret
      exact ⟨by rw [HR.out]; rfl, hbel⟩
end Go.Proofs.YteegbjjpjdlcmaaGreatDoor

/- post.pick: the walk. -/
set_option linter.unusedVariables false
namespace Go.Proofs.YteegbjjpjdlcmaaGreatDoor
open Go.RowKit Go.Sort

set_option maxRecDepth 100000 in
set_option maxHeartbeats 16000000 in
theorem pick_any (keep : Int → Bool → Bool → Bool) (g : Nat) (cb : Array Value) (va vb : Value) (na nb : Nat) (A B : List Int) (w : World) (eg : ∀ args w, (callFunc g args).run Tryz.prog w = .ok (.enter g args) w)
    (hkeep : ∀ n x y W, Below w.heap.size w W → Calls Tryz.prog g (#[.int .i64 n, .bool x, .bool y] ++ cb) W fun e w' => e = .returned (.bool (keep n x y)) ∧ W = w')
    (hna : A.length = na) (hnb : B.length = nb) (ha : Rd w va na 1 (icells A)) (hb : Rd w vb nb 1 (icells B)) (hA : postRight A = true) (hB : postRight B = true) (hn : na + nb ≤ 100000) :
    Calls Tryz.prog 36 #[va, vb, .func (.func g) #[] cb] w (Gives w 3 1 (pickL keep A B).length (icells (pickL keep A B))) := by
  obtain ⟨i0, hi, hz0, hz1, hz2⟩ := info_parts infoInt
  have mixed : Tryz.prog.follows .mixedOrders = true := by kernel_rfl
  have PA := Lib.hid (fun W (hW : Below w.heap.size w W) => postright_any va na A W hna (ha.below hW))
  have PB := Lib.hid (fun W (hW : Below w.heap.size w W) => postright_any vb nb B W hnb (hb.below hW))
  rw [hA] at PA
  rw [hB] at PB
  obtain ⟨aa, ac, rfl, hma, -⟩ := ints_cells hna ha
  obtain ⟨ba, bc, rfl, hmb, -⟩ := ints_cells hnb hb
  have HKP := Lib.hid hkeep
  have HN1 : Hid (∀ z : Int, ∀ u ∈ [Value.int .i64 z], u.oneCell' = true) := fun z u hu => by simp at hu; subst hu; rfl
  have HA := Lib.hid ha
  have HB := Lib.hid hb
  have HNA := Lib.hid (And.intro hna hnb)
  clear hA hB hkeep ha hb hna hnb
  go_enter Tryz.func36, Tryz.ntmps36
  go_wp2_with (first | (go_at_call 34; with_reducible refine (PA.out _ (Below.refl _ _)).mono ?_; rintro e w' ⟨rfl, rfl⟩) | (go_at_call 34; with_reducible refine (PB.out _ (Below.refl _ _)).mono ?_; rintro e w' ⟨rfl, rfl⟩))
  go_loopw [0, 1, 7] (fun s0 s1 o wr => ∃ (x y z : Nat) (xs ys out : List Int), Hid (xs.length = x ∧ ys.length = y ∧ out.length = z) ∧ x + y + z ≤ 100000 ∧ Hid (pickL keep A B = out ++ pickL keep xs ys) ∧ Hid (Rd w s0 x 1 (icells xs)) ∧ Hid (Rd w s1 y 1 (icells ys)) ∧ lenOf s0 = x ∧ lenOf s1 = y ∧ wr.ownsRow w.heap.size 3 1 o z (icells out) ∧ Below w.heap.size w wr) (fun s0 s1 _ _ => lenOf s0 + lenOf s1)
  case atStart => exact ⟨na, nb, 0, A, B, [], ⟨HNA.out.1, HNA.out.2, rfl⟩, by omega, rfl, HA.out, HB.out, rfl, rfl, World.ownsRow_nil _ _ _ _, Below.refl _ _⟩
  case round =>
    obtain ⟨x, y, z, xs, ys, out, HL, hsum, HP, HX, HY, hlx, hly, hown, hbel⟩ := hrel
    have hsz := hbel.size
    obtain ⟨xa, xc, rfl, -, -⟩ := ints_cells HL.out.1 HX.out
    obtain ⟨ya, yc, rfl, -, -⟩ := ints_cells HL.out.2.1 HY.out
    obtain ⟨oa, oc, rfl⟩ := own_shape hown
    clear hlx hly
    cases xs with
    | nil =>
      obtain rfl : 0 = x := HL.out.1
      cases ys with
      | nil =>
        obtain rfl : 0 = y := HL.out.2.1
        have hfin : Hid (pickL keep A B = out) := by show _ = _; rw [HP.out, pickL_nil, List.append_nil]
        have HZ := Lib.hid HL.out.2.2
        go_wp2
        go_ret
        rw [hfin.out]
        exact ⟨_, rfl, by rw [HZ.out]; exact hown, hbel⟩
      | cons q ys =>
        obtain ⟨y', rfl⟩ : ∃ y', y = y' + 1 := ⟨ys.length, by have := HL.out.2.1; simp at this; omega⟩
        obtain ⟨b2, off2, rfl, cb2, hyc⟩ := rd_head HY.out
        have yi : (0 : Int) < ((y' + 1 : Nat) : Int) := by omega
        have ye : (((y' + 1 : Nat) : Int) == 0) = false := beq_eq_false_iff_ne.2 (by omega)
        have ye2 : ((y' : Int) + 1 == 0) = false := beq_eq_false_iff_ne.2 (by omega)
        have ye3 : ¬ (y' : Int) + 1 = 0 := by omega
        have yg : (1 : Int) ≤ ((y' + 1 : Nat) : Int) := by omega
        have HKC := Lib.hid (HKP.out q false true)
        have HQ : Hid (pickL keep A B = out ++ ((if keep q false true then [q] else []) ++ pickL keep [] ys)) := by show _ = _; rw [HP.out, pickL_b keep q ys]
        have rb := cell_regrown (cell_later hbel cb2)
        go_wp2_with fail
        refine wp_region_quiet_below mixed (by kernel_rfl) ?_
        repeat (go_big_quiet_step (fail))
        refine wpQuiet_nil ?_
        intro W1 hw'
        obtain ⟨⟨dq, osq⟩, hw''⟩ := hw'
        have hbel1 := hbel.trans ((below_regrown wr dq osq).mono hbel.size)
        have hown1 := own_below' hown (below_regrown wr dq osq)
        rw [← hw''] at hbel1 hown1
        clear hw'' hown rb
        have rb := cell_regrown (cell_later hbel1 cb2)
        go_wp2_with fail
        refine wp_region_quiet_below mixed (by kernel_rfl) ?_
        repeat (go_big_quiet_step (fail))
        refine wpQuiet_nil ?_
        intro W2 hw'
        obtain ⟨⟨dq, osq⟩, hw''⟩ := hw'
        have hbel2 := hbel1.trans ((below_regrown W1 dq osq).mono hbel1.size)
        have hown2 := own_below' hown1 (below_regrown W1 dq osq)
        rw [← hw''] at hbel2 hown2
        clear hw'' hown1 rb
        by_cases hyc1 : yc = 1
        · subst hyc1
          obtain rfl : y' = 0 := by omega
          have rb := cell_regrown (cell_later hbel2 cb2)
          go_wp2_with fail
          refine wp_region_quiet_below mixed (by kernel_rfl) ?_
          repeat (go_big_quiet_step (fail))
          refine wpQuiet_nil ?_
          intro W3 hw'
          obtain ⟨⟨dq, osq⟩, hw''⟩ := hw'
          have hbel3 := hbel2.trans ((below_regrown W2 dq osq).mono hbel2.size)
          have hown3 := own_below' hown2 (below_regrown W2 dq osq)
          rw [← hw''] at hbel3 hown3
          clear hw'' hown2 rb
          cases hkv : keep q false true with
          | true =>
            rw [hkv] at HKC HQ
            clear hkv
            go_wp2_with (first | (go_at_fn g; refine (HKC.out _ hbel3).mono ?_; rintro e w' ⟨rfl, rfl⟩) | (at_builtin; refine wpList_app rfl _ _ _ _ rfl w.heap.size 3 i0 _ 1 8 Tryz.underlying46 hi hz0 hz1 hz2 rfl (.slice oa z oc) z _ rfl (hown3.alloc _) _ 1 [Value.int .i64 q] rfl (src_new Tryz.underlying46 W3 _ 1 1 1 rfl (HN1.out q)) (by unfold maxLen; omega) (by omega) (by have := hbel3.size; simp; omega) ?_; intro v9 w9 hown9 hgr9 _ _))
            have hB9 : Below w.heap.size w w9 := (hbel3.alloc hbel3.size _).grown hgr9 (by have := hbel3.size; simp; omega) (fun j hj => (hown3.lt j hj).1)
            clear hgr9
            go_wp2
            go_roundw
            case rel => exact ⟨0, 0, z + 1, [], ys, out ++ [q], ⟨HL.out.1, by have := HL.out.2.1; simpa using this, by rw [List.length_append, HL.out.2.2]; rfl⟩, by omega, by show _ = _; rw [HQ.out]; simp, HX.out, (rd_tail HY.out).1 rfl, rfl, rfl, by rw [icells_append]; exact hown9, hB9⟩
            case measure => simp [lenOf]; try omega
          | false =>
            rw [hkv] at HKC HQ
            clear hkv
            go_wp2_with (go_at_fn g; refine (HKC.out _ hbel3).mono ?_; rintro e w' ⟨rfl, rfl⟩)
            go_roundw
            case rel => exact ⟨0, 0, z, [], ys, out, ⟨HL.out.1, by have := HL.out.2.1; simpa using this, HL.out.2.2⟩, by omega, by show _ = _; rw [HQ.out]; simp, HX.out, (rd_tail HY.out).1 rfl, rfl, rfl, hown3, hbel3⟩
            case measure => simp [lenOf]; try omega
        · have rb := cell_regrown (cell_later hbel2 cb2)
          go_wp2_with fail
          refine wp_region_quiet_below mixed (by kernel_rfl) ?_
          repeat (go_big_quiet_step (fail))
          refine wpQuiet_nil ?_
          intro W3 hw'
          obtain ⟨⟨dq, osq⟩, hw''⟩ := hw'
          have hbel3 := hbel2.trans ((below_regrown W2 dq osq).mono hbel2.size)
          have hown3 := own_below' hown2 (below_regrown W2 dq osq)
          rw [← hw''] at hbel3 hown3
          clear hw'' hown2 rb
          cases hkv : keep q false true with
          | true =>
            rw [hkv] at HKC HQ
            clear hkv
            go_wp2_with (first | (go_at_fn g; refine (HKC.out _ hbel3).mono ?_; rintro e w' ⟨rfl, rfl⟩) | (at_builtin; refine wpList_app rfl _ _ _ _ rfl w.heap.size 3 i0 _ 1 8 Tryz.underlying46 hi hz0 hz1 hz2 rfl (.slice oa z oc) z _ rfl (hown3.alloc _) _ 1 [Value.int .i64 q] rfl (src_new Tryz.underlying46 W3 _ 1 1 1 rfl (HN1.out q)) (by unfold maxLen; omega) (by omega) (by have := hbel3.size; simp; omega) ?_; intro v9 w9 hown9 hgr9 _ _))
            have hB9 : Below w.heap.size w w9 := (hbel3.alloc hbel3.size _).grown hgr9 (by have := hbel3.size; simp; omega) (fun j hj => (hown3.lt j hj).1)
            clear hgr9
            go_wp2
            go_roundw
            case rel => exact ⟨0, y', z + 1, [], ys, out ++ [q], ⟨HL.out.1, by have := HL.out.2.1; simpa using this, by rw [List.length_append, HL.out.2.2]; rfl⟩, by omega, by show _ = _; rw [HQ.out]; simp, HX.out, (rd_tail HY.out).2 hyc1, rfl, rfl, by rw [icells_append]; exact hown9, hB9⟩
            case measure => simp [lenOf]; try omega
          | false =>
            rw [hkv] at HKC HQ
            clear hkv
            go_wp2_with (go_at_fn g; refine (HKC.out _ hbel3).mono ?_; rintro e w' ⟨rfl, rfl⟩)
            go_roundw
            case rel => exact ⟨0, y', z, [], ys, out, ⟨HL.out.1, by have := HL.out.2.1; simpa using this, HL.out.2.2⟩, by omega, by show _ = _; rw [HQ.out]; simp, HX.out, (rd_tail HY.out).2 hyc1, rfl, rfl, hown3, hbel3⟩
            case measure => simp [lenOf]; try omega
    | cons p xs =>
      cases ys with
      | nil =>
        obtain rfl : 0 = y := HL.out.2.1
        obtain ⟨x', rfl⟩ : ∃ x', x = x' + 1 := ⟨xs.length, by have := HL.out.1; simp at this; omega⟩
        obtain ⟨b1, off1, rfl, ca, hxc⟩ := rd_head HX.out
        have xi : (0 : Int) < ((x' + 1 : Nat) : Int) := by omega
        have xe : (((x' + 1 : Nat) : Int) == 0) = false := beq_eq_false_iff_ne.2 (by omega)
        have xe2 : ((x' : Int) + 1 == 0) = false := beq_eq_false_iff_ne.2 (by omega)
        have xe3 : ¬ (x' : Int) + 1 = 0 := by omega
        have xg : (1 : Int) ≤ ((x' + 1 : Nat) : Int) := by omega
        have HKC := Lib.hid (HKP.out p true false)
        have HQ : Hid (pickL keep A B = out ++ ((if keep p true false then [p] else []) ++ pickL keep xs [])) := by show _ = _; rw [HP.out, pickL_a keep p xs]
        have ra := cell_regrown (cell_later hbel ca)
        go_wp2_with fail
        refine wp_region_quiet_below mixed (by kernel_rfl) ?_
        repeat (go_big_quiet_step (fail))
        refine wpQuiet_nil ?_
        intro W1 hw'
        obtain ⟨⟨dq, osq⟩, hw''⟩ := hw'
        have hbel1 := hbel.trans ((below_regrown wr dq osq).mono hbel.size)
        have hown1 := own_below' hown (below_regrown wr dq osq)
        rw [← hw''] at hbel1 hown1
        clear hw'' hown ra 
        have ra := cell_regrown (cell_later hbel1 ca)
        go_wp2_with fail
        refine wp_region_quiet_below mixed (by kernel_rfl) ?_
        repeat (go_big_quiet_step (fail))
        refine wpQuiet_nil ?_
        intro W2 hw'
        obtain ⟨⟨dq, osq⟩, hw''⟩ := hw'
        have hbel2 := hbel1.trans ((below_regrown W1 dq osq).mono hbel1.size)
        have hown2 := own_below' hown1 (below_regrown W1 dq osq)
        rw [← hw''] at hbel2 hown2
        clear hw'' hown1 ra 
        by_cases hxc1 : xc = 1
        · subst hxc1
          obtain rfl : x' = 0 := by omega
          have ra := cell_regrown (cell_later hbel2 ca)
          go_wp2_with fail
          refine wp_region_quiet_below mixed (by kernel_rfl) ?_
          repeat (go_big_quiet_step (fail))
          refine wpQuiet_nil ?_
          intro W3 hw'
          obtain ⟨⟨dq, osq⟩, hw''⟩ := hw'
          have hbel3 := hbel2.trans ((below_regrown W2 dq osq).mono hbel2.size)
          have hown3 := own_below' hown2 (below_regrown W2 dq osq)
          rw [← hw''] at hbel3 hown3
          clear hw'' hown2 ra 
          cases hkv : keep p true false with
          | true =>
            rw [hkv] at HKC HQ
            clear hkv
            go_wp2_with (first | (go_at_fn g; refine (HKC.out _ hbel3).mono ?_; rintro e w' ⟨rfl, rfl⟩) | (at_builtin; refine wpList_app rfl _ _ _ _ rfl w.heap.size 3 i0 _ 1 8 Tryz.underlying46 hi hz0 hz1 hz2 rfl (.slice oa z oc) z _ rfl (hown3.alloc _) _ 1 [Value.int .i64 p] rfl (src_new Tryz.underlying46 W3 _ 1 1 1 rfl (HN1.out p)) (by unfold maxLen; omega) (by omega) (by have := hbel3.size; simp; omega) ?_; intro v9 w9 hown9 hgr9 _ _))
            have hB9 : Below w.heap.size w w9 := (hbel3.alloc hbel3.size _).grown hgr9 (by have := hbel3.size; simp; omega) (fun j hj => (hown3.lt j hj).1)
            clear hgr9
            go_wp2
            go_roundw
            case rel => exact ⟨0, 0, z + 1, xs, [], out ++ [p], ⟨by have := HL.out.1; simpa using this, HL.out.2.1, by rw [List.length_append, HL.out.2.2]; rfl⟩, by omega, by show _ = _; rw [HQ.out]; simp, (rd_tail HX.out).1 rfl, HY.out, rfl, rfl, by rw [icells_append]; exact hown9, hB9⟩
            case measure => simp [lenOf]; try omega
          | false =>
            rw [hkv] at HKC HQ
            clear hkv
            go_wp2_with (go_at_fn g; refine (HKC.out _ hbel3).mono ?_; rintro e w' ⟨rfl, rfl⟩)
            go_roundw
            case rel => exact ⟨0, 0, z, xs, [], out, ⟨by have := HL.out.1; simpa using this, HL.out.2.1, HL.out.2.2⟩, by omega, by show _ = _; rw [HQ.out]; simp, (rd_tail HX.out).1 rfl, HY.out, rfl, rfl, hown3, hbel3⟩
            case measure => simp [lenOf]; try omega
        · have ra := cell_regrown (cell_later hbel2 ca)
          go_wp2_with fail
          refine wp_region_quiet_below mixed (by kernel_rfl) ?_
          repeat (go_big_quiet_step (fail))
          refine wpQuiet_nil ?_
          intro W3 hw'
          obtain ⟨⟨dq, osq⟩, hw''⟩ := hw'
          have hbel3 := hbel2.trans ((below_regrown W2 dq osq).mono hbel2.size)
          have hown3 := own_below' hown2 (below_regrown W2 dq osq)
          rw [← hw''] at hbel3 hown3
          clear hw'' hown2 ra 
          cases hkv : keep p true false with
          | true =>
            rw [hkv] at HKC HQ
            clear hkv
            go_wp2_with (first | (go_at_fn g; refine (HKC.out _ hbel3).mono ?_; rintro e w' ⟨rfl, rfl⟩) | (at_builtin; refine wpList_app rfl _ _ _ _ rfl w.heap.size 3 i0 _ 1 8 Tryz.underlying46 hi hz0 hz1 hz2 rfl (.slice oa z oc) z _ rfl (hown3.alloc _) _ 1 [Value.int .i64 p] rfl (src_new Tryz.underlying46 W3 _ 1 1 1 rfl (HN1.out p)) (by unfold maxLen; omega) (by omega) (by have := hbel3.size; simp; omega) ?_; intro v9 w9 hown9 hgr9 _ _))
            have hB9 : Below w.heap.size w w9 := (hbel3.alloc hbel3.size _).grown hgr9 (by have := hbel3.size; simp; omega) (fun j hj => (hown3.lt j hj).1)
            clear hgr9
            go_wp2
            go_roundw
            case rel => exact ⟨x', 0, z + 1, xs, [], out ++ [p], ⟨by have := HL.out.1; simpa using this, HL.out.2.1, by rw [List.length_append, HL.out.2.2]; rfl⟩, by omega, by show _ = _; rw [HQ.out]; simp, (rd_tail HX.out).2 hxc1, HY.out, rfl, rfl, by rw [icells_append]; exact hown9, hB9⟩
            case measure => simp [lenOf]; try omega
          | false =>
            rw [hkv] at HKC HQ
            clear hkv
            go_wp2_with (go_at_fn g; refine (HKC.out _ hbel3).mono ?_; rintro e w' ⟨rfl, rfl⟩)
            go_roundw
            case rel => exact ⟨x', 0, z, xs, [], out, ⟨by have := HL.out.1; simpa using this, HL.out.2.1, HL.out.2.2⟩, by omega, by show _ = _; rw [HQ.out]; simp, (rd_tail HX.out).2 hxc1, HY.out, rfl, rfl, hown3, hbel3⟩
            case measure => simp [lenOf]; try omega
      | cons q ys =>
        by_cases hpq : p < q
        · obtain ⟨x', rfl⟩ : ∃ x', x = x' + 1 := ⟨xs.length, by have := HL.out.1; simp at this; omega⟩
          obtain ⟨b1, off1, rfl, ca, hxc⟩ := rd_head HX.out
          have xi : (0 : Int) < ((x' + 1 : Nat) : Int) := by omega
          have xe : (((x' + 1 : Nat) : Int) == 0) = false := beq_eq_false_iff_ne.2 (by omega)
          have xe2 : ((x' : Int) + 1 == 0) = false := beq_eq_false_iff_ne.2 (by omega)
          have xe3 : ¬ (x' : Int) + 1 = 0 := by omega
          have xg : (1 : Int) ≤ ((x' + 1 : Nat) : Int) := by omega
          obtain ⟨y', rfl⟩ : ∃ y', y = y' + 1 := ⟨ys.length, by have := HL.out.2.1; simp at this; omega⟩
          obtain ⟨b2, off2, rfl, cb2, hyc⟩ := rd_head HY.out
          have yi : (0 : Int) < ((y' + 1 : Nat) : Int) := by omega
          have ye : (((y' + 1 : Nat) : Int) == 0) = false := beq_eq_false_iff_ne.2 (by omega)
          have ye2 : ((y' : Int) + 1 == 0) = false := beq_eq_false_iff_ne.2 (by omega)
          have ye3 : ¬ (y' : Int) + 1 = 0 := by omega
          have yg : (1 : Int) ≤ ((y' + 1 : Nat) : Int) := by omega
          have l1 : p ≤ q := by omega
          have l2 : decide (q ≤ p) = false := decide_eq_false (by omega)
          have HKC := Lib.hid (HKP.out p true false)
          have HQ : Hid (pickL keep A B = out ++ ((if keep p true false then [p] else []) ++ pickL keep xs (q :: ys))) := by show _ = _; rw [HP.out, pickL_lt keep xs ys hpq]
          have ra := cell_regrown (cell_later hbel ca)
          have rb := cell_regrown (cell_later hbel cb2)
          go_wp2_with fail
          refine wp_region_quiet_below mixed (by kernel_rfl) ?_
          repeat (go_big_quiet_step (fail))
          refine wpQuiet_nil ?_
          intro W1 hw'
          obtain ⟨⟨dq, osq⟩, hw''⟩ := hw'
          have hbel1 := hbel.trans ((below_regrown wr dq osq).mono hbel.size)
          have hown1 := own_below' hown (below_regrown wr dq osq)
          rw [← hw''] at hbel1 hown1
          clear hw'' hown ra rb
          have ra := cell_regrown (cell_later hbel1 ca)
          have rb := cell_regrown (cell_later hbel1 cb2)
          go_wp2_with fail
          refine wp_region_quiet_below mixed (by kernel_rfl) ?_
          repeat (go_big_quiet_step (fail))
          refine wpQuiet_nil ?_
          intro W2 hw'
          obtain ⟨⟨dq, osq⟩, hw''⟩ := hw'
          have hbel2 := hbel1.trans ((below_regrown W1 dq osq).mono hbel1.size)
          have hown2 := own_below' hown1 (below_regrown W1 dq osq)
          rw [← hw''] at hbel2 hown2
          clear hw'' hown1 ra rb
          by_cases hxc1 : xc = 1
          · subst hxc1
            obtain rfl : x' = 0 := by omega
            have ra := cell_regrown (cell_later hbel2 ca)
            have rb := cell_regrown (cell_later hbel2 cb2)
            go_wp2_with fail
            refine wp_region_quiet_below mixed (by kernel_rfl) ?_
            repeat (go_big_quiet_step (fail))
            refine wpQuiet_nil ?_
            intro W3 hw'
            obtain ⟨⟨dq, osq⟩, hw''⟩ := hw'
            have hbel3 := hbel2.trans ((below_regrown W2 dq osq).mono hbel2.size)
            have hown3 := own_below' hown2 (below_regrown W2 dq osq)
            rw [← hw''] at hbel3 hown3
            clear hw'' hown2 ra rb
            cases hkv : keep p true false with
            | true =>
              rw [hkv] at HKC HQ
              clear hkv
              go_wp2_with (first | (go_at_fn g; refine (HKC.out _ hbel3).mono ?_; rintro e w' ⟨rfl, rfl⟩) | (at_builtin; refine wpList_app rfl _ _ _ _ rfl w.heap.size 3 i0 _ 1 8 Tryz.underlying46 hi hz0 hz1 hz2 rfl (.slice oa z oc) z _ rfl (hown3.alloc _) _ 1 [Value.int .i64 p] rfl (src_new Tryz.underlying46 W3 _ 1 1 1 rfl (HN1.out p)) (by unfold maxLen; omega) (by omega) (by have := hbel3.size; simp; omega) ?_; intro v9 w9 hown9 hgr9 _ _))
              have hB9 : Below w.heap.size w w9 := (hbel3.alloc hbel3.size _).grown hgr9 (by have := hbel3.size; simp; omega) (fun j hj => (hown3.lt j hj).1)
              clear hgr9
              go_wp2
              go_roundw
              case rel => exact ⟨0, (y' + 1), z + 1, xs, (q :: ys), out ++ [p], ⟨by have := HL.out.1; simpa using this, HL.out.2.1, by rw [List.length_append, HL.out.2.2]; rfl⟩, by omega, by show _ = _; rw [HQ.out]; simp, (rd_tail HX.out).1 rfl, HY.out, rfl, rfl, by rw [icells_append]; exact hown9, hB9⟩
              case measure => simp [lenOf]; try omega
            | false =>
              rw [hkv] at HKC HQ
              clear hkv
              go_wp2_with (go_at_fn g; refine (HKC.out _ hbel3).mono ?_; rintro e w' ⟨rfl, rfl⟩)
              go_roundw
              case rel => exact ⟨0, (y' + 1), z, xs, (q :: ys), out, ⟨by have := HL.out.1; simpa using this, HL.out.2.1, HL.out.2.2⟩, by omega, by show _ = _; rw [HQ.out]; simp, (rd_tail HX.out).1 rfl, HY.out, rfl, rfl, hown3, hbel3⟩
              case measure => simp [lenOf]; try omega
          · have ra := cell_regrown (cell_later hbel2 ca)
            have rb := cell_regrown (cell_later hbel2 cb2)
            go_wp2_with fail
            refine wp_region_quiet_below mixed (by kernel_rfl) ?_
            repeat (go_big_quiet_step (fail))
            refine wpQuiet_nil ?_
            intro W3 hw'
            obtain ⟨⟨dq, osq⟩, hw''⟩ := hw'
            have hbel3 := hbel2.trans ((below_regrown W2 dq osq).mono hbel2.size)
            have hown3 := own_below' hown2 (below_regrown W2 dq osq)
            rw [← hw''] at hbel3 hown3
            clear hw'' hown2 ra rb
            cases hkv : keep p true false with
            | true =>
              rw [hkv] at HKC HQ
              clear hkv
              go_wp2_with (first | (go_at_fn g; refine (HKC.out _ hbel3).mono ?_; rintro e w' ⟨rfl, rfl⟩) | (at_builtin; refine wpList_app rfl _ _ _ _ rfl w.heap.size 3 i0 _ 1 8 Tryz.underlying46 hi hz0 hz1 hz2 rfl (.slice oa z oc) z _ rfl (hown3.alloc _) _ 1 [Value.int .i64 p] rfl (src_new Tryz.underlying46 W3 _ 1 1 1 rfl (HN1.out p)) (by unfold maxLen; omega) (by omega) (by have := hbel3.size; simp; omega) ?_; intro v9 w9 hown9 hgr9 _ _))
              have hB9 : Below w.heap.size w w9 := (hbel3.alloc hbel3.size _).grown hgr9 (by have := hbel3.size; simp; omega) (fun j hj => (hown3.lt j hj).1)
              clear hgr9
              go_wp2
              go_roundw
              case rel => exact ⟨x', (y' + 1), z + 1, xs, (q :: ys), out ++ [p], ⟨by have := HL.out.1; simpa using this, HL.out.2.1, by rw [List.length_append, HL.out.2.2]; rfl⟩, by omega, by show _ = _; rw [HQ.out]; simp, (rd_tail HX.out).2 hxc1, HY.out, rfl, rfl, by rw [icells_append]; exact hown9, hB9⟩
              case measure => simp [lenOf]; try omega
            | false =>
              rw [hkv] at HKC HQ
              clear hkv
              go_wp2_with (go_at_fn g; refine (HKC.out _ hbel3).mono ?_; rintro e w' ⟨rfl, rfl⟩)
              go_roundw
              case rel => exact ⟨x', (y' + 1), z, xs, (q :: ys), out, ⟨by have := HL.out.1; simpa using this, HL.out.2.1, HL.out.2.2⟩, by omega, by show _ = _; rw [HQ.out]; simp, (rd_tail HX.out).2 hxc1, HY.out, rfl, rfl, hown3, hbel3⟩
              case measure => simp [lenOf]; try omega
        · by_cases hqp : q < p
          · have hpq := hqp
            obtain ⟨x', rfl⟩ : ∃ x', x = x' + 1 := ⟨xs.length, by have := HL.out.1; simp at this; omega⟩
            obtain ⟨b1, off1, rfl, ca, hxc⟩ := rd_head HX.out
            have xi : (0 : Int) < ((x' + 1 : Nat) : Int) := by omega
            have xe : (((x' + 1 : Nat) : Int) == 0) = false := beq_eq_false_iff_ne.2 (by omega)
            have xe2 : ((x' : Int) + 1 == 0) = false := beq_eq_false_iff_ne.2 (by omega)
            have xe3 : ¬ (x' : Int) + 1 = 0 := by omega
            have xg : (1 : Int) ≤ ((x' + 1 : Nat) : Int) := by omega
            obtain ⟨y', rfl⟩ : ∃ y', y = y' + 1 := ⟨ys.length, by have := HL.out.2.1; simp at this; omega⟩
            obtain ⟨b2, off2, rfl, cb2, hyc⟩ := rd_head HY.out
            have yi : (0 : Int) < ((y' + 1 : Nat) : Int) := by omega
            have ye : (((y' + 1 : Nat) : Int) == 0) = false := beq_eq_false_iff_ne.2 (by omega)
            have ye2 : ((y' : Int) + 1 == 0) = false := beq_eq_false_iff_ne.2 (by omega)
            have ye3 : ¬ (y' : Int) + 1 = 0 := by omega
            have yg : (1 : Int) ≤ ((y' + 1 : Nat) : Int) := by omega
            have l1 : decide (p ≤ q) = false := decide_eq_false (by omega)
            have l2 : q ≤ p := by omega
            have HKC := Lib.hid (HKP.out q false true)
            have HQ : Hid (pickL keep A B = out ++ ((if keep q false true then [q] else []) ++ pickL keep (p :: xs) ys)) := by show _ = _; rw [HP.out, pickL_gt keep xs ys hpq]
            have ra := cell_regrown (cell_later hbel ca)
            have rb := cell_regrown (cell_later hbel cb2)
            go_wp2_with fail
            refine wp_region_quiet_below mixed (by kernel_rfl) ?_
            repeat (go_big_quiet_step (fail))
            refine wpQuiet_nil ?_
            intro W1 hw'
            obtain ⟨⟨dq, osq⟩, hw''⟩ := hw'
            have hbel1 := hbel.trans ((below_regrown wr dq osq).mono hbel.size)
            have hown1 := own_below' hown (below_regrown wr dq osq)
            rw [← hw''] at hbel1 hown1
            clear hw'' hown ra rb
            have ra := cell_regrown (cell_later hbel1 ca)
            have rb := cell_regrown (cell_later hbel1 cb2)
            go_wp2_with fail
            refine wp_region_quiet_below mixed (by kernel_rfl) ?_
            repeat (go_big_quiet_step (fail))
            refine wpQuiet_nil ?_
            intro W2 hw'
            obtain ⟨⟨dq, osq⟩, hw''⟩ := hw'
            have hbel2 := hbel1.trans ((below_regrown W1 dq osq).mono hbel1.size)
            have hown2 := own_below' hown1 (below_regrown W1 dq osq)
            rw [← hw''] at hbel2 hown2
            clear hw'' hown1 ra rb
            by_cases hyc1 : yc = 1
            · subst hyc1
              obtain rfl : y' = 0 := by omega
              have ra := cell_regrown (cell_later hbel2 ca)
              have rb := cell_regrown (cell_later hbel2 cb2)
              go_wp2_with fail
              refine wp_region_quiet_below mixed (by kernel_rfl) ?_
              repeat (go_big_quiet_step (fail))
              refine wpQuiet_nil ?_
              intro W3 hw'
              obtain ⟨⟨dq, osq⟩, hw''⟩ := hw'
              have hbel3 := hbel2.trans ((below_regrown W2 dq osq).mono hbel2.size)
              have hown3 := own_below' hown2 (below_regrown W2 dq osq)
              rw [← hw''] at hbel3 hown3
              clear hw'' hown2 ra rb
              cases hkv : keep q false true with
              | true =>
                rw [hkv] at HKC HQ
                clear hkv
                go_wp2_with (first | (go_at_fn g; refine (HKC.out _ hbel3).mono ?_; rintro e w' ⟨rfl, rfl⟩) | (at_builtin; refine wpList_app rfl _ _ _ _ rfl w.heap.size 3 i0 _ 1 8 Tryz.underlying46 hi hz0 hz1 hz2 rfl (.slice oa z oc) z _ rfl (hown3.alloc _) _ 1 [Value.int .i64 q] rfl (src_new Tryz.underlying46 W3 _ 1 1 1 rfl (HN1.out q)) (by unfold maxLen; omega) (by omega) (by have := hbel3.size; simp; omega) ?_; intro v9 w9 hown9 hgr9 _ _))
                have hB9 : Below w.heap.size w w9 := (hbel3.alloc hbel3.size _).grown hgr9 (by have := hbel3.size; simp; omega) (fun j hj => (hown3.lt j hj).1)
                clear hgr9
                go_wp2
                go_roundw
                case rel => exact ⟨(x' + 1), 0, z + 1, (p :: xs), ys, out ++ [q], ⟨HL.out.1, by have := HL.out.2.1; simpa using this, by rw [List.length_append, HL.out.2.2]; rfl⟩, by omega, by show _ = _; rw [HQ.out]; simp, HX.out, (rd_tail HY.out).1 rfl, rfl, rfl, by rw [icells_append]; exact hown9, hB9⟩
                case measure => simp [lenOf]; try omega
              | false =>
                rw [hkv] at HKC HQ
                clear hkv
                go_wp2_with (go_at_fn g; refine (HKC.out _ hbel3).mono ?_; rintro e w' ⟨rfl, rfl⟩)
                go_roundw
                case rel => exact ⟨(x' + 1), 0, z, (p :: xs), ys, out, ⟨HL.out.1, by have := HL.out.2.1; simpa using this, HL.out.2.2⟩, by omega, by show _ = _; rw [HQ.out]; simp, HX.out, (rd_tail HY.out).1 rfl, rfl, rfl, hown3, hbel3⟩
                case measure => simp [lenOf]; try omega
            · have ra := cell_regrown (cell_later hbel2 ca)
              have rb := cell_regrown (cell_later hbel2 cb2)
              go_wp2_with fail
              refine wp_region_quiet_below mixed (by kernel_rfl) ?_
              repeat (go_big_quiet_step (fail))
              refine wpQuiet_nil ?_
              intro W3 hw'
              obtain ⟨⟨dq, osq⟩, hw''⟩ := hw'
              have hbel3 := hbel2.trans ((below_regrown W2 dq osq).mono hbel2.size)
              have hown3 := own_below' hown2 (below_regrown W2 dq osq)
              rw [← hw''] at hbel3 hown3
              clear hw'' hown2 ra rb
              cases hkv : keep q false true with
              | true =>
                rw [hkv] at HKC HQ
                clear hkv
                go_wp2_with (first | (go_at_fn g; refine (HKC.out _ hbel3).mono ?_; rintro e w' ⟨rfl, rfl⟩) | (at_builtin; refine wpList_app rfl _ _ _ _ rfl w.heap.size 3 i0 _ 1 8 Tryz.underlying46 hi hz0 hz1 hz2 rfl (.slice oa z oc) z _ rfl (hown3.alloc _) _ 1 [Value.int .i64 q] rfl (src_new Tryz.underlying46 W3 _ 1 1 1 rfl (HN1.out q)) (by unfold maxLen; omega) (by omega) (by have := hbel3.size; simp; omega) ?_; intro v9 w9 hown9 hgr9 _ _))
                have hB9 : Below w.heap.size w w9 := (hbel3.alloc hbel3.size _).grown hgr9 (by have := hbel3.size; simp; omega) (fun j hj => (hown3.lt j hj).1)
                clear hgr9
                go_wp2
                go_roundw
                case rel => exact ⟨(x' + 1), y', z + 1, (p :: xs), ys, out ++ [q], ⟨HL.out.1, by have := HL.out.2.1; simpa using this, by rw [List.length_append, HL.out.2.2]; rfl⟩, by omega, by show _ = _; rw [HQ.out]; simp, HX.out, (rd_tail HY.out).2 hyc1, rfl, rfl, by rw [icells_append]; exact hown9, hB9⟩
                case measure => simp [lenOf]; try omega
              | false =>
                rw [hkv] at HKC HQ
                clear hkv
                go_wp2_with (go_at_fn g; refine (HKC.out _ hbel3).mono ?_; rintro e w' ⟨rfl, rfl⟩)
                go_roundw
                case rel => exact ⟨(x' + 1), y', z, (p :: xs), ys, out, ⟨HL.out.1, by have := HL.out.2.1; simpa using this, HL.out.2.2⟩, by omega, by show _ = _; rw [HQ.out]; simp, HX.out, (rd_tail HY.out).2 hyc1, rfl, rfl, hown3, hbel3⟩
                case measure => simp [lenOf]; try omega
          · obtain rfl : p = q := by omega
            obtain ⟨x', rfl⟩ : ∃ x', x = x' + 1 := ⟨xs.length, by have := HL.out.1; simp at this; omega⟩
            obtain ⟨b1, off1, rfl, ca, hxc⟩ := rd_head HX.out
            have xi : (0 : Int) < ((x' + 1 : Nat) : Int) := by omega
            have xe : (((x' + 1 : Nat) : Int) == 0) = false := beq_eq_false_iff_ne.2 (by omega)
            have xe2 : ((x' : Int) + 1 == 0) = false := beq_eq_false_iff_ne.2 (by omega)
            have xe3 : ¬ (x' : Int) + 1 = 0 := by omega
            have xg : (1 : Int) ≤ ((x' + 1 : Nat) : Int) := by omega
            obtain ⟨y', rfl⟩ : ∃ y', y = y' + 1 := ⟨ys.length, by have := HL.out.2.1; simp at this; omega⟩
            obtain ⟨b2, off2, rfl, cb2, hyc⟩ := rd_head HY.out
            have yi : (0 : Int) < ((y' + 1 : Nat) : Int) := by omega
            have ye : (((y' + 1 : Nat) : Int) == 0) = false := beq_eq_false_iff_ne.2 (by omega)
            have ye2 : ((y' : Int) + 1 == 0) = false := beq_eq_false_iff_ne.2 (by omega)
            have ye3 : ¬ (y' : Int) + 1 = 0 := by omega
            have yg : (1 : Int) ≤ ((y' + 1 : Nat) : Int) := by omega
            have l1 : p ≤ p := by omega
            have HKC := Lib.hid (HKP.out p true true)
            have HQ : Hid (pickL keep A B = out ++ ((if keep p true true then [p] else []) ++ pickL keep xs ys)) := by show _ = _; rw [HP.out, pickL_eq keep p xs ys]
            have ra := cell_regrown (cell_later hbel ca)
            have rb := cell_regrown (cell_later hbel cb2)
            go_wp2_with fail
            refine wp_region_quiet_below mixed (by kernel_rfl) ?_
            repeat (go_big_quiet_step (fail))
            refine wpQuiet_nil ?_
            intro W1 hw'
            obtain ⟨⟨dq, osq⟩, hw''⟩ := hw'
            have hbel1 := hbel.trans ((below_regrown wr dq osq).mono hbel.size)
            have hown1 := own_below' hown (below_regrown wr dq osq)
            rw [← hw''] at hbel1 hown1
            clear hw'' hown ra rb
            have ra := cell_regrown (cell_later hbel1 ca)
            have rb := cell_regrown (cell_later hbel1 cb2)
            go_wp2_with fail
            refine wp_region_quiet_below mixed (by kernel_rfl) ?_
            repeat (go_big_quiet_step (fail))
            refine wpQuiet_nil ?_
            intro W2 hw'
            obtain ⟨⟨dq, osq⟩, hw''⟩ := hw'
            have hbel2 := hbel1.trans ((below_regrown W1 dq osq).mono hbel1.size)
            have hown2 := own_below' hown1 (below_regrown W1 dq osq)
            rw [← hw''] at hbel2 hown2
            clear hw'' hown1 ra rb
            by_cases hxc1 : xc = 1
            · subst hxc1
              obtain rfl : x' = 0 := by omega
              have ra := cell_regrown (cell_later hbel2 ca)
              have rb := cell_regrown (cell_later hbel2 cb2)
              go_wp2_with fail
              refine wp_region_quiet_below mixed (by kernel_rfl) ?_
              repeat (go_big_quiet_step (fail))
              refine wpQuiet_nil ?_
              intro W3 hw'
              obtain ⟨⟨dq, osq⟩, hw''⟩ := hw'
              have hbel3 := hbel2.trans ((below_regrown W2 dq osq).mono hbel2.size)
              have hown3 := own_below' hown2 (below_regrown W2 dq osq)
              rw [← hw''] at hbel3 hown3
              clear hw'' hown2 ra rb
              by_cases hyc1 : yc = 1
              · subst hyc1
                obtain rfl : y' = 0 := by omega
                have ra := cell_regrown (cell_later hbel3 ca)
                have rb := cell_regrown (cell_later hbel3 cb2)
                go_wp2_with fail
                refine wp_region_quiet_below mixed (by kernel_rfl) ?_
                repeat (go_big_quiet_step (fail))
                refine wpQuiet_nil ?_
                intro W4 hw'
                obtain ⟨⟨dq, osq⟩, hw''⟩ := hw'
                have hbel4 := hbel3.trans ((below_regrown W3 dq osq).mono hbel3.size)
                have hown4 := own_below' hown3 (below_regrown W3 dq osq)
                rw [← hw''] at hbel4 hown4
                clear hw'' hown3 ra rb
                cases hkv : keep p true true with
                | true =>
                  rw [hkv] at HKC HQ
                  clear hkv
                  go_wp2_with (first | (go_at_fn g; refine (HKC.out _ hbel4).mono ?_; rintro e w' ⟨rfl, rfl⟩) | (at_builtin; refine wpList_app rfl _ _ _ _ rfl w.heap.size 3 i0 _ 1 8 Tryz.underlying46 hi hz0 hz1 hz2 rfl (.slice oa z oc) z _ rfl (hown4.alloc _) _ 1 [Value.int .i64 p] rfl (src_new Tryz.underlying46 W4 _ 1 1 1 rfl (HN1.out p)) (by unfold maxLen; omega) (by omega) (by have := hbel4.size; simp; omega) ?_; intro v9 w9 hown9 hgr9 _ _))
                  have hB9 : Below w.heap.size w w9 := (hbel4.alloc hbel4.size _).grown hgr9 (by have := hbel4.size; simp; omega) (fun j hj => (hown4.lt j hj).1)
                  clear hgr9
                  go_wp2
                  go_roundw
                  case rel => exact ⟨0, 0, z + 1, xs, ys, out ++ [p], ⟨by have := HL.out.1; simpa using this, by have := HL.out.2.1; simpa using this, by rw [List.length_append, HL.out.2.2]; rfl⟩, by omega, by show _ = _; rw [HQ.out]; simp, (rd_tail HX.out).1 rfl, (rd_tail HY.out).1 rfl, rfl, rfl, by rw [icells_append]; exact hown9, hB9⟩
                  case measure => simp [lenOf]; try omega
                | false =>
                  rw [hkv] at HKC HQ
                  clear hkv
                  go_wp2_with (go_at_fn g; refine (HKC.out _ hbel4).mono ?_; rintro e w' ⟨rfl, rfl⟩)
                  go_roundw
                  case rel => exact ⟨0, 0, z, xs, ys, out, ⟨by have := HL.out.1; simpa using this, by have := HL.out.2.1; simpa using this, HL.out.2.2⟩, by omega, by show _ = _; rw [HQ.out]; simp, (rd_tail HX.out).1 rfl, (rd_tail HY.out).1 rfl, rfl, rfl, hown4, hbel4⟩
                  case measure => simp [lenOf]; try omega
              · have ra := cell_regrown (cell_later hbel3 ca)
                have rb := cell_regrown (cell_later hbel3 cb2)
                go_wp2_with fail
                refine wp_region_quiet_below mixed (by kernel_rfl) ?_
                repeat (go_big_quiet_step (fail))
                refine wpQuiet_nil ?_
                intro W4 hw'
                obtain ⟨⟨dq, osq⟩, hw''⟩ := hw'
                have hbel4 := hbel3.trans ((below_regrown W3 dq osq).mono hbel3.size)
                have hown4 := own_below' hown3 (below_regrown W3 dq osq)
                rw [← hw''] at hbel4 hown4
                clear hw'' hown3 ra rb
                cases hkv : keep p true true with
                | true =>
                  rw [hkv] at HKC HQ
                  clear hkv
                  go_wp2_with (first | (go_at_fn g; refine (HKC.out _ hbel4).mono ?_; rintro e w' ⟨rfl, rfl⟩) | (at_builtin; refine wpList_app rfl _ _ _ _ rfl w.heap.size 3 i0 _ 1 8 Tryz.underlying46 hi hz0 hz1 hz2 rfl (.slice oa z oc) z _ rfl (hown4.alloc _) _ 1 [Value.int .i64 p] rfl (src_new Tryz.underlying46 W4 _ 1 1 1 rfl (HN1.out p)) (by unfold maxLen; omega) (by omega) (by have := hbel4.size; simp; omega) ?_; intro v9 w9 hown9 hgr9 _ _))
                  have hB9 : Below w.heap.size w w9 := (hbel4.alloc hbel4.size _).grown hgr9 (by have := hbel4.size; simp; omega) (fun j hj => (hown4.lt j hj).1)
                  clear hgr9
                  go_wp2
                  go_roundw
                  case rel => exact ⟨0, y', z + 1, xs, ys, out ++ [p], ⟨by have := HL.out.1; simpa using this, by have := HL.out.2.1; simpa using this, by rw [List.length_append, HL.out.2.2]; rfl⟩, by omega, by show _ = _; rw [HQ.out]; simp, (rd_tail HX.out).1 rfl, (rd_tail HY.out).2 hyc1, rfl, rfl, by rw [icells_append]; exact hown9, hB9⟩
                  case measure => simp [lenOf]; try omega
                | false =>
                  rw [hkv] at HKC HQ
                  clear hkv
                  go_wp2_with (go_at_fn g; refine (HKC.out _ hbel4).mono ?_; rintro e w' ⟨rfl, rfl⟩)
                  go_roundw
                  case rel => exact ⟨0, y', z, xs, ys, out, ⟨by have := HL.out.1; simpa using this, by have := HL.out.2.1; simpa using this, HL.out.2.2⟩, by omega, by show _ = _; rw [HQ.out]; simp, (rd_tail HX.out).1 rfl, (rd_tail HY.out).2 hyc1, rfl, rfl, hown4, hbel4⟩
                  case measure => simp [lenOf]; try omega
            · have ra := cell_regrown (cell_later hbel2 ca)
              have rb := cell_regrown (cell_later hbel2 cb2)
              go_wp2_with fail
              refine wp_region_quiet_below mixed (by kernel_rfl) ?_
              repeat (go_big_quiet_step (fail))
              refine wpQuiet_nil ?_
              intro W3 hw'
              obtain ⟨⟨dq, osq⟩, hw''⟩ := hw'
              have hbel3 := hbel2.trans ((below_regrown W2 dq osq).mono hbel2.size)
              have hown3 := own_below' hown2 (below_regrown W2 dq osq)
              rw [← hw''] at hbel3 hown3
              clear hw'' hown2 ra rb
              by_cases hyc1 : yc = 1
              · subst hyc1
                obtain rfl : y' = 0 := by omega
                have ra := cell_regrown (cell_later hbel3 ca)
                have rb := cell_regrown (cell_later hbel3 cb2)
                go_wp2_with fail
                refine wp_region_quiet_below mixed (by kernel_rfl) ?_
                repeat (go_big_quiet_step (fail))
                refine wpQuiet_nil ?_
                intro W4 hw'
                obtain ⟨⟨dq, osq⟩, hw''⟩ := hw'
                have hbel4 := hbel3.trans ((below_regrown W3 dq osq).mono hbel3.size)
                have hown4 := own_below' hown3 (below_regrown W3 dq osq)
                rw [← hw''] at hbel4 hown4
                clear hw'' hown3 ra rb
                cases hkv : keep p true true with
                | true =>
                  rw [hkv] at HKC HQ
                  clear hkv
                  go_wp2_with (first | (go_at_fn g; refine (HKC.out _ hbel4).mono ?_; rintro e w' ⟨rfl, rfl⟩) | (at_builtin; refine wpList_app rfl _ _ _ _ rfl w.heap.size 3 i0 _ 1 8 Tryz.underlying46 hi hz0 hz1 hz2 rfl (.slice oa z oc) z _ rfl (hown4.alloc _) _ 1 [Value.int .i64 p] rfl (src_new Tryz.underlying46 W4 _ 1 1 1 rfl (HN1.out p)) (by unfold maxLen; omega) (by omega) (by have := hbel4.size; simp; omega) ?_; intro v9 w9 hown9 hgr9 _ _))
                  have hB9 : Below w.heap.size w w9 := (hbel4.alloc hbel4.size _).grown hgr9 (by have := hbel4.size; simp; omega) (fun j hj => (hown4.lt j hj).1)
                  clear hgr9
                  go_wp2
                  go_roundw
                  case rel => exact ⟨x', 0, z + 1, xs, ys, out ++ [p], ⟨by have := HL.out.1; simpa using this, by have := HL.out.2.1; simpa using this, by rw [List.length_append, HL.out.2.2]; rfl⟩, by omega, by show _ = _; rw [HQ.out]; simp, (rd_tail HX.out).2 hxc1, (rd_tail HY.out).1 rfl, rfl, rfl, by rw [icells_append]; exact hown9, hB9⟩
                  case measure => simp [lenOf]; try omega
                | false =>
                  rw [hkv] at HKC HQ
                  clear hkv
                  go_wp2_with (go_at_fn g; refine (HKC.out _ hbel4).mono ?_; rintro e w' ⟨rfl, rfl⟩)
                  go_roundw
                  case rel => exact ⟨x', 0, z, xs, ys, out, ⟨by have := HL.out.1; simpa using this, by have := HL.out.2.1; simpa using this, HL.out.2.2⟩, by omega, by show _ = _; rw [HQ.out]; simp, (rd_tail HX.out).2 hxc1, (rd_tail HY.out).1 rfl, rfl, rfl, hown4, hbel4⟩
                  case measure => simp [lenOf]; try omega
              · have ra := cell_regrown (cell_later hbel3 ca)
                have rb := cell_regrown (cell_later hbel3 cb2)
                go_wp2_with fail
                refine wp_region_quiet_below mixed (by kernel_rfl) ?_
                repeat (go_big_quiet_step (fail))
                refine wpQuiet_nil ?_
                intro W4 hw'
                obtain ⟨⟨dq, osq⟩, hw''⟩ := hw'
                have hbel4 := hbel3.trans ((below_regrown W3 dq osq).mono hbel3.size)
                have hown4 := own_below' hown3 (below_regrown W3 dq osq)
                rw [← hw''] at hbel4 hown4
                clear hw'' hown3 ra rb
                cases hkv : keep p true true with
                | true =>
                  rw [hkv] at HKC HQ
                  clear hkv
                  go_wp2_with (first | (go_at_fn g; refine (HKC.out _ hbel4).mono ?_; rintro e w' ⟨rfl, rfl⟩) | (at_builtin; refine wpList_app rfl _ _ _ _ rfl w.heap.size 3 i0 _ 1 8 Tryz.underlying46 hi hz0 hz1 hz2 rfl (.slice oa z oc) z _ rfl (hown4.alloc _) _ 1 [Value.int .i64 p] rfl (src_new Tryz.underlying46 W4 _ 1 1 1 rfl (HN1.out p)) (by unfold maxLen; omega) (by omega) (by have := hbel4.size; simp; omega) ?_; intro v9 w9 hown9 hgr9 _ _))
                  have hB9 : Below w.heap.size w w9 := (hbel4.alloc hbel4.size _).grown hgr9 (by have := hbel4.size; simp; omega) (fun j hj => (hown4.lt j hj).1)
                  clear hgr9
                  go_wp2
                  go_roundw
                  case rel => exact ⟨x', y', z + 1, xs, ys, out ++ [p], ⟨by have := HL.out.1; simpa using this, by have := HL.out.2.1; simpa using this, by rw [List.length_append, HL.out.2.2]; rfl⟩, by omega, by show _ = _; rw [HQ.out]; simp, (rd_tail HX.out).2 hxc1, (rd_tail HY.out).2 hyc1, rfl, rfl, by rw [icells_append]; exact hown9, hB9⟩
                  case measure => simp [lenOf]; try omega
                | false =>
                  rw [hkv] at HKC HQ
                  clear hkv
                  go_wp2_with (go_at_fn g; refine (HKC.out _ hbel4).mono ?_; rintro e w' ⟨rfl, rfl⟩)
                  go_roundw
                  case rel => exact ⟨x', y', z, xs, ys, out, ⟨by have := HL.out.1; simpa using this, by have := HL.out.2.1; simpa using this, HL.out.2.2⟩, by omega, by show _ = _; rw [HQ.out]; simp, (rd_tail HX.out).2 hxc1, (rd_tail HY.out).2 hyc1, rfl, rfl, hown4, hbel4⟩
                  case measure => simp [lenOf]; try omega
end Go.Proofs.YteegbjjpjdlcmaaGreatDoor

/- post.In, post.Both, post.Either, post.But: of posting lists. -/
set_option linter.unusedVariables false
namespace Go.Proofs.YteegbjjpjdlcmaaGreatDoor
open Go.RowKit Go.Sort

theorem in1_any (n : Int) (x y : Bool) (f t : Int) (bx : Nat) (W : World) (h0 : W.cell? ⟨bx, 0, none⟩ = some (.int .i64 f)) (h1 : W.cell? ⟨bx, 1, none⟩ = some (.int .i64 t)) :
    Calls Tryz.prog 37 #[.int .i64 n, .bool x, .bool y, .pointer (some ⟨bx, 0, none⟩)] W fun e w' => e = .returned (.bool (inSpan f t n)) ∧ W = w' := by
  by_cases h2 : f ≤ n
  · by_cases h3 : n < t
    · have hr : Hid (inSpan f t n = true) := by show _ = _; simp [inSpan, h2, h3]
      go_enter Tryz.func37, Tryz.ntmps37
      go_wp2
      go_ret
      exact ⟨by rw [hr.out]; first | rfl | simp [h2, h3], rfl⟩
    · have hr : Hid (inSpan f t n = false) := by show _ = _; simp [inSpan, h3]
      go_enter Tryz.func37, Tryz.ntmps37
      go_wp2
      go_ret
      exact ⟨by rw [hr.out]; first | rfl | simp [h2, h3], rfl⟩
  · have hr : Hid (inSpan f t n = false) := by show _ = _; simp [inSpan, h2]
    go_enter Tryz.func37, Tryz.ntmps37
    go_wp2
    go_ret
    exact ⟨by rw [hr.out]; first | rfl | simp [h2], rfl⟩

set_option maxRecDepth 100000 in
set_option maxHeartbeats 4000000 in
theorem in_any (va : Value) (na : Nat) (A : List Int) (f t : Int) (w : World) (hna : A.length = na) (ha : Rd w va na 1 (icells A)) (hA : postRight A = true) (hn : na ≤ 100000) :
    Calls Tryz.prog 26 #[va, .agg #[.int .i64 f, .int .i64 t]] w (Gives w 3 1 (A.filter (inSpan f t)).length (icells (A.filter (inSpan f t)))) := by
  have eg : ∀ args w, (callFunc 37 args).run Tryz.prog w = .ok (.enter 37 args) w := enters_of Tryz.func37 (by kernel_rfl) rfl
  have hb0 : Below w.heap.size w (w.alloc (.cells #[.int .i64 f, .int .i64 t] 26)) := (Below.refl _ _).alloc (Nat.le_refl _) _
  have hnew := heap_alloc_new w (.cells #[.int .i64 f, .int .i64 t] 26)
  have c0 : (w.alloc (.cells #[.int .i64 f, .int .i64 t] 26)).cell? ⟨w.heap.size, 0, none⟩ = some (.int .i64 f) := by rw [cell_of_row _ _ _ _ _ _ hnew]; rfl
  have c1 : (w.alloc (.cells #[.int .i64 f, .int .i64 t] 26)).cell? ⟨w.heap.size, 1, none⟩ = some (.int .i64 t) := by rw [cell_of_row _ _ _ _ _ _ hnew]; rfl
  have hp := pick_any (fun n _ _ => inSpan f t n) 37 #[.pointer (some ⟨w.heap.size, 0, none⟩)] va (.slice none 0 0) na 0 A [] (w.alloc (.cells #[.int .i64 f, .int .i64 t] 26)) eg
    (fun n x y W hW => in1_any n x y f t w.heap.size W (cell_later hW c0) (cell_later hW c1)) hna rfl (ha.below hb0) ⟨rfl, Nat.zero_le _, .inl ⟨_, _, rfl, rfl⟩⟩ hA rfl (by omega)
  rw [pick_span] at hp
  have HP := Lib.hid hp
  have HB := Lib.hid hb0
  have hsz : w.heap.size ≤ (w.alloc (.cells #[.int .i64 f, .int .i64 t] 26)).heap.size := by simp
  have HSZ := Lib.hid hsz
  clear eg ha hA hna hp hb0 hnew c0 c1 hsz
  go_enter Tryz.func26, Tryz.ntmps26
  go_wp2_with (go_at_call 36; refine HP.out.mono ?_; rintro e w1 ⟨v1, rfl, hown1, hb1⟩)
  go_ret
  exact ⟨_, rfl, own_mono hown1 HSZ.out, HB.out.trans (hb1.mono HSZ.out)⟩
end Go.Proofs.YteegbjjpjdlcmaaGreatDoor

/- segm.Right. -/
set_option linter.unusedVariables false
namespace Go.Proofs.YteegbjjpjdlcmaaGreatDoor
open Go.RowKit Go.Sort

/-- a slice of n elements is returned. -/
def LenIs (n : Nat) (e : Ending) : Prop := ∃ ao c, e = .returned (.slice ao n c)

theorem inlen_any (va : Value) (na : Nat) (A : List Int) (f t : Int) (w : World) (hna : A.length = na) (ha : Rd w va na 1 (icells A)) (hA : postRight A = true) (hn : na ≤ 100000) :
    Calls Tryz.prog 26 #[va, .agg #[.int .i64 f, .int .i64 t]] w fun e w' => LenIs (A.filter (inSpan f t)).length e ∧ Below w.heap.size w w' := by
  refine (in_any va na A f t w hna ha hA hn).mono ?_
  rintro e w1 ⟨v, rfl, hown, hb⟩
  obtain ⟨ao, c, rfl, -⟩ := ints_cells rfl (Rd.of_own hown)
  exact ⟨⟨ao, c, rfl⟩, hb⟩

set_option maxRecDepth 100000 in
set_option maxHeartbeats 8000000 in
theorem segright_any (f t : Int) (v : Value) (n : Nat) (d : List Ent) (w : World) (ht : Tabs w) (h : DRd w v n d) (hts : ∀ e ∈ d, e.1.length ≤ 100000 ∧ e.2.length ≤ 100000) :
    Calls Tryz.prog 16 #[.agg #[.int .i64 f, .int .i64 t, v]] w fun e w' => e = .returned (.bool (segRight f t d)) ∧ Below w.heap.size w w' := by
  obtain ⟨ao, c, rfl, hm, HC⟩ := dict_cells h
  have HL := Lib.hid h.1
  have HTS := Lib.hid hts
  have hB0 : Below w.heap.size w (w.alloc (.cells #[.int .i64 f, .int .i64 t, .slice ao n c] 33)) := (Below.refl _ _).alloc (Nat.le_refl _) _
  have HW := Lib.hid (fun W => whole_any f t W)
  have HD := Lib.hid (fun W (hW : Below w.heap.size w W) => dictright_any (.slice ao n c) n d W (ht.below hW) (h.below hW) (fun e he => (hts e he).1))
  have HALL : Hid (∀ b, (d.all fun e => e.2.all (inSpan f t)) = b → segRight f t d = (wholeB f t && dictRight d && b)) := by rintro b rfl; rfl
  have hnew := heap_alloc_new w (.cells #[.int .i64 f, .int .i64 t, .slice ao n c] 33)
  have b0' : (w.alloc (.cells #[.int .i64 f, .int .i64 t, .slice ao n c] 33)).cell? ⟨w.heap.size, 0, none⟩ = some (.int .i64 f) := by rw [cell_of_row _ _ _ _ _ _ hnew]; rfl
  have b1' : (w.alloc (.cells #[.int .i64 f, .int .i64 t, .slice ao n c] 33)).cell? ⟨w.heap.size, 1, none⟩ = some (.int .i64 t) := by rw [cell_of_row _ _ _ _ _ _ hnew]; rfl
  have b2' : (w.alloc (.cells #[.int .i64 f, .int .i64 t, .slice ao n c] 33)).cell? ⟨w.heap.size, 2, none⟩ = some (.slice ao n c) := by rw [cell_of_row _ _ _ _ _ _ hnew]; rfl
  have hsz0 : w.heap.size < (w.alloc (.cells #[.int .i64 f, .int .i64 t, .slice ao n c] 33)).heap.size := by simp
  clear h hts ht hnew
  go_enter Tryz.func16, Tryz.ntmps16
  go_wp2_with fail
  generalize hW0 : (w.alloc (.cells #[.int .i64 f, .int .i64 t, .slice ao n c] 33)) = W0 at *
  clear hW0
  cases hw : wholeB f t with
  | false =>
    have HR : Hid (segRight f t d = false) := by show _ = _; rw [HALL.out _ rfl, hw]; rfl
    rw [hw] at HW
    clear hw
    go_wp2_with (go_at_call 24; refine (HW.out _).mono ?_; rintro e w2 ⟨rfl, hb2⟩)
    go_ret
    exact ⟨by rw [HR.out]; rfl, hB0.trans (hb2.mono hB0.size)⟩
  | true =>
    cases hd : dictRight d with
    | false =>
      have HR : Hid (segRight f t d = false) := by show _ = _; rw [HALL.out _ rfl, hw, hd]; rfl
      rw [hw] at HW
      rw [hd] at HD
      clear hw hd
      go_wp2_with (first | (go_at_call 24; refine (HW.out _).mono ?_; rintro e w2 ⟨rfl, hb2⟩; have B2 := hB0.trans (hb2.mono hB0.size); have r2 := cell_later hb2 b2') | (go_at_call 25; refine (HD.out _ B2).mono ?_; rintro e w3 ⟨rfl, hb3⟩; have B3 := B2.trans (hb3.mono B2.size)))
      go_ret
      exact ⟨by rw [HR.out]; rfl, B3⟩
    | true =>
      have HENT : Hid (∀ i (hi : i < d.length), postRight d[i].2 = true) := fun i hi => ((entOK_iff _).1 (dictRight_ent hd i hi)).2.1
      have HR : Hid (∀ b, (d.all fun e => e.2.all (inSpan f t)) = b → segRight f t d = b) := by rintro b hb; rw [HALL.out _ hb, hw, hd]; rfl
      rw [hw] at HW
      rw [hd] at HD
      clear hw hd HALL
      go_wp2_with (first | (go_at_call 24; refine (HW.out _).mono ?_; rintro e w2 ⟨rfl, hb2⟩; have B2 := hB0.trans (hb2.mono hB0.size); have r2 := cell_later hb2 b2') | (go_at_call 25; refine (HD.out _ B2).mono ?_; rintro e w3 ⟨rfl, hb3⟩; have B3 := B2.trans (hb3.mono B2.size); have hb3' := hb2.trans (hb3.mono hb2.size); have q0 := cell_later hb3' b0'; have q1 := cell_later hb3' b1'; have q2 := cell_later hb3' b2'))
      have hsz3 : W0.heap.size ≤ w3.heap.size := hb3'.size
      go_loopw [18] (fun i wr => ∃ k : Nat, k ≤ n ∧ i = .int .i64 k ∧ Hid (∀ j (hj : j < d.length), j < k → d[j].2.all (inSpan f t) = true) ∧ Below w3.heap.size w3 wr) (fun i _ => n - (intOf i).toNat)
      case atStart => exact ⟨0, Nat.zero_le _, rfl, fun j hj h => by omega, Below.refl _ _⟩
      case round =>
        obtain ⟨k, hk, rfl, HA, hbel⟩ := hrel
        have hsz := hbel.size
        by_cases hlt : k < n
        · have hkd : k < d.length := by have := HL.out; omega
          obtain ⟨b, off, da, dc, rfl, c1, c2, hdr⟩ := HC.out k hkd
          have ki : (k : Int) < (n : Int) := by omega
          have k0' : (0 : Int) ≤ (k : Int) := by omega
          have HN : Hid (d[k].2.all (inSpan f t) = true → ∀ j (hj : j < d.length), j < k + 1 → d[j].2.all (inSpan f t) = true) := fun g j hj h => by
            by_cases e : j = k
            · subst e; exact g
            · exact HA.out j hj (by omega)
          have HBAD : Hid (d[k].2.all (inSpan f t) = false → segRight f t d = false) := fun g => HR.out false (by
            rw [Bool.eq_false_iff]
            intro ha
            rw [List.all_eq_true] at ha
            rw [ha _ (List.getElem_mem hkd)] at g
            cases g)
          have hpr := HENT.out k hkd
          have hl2 := (HTS.out _ (List.getElem_mem hkd)).2
          have Bwr : Below w.heap.size w wr := B3.trans (hbel.mono B3.size)
          have c1w := cell_later Bwr c1
          have c2w := cell_later Bwr c2
          obtain ⟨⟨tt, ds⟩, hx⟩ : ∃ x, x = d[k] := ⟨_, rfl⟩
          rw [← hx] at c1w c2w HN HBAD hpr hl2 hdr
          simp only at c1w c2w HN HBAD hpr hl2 hdr
          clear hx c1 c2
          obtain ⟨m, hmm⟩ : ∃ m, m = ds.length := ⟨_, rfl⟩
          rw [← hmm] at c2w hdr hl2
          have HIN : Hid (∀ W, Below w.heap.size w W → Calls Tryz.prog 26 #[.slice da m dc, .agg #[.int .i64 f, .int .i64 t]] W fun e w' => LenIs (ds.filter (inSpan f t)).length e ∧ Below W.heap.size W w') := fun W hW => inlen_any (.slice da m dc) m ds f t W hmm.symm (hdr.below hW) hpr hl2
          have HF : Hid ((ds.filter (inSpan f t)).length = m ↔ ds.all (inSpan f t) = true) := by rw [hmm]; exact filter_len_all _ _
          clear hmm hpr hl2 hdr
          unfold str at c1w
          have p0 := cell_later hbel q0
          have p1 := cell_later hbel q1
          have hnew := heap_alloc_new wr (.cells #[.string (bstr tt), .slice da m dc] 61)
          have e0' : (wr.alloc (.cells #[.string (bstr tt), .slice da m dc] 61)).cell? ⟨wr.heap.size, 0, none⟩ = some (.string (bstr tt)) := by rw [cell_of_row _ _ _ _ _ _ hnew]; rfl
          have e1' : (wr.alloc (.cells #[.string (bstr tt), .slice da m dc] 61)).cell? ⟨wr.heap.size, 1, none⟩ = some (.slice da m dc) := by rw [cell_of_row _ _ _ _ _ _ hnew]; rfl
          have hbA : Below wr.heap.size wr (wr.alloc (.cells #[.string (bstr tt), .slice da m dc] 61)) := (Below.refl _ _).alloc (Nat.le_refl _) _
          have p0' := cell_later hbA p0
          have p1' := cell_later hbA p1
          have hB1 : Below w3.heap.size w3 (wr.alloc (.cells #[.string (bstr tt), .slice da m dc] 61)) := hbel.alloc hsz _
          clear hnew hbA p0 p1
          obtain ⟨g, hg⟩ : ∃ g, g = (ds.filter (inSpan f t)).length := ⟨_, rfl⟩
          rw [← hg] at HIN HF
          clear hg
          go_wp2_with fail
          generalize hW1 : (wr.alloc (.cells #[.string (bstr tt), .slice da m dc] 61)) = W1 at *
          clear hW1 c1w c2w
          go_wp2_with fail
          have HS : Hid (∀ W, (Below w3.heap.size w3 W ∧ W1.heap.size ≤ W.heap.size ∧ W.cell? ⟨w.heap.size, 0, none⟩ = some (.int .i64 f) ∧ W.cell? ⟨w.heap.size, 1, none⟩ = some (.int .i64 t) ∧ W.cell? ⟨wr.heap.size, 1, none⟩ = some (.slice da m dc)) → Calls Tryz.prog 26 #[.slice da m dc, .agg #[.int .i64 f, .int .i64 t]] W fun e W' => LenIs g e ∧ (Below w3.heap.size w3 W' ∧ W1.heap.size ≤ W'.heap.size ∧ W'.cell? ⟨w.heap.size, 0, none⟩ = some (.int .i64 f) ∧ W'.cell? ⟨w.heap.size, 1, none⟩ = some (.int .i64 t) ∧ W'.cell? ⟨wr.heap.size, 1, none⟩ = some (.slice da m dc))) := fun W ⟨s1, s2, s3, s4, s5⟩ => by
            refine (HIN.out W (B3.trans (s1.mono B3.size))).mono ?_
            rintro e W' ⟨hl, hb⟩
            exact ⟨hl, s1.trans (hb.mono s1.size), Nat.le_trans s2 hb.size, cell_later hb s3, cell_later hb s4, cell_later hb s5⟩
          have hs1 : Below w3.heap.size w3 W1.drew := hB1.drew
          go_region_held3 (fun W => Below w3.heap.size w3 W ∧ W1.heap.size ≤ W.heap.size ∧ W.cell? ⟨w.heap.size, 0, none⟩ = some (.int .i64 f) ∧ W.cell? ⟨w.heap.size, 1, none⟩ = some (.int .i64 t) ∧ W.cell? ⟨wr.heap.size, 1, none⟩ = some (.slice da m dc))
            (first | exact ⟨hs1, Nat.le_refl _, p0', p1', e1'⟩ | exact hS5 | assumption)
            ((go_at_call 26; refine (HS.out _ (by assumption)).mono ?_; rintro e w5 ⟨⟨ao5, c5, rfl⟩, hS5⟩))
          have hS6 : Below w3.heap.size w3 w5 := hS5.1
          by_cases hgm : g = m
          · have n1 : ((g : Int) != (m : Int)) = false := by rw [hgm]; simp
            have HR2 := Lib.hid (HN.out (HF.out.1 hgm))
            clear hgm
            go_wp2
            go_roundw
            case rel => exact ⟨k + 1, by omega, by go_num, HR2.out, hS6⟩
            case measure => simp [intOf]; omega
          · have n1 : ((g : Int) != (m : Int)) = true := by rw [bne_iff_ne]; omega
            have HR2 : Hid (segRight f t d = false) := HBAD.out (by rw [Bool.eq_false_iff]; exact fun g => hgm (HF.out.2 g))
            clear hgm
            go_wp2
            go_ret
            exact ⟨by rw [HR2.out]; rfl, B3.trans (hS6.mono B3.size)⟩
        · have ki : ¬ (k : Int) < (n : Int) := by omega
          have hall : (d.all fun e => e.2.all (inSpan f t)) = true := by
            rw [List.all_eq_true]
            intro e he
            obtain ⟨j, hj, rfl⟩ := List.mem_iff_getElem.1 he
            exact HA.out j hj (by have := HL.out; omega)
          have HR2 := Lib.hid (HR.out _ hall)
          clear hall
          go_wp2
          go_ret
          exact ⟨by rw [HR2.out]; rfl, B3.trans (hbel.mono B3.size)⟩
end Go.Proofs.YteegbjjpjdlcmaaGreatDoor
