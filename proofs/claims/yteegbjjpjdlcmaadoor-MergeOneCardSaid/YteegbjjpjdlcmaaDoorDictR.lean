/- dict.Right. -/
import Derived.Test.YteegbjjpjdlcmaaDoorDictW
set_option linter.unusedVariables false
namespace Go.Proofs.YteegbjjpjdlcmaaDoor
open Go.RowKit Go.Sort

set_option maxRecDepth 100000 in
set_option maxHeartbeats 8000000 in
theorem dictright_any (v : Value) (n : Nat) (d : List Ent) (w : World) (ht : Tabs w) (h : DRd w v n d) (hts : ∀ e ∈ d, e.1.length ≤ 100000) :
    Calls Tryd.prog 57 #[v] w fun e w' => e = .returned (.bool (dictRight d)) ∧ Below w.heap.size w w' := by
  have hl := h.1
  obtain ⟨ao, c, rfl, hm, HC⟩ := dict_cells h
  have mixed : Tryd.prog.follows .mixedOrders = true := by kernel_rfl
  have HL := Lib.hid hl
  have HTS := Lib.hid hts
  have HTK := Lib.hid (fun (t : List UInt8) W (hW : Below w.heap.size w W) (hl : t.length ≤ 100000) => tokright_any t W (ht.below hW) hl)
  clear h hl ht hts
  go_enter Tryd.func57, Tryd.ntmps57
  go_wp2
  go_loopw [7] (fun i wr => ∃ k : Nat, k ≤ n ∧ i = .int .i64 k ∧ Hid (∀ j (hj : j < d.length), j < k → entOK d[j] = true) ∧ Hid (∀ j (hj : j + 1 < d.length), j + 1 < k → ltStr (d[j]'(by omega)).1 d[j + 1].1 = true) ∧ Below w.heap.size w wr) (fun i _ => n - (intOf i).toNat)
  case atStart => exact ⟨0, Nat.zero_le _, rfl, fun j hj h => by omega, fun j hj h => by omega, Below.refl _ _⟩
  case round =>
    obtain ⟨k, hk, rfl, HA, HB, hbel⟩ := hrel
    have hsz := hbel.size
    by_cases hlt : k < n
    · have hkd : k < d.length := by have := HL.out; omega
      obtain ⟨b, off, da, dc, rfl, c1, c2, hdr⟩ := HC.out k hkd
      have ki : (k : Int) < (n : Int) := by omega
      have k0' : (0 : Int) ≤ (k : Int) := by omega
      have htl := HTS.out d[k] (List.getElem_mem hkd)
      have HNO : Hid (entOK d[k] = false → dictRight d = false) := dictRight_no1 k hkd
      have HOK := Lib.hid (entOK_iff d[k])
      have HNXT : Hid (entOK d[k] = true → ∀ j (hj : j < d.length), j < k + 1 → entOK d[j] = true) := fun g j hj h => by
        by_cases e : j = k
        · subst e; exact g
        · exact HA.out j hj (by omega)
      have hcw := cell_later hbel c1
      have hcd := cell_later hbel c2
      have HB1 : Hid (k = 0 ∨ ltStr (d[k - 1]'(by omega)).1 d[k].1 = true → ∀ j (hj : j + 1 < d.length), j + 1 < k + 1 → ltStr (d[j]'(by omega)).1 d[j + 1].1 = true) := fun g j hj h => by
        by_cases e : j + 1 = k
        · rcases g with g | g
          · omega
          · subst e; exact g
        · exact HB.out j hj (by omega)
      have HBAD : Hid (0 < k → ltStr (d[k - 1]'(by omega)).1 d[k].1 = false → dictRight d = false) := fun g0 g => by
        refine dictRight_no2 (k - 1) (by omega) ?_
        simp only [show k - 1 + 1 = k from by omega]
        exact g
      obtain ⟨tp, htp⟩ : ∃ tp, tp = (d[k - 1]'(by omega)).1 := ⟨_, rfl⟩
      have HP : Hid (0 < k → wr.cell? ⟨b, off + (k - 1) * 2, none⟩ = some (str tp)) := fun g => by
        obtain ⟨b', off', _, _, he, g1, _⟩ := HC.out (k - 1) (by omega)
        simp only [Option.some.injEq, Addr.mk.injEq, and_true] at he
        obtain ⟨rfl, rfl⟩ := he
        rw [htp]; exact cell_later hbel g1
      rw [← htp] at HB1 HBAD
      obtain ⟨⟨t, ds⟩, hx⟩ : ∃ x, x = d[k] := ⟨_, rfl⟩
      rw [← hx] at hcw hcd htl HNO HOK HNXT hdr HB1 HBAD
      simp only at hcw hcd htl hdr HB1 HBAD
      obtain ⟨m, hmm⟩ : ∃ m, m = ds.length := ⟨_, rfl⟩
      rw [← hmm] at hcd hdr
      have HDS : Hid (ds.length = m) := hmm.symm
      have HDR := Lib.hid hdr
      clear hmm hdr hx htp c1 c2
      unfold str at hcw
      have hnew := heap_alloc_new wr (.cells #[.string (bstr t), .slice da m dc] 64)
      have e0' : (wr.alloc (.cells #[.string (bstr t), .slice da m dc] 64)).cell? ⟨wr.heap.size, 0, none⟩ = some (.string (bstr t)) := by rw [cell_of_row _ _ _ _ _ _ hnew]; rfl
      have e1' : (wr.alloc (.cells #[.string (bstr t), .slice da m dc] 64)).cell? ⟨wr.heap.size, 1, none⟩ = some (.slice da m dc) := by rw [cell_of_row _ _ _ _ _ _ hnew]; rfl
      have hB1 : Below w.heap.size w (wr.alloc (.cells #[.string (bstr t), .slice da m dc] 64)) := hbel.alloc hsz _
      have hbA : Below wr.heap.size wr (wr.alloc (.cells #[.string (bstr t), .slice da m dc] 64)) := (Below.refl _ _).alloc (Nat.le_refl _) _
      clear hnew
      rcases Nat.eq_zero_or_pos k with h0 | h0
      · subst h0
        have HBN := Lib.hid (HB1.out (.inl rfl))
        simp only [Nat.zero_mul, Nat.add_zero] at hcw hcd
        go_wp2_with fail
        generalize hW1 : (wr.alloc (.cells #[.string (bstr t), .slice da m dc] 64)) = W1 at *
        clear hW1
        go_wp2_with fail
        refine wp_region_quiet_below mixed (by kernel_rfl) ?_
        repeat (go_big_quiet_step (fail))
        refine wpQuiet_nil ?_
        intro W2 hw'
        obtain ⟨⟨dq, osq⟩, hw''⟩ := hw'
        have hbW := below_regrown W1 dq osq
        rw [← hw''] at hbW
        clear hw''
        have e0 := cell_later hbW e0'
        have e1 := cell_later hbW e1'
        have B2 : Below w.heap.size w W2 := hB1.trans (hbW.mono hB1.size)
        by_cases hm0 : m = 0
        · have i0 : ((m : Int) == 0) = true := by rw [hm0]; rfl
          have hbad : entOK (t, ds) = false := by
            rw [Bool.eq_false_iff]
            intro g
            exact (HOK.out.1 g).1 (List.length_eq_zero_iff.1 (HDS.out.trans hm0))
          have HR := Lib.hid (HNO.out hbad)
          clear hbad
          go_wp2
          go_ret
          exact ⟨by rw [HR.out]; rfl, B2⟩
        · have i0 : ((m : Int) == 0) = false := beq_eq_false_iff_ne.2 (by omega)
          have HPR := Lib.hid (postright_any (.slice da m dc) m ds W2 HDS.out (HDR.out.below B2))
          cases hpr : postRight ds with
          | false =>
            have hbad : entOK (t, ds) = false := by
              rw [Bool.eq_false_iff]
              intro g
              have := (HOK.out.1 g).2.1
              rw [hpr] at this
              cases this
            have HR := Lib.hid (HNO.out hbad)
            rw [hpr] at HPR
            clear hbad hpr
            go_wp2_with (go_at_call 39; refine HPR.out.mono ?_; rintro e w' ⟨rfl, rfl⟩)
            go_ret
            exact ⟨by rw [HR.out]; rfl, B2⟩
          | true =>
            rw [hpr] at HPR
            have HTK2 := HTK.out t W2 B2 htl
            cases hrt : rightTok t with
            | false =>
              have hbad : entOK (t, ds) = false := by
                rw [Bool.eq_false_iff]
                intro g
                have := (HOK.out.1 g).2.2
                rw [hrt] at this
                cases this
              have HR := Lib.hid (HNO.out hbad)
              rw [hrt] at HTK2
              have HTK3 := Lib.hid HTK2
              clear hbad hpr hrt HTK2
              go_wp2_with (first | (go_at_call 39; refine HPR.out.mono ?_; rintro e w' ⟨rfl, rfl⟩) | (go_at_call 62; refine HTK3.out.mono ?_; rintro e w5 ⟨rfl, hb5⟩; have B5 := B2.trans (hb5.mono B2.size)))
              go_ret
              exact ⟨by rw [HR.out]; rfl, B5⟩
            | true =>
              have hgood : entOK (t, ds) = true := HOK.out.2 ⟨fun e => hm0 (by have := HDS.out; rw [show ds = [] from e] at this; simpa using this.symm), hpr, hrt⟩
              have HR := Lib.hid (HNXT.out hgood)
              rw [hrt] at HTK2
              have HTK3 := Lib.hid HTK2
              clear hgood hpr hrt HTK2
              go_wp2_with (first | (go_at_call 39; refine HPR.out.mono ?_; rintro e w' ⟨rfl, rfl⟩) | (go_at_call 62; refine HTK3.out.mono ?_; rintro e w5 ⟨rfl, hb5⟩; have B5 := B2.trans (hb5.mono B2.size)))
              go_roundw
              case rel => exact ⟨0 + 1, by omega, by go_num, HR.out, HBN.out, B5⟩
              case measure => simp [intOf]; omega
      · have hcp := HP.out h0
        have cp1 := cell_later hbA hcp
        unfold str at cp1
        have i1 : (0 : Int) < (k : Int) := by omega
        have i5 : ¬ (k : Int) < 1 := by omega
        have i2 : (0 : Int) ≤ (k : Int) - 1 := by omega
        have i3 : (k : Int) - 1 < (n : Int) := by omega
        have i4 : ((k : Int) - 1).toNat = k - 1 := by omega
        have hwk : IntKind.i64.wrap ((k : Int) - 1) = (k : Int) - 1 := by rw [IntKind.wrap_i64]; omega
        have nl := less_is' t tp
        have b1 := btoList t
        have b2 := btoList tp
        clear hcp
        go_wp2_with fail
        generalize hW1 : (wr.alloc (.cells #[.string (bstr t), .slice da m dc] 64)) = W1 at *
        clear hW1
        cases hlt2 : ltStr tp t with
        | true =>
          have HBN := Lib.hid (HB1.out (.inr hlt2))
          have hne : ((bstr t).toList == (bstr tp).toList) = false := by
            rw [b1, b2, beq_eq_false_iff_ne]
            rintro rfl
            rw [swo_ltStr.irrefl] at hlt2; cases hlt2
          rw [swo_ltStr.asymmA hlt2] at nl
          clear b1 b2 hlt2
          have e0r := cell_regrown e0'
          have cpr := cell_regrown cp1
          go_wp2_with fail
          refine wp_region_quiet_below mixed (by kernel_rfl) ?_
          repeat (go_big_quiet_step (fail))
          refine wpQuiet_nil ?_
          intro W2 hw'
          obtain ⟨⟨dq, osq⟩, hw''⟩ := hw'
          have hbW := below_regrown W1 dq osq
          rw [← hw''] at hbW
          clear hw'' e0r cpr
          have e0 := cell_later hbW e0'
          have e1 := cell_later hbW e1'
          have B2 : Below w.heap.size w W2 := hB1.trans (hbW.mono hB1.size)
          by_cases hm0 : m = 0
          · have i0 : ((m : Int) == 0) = true := by rw [hm0]; rfl
            have hbad : entOK (t, ds) = false := by
              rw [Bool.eq_false_iff]
              intro g
              exact (HOK.out.1 g).1 (List.length_eq_zero_iff.1 (HDS.out.trans hm0))
            have HR := Lib.hid (HNO.out hbad)
            clear hbad
            go_wp2
            go_ret
            exact ⟨by rw [HR.out]; rfl, B2⟩
          · have i0 : ((m : Int) == 0) = false := beq_eq_false_iff_ne.2 (by omega)
            have HPR := Lib.hid (postright_any (.slice da m dc) m ds W2 HDS.out (HDR.out.below B2))
            cases hpr : postRight ds with
            | false =>
              have hbad : entOK (t, ds) = false := by
                rw [Bool.eq_false_iff]
                intro g
                have := (HOK.out.1 g).2.1
                rw [hpr] at this
                cases this
              have HR := Lib.hid (HNO.out hbad)
              rw [hpr] at HPR
              clear hbad hpr
              go_wp2_with (go_at_call 39; refine HPR.out.mono ?_; rintro e w' ⟨rfl, rfl⟩)
              go_ret
              exact ⟨by rw [HR.out]; rfl, B2⟩
            | true =>
              rw [hpr] at HPR
              have HTK2 := HTK.out t W2 B2 htl
              cases hrt : rightTok t with
              | false =>
                have hbad : entOK (t, ds) = false := by
                  rw [Bool.eq_false_iff]
                  intro g
                  have := (HOK.out.1 g).2.2
                  rw [hrt] at this
                  cases this
                have HR := Lib.hid (HNO.out hbad)
                rw [hrt] at HTK2
                have HTK3 := Lib.hid HTK2
                clear hbad hpr hrt HTK2
                go_wp2_with (first | (go_at_call 39; refine HPR.out.mono ?_; rintro e w' ⟨rfl, rfl⟩) | (go_at_call 62; refine HTK3.out.mono ?_; rintro e w5 ⟨rfl, hb5⟩; have B5 := B2.trans (hb5.mono B2.size)))
                go_ret
                exact ⟨by rw [HR.out]; rfl, B5⟩
              | true =>
                have hgood : entOK (t, ds) = true := HOK.out.2 ⟨fun e => hm0 (by have := HDS.out; rw [show ds = [] from e] at this; simpa using this.symm), hpr, hrt⟩
                have HR := Lib.hid (HNXT.out hgood)
                rw [hrt] at HTK2
                have HTK3 := Lib.hid HTK2
                clear hgood hpr hrt HTK2
                go_wp2_with (first | (go_at_call 39; refine HPR.out.mono ?_; rintro e w' ⟨rfl, rfl⟩) | (go_at_call 62; refine HTK3.out.mono ?_; rintro e w5 ⟨rfl, hb5⟩; have B5 := B2.trans (hb5.mono B2.size)))
                go_roundw
                case rel => exact ⟨k + 1, by omega, by go_num, HR.out, HBN.out, B5⟩
                case measure => simp [intOf]; omega
        | false =>
          have HR := Lib.hid (HBAD.out h0 hlt2)
          by_cases he : t = tp
          · have hne : ((bstr t).toList == (bstr tp).toList) = true := by rw [he]; exact beq_self_eq_true _
            have nl2 : Op.bytesLess (bstr t).toList (bstr tp).toList = false := by rw [nl, he]; exact swo_ltStr.irrefl _
            clear b1 b2 hlt2 he nl
            have e0r := cell_regrown e0'
            have cpr := cell_regrown cp1
            go_wp2_with fail
            refine wp_region_quiet_below mixed (by kernel_rfl) ?_
            repeat (go_big_quiet_step (fail))
            refine wpQuiet_nil ?_
            intro W2 hw'
            obtain ⟨⟨dq, osq⟩, hw''⟩ := hw'
            have hbW := below_regrown W1 dq osq
            rw [← hw''] at hbW
            clear hw'' e0r cpr
            go_wp2
            go_ret
            exact ⟨by rw [HR.out]; rfl, hB1.trans (hbW.mono hB1.size)⟩
          · have nl2 : Op.bytesLess (bstr t).toList (bstr tp).toList = true := by
              rw [nl]
              cases h : ltStr t tp with
              | true => rfl
              | false => exact absurd (totStr t tp h hlt2) he
            have hne : ((bstr t).toList == (bstr tp).toList) = false := by rw [b1, b2, beq_eq_false_iff_ne]; exact he
            clear b1 b2 hlt2 he nl
            have e0r := cell_regrown e0'
            have cpr := cell_regrown cp1
            go_wp2_with fail
            refine wp_region_quiet_below mixed (by kernel_rfl) ?_
            repeat (go_big_quiet_step (fail))
            refine wpQuiet_nil ?_
            intro W2 hw'
            obtain ⟨⟨dq, osq⟩, hw''⟩ := hw'
            have hbW := below_regrown W1 dq osq
            rw [← hw''] at hbW
            clear hw'' e0r cpr
            go_wp2
            go_ret
            exact ⟨by rw [HR.out]; rfl, hB1.trans (hbW.mono hB1.size)⟩
    · have ki : ¬ (k : Int) < (n : Int) := by omega
      have HR : Hid (dictRight d = true) := dictRight_yes (fun j hj => HA.out j hj (by have := HL.out; omega)) (fun j hj => HB.out j hj (by have := HL.out; omega))
      go_wp2
      go_ret
      exact ⟨by rw [HR.out]; rfl, hbel⟩
end Go.Proofs.YteegbjjpjdlcmaaDoor
