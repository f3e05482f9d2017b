/- rubrickref10.Right. -/
import Derived.Test.YteegbjjpjdlcmaaDoorRefDict
set_option linter.unusedVariables false
namespace Go.Proofs.YteegbjjpjdlcmaaDoor
open Go.RowKit Go.Sort

set_option maxRecDepth 100000 in
set_option maxHeartbeats 8000000 in
theorem rdict_any (v : Value) (n : Nat) (d : List Ent) (w : World) (h : DRd w v n d) (hts : ∀ e ∈ d, e.1.length ≤ 100000) :
    Calls Tryd.prog 34 #[v] w fun e w' => e = .returned (.bool (dictRight d)) ∧ Below w.heap.size w w' := by
  have hl := h.1
  obtain ⟨ao, c, rfl, hm, HC⟩ := dict_cells h
  have mixed : Tryd.prog.follows .mixedOrders = true := by kernel_rfl
  have HL := Lib.hid hl
  have HTS := Lib.hid hts
  clear h hl hts
  go_enter Tryd.func34, Tryd.ntmps34
  go_wp2
  go_loopw [3] (fun i wr => ∃ k : Nat, k ≤ n ∧ i = .int .i64 k ∧ Hid (∀ j (hj : j < d.length), j < k → entOK d[j] = true) ∧ Hid (∀ j (hj : j + 1 < d.length), j < k → ltStr (d[j]'(by omega)).1 d[j + 1].1 = true) ∧ Below w.heap.size w wr) (fun i _ => n - (intOf i).toNat)
  case atStart => exact ⟨0, Nat.zero_le _, rfl, fun j hj h => by omega, fun j hj h => by omega, Below.refl _ _⟩
  case round =>
    obtain ⟨k, hk, rfl, HA, HB, hbel⟩ := hrel
    have hsz := hbel.size
    by_cases hlt : k < n
    · have hkd : k < d.length := by have := HL.out; omega
      obtain ⟨b, off, da, dc, rfl, c1, c2, hdr⟩ := HC.out k hkd
      have ki : (k : Int) < (n : Int) := by omega
      have k0' : (0 : Int) ≤ (k : Int) := by omega
      have htl := HTS.out d[k] (List.getElem_mem hkd)
      have HNO : Hid (entOK d[k] = false → dictRight d = false) := dictRight_no1 k hkd
      have HOK := Lib.hid (entOK_iff d[k])
      have HNXT : Hid (entOK d[k] = true → ∀ j (hj : j < d.length), j < k + 1 → entOK d[j] = true) := fun g j hj h => by
        by_cases e : j = k
        · subst e; exact g
        · exact HA.out j hj (by omega)
      have HB1 : Hid ((∀ h : k + 1 < d.length, ltStr d[k].1 d[k + 1].1 = true) → ∀ j (hj : j + 1 < d.length), j < k + 1 → ltStr (d[j]'(by omega)).1 d[j + 1].1 = true) := fun g j hj h => by
        by_cases e : j = k
        · subst e; exact g hj
        · exact HB.out j hj (by omega)
      have HBAD : Hid (∀ h : k + 1 < d.length, ltStr d[k].1 d[k + 1].1 = false → dictRight d = false) := fun h g => dictRight_no2 k h g
      have HP : Hid (∀ h : k + 1 < d.length, w.cell? ⟨b, off + (k + 1) * 2, none⟩ = some (str d[k + 1].1)) := fun h => by
        obtain ⟨b', off', _, _, he, g1, _⟩ := HC.out (k + 1) h
        simp only [Option.some.injEq, Addr.mk.injEq, and_true] at he
        obtain ⟨rfl, rfl⟩ := he
        exact g1
      obtain ⟨⟨t, ds⟩, hx⟩ : ∃ x, x = d[k] := ⟨_, rfl⟩
      rw [← hx] at c1 c2 htl HNO HOK HNXT hdr HB1 HBAD
      simp only at c1 c2 htl hdr HB1 HBAD
      obtain ⟨m, hmm⟩ : ∃ m, m = ds.length := ⟨_, rfl⟩
      rw [← hmm] at c2 hdr
      have HDS : Hid (ds.length = m) := hmm.symm
      have HDR := Lib.hid hdr
      have hcw := cell_later hbel c1
      have hcd := cell_later hbel c2
      clear hmm hdr hx
      unfold str at hcw c1
      have HTK := Lib.hid (rtok05_any t wr htl)
      clear htl
      cases hrt : rightTok t with
      | false =>
        have hbad : entOK (t, ds) = false := by
          rw [Bool.eq_false_iff]
          intro g
          have := (HOK.out.1 g).2.2
          rw [hrt] at this
          cases this
        have HR := Lib.hid (HNO.out hbad)
        rw [hrt] at HTK
        clear hbad hrt
        go_wp2_with (go_at_call 51; refine HTK.out.mono ?_; rintro e w5 ⟨rfl, hb5⟩; have B5 := hbel.trans (hb5.mono hbel.size))
        go_ret
        exact ⟨by rw [HR.out]; rfl, B5⟩
      | true =>
        by_cases hm0 : m = 0
        · have i0 : ((m : Int) == 0) = true := by rw [hm0]; rfl
          have hbad : entOK (t, ds) = false := by
            rw [Bool.eq_false_iff]
            intro g
            exact (HOK.out.1 g).1 (List.length_eq_zero_iff.1 (HDS.out.trans hm0))
          have HR := Lib.hid (HNO.out hbad)
          rw [hrt] at HTK
          clear hbad hrt
          go_wp2_with (go_at_call 51; refine HTK.out.mono ?_; rintro e w5 ⟨rfl, hb5⟩; have B5 := hbel.trans (hb5.mono hbel.size); have d2 := cell_later hb5 hcd)
          go_ret
          exact ⟨by rw [HR.out]; rfl, B5⟩
        · have i0 : ((m : Int) == 0) = false := beq_eq_false_iff_ne.2 (by omega)
          have HPR : Hid (∀ W, Below w.heap.size w W → Calls Tryd.prog 48 #[.slice da m dc] W fun e w' => e = .returned (.bool (postRight ds)) ∧ Below W.heap.size W w') := fun W hW => rpost_any (.slice da m dc) m ds W HDS.out (HDR.out.below hW)
          cases hpr : postRight ds with
          | false =>
            have hbad : entOK (t, ds) = false := by
              rw [Bool.eq_false_iff]
              intro g
              have := (HOK.out.1 g).2.1
              rw [hpr] at this
              cases this
            have HR := Lib.hid (HNO.out hbad)
            rw [hpr] at HPR
            rw [hrt] at HTK
            clear hbad hpr hrt
            go_wp2_with (first | (go_at_call 51; refine HTK.out.mono ?_; rintro e w5 ⟨rfl, hb5⟩; have B5 := hbel.trans (hb5.mono hbel.size); have d2 := cell_later hb5 hcd) | (go_at_call 48; refine (HPR.out _ B5).mono ?_; rintro e w6 ⟨rfl, hb6⟩; have B6 := B5.trans (hb6.mono B5.size)))
            go_ret
            exact ⟨by rw [HR.out]; rfl, B6⟩
          | true =>
            have hgood : entOK (t, ds) = true := HOK.out.2 ⟨fun e => hm0 (by have := HDS.out; rw [show ds = [] from e] at this; simpa using this.symm), hpr, hrt⟩
            have HR := Lib.hid (HNXT.out hgood)
            rw [hpr] at HPR
            rw [hrt] at HTK
            clear hgood hpr hrt
            go_wp2_with (first | (go_at_call 51; refine HTK.out.mono ?_; rintro e w5 ⟨rfl, hb5⟩; have B5 := hbel.trans (hb5.mono hbel.size); have d2 := cell_later hb5 hcd) | (go_at_call 48; refine (HPR.out _ B5).mono ?_; rintro e w6 ⟨rfl, hb6⟩; have B6 := B5.trans (hb6.mono B5.size)))
            have s1 := cell_later B6 c1
            have hwk : IntKind.i64.wrap ((k : Int) + 1) = (k : Int) + 1 := by rw [IntKind.wrap_i64]; omega
            have k1 : (0 : Int) ≤ (k : Int) + 1 := by omega
            have k2 : ((k : Int) + 1).toNat = k + 1 := by omega
            by_cases hlast : k + 1 < n
            · have hkd1 : k + 1 < d.length := by have := HL.out; omega
              have hd1 : decide ((k : Int) + 1 < (n : Int)) = true := decide_eq_true (by omega)
              have hi1 : (k : Int) + 1 < (n : Int) := by omega
              have s2 := cell_later B6 (HP.out hkd1)
              have HB2 : Hid (ltStr t d[k + 1].1 = true → ∀ j (hj : j + 1 < d.length), j < k + 1 → ltStr (d[j]'(by omega)).1 d[j + 1].1 = true) := fun g => HB1.out fun _ => g
              have HBAD2 := Lib.hid (HBAD.out hkd1)
              obtain ⟨t2, ht2⟩ : ∃ t2, t2 = d[k + 1].1 := ⟨_, rfl⟩
              rw [← ht2] at s2 HB2 HBAD2
              clear ht2
              unfold str at s2
              have r1 := cell_regrown s1
              have r2 := cell_regrown s2
              have nl := less_is' t t2
              cases hlt2 : ltStr t t2 with
              | true =>
                rw [hlt2] at nl
                have HX := Lib.hid (HB2.out hlt2)
                clear hlt2
                go_wp2_with fail
                refine wp_region_quiet_below mixed (by kernel_rfl) ?_
                repeat (go_big_quiet_step (fail))
                refine wpQuiet_nil ?_
                intro W2 hw'
                obtain ⟨⟨dq, osq⟩, hw''⟩ := hw'
                have hbq := B6.trans ((below_regrown w6 dq osq).mono B6.size)
                rw [← hw''] at hbq
                clear hw'' r1 r2
                go_wp2
                go_roundw
                case rel => exact ⟨k + 1, by omega, by go_num, HR.out, HX.out, hbq⟩
                case measure => simp [intOf]; omega
              | false =>
                rw [hlt2] at nl
                have HX := Lib.hid (HBAD2.out hlt2)
                clear hlt2
                go_wp2_with fail
                refine wp_region_quiet_below mixed (by kernel_rfl) ?_
                repeat (go_big_quiet_step (fail))
                refine wpQuiet_nil ?_
                intro W2 hw'
                obtain ⟨⟨dq, osq⟩, hw''⟩ := hw'
                have hbq := B6.trans ((below_regrown w6 dq osq).mono B6.size)
                rw [← hw''] at hbq
                clear hw'' r1 r2
                go_wp2
                go_ret
                exact ⟨by rw [HX.out]; rfl, hbq⟩
            · have hd1 : decide ((k : Int) + 1 < (n : Int)) = false := decide_eq_false (by omega)
              have hi1 : ¬ (k : Int) + 1 < (n : Int) := by omega
              have HX := Lib.hid (HB1.out fun h => by have := HL.out; omega)
              go_wp2_with fail
              refine wp_region_quiet_below mixed (by kernel_rfl) ?_
              repeat (go_big_quiet_step (fail))
              refine wpQuiet_nil ?_
              intro W2 hw'
              obtain ⟨⟨dq, osq⟩, hw''⟩ := hw'
              have hbq := B6.trans ((below_regrown w6 dq osq).mono B6.size)
              rw [← hw''] at hbq
              clear hw''
              go_wp2
              go_roundw
              case rel => exact ⟨k + 1, by omega, by go_num, HR.out, HX.out, hbq⟩
              case measure => simp [intOf]; omega
    · have ki : ¬ (k : Int) < (n : Int) := by omega
      have hall := dictRight_yes (d := d) (fun i hi => HA.out i hi (by have := HL.out; omega)) (fun i hi => HB.out i hi (by have := HL.out; omega))
      have HR := Lib.hid hall
      clear hall
      go_wp2
      go_ret
      exact ⟨by rw [HR.out]; rfl, hbel⟩
end Go.Proofs.YteegbjjpjdlcmaaDoor
