/- rubrickref05.Right. -/
import Derived.Test.YteegbjjpjdlcmaaDoorRef04c
set_option linter.unusedVariables false
namespace Go.Proofs.YteegbjjpjdlcmaaDoor
open Go.RowKit Go.Sort

def goodC (c : Int) : Bool := inWord c && small c == c

set_option maxRecDepth 100000 in
set_option maxHeartbeats 4000000 in
theorem rtok05_any (s : List UInt8) (w : World) (hn : s.length ≤ 100000) :
    Calls Tryd.prog 51 #[.string (bstr s)] w fun e w' => e = .returned (.bool (rightTok s)) ∧ Below w.heap.size w w' := by
  have hconv := run_bytes_of_string (P := Tryd.prog) w 9 72 5 (bstr s) Tryd.underlying9 Tryd.underlying72 Tryd.underlying5
  have hrd := rd_bytes w s 5 (by unfold maxLen; omega)
  generalize hW : (w.drew.alloc (.cells (bytesRow (bstr s) (grownCap w (bstr s).size 0 5)) 5 ((bytesRow (bstr s) (grownCap w (bstr s).size 0 5)).size, (bytesRow (bstr s) (grownCap w (bstr s).size 0 5)).size + 1))) = W at *
  have hbW : Below w.heap.size w W := by rw [← hW]; exact ((Below.refl _ _).drew).alloc (Nat.le_refl _) _
  clear hW
  generalize (Value.slice (some ⟨w.heap.size, 0, none⟩) (bstr s).size (grownCap w (bstr s).size 0 5)) = v at *
  have hD := rdecode_any v s W hrd hn
  have hbd := decode_bd s
  have hlen := decode_len s
  have hr : rightTok s = ((decode s).all goodC && decide (0 < (decode s).length) && decide (s.length ≤ 64)) := by rw [← refTok_is]; rfl
  have hsz := size_bstr s
  generalize decode s = cs at *
  have HD := Lib.hid hD
  have HR := Lib.hid hr
  have HBD := Lib.hid hbd
  clear hD hrd hr hbd
  go_enter Tryd.func51, Tryd.ntmps51
  go_wp2_with (go_at_call 84; refine HD.out.mono ?_; rintro e w1 ⟨v1, rfl, hown1, hb1⟩; have hB1 : Below w.heap.size w w1 := hbW.trans (hb1.mono hbW.size))
  rcases Nat.eq_zero_or_pos cs.length with h0 | h0
  · have hx : cs = [] := List.length_eq_zero_iff.1 h0
    subst hx
    obtain ⟨a1, c1, rfl⟩ := own_shape hown1
    refine wp_loop_rounds 1 ?_; rw [rounds_succ]
    go_wp2
    go_ret
    exact ⟨by rw [HR.out]; rfl, hB1⟩
  · obtain ⟨g, c1, rfl⟩ := own_form hown1 h0
    go_loopw [4] (fun i wr => ∃ k : Nat, k ≤ cs.length ∧ i = .int .i64 k ∧ Hid ((cs.take k).all goodC = true) ∧ Below w1.heap.size w1 wr) (fun i _ => cs.length - (intOf i).toNat)
    case atStart => exact ⟨0, Nat.zero_le _, rfl, rfl, Below.refl _ _⟩
    case round =>
      obtain ⟨k, hk, rfl, HT, hbel⟩ := hrel
      have hbB := hB1.trans (hbel.mono hB1.size)
      by_cases hlt : k < cs.length
      · have hc0 := (own_below' hown1 hbel).cellAt k (by omega)
        rw [show (icells cs)[k]? = some (.int .i64 cs[k]) from by simp [icells, hlt]] at hc0
        have r1 := cell_regrown hc0
        have hcb := HBD.out cs[k] (List.getElem_mem hlt)
        have hin : (cs[k]) ∈ cs := List.getElem_mem hlt
        have hgood : Hid (∀ h : goodC cs[k] = true, (cs.take (k + 1)).all goodC = true) := fun h => by
          rw [List.take_succ_eq_append_getElem hlt, List.all_append, HT.out]
          simp [h]
        have hbad : Hid (goodC cs[k] = false → cs.all goodC = false) := fun h => by
          rw [List.all_eq_false]
          exact ⟨_, hin, by simp [h]⟩
        have hgd : Hid (goodC cs[k] = (inWord cs[k] && small cs[k] == cs[k])) := rfl
        generalize cs[k] = x at *
        have i1 : (k : Int) < (cs.length : Int) := by omega
        have i2 : (0 : Int) ≤ (k : Int) := by omega
        clear hc0 hin
        cases hiw : inWord x with
        | false =>
          have hgf : goodC x = false := by rw [hgd.out, hiw]; rfl
          have T1 := fun d os => Calls.regrown_of ((rin_any x (grow (redrawn wr d) os)).mono fun e w' ⟨h1, h2⟩ => ⟨h1, by rw [← h2]; exact Below.refl _ _⟩)
          rw [hiw] at T1
          have HX := Lib.hid (hbad.out hgf)
          clear hgood hbad hgd hiw hgf
          go_wp2_with fail
          refine wp_region_quiet_below (by kernel_rfl) (by kernel_rfl) ?_
          repeat (go_big_quiet_step (first | (go_at_call 85; with_reducible exact T1 _ _)))
          refine wpQuiet_nil ?_
          intro W2 hw'
          obtain ⟨⟨dq, osq⟩, hw''⟩ := hw'
          have hbq := hbB.trans ((below_regrown wr dq osq).mono hbB.size)
          rw [← hw''] at hbq
          clear hw'' T1 r1
          go_wp2
          go_ret
          exact ⟨by rw [HR.out, HX.out]; rfl, hbq⟩
        | true =>
          have T1 := fun d os => Calls.regrown_of ((rin_any x (grow (redrawn wr d) os)).mono fun e w' ⟨h1, h2⟩ => ⟨h1, by rw [← h2]; exact Below.refl _ _⟩)
          rw [hiw] at T1
          have T2 := fun d os => Calls.regrown_of ((rsmall_any x (grow (redrawn wr d) os) (by omega) (by omega)).mono fun e w' ⟨h1, h2⟩ => ⟨h1, by rw [← h2]; exact Below.refl _ _⟩)
          by_cases hsm : small x = x
          · have hgf : goodC x = true := by rw [hgd.out, hiw, hsm]; simp
            rw [hsm] at T2
            have HX := Lib.hid (hgood.out hgf)
            have n1 : (x != x) = false := by simp
            clear hgood hbad hgd hiw hgf hsm
            go_wp2_with fail
            refine wp_region_quiet_below (by kernel_rfl) (by kernel_rfl) ?_
            repeat (go_big_quiet_step (first | (go_at_call 85; with_reducible exact T1 _ _) | (go_at_call 86; with_reducible exact T2 _ _)))
            refine wpQuiet_nil ?_
            intro W2 hw'
            obtain ⟨⟨dq, osq⟩, hw''⟩ := hw'
            have hbq := hbel.trans ((below_regrown wr dq osq).mono hbel.size)
            rw [← hw''] at hbq
            clear hw'' T1 T2 r1
            go_wp2
            go_roundw
            case rel => exact ⟨k + 1, by omega, by go_num, HX.out, hbq⟩
            case measure => simp [intOf]; omega
          · have hgf : goodC x = false := by rw [hgd.out]; simp [hsm]
            have HX := Lib.hid (hbad.out hgf)
            have n1 : (small x != x) = true := by rw [bne_iff_ne]; exact hsm
            generalize small x = y at *
            clear hgood hbad hgd hiw hgf hsm
            go_wp2_with fail
            refine wp_region_quiet_below (by kernel_rfl) (by kernel_rfl) ?_
            repeat (go_big_quiet_step (first | (go_at_call 85; with_reducible exact T1 _ _) | (go_at_call 86; with_reducible exact T2 _ _)))
            refine wpQuiet_nil ?_
            intro W2 hw'
            obtain ⟨⟨dq, osq⟩, hw''⟩ := hw'
            have hbq := hbB.trans ((below_regrown wr dq osq).mono hbB.size)
            rw [← hw''] at hbq
            clear hw'' T1 T2 r1
            go_wp2
            go_ret
            exact ⟨by rw [HR.out, HX.out]; rfl, hbq⟩
      · have hke : k = cs.length := by omega
        subst hke
        have i0 : (0 : Int) < (cs.length : Int) := by omega
        have hall : cs.all goodC = true := by have := HT.out; rw [List.take_length] at this; exact this
        by_cases h64 : s.length ≤ 64
        · have i1 : (((bstr s).size : Nat) : Int) ≤ 64 := by omega
          have hrt : rightTok s = true := by rw [HR.out, hall]; simp; omega
          have HRT := Lib.hid hrt
          clear hrt hall HR
          go_wp2
          go_ret
          exact ⟨by rw [HRT.out]; first | rfl | (simp; omega), hbB⟩
        · have i1 : ¬ (((bstr s).size : Nat) : Int) ≤ 64 := by omega
          have hrt : rightTok s = false := by rw [HR.out]; simp [h64]
          have HRT := Lib.hid hrt
          clear hrt hall HR
          go_wp2
          go_ret
          exact ⟨by rw [HRT.out]; first | rfl | (simp; omega), hbB⟩
end Go.Proofs.YteegbjjpjdlcmaaDoor
