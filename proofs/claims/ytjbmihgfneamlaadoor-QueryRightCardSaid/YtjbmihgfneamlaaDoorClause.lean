/- (*query.parser).clause: the walk. -/
import Derived.Test.YtjbmihgfneamlaaDoorUnit
set_option linter.unusedVariables false
namespace Go.Proofs.YtjbmihgfneamlaaDoor
open Go.RowKit

/-- the number of the next element, as it lies in memory: for measures. -/
def nxIn (B : Nat) (w : World) : Nat := match w.cell? ⟨B, 1, none⟩ with | some (.int _ q) => q.toNat | _ => 0
theorem nxIn_st {b0 B : Nat} {es : List El} {ev ov : Value} {w : World} {s : PS} (h : PSt b0 B es ev w s ov) : nxIn B w = s.nx := by
  unfold nxIn
  rw [h.pm.cells.2.1]
  simp

theorem fld0 (a b : Int) (c : ByteArray) : ∀ w : World, (Instr.field 66 (.agg #[.int .i64 a, .int .i64 b, .string c]) 0).run Tryd.prog w = .ok (.int .i64 a) w := fun _ => by kernel_rfl

theorem ret_err {a b : Int} (h : a = b) : Ending.returned (.int .i64 a) = .returned (.int .i64 b) := by rw [h]

set_option maxRecDepth 100000 in
set_option maxHeartbeats 4000000 in
theorem clause_ok (es : List El) (hf : es.length ≤ 20000) (hE : Ended es) (d G : Nat) (hd : d ≤ 8) (u : PS → Int × PS) (hk : Keeps es u) (hu : PartOK 84 es d u) (hG : es.length ≤ G) : PartOK 60 es d (clauseP u es G) := by
  intro b0 B ev ov s w h hs ho hw
  obtain ⟨i0, hi, hz0, hz1, hz2⟩ := info_parts infoOp
  have hu0 := hu b0 B ev ov s w h hs ho hw
  have kp := hk s hs
  have hcl : clauseP u es G s = if (u s).1 ≠ 0 then u s else clauseLoop u es G (u s).2 := rfl
  generalize clauseP u es G s = fin at *
  generalize u s = r at *
  obtain ⟨e1, s1⟩ := r
  have HU0 := Lib.hid hu0
  have HCL := Lib.hid hcl
  clear hu0 hcl
  by_cases he : e1 = 0
  · subst he
    have hcl := HCL.out
    rw [if_neg (by simp)] at hcl
    have kok := kp.ok rfl
    have k1 := kp.lt
    have k4 := kp.wd
    simp only at k1 k4 kok hcl
    have HCL2 := Lib.hid hcl
    have HKP := Lib.hid kp
    clear HCL hcl kp
    go_enter Tryd.func60, Tryd.ntmps60
    go_wp2_with (go_at_call 84; refine HU0.out.mono ?_; rintro e w1 ⟨rfl, ov1, h1, hc1⟩)
    go_loopw [6] (fun _ wr => ∃ (g : Nat) (t : PS) (ovr : Value), PSt b0 B es ev wr t ovr ∧ PChg b0 B w wr ∧ t.nx < es.length ∧ t.ops.length + 1 ≤ 2 * t.nx ∧ t.wd ≤ 16 ∧ es.length ≤ g + t.nx ∧ Hid (fin = clauseLoop u es g t)) (fun _ wr => es.length - nxIn B wr)
    case atStart => exact ⟨G, s1, ov1, h1, hc1, k1, by omega, by omega, by omega, HCL2.out⟩
    case round =>
      obtain ⟨g, t, ovr, ht, hct, htn, hto, htw, htg, HT⟩ := hrel
      have hnx := nxIn_st ht
      have HNX := Lib.hid hnx
      have hp := peek_st ht hf htn
      have HP := Lib.hid hp
      clear hnx hp
      obtain ⟨g, rfl⟩ : ∃ g', g = g' + 1 := ⟨g - 1, by omega⟩
      by_cases hop : knd es t.nx = 38 ∨ knd es t.nx = 33
      · rcases hop with hk38 | hk38
        · have hlt := hE t.nx htn (by rw [hk38]; omega)
          have hT := HT.out
          simp only [clauseLoop] at hT
          rw [if_pos (by rw [hk38]; omega)] at hT
          have HUU : ∀ (W : World), PSt b0 B es ev W { t with nx := t.nx + 1 } ovr → Calls Tryd.prog 84 #[.pointer (some ⟨B, 0, none⟩), .int .i64 d] W (Ret b0 B es ev (u { t with nx := t.nx + 1 }) W) := fun W hW => hu b0 B ev ovr _ W hW hlt (by simp only; omega) htw
          have kp2 := hk { t with nx := t.nx + 1 } hlt
          generalize u { t with nx := t.nx + 1 } = r at *
          obtain ⟨e2, s2⟩ := r
          have kp2o := kp2.ok
          have kp2l := kp2.lt
          have kp2w := kp2.wd
          have HT2 := Lib.hid hT
          have HK := Lib.hid hk38
          have hop := HK.out
          have hfd := fld0 (knd es t.nx) (posAt es t.nx) (bstr (trm es t.nx))
          have n1 : (knd es t.nx == 38) = true := by rw [hop]; rfl
          simp only at kp2o kp2l kp2w hlt
          clear kp2 hT hk38 hop HT
          have HO2 := Lib.hid kp2o
          clear kp2o
          by_cases he2 : e2 = 0
          · subst he2
            have kok2 := HO2.out rfl
            have HKK := Lib.hid kok2
            have hfin := HT2.out
            rw [if_neg (by simp)] at hfin
            have HFIN := Lib.hid hfin
            have hlen : s2.ops.length + 2 ≤ 2 * s2.nx := by have := HKK.out; omega
            clear hfin kok2
            go_wp2_with (first | (go_at_call 39; refine HP.out.mono ?_; rintro e w2 ⟨rfl, hb2⟩; have h2 := ht.below hb2; obtain ⟨c0, c1, c2, c3⟩ := h2.pm.cells; have f1 := h2.pm.free 1; have h3 := h2.setNx (t.nx + 1); rw [show ((t.nx + 1 : Nat) : Int) = (t.nx : Int) + 1 from by omega] at h3) | (go_at_call 84; refine (HUU _ h3).mono ?_; rintro e w3 ⟨rfl, ov3, h4, hc4⟩; obtain ⟨d0, d1, d2, d3⟩ := h4.pm.cells; have hc5 : PChg b0 B w w3 := ((hct.trans (PChg.of_below hb2 ht.size.1)).trans (PChg.set _ 1 _ h.le)).trans hc4) | (at_builtin; refine wpList_app rfl _ _ _ _ rfl b0 38 i0 _ 2 24 Tryd.underlying22 hi hz0 hz1 hz2 rfl ov3 s2.ops.length _ rfl (h4.below ((Below.refl w3.heap.size w3).alloc (Nat.le_refl _) (.cells #[.int .i64 1, .string ByteArray.empty] 38))).own _ 1 [.int .i64 1, .string ByteArray.empty] rfl (src_new Tryd.underlying22 w3 _ 2 1 1 rfl (by intro u hu; simp at hu; rcases hu with rfl | rfl <;> rfl)) (by unfold maxLen; omega) (by omega) (by have := h4.size; simp; omega) ?_; intro v5 w5 hown5 hgr5 _ _; have hb5 := (Below.refl w3.heap.size w3).alloc (Nat.le_refl _) (.cells #[.int .i64 1, .string ByteArray.empty] 38); obtain ⟨hpm5, h6⟩ := (h4.below hb5).grownOps (op := (1, [])) hown5 hgr5; have hc6 : PChg b0 B w w5 := (hc5.trans (PChg.of_below hb5 h4.size.1)).trans (PChg.grown (h4.below hb5).own hgr5 (h4.below hb5).size.1); obtain ⟨a2, cc2, rfl⟩ := own_shape hown5; have k1 := hpm5.cells.2.2.2; have k3 := hpm5.free 3))
            have hc7 := hc6.trans (PChg.set w5 3 (.slice a2 (s2.ops.length + 1) cc2) h.le)
            generalize w5.setCell ⟨B, 3, none⟩ (.slice a2 (s2.ops.length + 1) cc2) = w6 at *
            have hnx6 := nxIn_st h6
            have HNX6 := Lib.hid hnx6
            have HLT : es.length - nxIn B w6 < es.length - nxIn B wr := by have h1 := HNX6.out; have h2 := HNX.out; have h3 := HKK.out; simp only at h1; omega
            clear hnx6
            have HREL : ∃ (g : Nat) (t : PS) (ovr : Value), PSt b0 B es ev w6 t ovr ∧ PChg b0 B w w6 ∧ t.nx < es.length ∧ t.ops.length + 1 ≤ 2 * t.nx ∧ t.wd ≤ 16 ∧ es.length ≤ g + t.nx ∧ Hid (fin = clauseLoop u es g t) := ⟨g, _, _, h6, hc7, by simp only; omega, by simp; omega, by simp only; omega, by have := HKK.out; simp only; omega, by show _ = _; rw [HFIN.out, HK.out]; rfl⟩
            go_round
            · exact HREL
            · exact HLT
          · have he2' : (e2 != 0) = true := by rw [bne_iff_ne]; exact he2
            have hfin := HT2.out
            rw [if_pos he2] at hfin
            have HFIN := Lib.hid hfin
            clear hfin he2
            go_wp2_with (first | (go_at_call 39; refine HP.out.mono ?_; rintro e w2 ⟨rfl, hb2⟩; have h2 := ht.below hb2; obtain ⟨c0, c1, c2, c3⟩ := h2.pm.cells; have f1 := h2.pm.free 1; have h3 := h2.setNx (t.nx + 1); rw [show ((t.nx + 1 : Nat) : Int) = (t.nx : Int) + 1 from by omega] at h3) | (go_at_call 84; refine (HUU _ h3).mono ?_; rintro e w3 ⟨rfl, ov3, h4, hc4⟩; obtain ⟨d0, d1, d2, d3⟩ := h4.pm.cells; have hc5 : PChg b0 B w w3 := ((hct.trans (PChg.of_below hb2 ht.size.1)).trans (PChg.set _ 1 _ h.le)).trans hc4))
            go_ret
            rw [HFIN.out]
            exact ⟨rfl, ov3, h4, hc5⟩
        · have hlt := hE t.nx htn (by rw [hk38]; omega)
          have hT := HT.out
          simp only [clauseLoop] at hT
          rw [if_pos (by rw [hk38]; omega)] at hT
          have HUU : ∀ (W : World), PSt b0 B es ev W { t with nx := t.nx + 1 } ovr → Calls Tryd.prog 84 #[.pointer (some ⟨B, 0, none⟩), .int .i64 d] W (Ret b0 B es ev (u { t with nx := t.nx + 1 }) W) := fun W hW => hu b0 B ev ovr _ W hW hlt (by simp only; omega) htw
          have kp2 := hk { t with nx := t.nx + 1 } hlt
          generalize u { t with nx := t.nx + 1 } = r at *
          obtain ⟨e2, s2⟩ := r
          have kp2o := kp2.ok
          have kp2l := kp2.lt
          have kp2w := kp2.wd
          have HT2 := Lib.hid hT
          have HK := Lib.hid hk38
          have hop := HK.out
          have hfd := fld0 (knd es t.nx) (posAt es t.nx) (bstr (trm es t.nx))
          have n1 : (knd es t.nx == 38) = false := by rw [hop]; rfl
          have n2 : (knd es t.nx == 33) = true := by rw [hop]; rfl
          simp only at kp2o kp2l kp2w hlt
          clear kp2 hT hk38 hop HT
          have HO2 := Lib.hid kp2o
          clear kp2o
          by_cases he2 : e2 = 0
          · subst he2
            have kok2 := HO2.out rfl
            have HKK := Lib.hid kok2
            have hfin := HT2.out
            rw [if_neg (by simp)] at hfin
            have HFIN := Lib.hid hfin
            have hlen : s2.ops.length + 2 ≤ 2 * s2.nx := by have := HKK.out; omega
            clear hfin kok2
            go_wp2_with (first | (go_at_call 39; refine HP.out.mono ?_; rintro e w2 ⟨rfl, hb2⟩; have h2 := ht.below hb2; obtain ⟨c0, c1, c2, c3⟩ := h2.pm.cells; have f1 := h2.pm.free 1; have h3 := h2.setNx (t.nx + 1); rw [show ((t.nx + 1 : Nat) : Int) = (t.nx : Int) + 1 from by omega] at h3) | (go_at_call 84; refine (HUU _ h3).mono ?_; rintro e w3 ⟨rfl, ov3, h4, hc4⟩; obtain ⟨d0, d1, d2, d3⟩ := h4.pm.cells; have hc5 : PChg b0 B w w3 := ((hct.trans (PChg.of_below hb2 ht.size.1)).trans (PChg.set _ 1 _ h.le)).trans hc4) | (at_builtin; refine wpList_app rfl _ _ _ _ rfl b0 38 i0 _ 2 24 Tryd.underlying22 hi hz0 hz1 hz2 rfl ov3 s2.ops.length _ rfl (h4.below ((Below.refl w3.heap.size w3).alloc (Nat.le_refl _) (.cells #[.int .i64 3, .string ByteArray.empty] 38))).own _ 1 [.int .i64 3, .string ByteArray.empty] rfl (src_new Tryd.underlying22 w3 _ 2 1 1 rfl (by intro u hu; simp at hu; rcases hu with rfl | rfl <;> rfl)) (by unfold maxLen; omega) (by omega) (by have := h4.size; simp; omega) ?_; intro v5 w5 hown5 hgr5 _ _; have hb5 := (Below.refl w3.heap.size w3).alloc (Nat.le_refl _) (.cells #[.int .i64 3, .string ByteArray.empty] 38); obtain ⟨hpm5, h6⟩ := (h4.below hb5).grownOps (op := (3, [])) hown5 hgr5; have hc6 : PChg b0 B w w5 := (hc5.trans (PChg.of_below hb5 h4.size.1)).trans (PChg.grown (h4.below hb5).own hgr5 (h4.below hb5).size.1); obtain ⟨a2, cc2, rfl⟩ := own_shape hown5; have k1 := hpm5.cells.2.2.2; have k3 := hpm5.free 3))
            have hc7 := hc6.trans (PChg.set w5 3 (.slice a2 (s2.ops.length + 1) cc2) h.le)
            generalize w5.setCell ⟨B, 3, none⟩ (.slice a2 (s2.ops.length + 1) cc2) = w6 at *
            have hnx6 := nxIn_st h6
            have HNX6 := Lib.hid hnx6
            have HLT : es.length - nxIn B w6 < es.length - nxIn B wr := by have h1 := HNX6.out; have h2 := HNX.out; have h3 := HKK.out; simp only at h1; omega
            clear hnx6
            have HREL : ∃ (g : Nat) (t : PS) (ovr : Value), PSt b0 B es ev w6 t ovr ∧ PChg b0 B w w6 ∧ t.nx < es.length ∧ t.ops.length + 1 ≤ 2 * t.nx ∧ t.wd ≤ 16 ∧ es.length ≤ g + t.nx ∧ Hid (fin = clauseLoop u es g t) := ⟨g, _, _, h6, hc7, by simp only; omega, by simp; omega, by simp only; omega, by have := HKK.out; simp only; omega, by show _ = _; rw [HFIN.out, HK.out]; rfl⟩
            go_round
            · exact HREL
            · exact HLT
          · have he2' : (e2 != 0) = true := by rw [bne_iff_ne]; exact he2
            have hfin := HT2.out
            rw [if_pos he2] at hfin
            have HFIN := Lib.hid hfin
            clear hfin he2
            go_wp2_with (first | (go_at_call 39; refine HP.out.mono ?_; rintro e w2 ⟨rfl, hb2⟩; have h2 := ht.below hb2; obtain ⟨c0, c1, c2, c3⟩ := h2.pm.cells; have f1 := h2.pm.free 1; have h3 := h2.setNx (t.nx + 1); rw [show ((t.nx + 1 : Nat) : Int) = (t.nx : Int) + 1 from by omega] at h3) | (go_at_call 84; refine (HUU _ h3).mono ?_; rintro e w3 ⟨rfl, ov3, h4, hc4⟩; obtain ⟨d0, d1, d2, d3⟩ := h4.pm.cells; have hc5 : PChg b0 B w w3 := ((hct.trans (PChg.of_below hb2 ht.size.1)).trans (PChg.set _ 1 _ h.le)).trans hc4))
            go_ret
            rw [HFIN.out]
            exact ⟨rfl, ov3, h4, hc5⟩
      · have hfin : Hid (fin = (0, t)) := by
          show _ = _
          rw [HT.out]; simp only [clauseLoop]; rw [if_neg hop]
        have n1 : (knd es t.nx == 38) = false := beq_eq_false_iff_ne.2 (by omega)
        have n2 : (knd es t.nx == 33) = false := beq_eq_false_iff_ne.2 (by omega)
        clear hop
        have hfd := fld0 (knd es t.nx) (posAt es t.nx) (bstr (trm es t.nx))
        go_wp2_with (go_at_call 39; refine HP.out.mono ?_; rintro e w2 ⟨rfl, hb2⟩)
        go_ret
        rw [hfin.out]
        exact ⟨rfl, ovr, ht.below hb2, hct.trans (PChg.of_below hb2 ht.size.1)⟩
  · have hcl := HCL.out
    rw [if_pos he] at hcl
    have HCL2 := Lib.hid hcl
    have he' : (e1 != 0) = true := by rw [bne_iff_ne]; exact he
    clear HCL hcl he
    go_enter Tryd.func60, Tryd.ntmps60
    go_wp2_with (go_at_call 84; refine HU0.out.mono ?_; rintro e w1 ⟨rfl, ov1, h1, hc1⟩)
    go_ret
    rw [HCL2.out]
    exact ⟨rfl, ov1, h1, hc1⟩
end Go.Proofs.YtjbmihgfneamlaaDoor
