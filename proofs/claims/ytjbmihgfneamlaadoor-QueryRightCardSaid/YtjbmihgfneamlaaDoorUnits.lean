/- (*query.parser).unit: the other ways, and the whole, by induction on the depth. -/
import Derived.Test.YtjbmihgfneamlaaDoorQuery
set_option linter.unusedVariables false
namespace Go.Proofs.YtjbmihgfneamlaaDoor
open Go.RowKit

set_option maxRecDepth 100000 in
set_option maxHeartbeats 2000000 in
theorem unit_other (es : List El) (hf : es.length ≤ 20000) (d : Nat) (hd : d ≤ 8) (b0 B : Nat) (ev ov : Value) (s : PS) (w : World) (h : PSt b0 B es ev w s ov) (hs : s.nx < es.length) (hk : knd es s.nx ≠ -1) (hk2 : knd es s.nx ≠ 40) :
    Calls Tryd.prog 84 #[.pointer (some ⟨B, 0, none⟩), .int .i64 d] w (Ret b0 B es ev (otherP es s) w) := by
  have hp := peek_st h hf hs
  have HP := Lib.hid hp
  clear hp
  have n1 : (knd es s.nx == -1) = false := beq_eq_false_iff_ne.2 hk
  have n2 : (knd es s.nx == 40) = false := beq_eq_false_iff_ne.2 hk2
  have hs1 := h.size.1
  by_cases h33 : knd es s.nx = 33
  · have n3 : (knd es s.nx == 33) = true := by rw [h33]; rfl
    have hfin : Hid (otherP es s = (9, s)) := by show _ = _; unfold otherP; rw [if_pos h33]
    clear hk hk2 h33
    go_enter Tryd.func84, Tryd.ntmps84
    go_wp2_with (go_at_call 39; refine HP.out.mono ?_; rintro e w1 ⟨rfl, hb1⟩)
    go_ret
    rw [hfin.out]
    exact ⟨rfl, _, h.below (hb1.alloc hb1.size _), PChg.of_below (hb1.alloc hb1.size _) hs1⟩
  · have n3 : (knd es s.nx == 33) = false := beq_eq_false_iff_ne.2 h33
    have hfin : Hid (otherP es s = (2, s)) := by show _ = _; unfold otherP; rw [if_neg h33]
    clear hk hk2 h33
    go_enter Tryd.func84, Tryd.ntmps84
    go_wp2_with (go_at_call 39; refine HP.out.mono ?_; rintro e w1 ⟨rfl, hb1⟩)
    go_ret
    rw [hfin.out]
    exact ⟨rfl, _, h.below (hb1.alloc hb1.size _), PChg.of_below (hb1.alloc hb1.size _) hs1⟩

set_option maxRecDepth 100000 in
set_option maxHeartbeats 2000000 in
theorem unit_deep (es : List El) (hf : es.length ≤ 20000) (b0 B : Nat) (ev ov : Value) (s : PS) (w : World) (h : PSt b0 B es ev w s ov) (hs : s.nx < es.length) (hk : knd es s.nx = 40) :
    Calls Tryd.prog 84 #[.pointer (some ⟨B, 0, none⟩), .int .i64 (8 : Nat)] w (Ret b0 B es ev (8, s) w) := by
  have hp := peek_st h hf hs
  rw [hk] at hp
  have HP := Lib.hid hp
  clear hp hk
  have hs1 := h.size.1
  rw [show ((8 : Nat) : Int) = 8 from rfl]
  go_enter Tryd.func84, Tryd.ntmps84
  go_wp2_with (go_at_call 39; refine HP.out.mono ?_; rintro e w1 ⟨rfl, hb1⟩)
  go_ret
  exact ⟨rfl, _, h.below (hb1.alloc hb1.size _), PChg.of_below (hb1.alloc hb1.size _) hs1⟩

set_option maxRecDepth 100000 in
set_option maxHeartbeats 2000000 in
theorem unit_paren (es : List El) (hf : es.length ≤ 20000) (hE : Ended es) (d : Nat) (hd : d < 8) (q : PS → Int × PS) (hkq : Keeps es q) (hq : PartOK 38 es (d + 1) q) (b0 B : Nat) (ev ov : Value) (s : PS) (w : World) (h : PSt b0 B es ev w s ov) (hs : s.nx < es.length) (ho : s.ops.length ≤ 2 * s.nx) (hw : s.wd ≤ 16) (hk : knd es s.nx = 40) :
    Calls Tryd.prog 84 #[.pointer (some ⟨B, 0, none⟩), .int .i64 d] w (Ret b0 B es ev (bracketP es (q { s with nx := s.nx + 1 })) w) := by
  have hlt := hE s.nx hs (.inr (.inr (.inr (.inl hk))))
  have hp := peek_st h hf hs
  rw [hk] at hp
  have HP := Lib.hid hp
  have hdi : ¬ (8 : Int) ≤ (d : Int) := by omega
  have HQ : ∀ (W : World), PSt b0 B es ev W { s with nx := s.nx + 1 } ov → Calls Tryd.prog 38 #[.pointer (some ⟨B, 0, none⟩), .int .i64 ((d : Int) + 1)] W (Ret b0 B es ev (q { s with nx := s.nx + 1 }) W) := by
    intro W hW
    have := hq b0 B ev ov _ W hW hlt (by simp only; omega) hw
    rw [show ((d + 1 : Nat) : Int) = (d : Int) + 1 from by omega] at this
    exact this
  have kp := hkq { s with nx := s.nx + 1 } hlt
  have hbr : bracketP es (q { s with nx := s.nx + 1 }) = if (q { s with nx := s.nx + 1 }).1 ≠ 0 then q { s with nx := s.nx + 1 } else if knd es (q { s with nx := s.nx + 1 }).2.nx ≠ 41 then (2, (q { s with nx := s.nx + 1 }).2) else (0, { (q { s with nx := s.nx + 1 }).2 with nx := (q { s with nx := s.nx + 1 }).2.nx + 1 }) := rfl
  generalize bracketP es (q { s with nx := s.nx + 1 }) = fin at *
  generalize q { s with nx := s.nx + 1 } = r at *
  obtain ⟨e1, s1⟩ := r
  have k1 := kp.lt
  simp only at k1 hbr
  have HBR := Lib.hid hbr
  clear hp hk kp hbr
  have hs1 := h.size.1
  by_cases he : e1 = 0
  · subst he
    have hfin := HBR.out
    rw [if_neg (by simp)] at hfin
    by_cases h41 : knd es s1.nx = 41
    · rw [if_neg (by simpa using h41)] at hfin
      have HFIN := Lib.hid hfin
      have HK := Lib.hid h41
      clear hfin HBR h41
      have n1 : (knd es s1.nx != 41) = false := by rw [HK.out]; rfl
      have hfd := fld0 (knd es s1.nx) (posAt es s1.nx) (bstr (trm es s1.nx))
      go_enter Tryd.func84, Tryd.ntmps84
      go_wp2_with (first | (go_at_call 38; refine (HQ _ h3).mono ?_; rintro e w3 ⟨rfl, ov3, h4, hc4⟩; have hc5 : PChg b0 B w w3 := ((PChg.of_below (hb1.alloc hb1.size _) hs1).trans (PChg.set _ 1 _ h.le)).trans hc4; have hp4 := peek_st h4 hf k1; have HP4 := Lib.hid hp4; clear hp4) | (go_at_call 39; refine HP4.out.mono ?_; rintro e w4 ⟨rfl, hb4⟩; have h5 := h4.below hb4; obtain ⟨d0, d1, d2, d3⟩ := h5.pm.cells; have g1 := h5.pm.free 1) | (go_at_call 39; refine HP.out.mono ?_; rintro e w1 ⟨rfl, hb1⟩; have h2 := h.below (hb1.alloc hb1.size (.cells #[.int .i64 40, .int .i64 (posAt es s.nx), .string (bstr (trm es s.nx))] 66)); obtain ⟨c0, c1, c2, c3⟩ := h2.pm.cells; have f1 := h2.pm.free 1; have h3 := h2.setNx (s.nx + 1); rw [show ((s.nx + 1 : Nat) : Int) = (s.nx : Int) + 1 from by omega] at h3))
      go_ret
      rw [HFIN.out]
      have h6 := h5.setNx (s1.nx + 1)
      rw [show ((s1.nx + 1 : Nat) : Int) = (s1.nx : Int) + 1 from by omega] at h6
      exact ⟨rfl, ov3, h6, (hc5.trans (PChg.of_below hb4 h4.size.1)).trans (PChg.set _ 1 _ h.le)⟩
    · rw [if_pos h41] at hfin
      have HFIN := Lib.hid hfin
      have n1 : (knd es s1.nx != 41) = true := by rw [bne_iff_ne]; exact h41
      clear hfin HBR h41
      have hfd := fld0 (knd es s1.nx) (posAt es s1.nx) (bstr (trm es s1.nx))
      go_enter Tryd.func84, Tryd.ntmps84
      go_wp2_with (first | (go_at_call 38; refine (HQ _ h3).mono ?_; rintro e w3 ⟨rfl, ov3, h4, hc4⟩; have hc5 : PChg b0 B w w3 := ((PChg.of_below (hb1.alloc hb1.size _) hs1).trans (PChg.set _ 1 _ h.le)).trans hc4; have hp4 := peek_st h4 hf k1; have HP4 := Lib.hid hp4; clear hp4) | (go_at_call 39; refine HP4.out.mono ?_; rintro e w4 ⟨rfl, hb4⟩) | (go_at_call 39; refine HP.out.mono ?_; rintro e w1 ⟨rfl, hb1⟩; have h2 := h.below (hb1.alloc hb1.size (.cells #[.int .i64 40, .int .i64 (posAt es s.nx), .string (bstr (trm es s.nx))] 66)); obtain ⟨c0, c1, c2, c3⟩ := h2.pm.cells; have f1 := h2.pm.free 1; have h3 := h2.setNx (s.nx + 1); rw [show ((s.nx + 1 : Nat) : Int) = (s.nx : Int) + 1 from by omega] at h3))
      go_ret
      rw [HFIN.out]
      exact ⟨rfl, ov3, h4.below hb4, hc5.trans (PChg.of_below hb4 h4.size.1)⟩
  · have hfin := HBR.out
    rw [if_pos he] at hfin
    have HFIN := Lib.hid hfin
    have he' : (e1 != 0) = true := by rw [bne_iff_ne]; exact he
    clear hfin HBR he
    go_enter Tryd.func84, Tryd.ntmps84
    go_wp2_with (first | (go_at_call 38; refine (HQ _ h3).mono ?_; rintro e w3 ⟨rfl, ov3, h4, hc4⟩; have hc5 : PChg b0 B w w3 := ((PChg.of_below (hb1.alloc hb1.size _) hs1).trans (PChg.set _ 1 _ h.le)).trans hc4) | (go_at_call 39; refine HP.out.mono ?_; rintro e w1 ⟨rfl, hb1⟩; have h2 := h.below (hb1.alloc hb1.size (.cells #[.int .i64 40, .int .i64 (posAt es s.nx), .string (bstr (trm es s.nx))] 66)); obtain ⟨c0, c1, c2, c3⟩ := h2.pm.cells; have f1 := h2.pm.free 1; have h3 := h2.setNx (s.nx + 1); rw [show ((s.nx + 1 : Nat) : Int) = (s.nx : Int) + 1 from by omega] at h3))
    go_ret
    rw [HFIN.out]
    exact ⟨rfl, ov3, h4, hc5⟩

/-- a unit at whatever depth. -/
theorem unit_ok (es : List El) (hf : es.length ≤ 20000) (hE : Ended es) (G : Nat) (hG : es.length ≤ G) : ∀ (k d : Nat), d + k = 8 → PartOK 84 es d (unitP es G k) := by
  intro k
  induction k with
  | zero =>
    intro d hd b0 B ev ov s w h hs ho hw
    simp only [unitP]
    split
    · rename_i hk; exact unit_word es hf d (by omega) b0 B ev ov s w h hs ho hw hk
    · rename_i hk
      split
      · rename_i hk2
        have : d = 8 := by omega
        subst this
        exact unit_deep es hf b0 B ev ov s w h hs hk2
      · rename_i hk2; exact unit_other es hf d (by omega) b0 B ev ov s w h hs hk hk2
  | succ k ih =>
    intro d hd b0 B ev ov s w h hs ho hw
    simp only [unitP]
    split
    · rename_i hk; exact unit_word es hf d (by omega) b0 B ev ov s w h hs ho hw hk
    · rename_i hk
      split
      · rename_i hk2
        have ku := unitP_keeps hE G k
        exact unit_paren es hf hE d (by omega) _ (queryP_keeps hE ku G) (query_ok es hf hE (d + 1) G (by omega) _ (clauseP_keeps hE ku G) (clause_ok es hf hE (d + 1) G (by omega) _ ku (ih (d + 1) (by omega)) hG) hG) b0 B ev ov s w h hs ho hw hk2
      · rename_i hk2; exact unit_other es hf d (by omega) b0 B ev ov s w h hs hk hk2

theorem query0_ok (es : List El) (hf : es.length ≤ 20000) (hE : Ended es) (G : Nat) (hG : es.length ≤ G) : PartOK 38 es 0 (queryP (unitP es G 8) es G) :=
  query_ok es hf hE 0 G (by omega) _ (clauseP_keeps hE (unitP_keeps hE G 8) G) (clause_ok es hf hE 0 G (by omega) _ (unitP_keeps hE G 8) (unit_ok es hf hE G hG 8 0 rfl) hG) hG
end Go.Proofs.YtjbmihgfneamlaaDoor
