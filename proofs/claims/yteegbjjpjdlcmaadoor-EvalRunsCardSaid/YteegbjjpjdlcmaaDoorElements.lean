/- query.elements. -/
import Derived.Test.YteegbjjpjdlcmaaDoorElem
import Derived.Test.YteegbjjpjdlcmaaDoorElemLaw
set_option linter.unusedVariables false
namespace Go.Proofs.YteegbjjpjdlcmaaDoor
open Go.RowKit

def sepChar (c : Int) : Bool := c == 40 || c == 41 || c == 124 || c == 38 || c == 33
def flush (b : List UInt8) (st : Int) (pos : Nat) (acc : List El) : List El := if st < 0 then acc else acc ++ [⟨-1, st, termOf ((b.drop st.toNat).take (pos - st.toNat))⟩]
def elGo (b : List UInt8) : Nat → Int → List El → List Int → List El
  | pos, st, acc, [] => flush b st pos acc ++ [⟨-2, b.length, []⟩]
  | pos, st, acc, c :: r =>
    if inWord c = true then elGo b (pos + (enc c).length) (if st < 0 then pos else st) acc r
    else if c = 32 then elGo b (pos + 1) (-1) (flush b st pos acc) r
    else if sepChar c = true then elGo b (pos + 1) (-1) (flush b st pos acc ++ [⟨c, pos, []⟩]) r
    else flush b st pos acc ++ [⟨-3, pos, []⟩]
def elems (b : List UInt8) : List El := elGo b 0 (-1) [] (decode b)

theorem flush_len (b : List UInt8) (st : Int) (pos : Nat) (acc : List El) : (flush b st pos acc).length ≤ acc.length + 1 := by
  unfold flush; split <;> simp

/-- the call of the closure, in both its ways. -/
theorem flush_any (B : Nat) (v l : Value) (els : List El) (bs : List UInt8) (st : Int) (p : Nat) (w : World) (ht : Tabs w) (h : EM w B v l p st) (hB : B + 3 < w.heap.size)
    (hown : w.ownsRow B 101 3 l els.length (elcells els)) (hrd : Rd w v bs.length 1 (bcells bs)) (hbB : ∀ bb off n c, v = .slice (some ⟨bb, off, none⟩) n c → 0 < n → bb < B) (hst : st = -1 ∨ ∃ s : Nat, st = s ∧ s < p) (hpn : p ≤ bs.length) (hn1 : bs.length ≤ 100000) (hel : els.length ≤ 100000) :
    Calls Tryd.prog 89 #[.pointer (some ⟨B + 1 + 1 + 1, 0, none⟩), .pointer (some ⟨B + 1, 0, none⟩), .pointer (some ⟨B, 0, none⟩), .pointer (some ⟨B + 1 + 1, 0, none⟩)] w (Flushed B v (flush bs st p els) p w) := by
  rcases hst with rfl | ⟨s, rfl, hsp⟩
  · refine (flush_none B v l p (-1) w h (by omega)).mono ?_
    rintro e w' ⟨rfl, rfl⟩
    exact ⟨rfl, l, h, by unfold flush; rw [if_pos (by omega)]; exact hown, Chg.refl _ _⟩
  · obtain ⟨bb, off, c, rfl, h1, h2, h3⟩ := bytes_cells hrd (by omega)
    have := flush_some B bb off bs.length c l els bs s p w ht h hB hown h3 (hbB bb off _ c rfl (by omega)) rfl h1 h2 hsp hpn hn1 hel
    unfold flush
    rw [if_neg (by omega)]
    exact this

theorem em_new (w : World) (v : Value) : EM ((((w.alloc (.cells #[v] 72)).alloc (.cells #[.slice none 0 0] 95)).alloc (.cells #[.int .i64 0] 3)).alloc (.cells #[.int .i64 (-1)] 3)) w.heap.size v (.slice none 0 0) 0 (-1) := by
  refine ⟨?_, ?_, ?_, ?_⟩
  · rw [Below.heap_alloc _ _ _ (by simp <;> omega), Below.heap_alloc _ _ _ (by simp <;> omega), Below.heap_alloc _ _ _ (by simp <;> omega)]; exact heap_alloc_new w _
  · rw [Below.heap_alloc _ _ _ (by simp <;> omega), Below.heap_alloc _ _ _ (by simp <;> omega)]
    have := heap_alloc_new (w.alloc (.cells #[v] 72)) (.cells #[.slice none 0 0] 95)
    simpa using this
  · rw [Below.heap_alloc _ _ _ (by simp <;> omega)]
    have := heap_alloc_new ((w.alloc (.cells #[v] 72)).alloc (.cells #[.slice none 0 0] 95)) (.cells #[.int .i64 0] 3)
    simpa using this
  · have := heap_alloc_new (((w.alloc (.cells #[v] 72)).alloc (.cells #[.slice none 0 0] 95)).alloc (.cells #[.int .i64 0] 3)) (.cells #[.int .i64 (-1)] 3)
    simpa using this

set_option maxRecDepth 100000 in
set_option maxHeartbeats 4000000 in
theorem elements_any (v : Value) (bs : List UInt8) (w : World) (ht : Tabs w) (h : Rd w v bs.length 1 (bcells bs)) (hn : bs.length ≤ 10000) :
    Calls Tryd.prog 59 #[v] w (Gives w 101 3 (elems bs).length (elcells (elems bs))) := by
  obtain ⟨i0, hi, hz0, hz1, hz2⟩ := info_parts infoEl
  have hsh : ∃ ao c, v = .slice ao bs.length c := by
    obtain ⟨-, -, ⟨ao, c, rfl, h0⟩ | ⟨b, off, c, rfl, -⟩⟩ := h
    · exact ⟨ao, c, by rw [h0]⟩
    · exact ⟨_, c, rfl⟩
  obtain ⟨ao, cv, hv⟩ := hsh
  have hD : Hid (∀ W, Below w.heap.size w W → Calls Tryd.prog 91 #[v] W (Gives W 3 1 (decode bs).length (icells (decode bs)))) := fun W hW => decode_any v bs W (h.below hW) (by omega)
  subst hv
  go_enter Tryd.func59, Tryd.ntmps59
  go_wp2_with fail
  have hW0 : Below w.heap.size w ((((w.alloc (.cells #[.slice ao bs.length cv] 72)).alloc (.cells #[.slice none 0 0] 95)).alloc (.cells #[.int .i64 0] 3)).alloc (.cells #[.int .i64 (-1)] 3)) := ((((Below.refl _ _).alloc (Nat.le_refl _) _).alloc (by simp) _).alloc (by simp; omega) _).alloc (by simp; omega) _
  have hE0 : EM ((((w.alloc (.cells #[.slice ao bs.length cv] 72)).alloc (.cells #[.slice none 0 0] 95)).alloc (.cells #[.int .i64 0] 3)).alloc (.cells #[.int .i64 (-1)] 3)) w.heap.size (.slice ao bs.length cv) (.slice none 0 0) 0 (-1) := em_new w _
  have hsz0 : ((((w.alloc (.cells #[.slice ao bs.length cv] 72)).alloc (.cells #[.slice none 0 0] 95)).alloc (.cells #[.int .i64 0] 3)).alloc (.cells #[.int .i64 (-1)] 3)).heap.size = w.heap.size + 4 := by simp
  refine (hD.out _ hW0).mono ?_
  rintro e w1 ⟨v1, rfl, hown1, hb1⟩
  rw [hsz0] at hown1 hb1
  generalize ((((w.alloc (.cells #[.slice ao bs.length cv] 72)).alloc (.cells #[.slice none 0 0] 95)).alloc (.cells #[.int .i64 0] 3)).alloc (.cells #[.int .i64 (-1)] 3)) = w0 at *
  have hs1 := hb1.size
  rw [hsz0] at hs1
  have hb1' : Below w0.heap.size w0 w1 := by rw [hsz0]; exact hb1
  have hE1 := hE0.below hb1'
  have hch := decode_char bs
  have hlen := decode_len bs
  have hcs0 : decode bs = decode (bs.drop 0) := rfl
  have hel0 : elems bs = elGo bs 0 (-1) [] (decode bs) := rfl
  have hrd1 : Rd w1 (.slice ao bs.length cv) bs.length 1 (bcells bs) := (h.below hW0).below hb1'
  have hlow : ∀ bb off n c, Value.slice ao bs.length cv = .slice (some ⟨bb, off, none⟩) n c → 0 < n → bb < w.heap.size := by
    intro bb off n c he hn0
    obtain ⟨-, -, ⟨a', c', hv, h0⟩ | ⟨b', off', c', hv, h1, _, _, h3⟩⟩ := h
    · simp only [Value.slice.injEq] at he hv; omega
    · simp only [Value.slice.injEq] at he hv
      rw [he.1] at hv
      simp only [Option.some.injEq, Addr.mk.injEq] at hv
      obtain ⟨⟨rfl, rfl, -⟩, -, -⟩ := hv
      exact World.block_lt_of_cell? w _ (h3 0 _ (List.getElem?_eq_getElem (show 0 < (bcells bs).length by rw [bcells_len]; omega)))
  have HLOW := Lib.hid hlow
  have HRD := Lib.hid hrd1
  have HRD0 : Hid (∀ w', Below w.heap.size w w' → Rd w' (.slice ao bs.length cv) bs.length 1 (bcells bs)) := fun w' hb => h.below hb
  have BW1 := hW0.trans (hb1'.mono hW0.size)
  have HT1 := Lib.hid (ht.below BW1)
  obtain ⟨a1, c1, rfl⟩ := own_shape hown1
  generalize decode bs = cs at *
  have hcell : Hid (∀ k (hk : k < cs.length), ∃ b off, a1 = some ⟨b, off, none⟩ ∧ w.heap.size + 3 < b ∧ ∃ cur, w1.heap[b]? = some (.cells cur 3 (0, 0)) ∧ w1.cell? ⟨b, off + k, none⟩ = some (.int .i64 cs[k])) := by
    intro k hk
    rcases hown1.2 with ⟨hv, h0⟩ | ⟨g, cap, cur, hv, hbg, hg, -⟩
    · omega
    · simp only [Value.slice.injEq] at hv
      refine ⟨g, 0, hv.1, by omega, cur, hg, ?_⟩
      have ho : w1.ownsRow (w.heap.size + 4) 3 1 (.slice (some ⟨g, 0, none⟩) cs.length c1) cs.length (icells cs) := by rw [← hv.1]; exact hown1
      rw [show 0 + k = k from by omega, ho.cellAt k (by omega)]
      simp [icells, hk]
  have HCH := Lib.hid hch
  have HC0 := Lib.hid hcs0
  have HE0 := Lib.hid hel0
  clear hch hcs0 hel0 hlow hrd1 hE0 hb1 hb1' hW0 hsz0 hown1 h hD
  go_wp2_with fail
  go_loopw [15] (fun i wr => ∃ (k pos : Nat) (st : Int) (l : Value) (els : List El), k ≤ cs.length ∧ i = .int .i64 k ∧ EM wr w.heap.size (.slice ao bs.length cv) l pos st ∧ wr.ownsRow w.heap.size 101 3 l els.length (elcells els) ∧ Hid (elems bs = elGo bs pos st els (cs.drop k)) ∧ Hid (cs.drop k = decode (bs.drop pos)) ∧ pos ≤ bs.length ∧ Hid (st = -1 ∨ ∃ s : Nat, st = s ∧ s < pos) ∧ els.length ≤ 2 * k ∧ Chg w.heap.size w1 wr) (fun i _ => cs.length - (intOf i).toNat)
  case atStart => exact ⟨0, 0, -1, _, [], Nat.zero_le _, rfl, hE1, World.ownsRow_nil _ _ _ _, HE0.out, HC0.out, Nat.zero_le _, .inl rfl, Nat.le_refl _, Chg.refl _ _⟩
  case round =>
    obtain ⟨k, pos, st, l, els, hk, rfl, hE, hown, HG, HP, hpos, HST, hels, hchg⟩ := hrel
    have hsw : w.heap.size ≤ wr.heap.size := by have := hchg.size; have := BW1.size; omega
    have htr : Tabs wr := by
      obtain ⟨⟨t1, fr1, g1⟩, ⟨t2, fr2, g2⟩⟩ := ht
      have bl := BW1.trans hchg.below
      exact ⟨⟨t1, fr1, by rw [bl.block _ (heap_lt g1)]; exact g1⟩, ⟨t2, fr2, by rw [bl.block _ (heap_lt g2)]; exact g2⟩⟩
    by_cases hlt : k < cs.length
    · obtain ⟨b, off, rfl, hbB, cur, hblk, hc0⟩ := hcell.out k hlt
      have hblk2 := hchg.high b _ hbB hblk (by intro cs' fr' e; simp only [Obj.cells.injEq] at e; exact absurd e.2.1 (by decide))
      have hcur : wr.cell? ⟨b, off + k, none⟩ = some (.int .i64 cs[k]) := by rw [World.cell?_of_block (w := w1) (w' := wr) (by simp only; rw [hblk2, hblk])]; exact hc0
      have hcc : isChar cs[k] = true := HCH.out _ (List.getElem_mem _)
      have hdrop : cs.drop k = cs[k] :: cs.drop (k + 1) := List.drop_eq_getElem_cons hlt
      have hL := letter_any cs[k] wr htr
      have hDg := fun (w2 : World) => digit_any cs[k] w2
      have hb2c := isChar_bd hcc
      generalize hx : cs[k] = x at *
      have hg := HG.out
      have hp := HP.out
      rw [hdrop] at hg hp
      have hdc := fun hne : x ≠ 65533 => decode_cons hp.symm hne
      have HDC := Lib.hid hdc
      clear hx hdrop hc0 hblk hblk2 hdc hp HP HG
      have HCC := Lib.hid hcc; clear hcc
      simp only [elGo] at hg
      have hkl : k ≤ 10000 := by omega
      by_cases hin : inWord x = true
      · rw [if_pos hin] at hg
        have hne : x ≠ 65533 := by intro e; rw [e, bad_out] at hin; exact absurd hin (by decide)
        obtain ⟨hle, hrest⟩ := HDC.out hne
        rw [List.length_drop] at hle
        rw [List.drop_drop] at hrest
        have HP2 := Lib.hid hrest
        have HLE := Lib.hid hle
        have helen := enc_len x
        clear hrest hle hne
        rcases HST.out with rfl | ⟨st, rfl, hst⟩
        · rw [if_pos (by omega)] at hg
          have HG2 := Lib.hid hg
          have HS2 : Hid ((pos : Int) = -1 ∨ ∃ s : Nat, (pos : Int) = s ∧ s < pos + (enc x).length) := .inr ⟨pos, rfl, by omega⟩
          clear hg
          cases hLt : isLetter x with
          | true =>
            rw [hLt] at hL
            have HL := Lib.hid hL; clear hL hLt hin hDg
            go_wp2_with (first | (go_at_call 92; refine HL.out.mono ?_; rintro e w2 ⟨rfl, hb2⟩; have hE2 := hE.below hb2; have c3 := cell_of_one hE2.b3; have f3 := free_of_one hE2.b3; have c2 := cell_of_one hE2.b2; have f2 := free_of_one hE2.b2; have c1 := cell_of_one hE2.b1; have f1 := free_of_one hE2.b1) | (go_at_call 94; refine (encode_any x _ HCC.out).mono ?_; rintro e w4 ⟨v4, rfl, hown4, hb4⟩; obtain ⟨a4, c4, rfl⟩ := own_shape hown4; have hE4 := (hE2.set3 pos).below hb4; have c42 := cell_of_one hE4.b2; have f42 := free_of_one hE4.b2))
            have hown5 := own_below' (ownsRow_setCell_other (own_below' hown hb2) (a := ⟨w.heap.size + 1 + 1 + 1, 0, none⟩) (hE2.own_ne (own_below' hown hb2) 3 (by omega)) (.int .i64 pos)) hb4
            have hown6 := ownsRow_setCell_other hown5 (a := ⟨w.heap.size + 1 + 1, 0, none⟩) (hE4.own_ne hown5 2 (by omega)) (.int .i64 ((pos : Int) + ((enc x).length : Int)))
            have hE6 := hE4.set2 ((pos : Int) + ((enc x).length : Int))
            have hC6 := (((hchg.trans (Chg.of_below hb2 hsw)).trans (Chg.set w2 (.int .i64 pos) (show w.heap.size ≤ w.heap.size + 1 + 1 + 1 by omega) (by omega))).trans (Chg.of_below hb4 (by have := hb2.size; simp; omega))).trans (Chg.set w4 (.int .i64 ((pos : Int) + ((enc x).length : Int))) (show w.heap.size ≤ w.heap.size + 1 + 1 by omega) (by omega))
            go_roundw
            case rel => exact ⟨k + 1, pos + (enc x).length, _, l, els, by omega, by go_num, by rw [show ((pos + (enc x).length : Nat) : Int) = (pos : Int) + ((enc x).length : Int) from by omega]; exact hE6, hown6, HG2.out, HP2.out, by have := HLE.out; omega, HS2.out, by omega, hC6⟩
            case measure => simp [intOf]; omega
          | false =>
            have hd : isDigit x = true := by unfold inWord at hin; rw [hLt] at hin; simpa using hin
            rw [hLt] at hL
            rw [hd] at hDg
            have HL := Lib.hid hL
            have HDg := Lib.hid hDg
            clear hL hLt hin hDg hd
            go_wp2_with (first | (go_at_call 92; refine HL.out.mono ?_; rintro e w2 ⟨rfl, hb2⟩; have hE2 := hE.below hb2; have c3 := cell_of_one hE2.b3; have f3 := free_of_one hE2.b3; have c2 := cell_of_one hE2.b2; have f2 := free_of_one hE2.b2; have c1 := cell_of_one hE2.b1; have f1 := free_of_one hE2.b1) | (go_at_call 93; refine (HDg.out _).mono ?_; rintro e w' ⟨rfl, rfl⟩) | (go_at_call 94; refine (encode_any x _ HCC.out).mono ?_; rintro e w4 ⟨v4, rfl, hown4, hb4⟩; obtain ⟨a4, c4, rfl⟩ := own_shape hown4; have hE4 := (hE2.set3 pos).below hb4; have c42 := cell_of_one hE4.b2; have f42 := free_of_one hE4.b2))
            have hown5 := own_below' (ownsRow_setCell_other (own_below' hown hb2) (a := ⟨w.heap.size + 1 + 1 + 1, 0, none⟩) (hE2.own_ne (own_below' hown hb2) 3 (by omega)) (.int .i64 pos)) hb4
            have hown6 := ownsRow_setCell_other hown5 (a := ⟨w.heap.size + 1 + 1, 0, none⟩) (hE4.own_ne hown5 2 (by omega)) (.int .i64 ((pos : Int) + ((enc x).length : Int)))
            have hE6 := hE4.set2 ((pos : Int) + ((enc x).length : Int))
            have hC6 := (((hchg.trans (Chg.of_below hb2 hsw)).trans (Chg.set w2 (.int .i64 pos) (show w.heap.size ≤ w.heap.size + 1 + 1 + 1 by omega) (by omega))).trans (Chg.of_below hb4 (by have := hb2.size; simp; omega))).trans (Chg.set w4 (.int .i64 ((pos : Int) + ((enc x).length : Int))) (show w.heap.size ≤ w.heap.size + 1 + 1 by omega) (by omega))
            go_roundw
            case rel => exact ⟨k + 1, pos + (enc x).length, _, l, els, by omega, by go_num, by rw [show ((pos + (enc x).length : Nat) : Int) = (pos : Int) + ((enc x).length : Int) from by omega]; exact hE6, hown6, HG2.out, HP2.out, by have := HLE.out; omega, HS2.out, by omega, hC6⟩
            case measure => simp [intOf]; omega
        · rw [if_neg (by omega)] at hg
          have HG2 := Lib.hid hg
          have HS2 : Hid ((st : Int) = -1 ∨ ∃ s : Nat, (st : Int) = s ∧ s < pos + (enc x).length) := .inr ⟨st, rfl, by omega⟩
          clear hg
          cases hLt : isLetter x with
          | true =>
            rw [hLt] at hL
            have HL := Lib.hid hL; clear hL hLt hin hDg
            go_wp2_with (first | (go_at_call 92; refine HL.out.mono ?_; rintro e w2 ⟨rfl, hb2⟩; have hE2 := hE.below hb2; have c3 := cell_of_one hE2.b3; have f3 := free_of_one hE2.b3; have c2 := cell_of_one hE2.b2; have f2 := free_of_one hE2.b2; have c1 := cell_of_one hE2.b1; have f1 := free_of_one hE2.b1) | (go_at_call 94; refine (encode_any x _ HCC.out).mono ?_; rintro e w4 ⟨v4, rfl, hown4, hb4⟩; obtain ⟨a4, c4, rfl⟩ := own_shape hown4; have hE4 := (hE2).below hb4; have c42 := cell_of_one hE4.b2; have f42 := free_of_one hE4.b2))
            have hown5 := own_below' (own_below' hown hb2) hb4
            have hown6 := ownsRow_setCell_other hown5 (a := ⟨w.heap.size + 1 + 1, 0, none⟩) (hE4.own_ne hown5 2 (by omega)) (.int .i64 ((pos : Int) + ((enc x).length : Int)))
            have hE6 := hE4.set2 ((pos : Int) + ((enc x).length : Int))
            have hC6 := ((hchg.trans (Chg.of_below hb2 hsw)).trans (Chg.of_below hb4 (by have := hb2.size; simp; omega))).trans (Chg.set w4 (.int .i64 ((pos : Int) + ((enc x).length : Int))) (show w.heap.size ≤ w.heap.size + 1 + 1 by omega) (by omega))
            go_roundw
            case rel => exact ⟨k + 1, pos + (enc x).length, _, l, els, by omega, by go_num, by rw [show ((pos + (enc x).length : Nat) : Int) = (pos : Int) + ((enc x).length : Int) from by omega]; exact hE6, hown6, HG2.out, HP2.out, by have := HLE.out; omega, HS2.out, by omega, hC6⟩
            case measure => simp [intOf]; omega
          | false =>
            have hd : isDigit x = true := by unfold inWord at hin; rw [hLt] at hin; simpa using hin
            rw [hLt] at hL
            rw [hd] at hDg
            have HL := Lib.hid hL
            have HDg := Lib.hid hDg
            clear hL hLt hin hDg hd
            go_wp2_with (first | (go_at_call 92; refine HL.out.mono ?_; rintro e w2 ⟨rfl, hb2⟩; have hE2 := hE.below hb2; have c3 := cell_of_one hE2.b3; have f3 := free_of_one hE2.b3; have c2 := cell_of_one hE2.b2; have f2 := free_of_one hE2.b2; have c1 := cell_of_one hE2.b1; have f1 := free_of_one hE2.b1) | (go_at_call 93; refine (HDg.out _).mono ?_; rintro e w' ⟨rfl, rfl⟩) | (go_at_call 94; refine (encode_any x _ HCC.out).mono ?_; rintro e w4 ⟨v4, rfl, hown4, hb4⟩; obtain ⟨a4, c4, rfl⟩ := own_shape hown4; have hE4 := (hE2).below hb4; have c42 := cell_of_one hE4.b2; have f42 := free_of_one hE4.b2))
            have hown5 := own_below' (own_below' hown hb2) hb4
            have hown6 := ownsRow_setCell_other hown5 (a := ⟨w.heap.size + 1 + 1, 0, none⟩) (hE4.own_ne hown5 2 (by omega)) (.int .i64 ((pos : Int) + ((enc x).length : Int)))
            have hE6 := hE4.set2 ((pos : Int) + ((enc x).length : Int))
            have hC6 := ((hchg.trans (Chg.of_below hb2 hsw)).trans (Chg.of_below hb4 (by have := hb2.size; simp; omega))).trans (Chg.set w4 (.int .i64 ((pos : Int) + ((enc x).length : Int))) (show w.heap.size ≤ w.heap.size + 1 + 1 by omega) (by omega))
            go_roundw
            case rel => exact ⟨k + 1, pos + (enc x).length, _, l, els, by omega, by go_num, by rw [show ((pos + (enc x).length : Nat) : Int) = (pos : Int) + ((enc x).length : Int) from by omega]; exact hE6, hown6, HG2.out, HP2.out, by have := HLE.out; omega, HS2.out, by omega, hC6⟩
            case measure => simp [intOf]; omega
      · have hinf : inWord x = false := by simpa using hin
        have hlf : isLetter x = false := by unfold inWord at hinf; simp at hinf; exact hinf.1
        have hdf : isDigit x = false := by unfold inWord at hinf; simp at hinf; exact hinf.2
        rw [hlf] at hL
        rw [hdf] at hDg
        have HL := Lib.hid hL
        have HDg := Lib.hid hDg
        rw [if_neg hin] at hg
        have hFL : ∀ w2, Below wr.heap.size wr w2 → Calls Tryd.prog 89 #[.pointer (some ⟨w.heap.size + 1 + 1 + 1, 0, none⟩), .pointer (some ⟨w.heap.size + 1, 0, none⟩), .pointer (some ⟨w.heap.size, 0, none⟩), .pointer (some ⟨w.heap.size + 1 + 1, 0, none⟩)] w2 (Flushed w.heap.size (.slice ao bs.length cv) (flush bs st pos els) pos w2) := by
          intro w2 hb2
          have hr2 : Rd w2 (.slice ao bs.length cv) bs.length 1 (bcells bs) := (HRD0.out _ ((BW1.trans hchg.below).trans (hb2.mono hsw)))
          exact flush_any w.heap.size _ l els bs st pos w2 (htr.below hb2) (hE.below hb2) (by have := hchg.size; have := hb2.size; omega) (own_below' hown hb2) hr2 HLOW.out HST.out hpos (by omega) (by omega)
        have HFL := Lib.hid hFL
        have hfl := flush_len bs st pos els
        clear hL hDg hlf hdf hin hinf hFL
        by_cases h32 : x = 32
        · subst h32
          rw [if_pos rfl] at hg
          have HG2 := Lib.hid hg
          obtain ⟨hle, hrest⟩ := HDC.out (by omega)
          rw [List.length_drop, show (enc 32).length = 1 from rfl] at hle
          rw [List.drop_drop, show (enc 32).length = 1 from rfl] at hrest
          have HP2 := Lib.hid hrest
          clear hg hrest
          go_wp2_with (first | (go_at_call 92; refine HL.out.mono ?_; rintro e w2 ⟨rfl, hb2⟩; have hE2 := hE.below hb2; have c3 := cell_of_one hE2.b3; have f3 := free_of_one hE2.b3; have c2 := cell_of_one hE2.b2; have f2 := free_of_one hE2.b2; have c1 := cell_of_one hE2.b1; have f1 := free_of_one hE2.b1) | (go_at_call 93; refine (HDg.out _).mono ?_; rintro e w' ⟨rfl, rfl⟩) | (go_at_call 89; refine (HFL.out _ hb2).mono ?_; rintro e w3 ⟨rfl, l3, hE3, hown3, hC3⟩; obtain ⟨a3, cp3, rfl⟩ := own_shape hown3; have c32 := cell_of_one hE3.b2; have f32 := free_of_one hE3.b2; have c31 := cell_of_one hE3.b1; have f31 := free_of_one hE3.b1))
          have hown6 := ownsRow_setCell_other hown3 (a := ⟨w.heap.size + 1 + 1, 0, none⟩) (hE3.own_ne hown3 2 (by omega)) (.int .i64 ((pos : Int) + 1))
          have hC6 := ((hchg.trans (Chg.of_below hb2 hsw)).trans hC3).trans (Chg.set w3 (.int .i64 ((pos : Int) + 1)) (show w.heap.size ≤ w.heap.size + 1 + 1 by omega) (by omega))
          go_roundw
          case rel => exact ⟨k + 1, pos + 1, -1, _, flush bs st pos els, by omega, by go_num, by rw [show ((pos + 1 : Nat) : Int) = (pos : Int) + 1 from by omega]; exact hE3.set2 _, hown6, HG2.out, HP2.out, by omega, .inl rfl, by omega, hC6⟩
          case measure => simp [intOf]; omega
        · rw [if_neg h32] at hg
          by_cases hsep : sepChar x = true
          · rw [if_pos hsep] at hg
            have HG2 := Lib.hid hg
            have hxs : x = 40 ∨ x = 41 ∨ x = 124 ∨ x = 38 ∨ x = 33 := by
              simp only [sepChar, Bool.or_eq_true, beq_iff_eq] at hsep; omega
            have hel1 : (enc x).length = 1 := by rcases hxs with rfl | rfl | rfl | rfl | rfl <;> rfl
            obtain ⟨hle, hrest⟩ := HDC.out (by omega)
            rw [List.length_drop, hel1] at hle
            rw [List.drop_drop, hel1] at hrest
            have HP2 := Lib.hid hrest
            have h1f := fun w2 => HFL.out w2
            clear hg hrest hel1 hsep h32 h1f
            rcases hxs with hxe | hxe | hxe | hxe | hxe
            · have n32 : (x == 32) = false := beq_eq_false_iff_ne.2 (by omega)
              have n40 : (x == 40) = true := beq_iff_eq.2 hxe
              have n41 : (x == 41) = false := beq_eq_false_iff_ne.2 (by omega)
              have n124 : (x == 124) = false := beq_eq_false_iff_ne.2 (by omega)
              have n38 : (x == 38) = false := beq_eq_false_iff_ne.2 (by omega)
              have n33 : (x == 33) = false := beq_eq_false_iff_ne.2 (by omega)
              clear hxe
              go_wp2_with (first | (go_at_call 92; refine HL.out.mono ?_; rintro e w2 ⟨rfl, hb2⟩; have hE2 := hE.below hb2; have c3 := cell_of_one hE2.b3; have f3 := free_of_one hE2.b3; have c2 := cell_of_one hE2.b2; have f2 := free_of_one hE2.b2; have c1 := cell_of_one hE2.b1; have f1 := free_of_one hE2.b1) | (go_at_call 93; refine (HDg.out _).mono ?_; rintro e w' ⟨rfl, rfl⟩) | (go_at_call 89; refine (HFL.out _ hb2).mono ?_; rintro e w3 ⟨rfl, l3, hE3, hown3, hC3⟩; obtain ⟨a3, cp3, rfl⟩ := own_shape hown3; have c32 := cell_of_one hE3.b2; have f32 := free_of_one hE3.b2; have c31 := cell_of_one hE3.b1; have f31 := free_of_one hE3.b1) | (at_builtin; refine wpList_app rfl _ _ _ _ rfl w.heap.size 101 i0 _ 3 32 Tryd.underlying95 hi hz0 hz1 hz2 rfl _ (flush bs st pos els).length _ rfl (hown3.alloc _) _ 1 [.int .i64 (x), .int .i64 pos, .string { data := #[] }] rfl (src_new Tryd.underlying95 w3 _ 3 1 1 rfl (by intro u hu; simp at hu; rcases hu with rfl | rfl | rfl <;> rfl)) (by unfold maxLen; omega) (by omega) (by have := hC3.size; have := hb2.size; simp; omega) ?_; intro l4 w4 hown4 hgr4 _ _; have hE4 := (hE3.alloc _).grown (hown3.alloc _) hgr4; have hC4 := ((hC3.trans (Chg.of_below ((Below.refl _ _).alloc (Nat.le_refl _) _) (by have := hC3.size; have := hb2.size; omega))).trans (Chg.grown (hown3.alloc _) hgr4 (by have := hC3.size; have := hb2.size; simp; omega))); obtain ⟨a4, cp4, rfl⟩ := own_shape hown4; have c41 := cell_of_one hE4.b1; have f41 := free_of_one hE4.b1; have hE5 := hE4.set1 (.slice a4 ((flush bs st pos els).length + 1) cp4); have c52 := cell_of_one hE5.b2; have f52 := free_of_one hE5.b2; clear hgr4))
              have hown5 := ownsRow_setCell_other hown4 (a := ⟨w.heap.size + 1, 0, none⟩) (hE4.own_ne hown4 1 (by omega)) (.slice a4 ((flush bs st pos els).length + 1) cp4)
              have hown6 := ownsRow_setCell_other hown5 (a := ⟨w.heap.size + 1 + 1, 0, none⟩) (hE5.own_ne hown5 2 (by omega)) (.int .i64 ((pos : Int) + 1))
              have hC6 := (((hchg.trans (Chg.of_below hb2 hsw)).trans hC4).trans (Chg.set w4 (.slice a4 ((flush bs st pos els).length + 1) cp4) (show w.heap.size ≤ w.heap.size + 1 by omega) (by omega))).trans (Chg.set (w4.setCell ⟨w.heap.size + 1, 0, none⟩ (.slice a4 ((flush bs st pos els).length + 1) cp4)) (.int .i64 ((pos : Int) + 1)) (show w.heap.size ≤ w.heap.size + 1 + 1 by omega) (by omega))
              go_roundw
              case rel =>
                refine ⟨k + 1, pos + 1, -1, _, flush bs st pos els ++ [(⟨x, (pos : Int), []⟩ : El)], by omega, by go_num, by rw [show ((pos + 1 : Nat) : Int) = (pos : Int) + 1 from by omega]; exact hE5.set2 _, ?_, HG2.out, HP2.out, by omega, .inl rfl, by simp; omega, hC6⟩
                rw [List.length_append, elcells_append]
                exact hown6
              case measure => simp [intOf]; omega
            · have n32 : (x == 32) = false := beq_eq_false_iff_ne.2 (by omega)
              have n40 : (x == 40) = false := beq_eq_false_iff_ne.2 (by omega)
              have n41 : (x == 41) = true := beq_iff_eq.2 hxe
              have n124 : (x == 124) = false := beq_eq_false_iff_ne.2 (by omega)
              have n38 : (x == 38) = false := beq_eq_false_iff_ne.2 (by omega)
              have n33 : (x == 33) = false := beq_eq_false_iff_ne.2 (by omega)
              clear hxe
              go_wp2_with (first | (go_at_call 92; refine HL.out.mono ?_; rintro e w2 ⟨rfl, hb2⟩; have hE2 := hE.below hb2; have c3 := cell_of_one hE2.b3; have f3 := free_of_one hE2.b3; have c2 := cell_of_one hE2.b2; have f2 := free_of_one hE2.b2; have c1 := cell_of_one hE2.b1; have f1 := free_of_one hE2.b1) | (go_at_call 93; refine (HDg.out _).mono ?_; rintro e w' ⟨rfl, rfl⟩) | (go_at_call 89; refine (HFL.out _ hb2).mono ?_; rintro e w3 ⟨rfl, l3, hE3, hown3, hC3⟩; obtain ⟨a3, cp3, rfl⟩ := own_shape hown3; have c32 := cell_of_one hE3.b2; have f32 := free_of_one hE3.b2; have c31 := cell_of_one hE3.b1; have f31 := free_of_one hE3.b1) | (at_builtin; refine wpList_app rfl _ _ _ _ rfl w.heap.size 101 i0 _ 3 32 Tryd.underlying95 hi hz0 hz1 hz2 rfl _ (flush bs st pos els).length _ rfl (hown3.alloc _) _ 1 [.int .i64 (x), .int .i64 pos, .string { data := #[] }] rfl (src_new Tryd.underlying95 w3 _ 3 1 1 rfl (by intro u hu; simp at hu; rcases hu with rfl | rfl | rfl <;> rfl)) (by unfold maxLen; omega) (by omega) (by have := hC3.size; have := hb2.size; simp; omega) ?_; intro l4 w4 hown4 hgr4 _ _; have hE4 := (hE3.alloc _).grown (hown3.alloc _) hgr4; have hC4 := ((hC3.trans (Chg.of_below ((Below.refl _ _).alloc (Nat.le_refl _) _) (by have := hC3.size; have := hb2.size; omega))).trans (Chg.grown (hown3.alloc _) hgr4 (by have := hC3.size; have := hb2.size; simp; omega))); obtain ⟨a4, cp4, rfl⟩ := own_shape hown4; have c41 := cell_of_one hE4.b1; have f41 := free_of_one hE4.b1; have hE5 := hE4.set1 (.slice a4 ((flush bs st pos els).length + 1) cp4); have c52 := cell_of_one hE5.b2; have f52 := free_of_one hE5.b2; clear hgr4))
              have hown5 := ownsRow_setCell_other hown4 (a := ⟨w.heap.size + 1, 0, none⟩) (hE4.own_ne hown4 1 (by omega)) (.slice a4 ((flush bs st pos els).length + 1) cp4)
              have hown6 := ownsRow_setCell_other hown5 (a := ⟨w.heap.size + 1 + 1, 0, none⟩) (hE5.own_ne hown5 2 (by omega)) (.int .i64 ((pos : Int) + 1))
              have hC6 := (((hchg.trans (Chg.of_below hb2 hsw)).trans hC4).trans (Chg.set w4 (.slice a4 ((flush bs st pos els).length + 1) cp4) (show w.heap.size ≤ w.heap.size + 1 by omega) (by omega))).trans (Chg.set (w4.setCell ⟨w.heap.size + 1, 0, none⟩ (.slice a4 ((flush bs st pos els).length + 1) cp4)) (.int .i64 ((pos : Int) + 1)) (show w.heap.size ≤ w.heap.size + 1 + 1 by omega) (by omega))
              go_roundw
              case rel =>
                refine ⟨k + 1, pos + 1, -1, _, flush bs st pos els ++ [(⟨x, (pos : Int), []⟩ : El)], by omega, by go_num, by rw [show ((pos + 1 : Nat) : Int) = (pos : Int) + 1 from by omega]; exact hE5.set2 _, ?_, HG2.out, HP2.out, by omega, .inl rfl, by simp; omega, hC6⟩
                rw [List.length_append, elcells_append]
                exact hown6
              case measure => simp [intOf]; omega
            · have n32 : (x == 32) = false := beq_eq_false_iff_ne.2 (by omega)
              have n40 : (x == 40) = false := beq_eq_false_iff_ne.2 (by omega)
              have n41 : (x == 41) = false := beq_eq_false_iff_ne.2 (by omega)
              have n124 : (x == 124) = true := beq_iff_eq.2 hxe
              have n38 : (x == 38) = false := beq_eq_false_iff_ne.2 (by omega)
              have n33 : (x == 33) = false := beq_eq_false_iff_ne.2 (by omega)
              clear hxe
              go_wp2_with (first | (go_at_call 92; refine HL.out.mono ?_; rintro e w2 ⟨rfl, hb2⟩; have hE2 := hE.below hb2; have c3 := cell_of_one hE2.b3; have f3 := free_of_one hE2.b3; have c2 := cell_of_one hE2.b2; have f2 := free_of_one hE2.b2; have c1 := cell_of_one hE2.b1; have f1 := free_of_one hE2.b1) | (go_at_call 93; refine (HDg.out _).mono ?_; rintro e w' ⟨rfl, rfl⟩) | (go_at_call 89; refine (HFL.out _ hb2).mono ?_; rintro e w3 ⟨rfl, l3, hE3, hown3, hC3⟩; obtain ⟨a3, cp3, rfl⟩ := own_shape hown3; have c32 := cell_of_one hE3.b2; have f32 := free_of_one hE3.b2; have c31 := cell_of_one hE3.b1; have f31 := free_of_one hE3.b1) | (at_builtin; refine wpList_app rfl _ _ _ _ rfl w.heap.size 101 i0 _ 3 32 Tryd.underlying95 hi hz0 hz1 hz2 rfl _ (flush bs st pos els).length _ rfl (hown3.alloc _) _ 1 [.int .i64 (x), .int .i64 pos, .string { data := #[] }] rfl (src_new Tryd.underlying95 w3 _ 3 1 1 rfl (by intro u hu; simp at hu; rcases hu with rfl | rfl | rfl <;> rfl)) (by unfold maxLen; omega) (by omega) (by have := hC3.size; have := hb2.size; simp; omega) ?_; intro l4 w4 hown4 hgr4 _ _; have hE4 := (hE3.alloc _).grown (hown3.alloc _) hgr4; have hC4 := ((hC3.trans (Chg.of_below ((Below.refl _ _).alloc (Nat.le_refl _) _) (by have := hC3.size; have := hb2.size; omega))).trans (Chg.grown (hown3.alloc _) hgr4 (by have := hC3.size; have := hb2.size; simp; omega))); obtain ⟨a4, cp4, rfl⟩ := own_shape hown4; have c41 := cell_of_one hE4.b1; have f41 := free_of_one hE4.b1; have hE5 := hE4.set1 (.slice a4 ((flush bs st pos els).length + 1) cp4); have c52 := cell_of_one hE5.b2; have f52 := free_of_one hE5.b2; clear hgr4))
              have hown5 := ownsRow_setCell_other hown4 (a := ⟨w.heap.size + 1, 0, none⟩) (hE4.own_ne hown4 1 (by omega)) (.slice a4 ((flush bs st pos els).length + 1) cp4)
              have hown6 := ownsRow_setCell_other hown5 (a := ⟨w.heap.size + 1 + 1, 0, none⟩) (hE5.own_ne hown5 2 (by omega)) (.int .i64 ((pos : Int) + 1))
              have hC6 := (((hchg.trans (Chg.of_below hb2 hsw)).trans hC4).trans (Chg.set w4 (.slice a4 ((flush bs st pos els).length + 1) cp4) (show w.heap.size ≤ w.heap.size + 1 by omega) (by omega))).trans (Chg.set (w4.setCell ⟨w.heap.size + 1, 0, none⟩ (.slice a4 ((flush bs st pos els).length + 1) cp4)) (.int .i64 ((pos : Int) + 1)) (show w.heap.size ≤ w.heap.size + 1 + 1 by omega) (by omega))
              go_roundw
              case rel =>
                refine ⟨k + 1, pos + 1, -1, _, flush bs st pos els ++ [(⟨x, (pos : Int), []⟩ : El)], by omega, by go_num, by rw [show ((pos + 1 : Nat) : Int) = (pos : Int) + 1 from by omega]; exact hE5.set2 _, ?_, HG2.out, HP2.out, by omega, .inl rfl, by simp; omega, hC6⟩
                rw [List.length_append, elcells_append]
                exact hown6
              case measure => simp [intOf]; omega
            · have n32 : (x == 32) = false := beq_eq_false_iff_ne.2 (by omega)
              have n40 : (x == 40) = false := beq_eq_false_iff_ne.2 (by omega)
              have n41 : (x == 41) = false := beq_eq_false_iff_ne.2 (by omega)
              have n124 : (x == 124) = false := beq_eq_false_iff_ne.2 (by omega)
              have n38 : (x == 38) = true := beq_iff_eq.2 hxe
              have n33 : (x == 33) = false := beq_eq_false_iff_ne.2 (by omega)
              clear hxe
              go_wp2_with (first | (go_at_call 92; refine HL.out.mono ?_; rintro e w2 ⟨rfl, hb2⟩; have hE2 := hE.below hb2; have c3 := cell_of_one hE2.b3; have f3 := free_of_one hE2.b3; have c2 := cell_of_one hE2.b2; have f2 := free_of_one hE2.b2; have c1 := cell_of_one hE2.b1; have f1 := free_of_one hE2.b1) | (go_at_call 93; refine (HDg.out _).mono ?_; rintro e w' ⟨rfl, rfl⟩) | (go_at_call 89; refine (HFL.out _ hb2).mono ?_; rintro e w3 ⟨rfl, l3, hE3, hown3, hC3⟩; obtain ⟨a3, cp3, rfl⟩ := own_shape hown3; have c32 := cell_of_one hE3.b2; have f32 := free_of_one hE3.b2; have c31 := cell_of_one hE3.b1; have f31 := free_of_one hE3.b1) | (at_builtin; refine wpList_app rfl _ _ _ _ rfl w.heap.size 101 i0 _ 3 32 Tryd.underlying95 hi hz0 hz1 hz2 rfl _ (flush bs st pos els).length _ rfl (hown3.alloc _) _ 1 [.int .i64 (x), .int .i64 pos, .string { data := #[] }] rfl (src_new Tryd.underlying95 w3 _ 3 1 1 rfl (by intro u hu; simp at hu; rcases hu with rfl | rfl | rfl <;> rfl)) (by unfold maxLen; omega) (by omega) (by have := hC3.size; have := hb2.size; simp; omega) ?_; intro l4 w4 hown4 hgr4 _ _; have hE4 := (hE3.alloc _).grown (hown3.alloc _) hgr4; have hC4 := ((hC3.trans (Chg.of_below ((Below.refl _ _).alloc (Nat.le_refl _) _) (by have := hC3.size; have := hb2.size; omega))).trans (Chg.grown (hown3.alloc _) hgr4 (by have := hC3.size; have := hb2.size; simp; omega))); obtain ⟨a4, cp4, rfl⟩ := own_shape hown4; have c41 := cell_of_one hE4.b1; have f41 := free_of_one hE4.b1; have hE5 := hE4.set1 (.slice a4 ((flush bs st pos els).length + 1) cp4); have c52 := cell_of_one hE5.b2; have f52 := free_of_one hE5.b2; clear hgr4))
              have hown5 := ownsRow_setCell_other hown4 (a := ⟨w.heap.size + 1, 0, none⟩) (hE4.own_ne hown4 1 (by omega)) (.slice a4 ((flush bs st pos els).length + 1) cp4)
              have hown6 := ownsRow_setCell_other hown5 (a := ⟨w.heap.size + 1 + 1, 0, none⟩) (hE5.own_ne hown5 2 (by omega)) (.int .i64 ((pos : Int) + 1))
              have hC6 := (((hchg.trans (Chg.of_below hb2 hsw)).trans hC4).trans (Chg.set w4 (.slice a4 ((flush bs st pos els).length + 1) cp4) (show w.heap.size ≤ w.heap.size + 1 by omega) (by omega))).trans (Chg.set (w4.setCell ⟨w.heap.size + 1, 0, none⟩ (.slice a4 ((flush bs st pos els).length + 1) cp4)) (.int .i64 ((pos : Int) + 1)) (show w.heap.size ≤ w.heap.size + 1 + 1 by omega) (by omega))
              go_roundw
              case rel =>
                refine ⟨k + 1, pos + 1, -1, _, flush bs st pos els ++ [(⟨x, (pos : Int), []⟩ : El)], by omega, by go_num, by rw [show ((pos + 1 : Nat) : Int) = (pos : Int) + 1 from by omega]; exact hE5.set2 _, ?_, HG2.out, HP2.out, by omega, .inl rfl, by simp; omega, hC6⟩
                rw [List.length_append, elcells_append]
                exact hown6
              case measure => simp [intOf]; omega
            · have n32 : (x == 32) = false := beq_eq_false_iff_ne.2 (by omega)
              have n40 : (x == 40) = false := beq_eq_false_iff_ne.2 (by omega)
              have n41 : (x == 41) = false := beq_eq_false_iff_ne.2 (by omega)
              have n124 : (x == 124) = false := beq_eq_false_iff_ne.2 (by omega)
              have n38 : (x == 38) = false := beq_eq_false_iff_ne.2 (by omega)
              have n33 : (x == 33) = true := beq_iff_eq.2 hxe
              clear hxe
              go_wp2_with (first | (go_at_call 92; refine HL.out.mono ?_; rintro e w2 ⟨rfl, hb2⟩; have hE2 := hE.below hb2; have c3 := cell_of_one hE2.b3; have f3 := free_of_one hE2.b3; have c2 := cell_of_one hE2.b2; have f2 := free_of_one hE2.b2; have c1 := cell_of_one hE2.b1; have f1 := free_of_one hE2.b1) | (go_at_call 93; refine (HDg.out _).mono ?_; rintro e w' ⟨rfl, rfl⟩) | (go_at_call 89; refine (HFL.out _ hb2).mono ?_; rintro e w3 ⟨rfl, l3, hE3, hown3, hC3⟩; obtain ⟨a3, cp3, rfl⟩ := own_shape hown3; have c32 := cell_of_one hE3.b2; have f32 := free_of_one hE3.b2; have c31 := cell_of_one hE3.b1; have f31 := free_of_one hE3.b1) | (at_builtin; refine wpList_app rfl _ _ _ _ rfl w.heap.size 101 i0 _ 3 32 Tryd.underlying95 hi hz0 hz1 hz2 rfl _ (flush bs st pos els).length _ rfl (hown3.alloc _) _ 1 [.int .i64 (x), .int .i64 pos, .string { data := #[] }] rfl (src_new Tryd.underlying95 w3 _ 3 1 1 rfl (by intro u hu; simp at hu; rcases hu with rfl | rfl | rfl <;> rfl)) (by unfold maxLen; omega) (by omega) (by have := hC3.size; have := hb2.size; simp; omega) ?_; intro l4 w4 hown4 hgr4 _ _; have hE4 := (hE3.alloc _).grown (hown3.alloc _) hgr4; have hC4 := ((hC3.trans (Chg.of_below ((Below.refl _ _).alloc (Nat.le_refl _) _) (by have := hC3.size; have := hb2.size; omega))).trans (Chg.grown (hown3.alloc _) hgr4 (by have := hC3.size; have := hb2.size; simp; omega))); obtain ⟨a4, cp4, rfl⟩ := own_shape hown4; have c41 := cell_of_one hE4.b1; have f41 := free_of_one hE4.b1; have hE5 := hE4.set1 (.slice a4 ((flush bs st pos els).length + 1) cp4); have c52 := cell_of_one hE5.b2; have f52 := free_of_one hE5.b2; clear hgr4))
              have hown5 := ownsRow_setCell_other hown4 (a := ⟨w.heap.size + 1, 0, none⟩) (hE4.own_ne hown4 1 (by omega)) (.slice a4 ((flush bs st pos els).length + 1) cp4)
              have hown6 := ownsRow_setCell_other hown5 (a := ⟨w.heap.size + 1 + 1, 0, none⟩) (hE5.own_ne hown5 2 (by omega)) (.int .i64 ((pos : Int) + 1))
              have hC6 := (((hchg.trans (Chg.of_below hb2 hsw)).trans hC4).trans (Chg.set w4 (.slice a4 ((flush bs st pos els).length + 1) cp4) (show w.heap.size ≤ w.heap.size + 1 by omega) (by omega))).trans (Chg.set (w4.setCell ⟨w.heap.size + 1, 0, none⟩ (.slice a4 ((flush bs st pos els).length + 1) cp4)) (.int .i64 ((pos : Int) + 1)) (show w.heap.size ≤ w.heap.size + 1 + 1 by omega) (by omega))
              go_roundw
              case rel =>
                refine ⟨k + 1, pos + 1, -1, _, flush bs st pos els ++ [(⟨x, (pos : Int), []⟩ : El)], by omega, by go_num, by rw [show ((pos + 1 : Nat) : Int) = (pos : Int) + 1 from by omega]; exact hE5.set2 _, ?_, HG2.out, HP2.out, by omega, .inl rfl, by simp; omega, hC6⟩
                rw [List.length_append, elcells_append]
                exact hown6
              case measure => simp [intOf]; omega
          · rw [if_neg hsep] at hg
            have HG2 := Lib.hid hg
            have hsf : x ≠ 40 ∧ x ≠ 41 ∧ x ≠ 124 ∧ x ≠ 38 ∧ x ≠ 33 := by
              simp only [sepChar, Bool.or_eq_true, beq_iff_eq] at hsep; omega
            have n32 : (x == 32) = false := beq_eq_false_iff_ne.2 h32
            have n40 : (x == 40) = false := beq_eq_false_iff_ne.2 (by omega)
            have n41 : (x == 41) = false := beq_eq_false_iff_ne.2 (by omega)
            have n124 : (x == 124) = false := beq_eq_false_iff_ne.2 (by omega)
            have n38 : (x == 38) = false := beq_eq_false_iff_ne.2 (by omega)
            have n33 : (x == 33) = false := beq_eq_false_iff_ne.2 (by omega)
            clear hg hsep h32 hsf
            go_wp2_with (first | (go_at_call 92; refine HL.out.mono ?_; rintro e w2 ⟨rfl, hb2⟩; have hE2 := hE.below hb2; have c3 := cell_of_one hE2.b3; have f3 := free_of_one hE2.b3; have c2 := cell_of_one hE2.b2; have f2 := free_of_one hE2.b2; have c1 := cell_of_one hE2.b1; have f1 := free_of_one hE2.b1) | (go_at_call 93; refine (HDg.out _).mono ?_; rintro e w' ⟨rfl, rfl⟩) | (go_at_call 89; refine (HFL.out _ hb2).mono ?_; rintro e w3 ⟨rfl, l3, hE3, hown3, hC3⟩; obtain ⟨a3, cp3, rfl⟩ := own_shape hown3; have c32 := cell_of_one hE3.b2; have f32 := free_of_one hE3.b2; have c31 := cell_of_one hE3.b1; have f31 := free_of_one hE3.b1) | (at_builtin; refine wpList_app rfl _ _ _ _ rfl w.heap.size 101 i0 _ 3 32 Tryd.underlying95 hi hz0 hz1 hz2 rfl _ (flush bs st pos els).length _ rfl (hown3.alloc _) _ 1 [.int .i64 (-3), .int .i64 pos, .string { data := #[] }] rfl (src_new Tryd.underlying95 w3 _ 3 1 1 rfl (by intro u hu; simp at hu; rcases hu with rfl | rfl | rfl <;> rfl)) (by unfold maxLen; omega) (by omega) (by have := hC3.size; have := hb2.size; simp; omega) ?_; intro l4 w4 hown4 hgr4 _ _; have hE4 := (hE3.alloc _).grown (hown3.alloc _) hgr4; have hC4 := ((hC3.trans (Chg.of_below ((Below.refl _ _).alloc (Nat.le_refl _) _) (by have := hC3.size; have := hb2.size; omega))).trans (Chg.grown (hown3.alloc _) hgr4 (by have := hC3.size; have := hb2.size; simp; omega))); obtain ⟨a4, cp4, rfl⟩ := own_shape hown4; have c41 := cell_of_one hE4.b1; have f41 := free_of_one hE4.b1; have hE5 := hE4.set1 (.slice a4 ((flush bs st pos els).length + 1) cp4); have c52 := cell_of_one hE5.b2; have f52 := free_of_one hE5.b2; clear hgr4))
            go_ret
            have hC6 := (hchg.trans (Chg.of_below hb2 hsw)).trans hC4
            refine ⟨_, rfl, ?_, BW1.trans hC6.below⟩
            rw [HG2.out, List.length_append, elcells_append]
            exact hown4
    · have hke : cs.drop k = [] := List.drop_of_length_le (by omega)
      have hg := HG.out
      rw [hke] at hg
      simp only [elGo] at hg
      have HG2 := Lib.hid hg
      have hFL : ∀ w2, Below wr.heap.size wr w2 → Calls Tryd.prog 89 #[.pointer (some ⟨w.heap.size + 1 + 1 + 1, 0, none⟩), .pointer (some ⟨w.heap.size + 1, 0, none⟩), .pointer (some ⟨w.heap.size, 0, none⟩), .pointer (some ⟨w.heap.size + 1 + 1, 0, none⟩)] w2 (Flushed w.heap.size (.slice ao bs.length cv) (flush bs st pos els) pos w2) := by
        intro w2 hb2
        have hr2 : Rd w2 (.slice ao bs.length cv) bs.length 1 (bcells bs) := (HRD0.out _ ((BW1.trans hchg.below).trans (hb2.mono hsw)))
        exact flush_any w.heap.size _ l els bs st pos w2 (htr.below hb2) (hE.below hb2) (by have := hchg.size; have := hb2.size; omega) (own_below' hown hb2) hr2 HLOW.out HST.out hpos (by omega) (by omega)
      have HFL := Lib.hid hFL
      have hfl := flush_len bs st pos els
      have hb2 := Below.refl wr.heap.size wr
      have HB2 := Lib.hid hb2
      clear hg hke hFL hb2
      go_wp2_with (first | (go_at_call 89; refine (HFL.out _ HB2.out).mono ?_; rintro e w3 ⟨rfl, l3, hE3, hown3, hC3⟩; obtain ⟨a3, cp3, rfl⟩ := own_shape hown3; have c30 := cell_of_one hE3.b0; have c31 := cell_of_one hE3.b1) | (at_builtin; refine wpList_app rfl _ _ _ _ rfl w.heap.size 101 i0 _ 3 32 Tryd.underlying95 hi hz0 hz1 hz2 rfl _ (flush bs st pos els).length _ rfl (hown3.alloc _) _ 1 [.int .i64 (-2), .int .i64 bs.length, .string { data := #[] }] rfl (src_new Tryd.underlying95 w3 _ 3 1 1 rfl (by intro u hu; simp at hu; rcases hu with rfl | rfl | rfl <;> rfl)) (by unfold maxLen; omega) (by omega) (by have := hC3.size; simp; omega) ?_; intro l4 w4 hown4 hgr4 _ _))
      have hC4 := ((hC3.trans (Chg.of_below ((Below.refl _ _).alloc (Nat.le_refl _) _) (by have := hC3.size; omega))).trans (Chg.grown (hown3.alloc _) hgr4 (by have := hC3.size; simp; omega)))
      clear hgr4
      go_wp2
      go_ret
      refine ⟨_, rfl, ?_, BW1.trans (hchg.trans hC4).below⟩
      rw [HG2.out, List.length_append, elcells_append]
      exact hown4
end Go.Proofs.YteegbjjpjdlcmaaDoor
