/- token.term: the term of a word. -/
import Derived.Test.YteegbjjpjdlcmaaGreatDoorStr
set_option linter.unusedVariables false
namespace Go.Proofs.YteegbjjpjdlcmaaGreatDoor
open Go.RowKit

theorem infoByte : (Tryz.prog.info? 5).map (fun i => (i.zero, i.size, i.bytes)) = some (some (.int .u8 0), 1, 1) := by kernel_rfl

theorem bcells_append (a b : List UInt8) : bcells (a ++ b) = bcells a ++ bcells b := by simp [bcells]
theorem bcells_len (a : List UInt8) : (bcells a).length = a.length := by simp [bcells]
theorem bcells_one (a : List UInt8) : ∀ u ∈ bcells a, u.oneCell' = true := by
  intro u hu
  simp only [bcells, List.mem_map] at hu
  obtain ⟨b, _, rfl⟩ := hu; rfl
theorem icells_append (a b : List Int) : icells (a ++ b) = icells a ++ icells b := by simp [icells]
theorem icells_one (a : List Int) : ∀ u ∈ icells a, u.oneCell' = true := by
  intro u hu
  simp only [icells, List.mem_map] at hu
  obtain ⟨b, _, rfl⟩ := hu; rfl
theorem icells_len (a : List Int) : (icells a).length = a.length := by simp [icells]

theorem enc_len (c : Int) : 1 ≤ (enc c).length ∧ (enc c).length ≤ 4 := by
  unfold enc; (repeat' split) <;> simp

theorem small_char {c : Int} (h : isChar c = true) : isChar (small c) = true := by
  have hb := isChar_bd h
  unfold small
  split
  · rename_i s hs
    have h1 := List.find?_some hs
    have h2 := List.mem_of_find?_eq_some hs
    simp only [shifts, List.mem_cons, List.not_mem_nil, or_false] at h2
    simp only [Bool.and_eq_true, decide_eq_true_eq] at h1
    rcases h2 with rfl | rfl | rfl | rfl | rfl | rfl | rfl <;> exact isChar_small (by simp only at *; omega) (by simp only at *; omega)
  · exact h

def StrIs (l : List UInt8) (w : World) (e : Ending) (w' : World) : Prop := e = .returned (.string (bstr l)) ∧ Below w.heap.size w w'

set_option maxRecDepth 10000 in
set_option maxHeartbeats 1000000 in
theorem term_any (v : Value) (l : List Int) (w : World) (ht : Tabs w) (h : Rd w v l.length 1 (icells l)) (hch : ∀ c ∈ l, isChar c = true) (hn : l.length ≤ 100000) :
    Calls Tryz.prog 57 #[v] w (StrIs (term l) w) := by
  obtain ⟨i0, hi, hz0, hz1, hz2⟩ := info_parts infoByte
  obtain ⟨ao, c, rfl, hnc, hcell⟩ : ∃ ao c, v = .slice ao l.length c ∧ (l.length ≤ 9223372036854775807) ∧ Hid (∀ i (hi : i < l.length), ∃ b off, ao = some ⟨b, off, none⟩ ∧ w.cell? ⟨b, off + i, none⟩ = some (.int .i64 l[i])) := by
    obtain ⟨-, -, ⟨ao, c, rfl, h0⟩ | ⟨b, off, c, rfl, -, -, -, h3⟩⟩ := h
    · exact ⟨ao, c, by rw [h0], by omega, fun i hi => by omega⟩
    · exact ⟨_, c, rfl, by omega, fun i hi => ⟨b, off, rfl, h3 i _ (by simp [icells, hi])⟩⟩
  have HCH := Lib.hid hch
  clear h hch
  go_enter Tryz.func57, Tryz.ntmps57
  go_wp2
  go_loopw [3, 10] (fun o i wr => ∃ (k : Nat) (tb : List UInt8), k ≤ l.length ∧ i = .int .i64 k ∧ tb.length ≤ 64 ∧ Hid (term l = termGo tb (l.drop k)) ∧ wr.ownsRow w.heap.size 5 1 o tb.length (bcells tb) ∧ Below w.heap.size w wr) (fun _ i _ => l.length - (intOf i).toNat)
  case atStart => exact ⟨0, [], Nat.zero_le _, rfl, by simp, rfl, World.ownsRow_nil _ _ _ _, Below.refl _ _⟩
  case round =>
    obtain ⟨k, tb, hk, rfl, htb, HT, hown, hbel⟩ := hrel
    have hsz := hbel.size
    obtain ⟨ao3, c3, rfl⟩ := own_shape hown
    by_cases hlt : k < l.length
    · obtain ⟨b, off, rfl, hc0⟩ := hcell.out k hlt
      have hcur := (hbel.cell (World.block_lt_of_cell? w _ hc0)).trans hc0
      have hcc : isChar l[k] = true := HCH.out _ (List.getElem_mem _)
      have hcb := isChar_bd hcc
      have hdrop : l.drop k = l[k] :: l.drop (k + 1) := List.drop_eq_getElem_cons hlt
      have hS := small_any l[k] wr (ht.below (hbel.mono (Nat.le_refl _))) (by omega) (by omega)
      have hE := fun (w1 : World) => encode_any (small l[k]) w1 (small_char hcc)
      have hel := enc_len (small l[k])
      have hstep : Hid (termGo tb (l.drop k) = if 64 < tb.length + (enc (small l[k])).length then tb else termGo (tb ++ enc (small l[k])) (l.drop (k + 1))) := by
        show _ = _
        rw [hdrop]; rfl
      generalize hee : enc (small l[k]) = ee at *
      have HEE := Lib.hid hee; clear hee
      have HS := Lib.hid hS; clear hS
      have HE := Lib.hid hE; clear hE
      clear hdrop hcell hc0
      have hb4 : tb.length + ee.length ≤ 68 := by omega
      by_cases hov : 64 < tb.length + ee.length
      · have hovi : (64 : Int) < (tb.length : Int) + (ee.length : Int) := by omega
        have hter : Hid (term l = tb) := by
          show _ = _
          rw [HT.out, hstep.out, if_pos hov]
        clear hov hstep
        go_wp2_with (first | (go_at_call 71; refine HS.out.mono ?_; rintro e w1 ⟨rfl, hb1⟩) | (go_at_call 70; refine (HE.out _).mono ?_; rintro e w2 ⟨v2, rfl, hown2, hb2⟩; obtain ⟨a2, c2, rfl⟩ := own_shape hown2; have hbb := hb1.trans (hb2.mono hb1.size); have hB := hbel.trans (hbb.mono hsz); have hrd := (Rd.of_own hown).below hbb; have hconv := run_to_string (P := Tryz.prog) w2 42 9 5 Tryz.underlying42 Tryz.underlying5 Tryz.underlying9 _ tb hrd))
        go_ret
        exact ⟨by rw [hter.out]; rfl, hB⟩
      · have hovi : ¬ (64 : Int) < (tb.length : Int) + (ee.length : Int) := by omega
        have hbl : (tb ++ ee).length ≤ 64 := by simp; omega
        have hter : Hid (term l = termGo (tb ++ ee) (l.drop (k + 1))) := by
          show _ = _
          rw [HT.out, hstep.out, if_neg hov]
        clear hov hstep
        go_wp2_with (first | (go_at_call 71; refine HS.out.mono ?_; rintro e w1 ⟨rfl, hb1⟩) | (go_at_call 70; refine (HE.out _).mono ?_; rintro e w2 ⟨v2, rfl, hown2, hb2⟩; obtain ⟨a2, c2, rfl⟩ := own_shape hown2; have hbb := hb1.trans (hb2.mono hb1.size); have hB := hbel.trans (hbb.mono hsz); have hown' := own_below' hown hbb) | (at_builtin; refine wpList_app rfl _ _ _ _ rfl w.heap.size 5 i0 _ 1 1 Tryz.underlying42 hi hz0 hz1 hz2 rfl _ tb.length _ rfl hown' _ ee.length (bcells ee) rfl ((Rd.of_own hown2).src Tryz.underlying42 (bcells_one ee)) (by unfold maxLen; omega) (by omega) hB.size ?_; intro v3 w3 hown3 hgr3 _ _; have hB3 := hB.grown hgr3 hB.size (fun j hj => (hown'.lt j hj).1)))
        go_roundw
        case rel =>
          refine ⟨k + 1, tb ++ ee, by omega, by go_num, hbl, hter, ?_, hB3⟩
          rw [List.length_append, bcells_append]
          exact hown3
        case measure => simp [intOf]; omega
    · have hter : Hid (term l = tb) := by
        show _ = _
        rw [HT.out, List.drop_of_length_le (by omega)]
        rfl
      have hconv := run_to_string (P := Tryz.prog) wr 42 9 5 Tryz.underlying42 Tryz.underlying5 Tryz.underlying9 _ tb (Rd.of_own hown)
      go_wp2
      go_ret
      exact ⟨by rw [hter.out]; rfl, hbel⟩
end Go.Proofs.YteegbjjpjdlcmaaGreatDoor
