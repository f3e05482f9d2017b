/- rubrickref05.Term, Terms. -/
import Derived.Test.YtjbmihgfneamlaaDoorRef04c
import Derived.Test.YtjbmihgfneamlaaDoorTerm
import Derived.Test.YtjbmihgfneamlaaDoorTerms
import Derived.Test.YtjbmihgfneamlaaDoorPrint
set_option linter.unusedVariables false
namespace Go.Proofs.YtjbmihgfneamlaaDoor
open Go.RowKit Go.Sort

set_option maxRecDepth 100000 in
set_option maxHeartbeats 4000000 in
theorem rterm_any (v : Value) (n : Nat) (l : List Int) (w : World) (hln : l.length = n) (h : Rd w v n 1 (icells l)) (hch : ∀ c ∈ l, isChar c = true) (hn : n ≤ 100000) :
    Calls Tryd.prog 46 #[v] w (StrIs (term l) w) := by
  obtain ⟨ao, c, rfl, hnc, hcell⟩ : ∃ ao c, v = .slice ao n c ∧ (n ≤ 9223372036854775807) ∧ Hid (∀ i (hi : i < l.length), ∃ b off, ao = some ⟨b, off, none⟩ ∧ w.cell? ⟨b, off + i, none⟩ = some (.int .i64 l[i])) := by
    obtain ⟨-, -, ⟨ao, c, rfl, h0⟩ | ⟨b, off, c, rfl, -, -, -, h3⟩⟩ := h
    · exact ⟨ao, c, by rw [h0], by omega, fun i hi => by omega⟩
    · exact ⟨_, c, rfl, by omega, fun i hi => ⟨b, off, rfl, h3 i _ (by simp [icells, hi])⟩⟩
  have HCH := Lib.hid hch
  have HLN := Lib.hid hln
  clear h hch hln
  go_enter Tryd.func46, Tryd.ntmps46
  go_wp2
  go_loopw [3, 4] (fun o i wr => ∃ (k : Nat) (tb : List UInt8), k ≤ n ∧ o = .string (bstr tb) ∧ i = .int .i64 k ∧ tb.length ≤ 64 ∧ Hid (term l = termGo tb (l.drop k)) ∧ Below w.heap.size w wr) (fun _ i _ => n - (intOf i).toNat)
  case atStart => exact ⟨0, [], Nat.zero_le _, rfl, rfl, by simp, rfl, Below.refl _ _⟩
  case round =>
    obtain ⟨k, tb, hk, rfl, rfl, htb, HT, hbel⟩ := hrel
    have hsz := hbel.size
    by_cases hlt : k < n
    · have hltl : k < l.length := by have := HLN.out; omega
      obtain ⟨b, off, rfl, hc0⟩ := hcell.out k hltl
      have hcur := (hbel.cell (World.block_lt_of_cell? w _ hc0)).trans hc0
      have hcc : isChar l[k] = true := HCH.out _ (List.getElem_mem _)
      have hcb := isChar_bd hcc
      have hdrop : l.drop k = l[k] :: l.drop (k + 1) := List.drop_eq_getElem_cons hltl
      have hsc := isChar_bd (small_char hcc)
      have HS := Lib.hid (rsmall_any l[k] wr (by omega) (by omega))
      have HE := Lib.hid (fun (w1 : World) => rencode_any (small l[k]) w1 hsc.1 hsc.2)
      have hel := enc_len (small l[k])
      have hstep : Hid (termGo tb (l.drop k) = if 64 < tb.length + (enc (small l[k])).length then tb else termGo (tb ++ enc (small l[k])) (l.drop (k + 1))) := by
        show _ = _
        rw [hdrop]; rfl
      generalize enc (small l[k]) = ee at *
      generalize small l[k] = sc at *
      have hconv := fun (w2 : World) (v2 : Value) (h2 : Rd w2 v2 ee.length 1 (bcells ee)) => run_to_string (P := Tryd.prog) w2 30 9 5 Tryd.underlying30 Tryd.underlying5 Tryd.underlying9 _ ee h2
      have HCV := Lib.hid hconv
      have s1 := size_bstr tb
      have s2 := size_bstr ee
      have HAP := Lib.hid (bstr_append tb ee)
      clear hdrop hcell hc0 hsc hcc hconv
      have hb4 : tb.length + ee.length ≤ 68 := by omega
      by_cases hov : 64 < tb.length + ee.length
      · have hovi : (64 : Int) < (tb.length : Int) + (ee.length : Int) := by omega
        have hter : Hid (term l = tb) := by
          show _ = _
          rw [HT.out, hstep.out, if_pos hov]
        clear hov hstep
        go_wp2_with (first | (go_at_call 41; refine HS.out.mono ?_; rintro e w1 ⟨rfl, rfl⟩) | (go_at_call 63; refine (HE.out _).mono ?_; rintro e w2 ⟨v2, rfl, hown2, hb2⟩; obtain ⟨a2, c2, rfl⟩ := own_shape hown2; have hB := hbel.trans (hb2.mono hsz); have hconv := HCV.out w2 _ (Rd.of_own hown2)))
        go_ret
        exact ⟨by rw [hter.out]; rfl, hB⟩
      · have hovi : ¬ (64 : Int) < (tb.length : Int) + (ee.length : Int) := by omega
        have hbl : (tb ++ ee).length ≤ 64 := by simp; omega
        have hter : Hid (term l = termGo (tb ++ ee) (l.drop (k + 1))) := by
          show _ = _
          rw [HT.out, hstep.out, if_neg hov]
        clear hov hstep
        go_wp2_with (first | (go_at_call 41; refine HS.out.mono ?_; rintro e w1 ⟨rfl, rfl⟩) | (go_at_call 63; refine (HE.out _).mono ?_; rintro e w2 ⟨v2, rfl, hown2, hb2⟩; obtain ⟨a2, c2, rfl⟩ := own_shape hown2; have hB := hbel.trans (hb2.mono hsz); have hconv := HCV.out w2 _ (Rd.of_own hown2)))
        go_roundw
        case rel => exact ⟨k + 1, tb ++ ee, by omega, by rw [HAP.out], by go_num, hbl, hter, hB⟩
        case measure => simp [intOf]; omega
    · have hter : Hid (term l = tb) := by
        show _ = _
        rw [HT.out, List.drop_of_length_le (by have := HLN.out; omega)]
        rfl
      go_wp2
      go_ret
      exact ⟨by rw [hter.out]; rfl, hbel⟩

/-- a part of a slice of one cell an element. -/
theorem Rd.cut {w : World} {b off n c : Nat} {cells : List Value} (h : Rd w (.slice (some ⟨b, off, none⟩) n c) n 1 cells) (p m : Nat) (h0 : 0 < m) (hm : p + m ≤ n) :
    Rd w (.slice (some ⟨b, off + p, none⟩) m (c - p)) m 1 ((cells.drop p).take m) := by
  obtain ⟨hl, hmx, ⟨ao, c', hv, h0'⟩ | ⟨b', off', c', hv, hn0, hnc, hcm, hcell⟩⟩ := h
  · omega
  · simp only [Value.slice.injEq, Option.some.injEq, Addr.mk.injEq, and_true, true_and] at hv
    obtain ⟨⟨rfl, rfl⟩, rfl⟩ := hv
    refine ⟨by rw [List.length_take, List.length_drop]; omega, by omega, .inr ⟨b, off + p, c - p, rfl, h0, by omega, by omega, fun i u hu => ?_⟩⟩
    have hi : i < m := by
      have := (List.getElem?_eq_some_iff.1 hu).1
      rw [List.length_take] at this; omega
    rw [List.getElem?_take_of_lt hi, List.getElem?_drop] at hu
    rw [show off + p + i = off + (p + i) from by omega]
    exact hcell _ _ hu

/-- one step of the reference: the word that begins at i. -/
theorem words_part (cs : List Int) (i k : Nat) (hik : i ≤ k) (hk : k ≤ cs.length) (h : ∀ j (hj : j < cs.length), i ≤ j → j < k → inWord cs[j] = true) :
    wordsGo [] (cs.drop i) = wordsGo ((cs.drop i).take (k - i)) (cs.drop k) := by
  obtain ⟨d, rfl⟩ : ∃ d, k = i + d := ⟨k - i, by omega⟩
  induction d with
  | zero => simp
  | succ d ih =>
    rw [ih (by omega) (by omega) (fun j hj h1 h2 => h j hj h1 (by omega))]
    have hlt : i + d < cs.length := by omega
    rw [List.drop_eq_getElem_cons hlt, words_in _ _ _ (h (i + d) hlt (by omega) (by omega))]
    congr 1
    rw [show i + (d + 1) - i = d + 1 from by omega, show i + d - i = d from by omega]
    have hd : d < (cs.drop i).length := by rw [List.length_drop]; omega
    rw [List.take_succ_eq_append_getElem hd, List.getElem_drop]

theorem words_next (cs : List Int) (i k : Nat) (hik : i ≤ k) (hk : k ≤ cs.length) (h : ∀ j (hj : j < cs.length), i ≤ j → j < k → inWord cs[j] = true) (he : ∀ hj : k < cs.length, inWord cs[k] = false) :
    wordsGo [] (cs.drop i) = (if i < k then [(cs.drop i).take (k - i)] else []) ++ wordsGo [] (cs.drop (k + 1)) := by
  rw [words_part cs i k hik hk h]
  have hne : i < k → (cs.drop i).take (k - i) ≠ [] := fun h1 e => by
    have := congrArg List.length e
    rw [List.length_take, List.length_drop] at this
    simp at this; omega
  by_cases hkl : k < cs.length
  · rw [List.drop_eq_getElem_cons hkl]
    by_cases h1 : i < k
    · rw [if_pos h1, words_cut _ _ _ (he hkl) (hne h1)]; rfl
    · have : i = k := by omega
      subst this
      rw [if_neg h1, Nat.sub_self, List.take_zero, words_out _ _ (he hkl)]; rfl
  · have e1 : cs.drop k = [] := List.drop_of_length_le (by omega)
    have e2 : cs.drop (k + 1) = [] := List.drop_of_length_le (by omega)
    rw [e1, e2, words_end, words_end]
    by_cases h1 : i < k
    · rw [if_pos h1, if_neg (hne h1)]; simp
    · have : i = k := by omega
      subst this
      rw [if_neg h1]; simp
end Go.Proofs.YtjbmihgfneamlaaDoor
