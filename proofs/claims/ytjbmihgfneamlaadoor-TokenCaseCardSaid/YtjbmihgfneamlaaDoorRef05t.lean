/- rubrickref05.Terms: the walk. -/
import Derived.Test.YtjbmihgfneamlaaDoorRef05a
set_option linter.unusedVariables false
namespace Go.Proofs.YtjbmihgfneamlaaDoor
open Go.RowKit Go.Sort

set_option maxRecDepth 100000 in
set_option maxHeartbeats 8000000 in
theorem rterms_any (v : Value) (l : List UInt8) (w : World) (h : Rd w v l.length 1 (bcells l)) (hn : l.length ≤ 100000) :
    Calls Tryd.prog 25 #[v] w (Gives w 9 1 (terms l).length (scells (terms l))) := by
  obtain ⟨j0, hj, hy0, hy1, hy2⟩ := info_parts infoStr
  have hdec := rdecode_any v l w h hn
  have hch := decode_char l
  have hlen := decode_len l
  have hterms : terms l = (words (decode l)).map term := rfl
  generalize decode l = cs at *
  have HT := Lib.hid hterms; clear hterms
  have HCH := Lib.hid hch; clear hch
  have HD := Lib.hid hdec; clear hdec
  clear h
  go_enter Tryd.func25, Tryd.ntmps25
  go_wp2_with (go_at_call 40; refine HD.out.mono ?_; rintro e w1 ⟨v1, rfl, hown1, hb1⟩)
  rcases Nat.eq_zero_or_pos cs.length with h0 | h0
  · have hx : cs = [] := List.length_eq_zero_iff.1 h0
    subst hx
    obtain ⟨a1, c1, rfl⟩ := own_shape hown1
    refine wp_loop_rounds 1 ?_; rw [rounds_succ]
    go_wp2
    go_ret
    rw [HT.out]
    exact ⟨_, rfl, World.ownsRow_nil _ _ _ _, hb1⟩
  · obtain ⟨g, c1, rfl⟩ := own_form hown1 h0
    have hpt := own_parts hown1
    have hcap := hpt.1
    have hcm := hpt.2.1
    unfold maxLen at hcm
    clear hpt
    have HO := Lib.hid hown1
    clear hown1
    have hsz1 := hb1.size
    go_loopw [4, 5] (fun o i wr => ∃ (k : Nat) (done : List (List Int)), k ≤ cs.length + 1 ∧ i = .int .i64 k ∧ Hid (words cs = done ++ wordsGo [] (cs.drop k)) ∧ done.length ≤ k ∧ wr.ownsRow w1.heap.size 9 1 o done.length (scells (done.map term)) ∧ Below w1.heap.size w1 wr) (fun _ i _ => cs.length + 1 - (intOf i).toNat)
    case atStart => exact ⟨0, [], Nat.zero_le _, rfl, rfl, Nat.le_refl _, World.ownsRow_nil _ _ _ _, Below.refl _ _⟩
    case round =>
      obtain ⟨i, done, hi1, rfl, HW, hdk, hown3, hbel⟩ := hrel
      have hsz := hbel.size
      by_cases hlt : i < cs.length
      · have ii : (i : Int) < (cs.length : Int) := by omega
        go_wp2
        go_loopw [6] (fun kv W => ∃ k : Nat, i ≤ k ∧ k ≤ cs.length ∧ kv = .int .i64 k ∧ Hid (∀ j (hj : j < cs.length), i ≤ j → j < k → inWord cs[j] = true) ∧ W = wr) (fun kv _ => cs.length - (intOf kv).toNat)
        case atStart => exact ⟨i, Nat.le_refl _, by omega, rfl, fun j hj h1 h2 => by omega, rfl⟩
        case round =>
          obtain ⟨k, hik, hk, rfl, HIN, rfl⟩ := hrel
          by_cases hkl : k < cs.length
          · have c0 := (own_below' HO.out hbel).cellAt k (by omega)
            rw [show (icells cs)[k]? = some (.int .i64 cs[k]) from by simp [icells, hkl]] at c0
            have ki : (k : Int) < (cs.length : Int) := by omega
            have HI := Lib.hid (fun W => rin_any cs[k] W)
            have HN : Hid (inWord cs[k] = true → ∀ j (hj : j < cs.length), i ≤ j → j < k + 1 → inWord cs[j] = true) := fun h j hj h1 h2 => by
              by_cases e : j = k
              · subst e; exact h
              · exact HIN.out j hj h1 (by omega)
            generalize hxq : cs[k] = x at *
            have HXQ := Lib.hid hxq
            clear hxq
            cases hin : inWord x with
            | true =>
              have HN2 := Lib.hid (HN.out hin)
              have HI2 : Hid (∀ W, Calls Tryd.prog 33 #[.int .i64 x] W fun e w' => e = .returned (.bool true) ∧ W = w') := fun W => by have := HI.out W; rw [hin] at this; exact this
              clear hin
              go_wp2_with (go_at_call 33; refine (HI2.out _).mono ?_; rintro e w' ⟨rfl, rfl⟩)
              go_roundw
              case rel => exact ⟨k + 1, by omega, by omega, by go_num, HN2.out, by first | rfl | trivial⟩
              case measure => simp [intOf]; omega
            | false =>
              have HI2 : Hid (∀ W, Calls Tryd.prog 33 #[.int .i64 x] W fun e w' => e = .returned (.bool false) ∧ W = w') := fun W => by have := HI.out W; rw [hin] at this; exact this
              have hnx : words cs = done ++ ((if i < k then [(cs.drop i).take (k - i)] else []) ++ wordsGo [] (cs.drop (k + 1))) := by
                rw [HW.out, words_next cs i k hik hk HIN.out (fun hj => by rw [HXQ.out]; exact hin)]
              clear hin HN HI
              by_cases hik2 : i < k
              · rw [if_pos hik2] at hnx
                have HNX := Lib.hid hnx
                clear hnx
                have g1 : (i : Int) < (k : Int) := by omega
                have g2 : (i : Int) ≤ (k : Int) := by omega
                have g3 : (k : Int) ≤ (c1 : Int) := by omega
                have g4 : (k : Int) - (i : Int) = ((k - i : Nat) : Int) := by omega
                have hrd := (Rd.of_own (own_below' HO.out hbel)).cut i (k - i) (by omega) (by omega)
                have hml : ((cs.drop i).take (k - i)).length = k - i := by rw [List.length_take, List.length_drop]; omega
                rw [show ((icells cs).drop i).take (k - i) = icells ((cs.drop i).take (k - i)) from by simp [icells, List.map_take, List.map_drop], Nat.zero_add] at hrd
                have hmc : ∀ c ∈ (cs.drop i).take (k - i), isChar c = true := fun c hc => HCH.out c (List.mem_of_mem_drop (List.mem_of_mem_take hc))
                have HTM := Lib.hid (rterm_any _ (k - i) _ wr hml hrd hmc (by omega))
                generalize (cs.drop i).take (k - i) = m at *
                have hN2 : ∀ u ∈ [Value.string (bstr (term m))], u.oneCell' = true := by intro u hu; simp at hu; subst hu; rfl
                have HN2 := Lib.hid hN2
                clear hrd hml hmc hN2
                go_wp2_with (first | (go_at_call 33; refine (HI2.out _).mono ?_; rintro e w' ⟨rfl, rfl⟩) | (go_at_call 46; refine HTM.out.mono ?_; rintro e w3 ⟨rfl, hb3⟩) | (at_builtin; refine wpList_app rfl _ _ _ _ rfl w1.heap.size 9 j0 _ 1 16 Tryd.underlying41 hj hy0 hy1 hy2 rfl _ done.length _ rfl ((own_below' hown3 hb3).alloc _) _ 1 [Value.string (bstr (term m))] rfl (src_new Tryd.underlying41 w3 _ 1 1 1 rfl HN2.out) (by unfold maxLen; omega) (by omega) (by have := hb3.size; simp; omega) ?_; intro v4 w4 hown4' hgr _ _))
                have hB3 : Below w1.heap.size w1 w4 := ((hbel.trans (hb3.mono hsz)).alloc (by have := hb3.size; omega) _).grown hgr (by have := hb3.size; simp; omega) (fun j hj => (hown3.lt j hj).1)
                clear hgr
                go_wp2
                go_roundw
                case rel =>
                  refine ⟨k + 1, done ++ [m], by omega, by go_num, by show _ = _; rw [HNX.out]; simp, by simp; omega, ?_, hB3⟩
                  rw [List.length_append, List.map_append, scells_append]
                  exact hown4'
                case measure => simp [intOf]; omega
              · rw [if_neg hik2] at hnx
                have HNX := Lib.hid hnx
                clear hnx
                have g1 : ¬ (i : Int) < (k : Int) := by omega
                go_wp2_with (go_at_call 33; refine (HI2.out _).mono ?_; rintro e w' ⟨rfl, rfl⟩)
                go_roundw
                case rel => exact ⟨k + 1, done, by omega, by go_num, by show _ = _; rw [HNX.out]; rfl, by omega, hown3, hbel⟩
                case measure => simp [intOf]; omega
          · have ki : ¬ (k : Int) < (cs.length : Int) := by omega
            have hnx : words cs = done ++ ((if i < k then [(cs.drop i).take (k - i)] else []) ++ wordsGo [] (cs.drop (k + 1))) := by
              rw [HW.out, words_next cs i k hik hk HIN.out (fun hj => absurd hj hkl)]
            by_cases hik2 : i < k
            · rw [if_pos hik2] at hnx
              have HNX := Lib.hid hnx
              clear hnx
              have g1 : (i : Int) < (k : Int) := by omega
              have g2 : (i : Int) ≤ (k : Int) := by omega
              have g3 : (k : Int) ≤ (c1 : Int) := by omega
              have g4 : (k : Int) - (i : Int) = ((k - i : Nat) : Int) := by omega
              have hrd := (Rd.of_own (own_below' HO.out hbel)).cut i (k - i) (by omega) (by omega)
              have hml : ((cs.drop i).take (k - i)).length = k - i := by rw [List.length_take, List.length_drop]; omega
              rw [show ((icells cs).drop i).take (k - i) = icells ((cs.drop i).take (k - i)) from by simp [icells, List.map_take, List.map_drop], Nat.zero_add] at hrd
              have hmc : ∀ c ∈ (cs.drop i).take (k - i), isChar c = true := fun c hc => HCH.out c (List.mem_of_mem_drop (List.mem_of_mem_take hc))
              have HTM := Lib.hid (rterm_any _ (k - i) _ wr hml hrd hmc (by omega))
              generalize (cs.drop i).take (k - i) = m at *
              have hN2 : ∀ u ∈ [Value.string (bstr (term m))], u.oneCell' = true := by intro u hu; simp at hu; subst hu; rfl
              have HN2 := Lib.hid hN2
              clear hrd hml hmc hN2
              go_wp2_with (first | (go_at_call 46; refine HTM.out.mono ?_; rintro e w3 ⟨rfl, hb3⟩) | (at_builtin; refine wpList_app rfl _ _ _ _ rfl w1.heap.size 9 j0 _ 1 16 Tryd.underlying41 hj hy0 hy1 hy2 rfl _ done.length _ rfl ((own_below' hown3 hb3).alloc _) _ 1 [Value.string (bstr (term m))] rfl (src_new Tryd.underlying41 w3 _ 1 1 1 rfl HN2.out) (by unfold maxLen; omega) (by omega) (by have := hb3.size; simp; omega) ?_; intro v4 w4 hown4' hgr _ _))
              have hB3 : Below w1.heap.size w1 w4 := ((hbel.trans (hb3.mono hsz)).alloc (by have := hb3.size; omega) _).grown hgr (by have := hb3.size; simp; omega) (fun j hj => (hown3.lt j hj).1)
              clear hgr
              go_wp2
              go_roundw
              case rel =>
                refine ⟨k + 1, done ++ [m], by omega, by go_num, by show _ = _; rw [HNX.out]; simp, by simp; omega, ?_, hB3⟩
                rw [List.length_append, List.map_append, scells_append]
                exact hown4'
              case measure => simp [intOf]; omega
            · rw [if_neg hik2] at hnx
              have HNX := Lib.hid hnx
              clear hnx
              have g1 : ¬ (i : Int) < (k : Int) := by omega
              go_wp2
              go_roundw
              case rel => exact ⟨k + 1, done, by omega, by go_num, by show _ = _; rw [HNX.out]; rfl, by omega, hown3, hbel⟩
              case measure => simp [intOf]; omega
      · have hke : cs.drop i = [] := List.drop_of_length_le (by omega)
        have ii : ¬ (i : Int) < (cs.length : Int) := by omega
        have hfin : Hid (terms l = done.map term) := by
          show _ = _
          rw [HT.out, HW.out, hke, words_end]; simp
        clear hke
        go_wp2
        go_ret
        rw [hfin.out]
        exact ⟨_, rfl, by rw [List.length_map]; exact own_mono hown3 hsz1, hb1.trans (hbel.mono hsz1)⟩
end Go.Proofs.YtjbmihgfneamlaaDoor
