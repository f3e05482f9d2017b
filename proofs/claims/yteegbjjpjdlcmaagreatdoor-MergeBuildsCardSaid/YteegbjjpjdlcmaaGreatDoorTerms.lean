/- token.Terms: the terms of bytes. -/
import Derived.Test.YteegbjjpjdlcmaaGreatDoorTerm
import Derived.Test.YteegbjjpjdlcmaaGreatDoorTokLaw
set_option linter.unusedVariables false
namespace Go.Proofs.YteegbjjpjdlcmaaGreatDoor
open Go.RowKit

theorem infoStr : (Tryz.prog.info? 9).map (fun i => (i.zero, i.size, i.bytes)) = some (some (.string ByteArray.empty), 1, 16) := by kernel_rfl

def scells (ls : List (List UInt8)) : List Value := ls.map str
theorem scells_len (a : List (List UInt8)) : (scells a).length = a.length := by simp [scells]
theorem scells_append (a b : List (List UInt8)) : scells (a ++ b) = scells a ++ scells b := by simp [scells]
theorem scells_one (a : List (List UInt8)) : ∀ u ∈ scells a, u.oneCell' = true := by
  intro u hu
  simp only [scells, List.mem_map] at hu
  obtain ⟨b, _, rfl⟩ := hu; rfl

/-- two rows of different element types lie in different blocks. -/
theorem own_ne {w : World} {b b' : Nat} {e e' : TypeId} {s s' : Nat} {v v' : Value} {n n' : Nat} {xs xs' : List Value} (h : w.ownsRow b e s v n xs) (h' : w.ownsRow b' e' s' v' n' xs') (hne : e ≠ e') : v.ownBlock = none ∨ v.ownBlock ≠ v'.ownBlock := by
  rcases h.2 with ⟨rfl, _⟩ | ⟨g, cap, cur, rfl, _, hg, _⟩
  · exact .inl rfl
  · right
    rcases h'.2 with ⟨rfl, _⟩ | ⟨g', cap', cur', rfl, _, hg', _⟩
    · simp [Value.ownBlock]
    · intro he
      simp only [Value.ownBlock, Option.some.injEq] at he
      subst he
      rw [hg] at hg'
      simp at hg'
      exact hne hg'.2

set_option maxRecDepth 10000 in
set_option maxHeartbeats 2000000 in
theorem terms_any (v : Value) (l : List UInt8) (w : World) (ht : Tabs w) (h : Rd w v l.length 1 (bcells l)) (hn : l.length ≤ 100000) :
    Calls Tryz.prog 42 #[v] w (Gives w 9 1 (terms l).length (scells (terms l))) := by
  obtain ⟨i0, hi, hz0, hz1, hz2⟩ := info_parts infoInt
  obtain ⟨j0, hj, hy0, hy1, hy2⟩ := info_parts infoStr
  have hdec := decode_any v l w h hn
  have hch := decode_char l
  have hlen := decode_len l
  have hterms : terms l = (words (decode l)).map term := rfl
  generalize decode l = cs at *
  have HT := Lib.hid hterms; clear hterms
  have HCH := Lib.hid hch; clear hch
  have HD := Lib.hid hdec; clear hdec
  go_enter Tryz.func42, Tryz.ntmps42
  go_wp2_with (go_at_call 54; refine HD.out.mono ?_; rintro e w1 ⟨v1, rfl, hown1, hb1⟩; obtain ⟨a1, c1, rfl⟩ := own_shape hown1)
  have hcell : Hid (∀ k (hk : k < cs.length), ∃ b off, a1 = some ⟨b, off, none⟩ ∧ w1.cell? ⟨b, off + k, none⟩ = some (.int .i64 cs[k])) := by
    obtain ⟨-, -, ⟨ao, c, hv, h0⟩ | ⟨b, off, c, hv, -, -, -, h3⟩⟩ := Rd.of_own hown1
    · intro k hk; omega
    · simp only [Value.slice.injEq] at hv
      exact fun k hk => ⟨b, off, hv.1, h3 k _ (by simp [icells, hk])⟩
  have ht1 := ht.below hb1
  clear hown1
  go_loopw [3, 4, 10] (fun o u i wr => ∃ (k : Nat) (done : List (List Int)) (cur : List Int), k ≤ cs.length ∧ i = .int .i64 k ∧ Hid (words cs = done ++ wordsGo cur (cs.drop k)) ∧ done.length ≤ k ∧ cur.length ≤ k ∧ Hid (∀ c ∈ cur, isChar c = true) ∧ wr.ownsRow w1.heap.size 9 1 o done.length (scells (done.map term)) ∧ wr.ownsRow w1.heap.size 3 1 u cur.length (icells cur) ∧ Below w1.heap.size w1 wr) (fun _ _ i _ => cs.length - (intOf i).toNat)
  case atStart => exact ⟨0, [], [], Nat.zero_le _, rfl, rfl, Nat.le_refl _, Nat.le_refl _, fun _ h => by simp at h, World.ownsRow_nil _ _ _ _, World.ownsRow_nil _ _ _ _, Below.refl _ _⟩
  case round =>
    obtain ⟨k, done, cur, hk, rfl, HW, hdk, hck, HC, hown3, hown4, hbel⟩ := hrel
    have hsz := hbel.size
    have hsz1 := hb1.size
    obtain ⟨a4, c4, rfl⟩ := own_shape hown4
    by_cases hlt : k < cs.length
    · obtain ⟨b, off, rfl, hc0⟩ := hcell.out k hlt
      have hcur := (hbel.cell (World.block_lt_of_cell? w1 _ hc0)).trans hc0
      have hcc : isChar cs[k] = true := HCH.out _ (List.getElem_mem _)
      have hdrop : cs.drop k = cs[k] :: cs.drop (k + 1) := List.drop_eq_getElem_cons hlt
      have htr := ht1.below hbel
      have hL := letter_any cs[k] wr htr
      have hDg := fun (w2 : World) => digit_any cs[k] w2
      generalize hx : cs[k] = x at *
      have hN : ∀ u ∈ [Value.int .i64 x], u.oneCell' = true := by intro u hu; simp at hu; subst hu; rfl
      have HN := Lib.hid hN; clear hN
      have HDR := Lib.hid hdrop; clear hdrop
      clear hx hcell hc0
      have HCC := Lib.hid hcc; clear hcc
      by_cases hin : inWord x = true
      · have hfin : Hid (∀ (w2 w4 : World) (v4 : Value), Below wr.heap.size wr w2 → w4.ownsRow w1.heap.size 3 1 v4 (cur.length + 1) (icells cur ++ [.int .i64 x]) → (w2.alloc (.cells #[.int .i64 x] 3)).grownBy w4 (Value.slice a4 cur.length c4).ownBlock →
            w4.ownsRow w1.heap.size 3 1 v4 (cur ++ [x]).length (icells (cur ++ [x])) ∧ w4.ownsRow w1.heap.size 9 1 u3 done.length (scells (done.map term)) ∧ Below w1.heap.size w1 w4) := by
          intro w2 w4 v4 hb2 h1 h2
          have k3 := (own_below' hown3 hb2).alloc (.cells #[.int .i64 x] 3)
          have k4 := (own_below' hown4 hb2).alloc (.cells #[.int .i64 x] 3)
          refine ⟨by rw [List.length_append, icells_append]; exact h1, k3.kept h2 (own_ne k3 k4 (by decide)), ((hbel.trans (hb2.mono hsz)).alloc (by have := hb2.size; omega) _).grown h2 (by have := hb2.size; simp; omega) (fun j hj => (hown4.lt j hj).1)⟩
        have hw : Hid (words cs = done ++ wordsGo (cur ++ [x]) (cs.drop (k + 1))) := by
          show _ = _
          rw [HW.out, HDR.out, words_in _ _ _ hin]
        have hcc2 : Hid (∀ c ∈ cur ++ [x], isChar c = true) := by
          intro c hc
          rcases List.mem_append.1 hc with hc | hc
          · exact HC.out c hc
          · simp at hc; subst hc; exact HCC.out
        cases hLt : isLetter x with
        | true =>
          rw [hLt] at hL
          have HL := Lib.hid hL; clear hL hLt hin hDg
          go_wp2_with (first | (go_at_call 55; refine HL.out.mono ?_; rintro e w2 ⟨rfl, hb2⟩) | (at_builtin; refine wpList_app rfl _ _ _ _ rfl w1.heap.size 3 i0 _ 1 8 Tryz.underlying46 hi hz0 hz1 hz2 rfl _ cur.length _ rfl ((own_below' hown4 hb2).alloc _) _ 1 [.int .i64 x] rfl (src_new Tryz.underlying46 w2 _ 1 1 1 rfl HN.out) (by unfold maxLen; omega) (by omega) (by have := hb2.size; simp; omega) ?_; intro v4 w4 hown4' hgr _ _))
          obtain ⟨f1, f2, f3⟩ := hfin.out w2 w4 v4 hb2 hown4' hgr
          clear hown4' hgr
          go_wp2
          go_roundw
          case rel => exact ⟨k + 1, done, cur ++ [x], by omega, by go_num, hw, by omega, by simp; omega, hcc2, f2, f1, f3⟩
          case measure => simp [intOf]; omega
        | false =>
          have hd : isDigit x = true := by unfold inWord at hin; rw [hLt] at hin; simpa using hin
          rw [hLt] at hL
          rw [hd] at hDg
          have HL := Lib.hid hL
          have HDg := Lib.hid hDg
          clear hL hLt hin hDg hd
          go_wp2_with (first | (go_at_call 55; refine HL.out.mono ?_; rintro e w2 ⟨rfl, hb2⟩) | (go_at_call 56; refine (HDg.out _).mono ?_; rintro e w' ⟨rfl, rfl⟩) | (at_builtin; refine wpList_app rfl _ _ _ _ rfl w1.heap.size 3 i0 _ 1 8 Tryz.underlying46 hi hz0 hz1 hz2 rfl _ cur.length _ rfl ((own_below' hown4 hb2).alloc _) _ 1 [.int .i64 x] rfl (src_new Tryz.underlying46 w2 _ 1 1 1 rfl HN.out) (by unfold maxLen; omega) (by omega) (by have := hb2.size; simp; omega) ?_; intro v4 w4 hown4' hgr _ _))
          obtain ⟨f1, f2, f3⟩ := hfin.out w2 w4 v4 hb2 hown4' hgr
          clear hown4' hgr
          go_wp2
          go_roundw
          case rel => exact ⟨k + 1, done, cur ++ [x], by omega, by go_num, hw, by omega, by simp; omega, hcc2, f2, f1, f3⟩
          case measure => simp [intOf]; omega
      · have hinf : inWord x = false := by simpa using hin
        have hlf : isLetter x = false := by unfold inWord at hinf; simp at hinf; exact hinf.1
        have hdf : isDigit x = false := by unfold inWord at hinf; simp at hinf; exact hinf.2
        rw [hlf] at hL
        rw [hdf] at hDg
        have HL := Lib.hid hL
        have HDg := Lib.hid hDg
        clear hL hlf hin hDg hdf
        by_cases hce : cur = []
        · subst hce
          have hw : Hid (words cs = done ++ wordsGo [] (cs.drop (k + 1))) := by
            show _ = _
            rw [HW.out, HDR.out, words_out _ _ hinf]
          clear hinf
          go_wp2_with (first | (go_at_call 55; refine HL.out.mono ?_; rintro e w2 ⟨rfl, hb2⟩) | (go_at_call 56; refine (HDg.out _).mono ?_; rintro e w' ⟨rfl, rfl⟩))
          go_roundw
          case rel => exact ⟨k + 1, done, [], by omega, by go_num, hw, by omega, by simp, fun c h => by simp at h, own_below' hown3 hb2, own_below' hown4 hb2, hbel.trans (hb2.mono hsz)⟩
          case measure => simp [intOf]; omega
        · have hcl : 0 < cur.length := List.length_pos_iff.2 hce
          have hw : Hid (words cs = (done ++ [cur]) ++ wordsGo [] (cs.drop (k + 1))) := by
            show _ = _
            rw [HW.out, HDR.out, words_cut _ _ _ hinf hce]; simp
          have HTM : Hid (∀ w2, Below wr.heap.size wr w2 → Calls Tryz.prog 57 #[.slice a4 cur.length c4] w2 (StrIs (term cur) w2)) := by
            intro w2 hb2
            exact term_any _ cur w2 (htr.below hb2) (Rd.of_own (own_below' hown4 hb2)) HC.out (by omega)
          have hN2 : ∀ u ∈ [Value.string (bstr (term cur))], u.oneCell' = true := by intro u hu; simp at hu; subst hu; rfl
          have HN2 := Lib.hid hN2; clear hN2
          have hfin : Hid (∀ (w3 w4 : World) (v4 : Value), Below wr.heap.size wr w3 → w4.ownsRow w1.heap.size 9 1 v4 (done.length + 1) (scells (done.map term) ++ [Value.string (bstr (term cur))]) → (w3.alloc (.cells #[Value.string (bstr (term cur))] 9)).grownBy w4 u3.ownBlock →
              w4.ownsRow w1.heap.size 9 1 v4 (done ++ [cur]).length (scells ((done ++ [cur]).map term)) ∧ Below w1.heap.size w1 w4) := by
            intro w3 w4 v4 hb3 h1 h2
            refine ⟨?_, ((hbel.trans (hb3.mono hsz)).alloc (by have := hb3.size; omega) _).grown h2 (by have := hb3.size; simp; omega) (fun j hj => (hown3.lt j hj).1)⟩
            rw [List.length_append, List.map_append, scells_append]
            exact h1
          clear hinf hce
          go_wp2_with (first | (go_at_call 55; refine HL.out.mono ?_; rintro e w2 ⟨rfl, hb2⟩) | (go_at_call 56; refine (HDg.out _).mono ?_; rintro e w' ⟨rfl, rfl⟩) | (go_at_call 57; refine (HTM.out _ hb2).mono ?_; rintro e w3 ⟨rfl, hb3⟩; have hb23 := hb2.trans (hb3.mono hb2.size)) | (at_builtin; refine wpList_app rfl _ _ _ _ rfl w1.heap.size 9 j0 _ 1 16 Tryz.underlying64 hj hy0 hy1 hy2 rfl _ done.length _ rfl ((own_below' hown3 hb23).alloc _) _ 1 [Value.string (bstr (term cur))] rfl (src_new Tryz.underlying64 w3 _ 1 1 1 rfl HN2.out) (by unfold maxLen; omega) (by omega) (by have := hb23.size; simp; omega) ?_; intro v4 w4 hown4' hgr _ _))
          obtain ⟨f1, f2⟩ := hfin.out w3 w4 v4 hb23 hown4' hgr
          clear hown4' hgr
          go_wp2
          go_roundw
          case rel => exact ⟨k + 1, done ++ [cur], [], by omega, by go_num, hw, by simp; omega, by simp, fun c h => by simp at h, f1, World.ownsRow_nil _ _ _ _, f2⟩
          case measure => simp [intOf]; omega
    · have hke : cs.drop k = [] := List.drop_of_length_le (by omega)
      have htr := ht1.below hbel
      by_cases hce : cur = []
      · subst hce
        have hfin : Hid (terms l = done.map term) := by
          show _ = _
          rw [HT.out, HW.out, hke, words_end]; simp
        clear hke
        go_wp2
        go_ret
        rw [hfin.out]
        exact ⟨_, rfl, by rw [List.length_map]; exact own_mono hown3 hsz1, hb1.trans (hbel.mono hsz1)⟩
      · have hcl : 0 < cur.length := List.length_pos_iff.2 hce
        have hfin : Hid (terms l = (done ++ [cur]).map term) := by
          show _ = _
          rw [HT.out, HW.out, hke, words_end, if_neg hce]
        have HTM := Lib.hid (term_any _ cur wr htr (Rd.of_own hown4) HC.out (by omega))
        have hN2 : ∀ u ∈ [Value.string (bstr (term cur))], u.oneCell' = true := by intro u hu; simp at hu; subst hu; rfl
        have HN2 := Lib.hid hN2; clear hN2
        clear hke hce
        go_wp2_with (first | (go_at_call 57; refine HTM.out.mono ?_; rintro e w3 ⟨rfl, hb3⟩) | (at_builtin; refine wpList_app rfl _ _ _ _ rfl w1.heap.size 9 j0 _ 1 16 Tryz.underlying64 hj hy0 hy1 hy2 rfl _ done.length _ rfl ((own_below' hown3 hb3).alloc _) _ 1 [Value.string (bstr (term cur))] rfl (src_new Tryz.underlying64 w3 _ 1 1 1 rfl HN2.out) (by unfold maxLen; omega) (by omega) (by have := hb3.size; simp; omega) ?_; intro v4 w4 hown4' hgr _ _))
        have hB : Below w1.heap.size w1 w4 := ((hbel.trans (hb3.mono hsz)).alloc (by have := hb3.size; omega) _).grown hgr (by have := hb3.size; simp; omega) (fun j hj => (hown3.lt j hj).1)
        clear hgr
        go_wp2
        go_ret
        rw [hfin.out]
        refine ⟨_, rfl, ?_, hb1.trans (hB.mono hsz1)⟩
        rw [List.length_map, List.length_append, List.map_append, scells_append]
        exact own_mono hown4' hsz1
end Go.Proofs.YteegbjjpjdlcmaaGreatDoor
