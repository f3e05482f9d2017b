/- rubricklaw05.TokenRows: the walk. -/
import Derived.Test.YtjbmihgfneamlaaDoorCutsWalk
import Derived.Test.YtjbmihgfneamlaaDoorRowsLaw
set_option linter.unusedVariables false
namespace Go.Proofs.YtjbmihgfneamlaaDoor
open Go.RowKit Go.Sort

theorem strApp (a b : List (List UInt8)) : ([] ++ scells a) ++ scells b = scells (a ++ b) := by rw [List.nil_append, scells_append]

/-- the same, at rows of the call's own of whatever make. -/
theorem same_true' {v1 v2 : Value} {x : List (List UInt8)} {W : World} {n m : Nat} (hn : n = x.length) (hm : m = x.length) (h1 : Rd W v1 n 1 (scells x)) (h2 : Rd W v2 m 1 (scells x)) :
    Calls Tryd.prog 23 #[v1, v2] W fun e w' => e = .returned (.bool true) ∧ Below W.heap.size W w' := by
  subst hn
  subst hm
  have := same02_any v1 v2 x x W h1 h2
  simp only [beq_self_eq_true] at this
  exact this

set_option maxRecDepth 100000 in
set_option maxHeartbeats 8000000 in
theorem rows_walk (va : Value) (a : List UInt8) (z : Int) (vb : Value) (b : List UInt8) (w : World) (ht : Tabs w) (h : Rd w va a.length 1 (bcells a)) (hz : 0 ≤ z ∧ z < 256) (h' : Rd w vb b.length 1 (bcells b)) :
    Calls Tryd.prog 9 #[va, .int .u8 z, vb] w fun e w' => e = .returned (.bool true) ∧ Below w.heap.size w w' := by
  have HK : Hid (∀ W, Below w.heap.size w W → Calls Tryd.prog 22 #[] W fun e w' => e = .returned (.bool true) ∧ Below W.heap.size W w') := fun W hW => knows05_any W (ht.below hW)
  obtain ⟨ao, c, rfl⟩ := rd_shape h
  obtain ⟨ao', c', rfl⟩ := rd_shape h'
  obtain ⟨i0, hi, hz0, hz1, hz2⟩ := info_parts infoByte
  obtain ⟨j0, hj, hy0, hy1, hy2⟩ := info_parts infoStr
  by_cases hla : 2000 < a.length
  · have hG := Lib.hid (fun W => great05_yes ao a.length c W hla)
    clear h h' ht
    go_enter Tryd.func9, Tryd.ntmps9
    go_wp2_with (first | (go_at_call 21; refine (hG.out _).mono ?_; rintro e w' ⟨rfl, rfl⟩) | (go_at_call 22; refine (HK.out _ (Below.refl _ _)).mono ?_; rintro e w2 ⟨rfl, hb2⟩))
    go_ret
    exact ⟨rfl, hb2⟩
  · have hG := Lib.hid (fun W => great05_no ao a.length c W hla)
    by_cases hlb : 2000 < b.length
    · have hG2 := Lib.hid (fun W => great05_yes ao' b.length c' W hlb)
      clear h h' ht
      go_enter Tryd.func9, Tryd.ntmps9
      go_wp2_with (first | (go_at_call 21; refine (hG.out _).mono ?_; rintro e w' ⟨rfl, rfl⟩) | (go_at_call 21; refine (hG2.out _).mono ?_; rintro e w' ⟨rfl, rfl⟩) | (go_at_call 22; refine (HK.out _ (Below.refl _ _)).mono ?_; rintro e w2 ⟨rfl, hb2⟩))
      go_ret
      exact ⟨rfl, hb2⟩
    · have hG2 := Lib.hid (fun W => great05_no ao' b.length c' W hlb)
      by_cases hm : 128 ≤ z
      · clear h h' ht
        go_enter Tryd.func9, Tryd.ntmps9
        go_wp2_with (first | (go_at_call 21; refine (hG.out _).mono ?_; rintro e w' ⟨rfl, rfl⟩) | (go_at_call 21; refine (hG2.out _).mono ?_; rintro e w' ⟨rfl, rfl⟩) | (go_at_call 22; refine (HK.out _ (Below.refl _ _)).mono ?_; rintro e w2 ⟨rfl, hb2⟩))
        go_ret
        exact ⟨rfl, hb2⟩
      · have hI := fun W => rin_any z W
        cases hin : inWord z with
        | true =>
          rw [hin] at hI
          have HI := Lib.hid hI
          have hwz : IntKind.i64.wrap z = z := by rw [IntKind.wrap_i64]; omega
          clear h h' ht hI hin
          go_enter Tryd.func9, Tryd.ntmps9
          go_wp2_with (first | (go_at_call 21; refine (hG.out _).mono ?_; rintro e w' ⟨rfl, rfl⟩) | (go_at_call 21; refine (hG2.out _).mono ?_; rintro e w' ⟨rfl, rfl⟩) | (go_at_call 33; refine (HI.out _).mono ?_; rintro e w' ⟨rfl, rfl⟩) | (go_at_call 22; refine (HK.out _ (Below.refl _ _)).mono ?_; rintro e w2 ⟨rfl, hb2⟩))
          go_ret
          exact ⟨rfl, hb2⟩
        | false =>
          rw [hin] at hI
          have HI := Lib.hid hI
          have hwz : IntKind.i64.wrap z = z := by rw [IntKind.wrap_i64]; omega
          have hzu : ch (u8 z) = z := ch_u8 z hz.1 hz.2
          have hlaw : terms (a ++ u8 z :: b) = terms a ++ terms b := terms_mark a (u8 z) b (by have := hzu; unfold ch at this; omega) (by rw [hzu]; exact hin)
          have hcell : ([] ++ bcells a) ++ [Value.int .u8 z] ++ bcells b = bcells (a ++ u8 z :: b) := by rw [List.nil_append, show a ++ u8 z :: b = a ++ ([u8 z] ++ b) from rfl, bcells_append, bcells_append]; simp [bcells, hzu]
          have hlen : (0 + a.length) + 1 + b.length = (a ++ u8 z :: b).length := by simp; omega
          have HA : Hid (∀ W, Below w.heap.size w W → Src Tryd.prog 1 30 (.slice ao a.length c) a.length (bcells a) W) := fun W hW => (h.below hW).src Tryd.underlying30 (bcells_one a)
          have HB : Hid (∀ W, Below w.heap.size w W → Src Tryd.prog 1 30 (.slice ao' b.length c') b.length (bcells b) W) := fun W hW => (h'.below hW).src Tryd.underlying30 (bcells_one b)
          have hZ : ∀ u ∈ [Value.int .u8 z], u.oneCell' = true := by intro u hu; simp at hu; subst hu; rfl
          have HZ := Lib.hid hZ
          have hTA : ∀ W, Below w.heap.size w W → _ := fun W hW => terms_any (.slice ao a.length c) a W (ht.below hW) (h.below hW) (by omega)
          have hTB : ∀ W, Below w.heap.size w W → _ := fun W hW => terms_any (.slice ao' b.length c') b W (ht.below hW) (h'.below hW) (by omega)
          have HTL : Hid (∀ v W, Below w.heap.size w W → Rd W v ((0 + a.length) + 1 + b.length) 1 (([] ++ bcells a) ++ [Value.int .u8 z] ++ bcells b) → Calls Tryd.prog 24 #[v] W (Gives W 9 1 (terms a ++ terms b).length (scells (terms a ++ terms b)))) := fun v W hW hr => by
            rw [hcell, hlen] at hr
            have := terms_any v (a ++ u8 z :: b) W (ht.below hW) hr (by simp; omega)
            rw [hlaw] at this
            exact this
          have l1 := terms_len a
          have l2 := terms_len b
          generalize terms a = ta at *
          generalize terms b = tb at *
          have HTA := Lib.hid hTA
          have HTB := Lib.hid hTB
          have HSO := Lib.hid scells_one
          have hSt : ∀ (W : World) (B : Nat) (v : Value) (t : List (List UInt8)), W.ownsRow B 9 1 v t.length (scells t) → Src Tryd.prog 1 41 v t.length (scells t) W := fun W B v t hW => (Rd.of_own hW).src Tryd.underlying41 (scells_one t)
          have HST := Lib.hid hSt
          clear h h' ht hI hin hTA hTB hlaw hcell hlen hZ hzu hSt
          go_enter Tryd.func9, Tryd.ntmps9
          go_wp2_with (first
            | (go_at_call 21; refine (hG.out _).mono ?_; rintro e w' ⟨rfl, rfl⟩)
            | (go_at_call 21; refine (hG2.out _).mono ?_; rintro e w' ⟨rfl, rfl⟩)
            | (go_at_call 33; refine (HI.out _).mono ?_; rintro e w' ⟨rfl, rfl⟩)
            | (go_at_call 22; refine (HK.out _ B9).mono ?_; rintro e w10 ⟨rfl, hb10⟩; have B10 := B9.trans (hb10.mono B9.size))
            | (go_at_call 23; refine (same_true' rfl (by simp) ((Rd.of_own O4.out).below D8) (strApp ta tb ▸ hm8.rd)).mono ?_; rintro e w9 ⟨rfl, hb9⟩; have B9 := B8.trans (hb9.mono B8.size))
            | (at_builtin; refine wpList_app_m rfl _ _ _ _ rfl w4.heap.size 9 j0 _ 1 16 Tryd.underlying41 hj hy0 hy1 hy2 rfl v6 (0 + ta.length) _ rfl (hm6.below hb7) _ tb.length (scells tb) rfl (HST.out _ _ _ _ hown7) (by unfold maxLen; omega) (by omega) (by have := D7.size; omega) ?_; intro v8 w8 hm8 hg8; have D8 := D7.grown hg8 D7.size (fun k hk => hm6.lt k hk); have B8 := B4.trans (D8.mono B4.size))
            | (go_at_call 24; refine (HTB.out _ B6).mono ?_; rintro e w7 ⟨v7, rfl, hown7, hb7⟩; have D7 := D6.trans (hb7.mono D6.size))
            | (at_builtin; refine wpList_app_m rfl _ _ _ _ rfl w4.heap.size 9 j0 _ 1 16 Tryd.underlying41 hj hy0 hy1 hy2 rfl (.slice (some ⟨w4.heap.size, 0, none⟩) 0 0) 0 _ rfl ((mrow_new w4 w4.heap.size #[] 9 1 0 (0, 0) (Nat.le_refl _) (by decide) rfl).below hb5) _ ta.length (scells ta) rfl (HST.out _ _ _ _ hown5) (by unfold maxLen; omega) (by omega) (by have := D5.size; omega) ?_; intro v6 w6 hm6 hg6; have D6 : Below w4.heap.size w4 w6 := D5.grown hg6 D5.size (by intro k hk; simp only [Value.ownBlock, Option.some.injEq] at hk; omega); have B6 := B4.trans (D6.mono B4.size))
            | (go_at_call 24; refine (HTA.out _ (B4.alloc B4.size _)).mono ?_; rintro e w5 ⟨v5, rfl, hown5, hb5⟩; have D5 : Below w4.heap.size w4 w5 := ((Below.refl w4.heap.size w4).alloc (Nat.le_refl _) (.cells #[] 9)).trans (hb5.mono (by simp)))
            | (go_at_call 24; refine (HTL.out _ _ B3 hm3.rd).mono ?_; rintro e w4 ⟨v4, rfl, hown4, hb4⟩; have B4 := B3.trans (hb4.mono B3.size); have O4 := Lib.hid hown4)
            | (at_builtin; refine wpList_app_m rfl _ _ _ _ rfl w.heap.size 5 i0 _ 1 1 Tryd.underlying30 hi hz0 hz1 hz2 rfl v2 (0 + a.length + 1) _ rfl hm2 _ b.length (bcells b) rfl (HB.out _ B2) (by unfold maxLen; omega) (by omega) B2.size ?_; intro v3 w3 hm3 hg3; have B3 := B2.grown hg3 B2.size (fun k hk => hm2.lt k hk))
            | (at_builtin; refine wpList_app_m rfl _ _ _ _ rfl w.heap.size 5 i0 _ 1 1 Tryd.underlying30 hi hz0 hz1 hz2 rfl v1 (0 + a.length) _ rfl (hm1.below ((Below.refl w1.heap.size w1).alloc (Nat.le_refl _) (.cells #[Value.int .u8 z] 5))) _ 1 [Value.int .u8 z] rfl (src_new Tryd.underlying30 w1 _ 1 1 1 rfl HZ.out) (by unfold maxLen; omega) (by omega) (by have := B1.size; simp; omega) ?_; intro v2 w2 hm2 hg2; have B2 := (B1.alloc B1.size (.cells #[Value.int .u8 z] 5)).grown hg2 (by have := B1.size; simp; omega) (fun k hk => hm1.lt k hk))
            | (at_builtin; refine wpList_app_m rfl _ _ _ _ rfl w.heap.size 5 i0 _ 1 1 Tryd.underlying30 hi hz0 hz1 hz2 rfl (.slice (some ⟨w.heap.size, 0, none⟩) 0 0) 0 _ rfl (mrow_new w w.heap.size #[] 5 1 0 (0, 0) (Nat.le_refl _) (by decide) rfl) _ a.length (bcells a) rfl (HA.out _ ((Below.refl _ _).alloc (Nat.le_refl _) _)) (by unfold maxLen; omega) (by omega) (by simp) ?_; intro v1 w1 hm1 hg1; have B1 : Below w.heap.size w w1 := ((Below.refl w.heap.size w).alloc (Nat.le_refl _) _).grown hg1 (by simp) (by intro k hk; simp only [Value.ownBlock, Option.some.injEq] at hk; omega)))
          go_ret
          exact ⟨by first | rfl | simp, B10⟩
end Go.Proofs.YtjbmihgfneamlaaDoor
