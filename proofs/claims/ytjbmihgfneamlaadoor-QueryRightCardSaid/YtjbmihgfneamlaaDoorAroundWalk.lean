/- rubricklaw16.QueryAround: the walk. -/
import Derived.Test.YtjbmihgfneamlaaDoorDeepLaw
import Derived.Test.YtjbmihgfneamlaaDoorBackWalk
import Derived.Test.YtjbmihgfneamlaaDoorMark
set_option linter.unusedVariables false
namespace Go.Proofs.YtjbmihgfneamlaaDoor
open Go.RowKit

/-- Parse: an error. -/
theorem parse_no (b : List UInt8) (er : Int) (h : parseErr b = er) (hne : er ≠ 0) (v : Value) (n : Nat) (cs : List Value) (W : World) (ht : Tabs W) (hr : Rd W v n 1 cs) (hc : cs = bcells b) (hn : b.length = n) (hl : b.length ≤ 1000000000) :
    Calls Tryd.prog 16 #[v] W fun e w' => Below W.heap.size W w' ∧ ∃ p, e = .returned (.tuple #[.slice none 0 0, .int .i64 p, .int .i64 er]) := by
  subst hc
  subst hn
  refine (parse_any v b W ht hr (by omega)).mono ?_
  rintro e w' ⟨hb, ov, rfl, ⟨h0, _⟩ | ⟨h0, rfl⟩⟩
  · exact absurd (h.symm.trans h0) hne
  · exact ⟨hb, _, by rw [h]⟩
/-- Parse: no error. -/
theorem parse_yes (b : List UInt8) (ops : List QOp) (h : parseErr b = 0) (ho : (parsed b).2.ops = ops) (v : Value) (n : Nat) (cs : List Value) (W : World) (ht : Tabs W) (hr : Rd W v n 1 cs) (hc : cs = bcells b) (hn : b.length = n) (hl : b.length ≤ 1000000000) :
    Calls Tryd.prog 16 #[v] W fun e w' => Below W.heap.size W w' ∧ ∃ ov p, e = .returned (.tuple #[ov, .int .i64 p, .int .i64 0]) ∧ w'.ownsRow W.heap.size 38 2 ov ops.length (ocells ops) := by
  subst hc
  subst hn
  subst ho
  refine (parse_any v b W ht hr (by omega)).mono ?_
  rintro e w' ⟨hb, ov, rfl, ⟨h0, hown⟩ | ⟨h0, rfl⟩⟩
  · exact ⟨hb, _, _, by rw [h], hown⟩
  · exact absurd h h0
/-- Parse: whatever comes. -/
theorem parse_some (b : List UInt8) (v : Value) (n : Nat) (cs : List Value) (W : World) (ht : Tabs W) (hr : Rd W v n 1 cs) (hc : cs = bcells b) (hn : b.length = n) (hl : b.length ≤ 1000000000) :
    Calls Tryd.prog 16 #[v] W fun e w' => Below W.heap.size W w' ∧ ∃ ov p er, e = .returned (.tuple #[ov, .int .i64 p, .int .i64 er]) := by
  subst hc
  subst hn
  refine (parse_any v b W ht hr (by omega)).mono ?_
  rintro e w' ⟨hb, ov, rfl, _⟩
  exact ⟨hb, _, _, _, rfl⟩

set_option maxRecDepth 100000 in
set_option maxHeartbeats 4000000 in
theorem around_walk (v : Value) (b : List UInt8) (w : World) (ht : Tabs w) (h : Rd w v b.length 1 (bcells b)) :
    Calls Tryd.prog 4 #[v] w fun e w' => e = .returned (.bool true) ∧ Below w.heap.size w w' := by
  have HK : Hid (∀ W, Below w.heap.size w W → Calls Tryd.prog 14 #[] W fun e w' => e = .returned (.bool true) ∧ Below W.heap.size W w') := fun W hW => knows16_any W (ht.below hW)
  have hsh : ∃ ao c, v = .slice ao b.length c := by
    obtain ⟨-, -, ⟨ao, c, rfl, h0⟩ | ⟨b, off, c, rfl, -⟩⟩ := h
    · exact ⟨ao, c, by rw [h0]⟩
    · exact ⟨_, c, rfl⟩
  obtain ⟨ao, c, rfl⟩ := hsh
  by_cases hlong : 1900 < b.length
  · have h1 : (1900 : Int) < (b.length : Int) := by omega
    clear h ht
    go_enter Tryd.func4, Tryd.ntmps4
    go_wp2_with (go_at_call 14; refine (HK.out _ (Below.refl _ _)).mono ?_; rintro e w2 ⟨rfl, hb2⟩)
    go_ret
    exact ⟨rfl, hb2⟩
  · have hle : b.length ≤ 1900 := by omega
    have h1 : ¬ (1900 : Int) < (b.length : Int) := by omega
    obtain ⟨i0, hi, hz0, hz1, hz2⟩ := info_parts infoByte
    have hcv1 : ∀ W : World, Sem.run Tryd.prog (convert 30 30 (.slice (some ⟨W.heap.size, 0, none⟩) 2 2)) (W.alloc (.cells #[.int .u8 32, .int .u8 32] 5)) = .ok (.slice (some ⟨W.heap.size, 0, none⟩) 2 2) (W.alloc (.cells #[.int .u8 32, .int .u8 32] 5 (2, 2 + 1))) := fun W => Lib.run_convert_bytes_const W 30 5 _ 2 2 Tryd.underlying30 Tryd.underlying5
    have hcv2 : ∀ W : World, Sem.run Tryd.prog (convert 30 30 (.slice (some ⟨W.heap.size, 0, none⟩) 1 1)) (W.alloc (.cells #[.int .u8 40] 5)) = .ok (.slice (some ⟨W.heap.size, 0, none⟩) 1 1) (W.alloc (.cells #[.int .u8 40] 5 (1, 1 + 1))) := fun W => Lib.run_convert_bytes_const W 30 5 _ 1 1 Tryd.underlying30 Tryd.underlying5
    have HR : Hid (∀ W, Below w.heap.size w W → Src Tryd.prog 1 30 (.slice ao b.length c) b.length (bcells b) W) := fun W hW => (h.below hW).src Tryd.underlying30 (bcells_one b)
    obtain ⟨sp1, sp2⟩ := spaces_law b hle
    have c1 : ([] : List Value) ++ bcells b = bcells b := rfl
    have c2 : ([.int .u8 32, .int .u8 32] ++ bcells b) ++ [.int .u8 32] = bcells ([32, 32] ++ b ++ [32]) := by simp [bcells]; decide
    have c3 : ([.int .u8 40] ++ bcells b) ++ [.int .u8 41] = bcells ([40] ++ b ++ [41]) := by simp [bcells]; decide
    have l1 : b.length = 0 + b.length := by omega
    have l2 : ([32, 32] ++ b ++ [32] : List UInt8).length = 2 + b.length + 1 := by simp; omega
    have l3 : ([40] ++ b ++ [41] : List UInt8).length = 1 + b.length + 1 := by simp; omega
    by_cases he : parseErr b = 0
    · have hopl : (parsed b).2.ops.length ≤ 1000000000 := by
        have h2 := (parsed_kept b).few
        have h3 := (parsed_kept b).lt
        have h4 := elGo_len b (decode b) 0 (-1) []
        have h5 := decode_len b
        have h6 : (elems b).length ≤ 20000 := by unfold elems; simp only [List.length_nil] at h4; omega
        simp only [List.length_nil] at h2
        omega
      have hlaw := around_law b hle he
      have HP1 : Hid (∀ v W, Below w.heap.size w W → Rd W v (0 + b.length) 1 ([] ++ bcells b) → _) := fun v W hW hr => parse_yes b _ he rfl v _ _ W (ht.below hW) hr c1 l1 (by omega)
      have HP2 : Hid (∀ v W, Below w.heap.size w W → Rd W v (2 + b.length + 1) 1 (([.int .u8 32, .int .u8 32] ++ bcells b) ++ [.int .u8 32]) → _) := fun v W hW hr => parse_yes ([32, 32] ++ b ++ [32]) _ (sp1.trans he) sp2 v _ _ W (ht.below hW) hr c2 l2 (by omega)
      generalize (parsed b).2.ops = ops at *
      have hsame : (ops == ops) = true := by simp
      have HA : Hid (∀ (v : Value) W, Rd W v ops.length 2 (ocells ops) → _) := fun v W hW => as_any v ops W hW (by omega)
      have HS : Hid (∀ (v1 v2 : Value) W, Rd W v1 ops.length 2 (ocells ops) → Rd W v2 ops.length 2 (ocells ops) → _) := fun v1 v2 W h1 h2 => same_any v1 v2 ops ops W h1 h2
      rw [hsame] at HS
      rcases hlaw with ⟨g0, g1⟩ | ⟨g0, g1⟩
      · have HP3 : Hid (∀ v W, Below w.heap.size w W → Rd W v (1 + b.length + 1) 1 (([.int .u8 40] ++ bcells b) ++ [.int .u8 41]) → _) := fun v W hW hr => parse_yes ([40] ++ b ++ [41]) _ g0 g1 v _ _ W (ht.below hW) hr c3 l3 (by omega)
        clear c1 c2 c3 l1 l2 l3 sp1 sp2 h ht he g0 g1 hsame
        go_enter Tryd.func4, Tryd.ntmps4
        go_wp2_with (first
          | (go_at_call 14; refine (HK.out _ hb14).mono ?_; rintro e w15 ⟨rfl, hb15⟩)
          | (go_at_call 18; refine hs14.out.mono ?_; rintro e w14 ⟨rfl, hb'⟩; have hb14 := hb13.trans (hb'.mono hb13.size); clear hb')
          | (go_at_call 19; refine (HA.out (.slice ao8 ops.length co8) w12 (rd8.below d12)).mono ?_; rintro e w13 ⟨av13, rfl, hown13, hb'⟩; have hb13 := hb12.trans (hb'.mono hb12.size); have hs14 := Lib.hid (HS.out av12 av13 w13 (Rd.of_own (own_below' hown12 hb')) (Rd.of_own hown13)); clear hb')
          | (go_at_call 19; refine (HA.out (.slice ao2 ops.length co2) w11 ((rd2.below k8).below d11)).mono ?_; rintro e w12 ⟨av12, rfl, hown12, hb'⟩; have hb12 := hb11.trans (hb'.mono hb11.size); have d12 := d11.trans (hb'.mono d11.size); clear hb')
          | (go_at_call 18; refine hs11.out.mono ?_; rintro e w11 ⟨rfl, hb'⟩; have hb11 := hb10.trans (hb'.mono hb10.size); have d11 := d10.trans (hb'.mono d10.size); clear hb')
          | (go_at_call 19; refine (HA.out (.slice ao5 ops.length co5) w9 ((rd5.below q8).below d9)).mono ?_; rintro e w10 ⟨av10, rfl, hown10, hb'⟩; have hb10 := hb9.trans (hb'.mono hb9.size); have d10 := d9.trans (hb'.mono d9.size); have hs11 := Lib.hid (HS.out av9 av10 w10 (Rd.of_own (own_below' hown9 hb')) (Rd.of_own hown10)); clear hb')
          | (go_at_call 19; refine (HA.out (.slice ao2 ops.length co2) w8 (rd2.below k8)).mono ?_; rintro e w9 ⟨av9, rfl, hown9, hb'⟩; have hb9 := hb8.trans (hb'.mono hb8.size); have d9 := hb'; clear hb')
          | (go_at_call 16; refine (HP3.out v7 w7 (hb5.trans (kw7.mono hb5.size)) hmv7.rd).mono ?_; rintro e w8 ⟨hb', ov8, p8, rfl, hown8⟩; obtain ⟨ao8, co8, rfl⟩ := own_shape hown8; have rd8 := Rd.of_own hown8; have q8 : Below w5.heap.size w5 w8 := kw7.trans (hb'.mono kw7.size); have k8 : Below w2.heap.size w2 w8 := k5.trans (q8.mono k5.size); have hb8 := hb2.trans (k8.mono hb2.size); clear hb'; clear hown8)
          | (at_builtin; refine wpList_app_m rfl _ _ _ _ rfl w5.heap.size 5 i0 _ 1 1 Tryd.underlying30 hi hz0 hz1 hz2 rfl v6 (1 + b.length) _ rfl (hmv6.below ((Below.refl _ _).alloc (Nat.le_refl _) (.cells #[.int .u8 41] 5))) _ 1 [.int .u8 41] rfl (src_new Tryd.underlying30 w6 #[.int .u8 41] 1 1 1 rfl (by intro u hu; simp at hu; subst hu; rfl)) (by unfold maxLen; omega) (by omega) (by have := kw6.size; simp; omega) ?_; intro v7 w7 hmv7 hgv7; have kw7 : Below w5.heap.size w5 w7 := (kw6.alloc kw6.size _).grown hgv7 (by have := kw6.size; simp; omega) hmv6.lt)
          | (at_builtin; refine wpList_app_m rfl _ _ _ _ rfl w5.heap.size 5 i0 _ 1 1 Tryd.underlying30 hi hz0 hz1 hz2 rfl (.slice (some ⟨w5.heap.size, 0, none⟩) 1 1) 1 _ rfl (mrow_new w5 w5.heap.size #[.int .u8 40] 5 1 1 (1, 1 + 1) (Nat.le_refl _) (by decide) rfl) _ b.length (bcells b) rfl (HR.out _ (hb5.alloc hb5.size _)) (by unfold maxLen; omega) (by omega) (by simp) ?_; intro v6 w6 hmv6 hgv6; have kw6 : Below w5.heap.size w5 w6 := ((Below.refl w5.heap.size w5).alloc (Nat.le_refl _) _).grown hgv6 (by simp) (by intro k hk; simp only [Value.ownBlock, Option.some.injEq] at hk; omega))
          | (go_at_call 16; refine (HP2.out v4 w4 (hb2.trans (kw4.mono hb2.size)) hmv4.rd).mono ?_; rintro e w5 ⟨hb', ov5, p5, rfl, hown5⟩; have k5 : Below w2.heap.size w2 w5 := kw4.trans (hb'.mono kw4.size); have hb5 := hb2.trans (k5.mono hb2.size); obtain ⟨ao5, co5, rfl⟩ := own_shape hown5; have rd5 := Rd.of_own hown5; clear hb' hown5)
          | (at_builtin; refine wpList_app_m rfl _ _ _ _ rfl w2.heap.size 5 i0 _ 1 1 Tryd.underlying30 hi hz0 hz1 hz2 rfl v3 (2 + b.length) _ rfl (hmv3.below ((Below.refl _ _).alloc (Nat.le_refl _) (.cells #[.int .u8 32] 5))) _ 1 [.int .u8 32] rfl (src_new Tryd.underlying30 w3 #[.int .u8 32] 1 1 1 rfl (by intro u hu; simp at hu; subst hu; rfl)) (by unfold maxLen; omega) (by omega) (by have := kw3.size; simp; omega) ?_; intro v4 w4 hmv4 hgv4; have kw4 : Below w2.heap.size w2 w4 := (kw3.alloc kw3.size _).grown hgv4 (by have := kw3.size; simp; omega) hmv3.lt)
          | (at_builtin; refine wpList_app_m rfl _ _ _ _ rfl w2.heap.size 5 i0 _ 1 1 Tryd.underlying30 hi hz0 hz1 hz2 rfl (.slice (some ⟨w2.heap.size, 0, none⟩) 2 2) 2 _ rfl (mrow_new w2 w2.heap.size #[.int .u8 32, .int .u8 32] 5 1 2 (2, 2 + 1) (Nat.le_refl _) (by decide) rfl) _ b.length (bcells b) rfl (HR.out _ (hb2.alloc hb2.size _)) (by unfold maxLen; omega) (by omega) (by simp) ?_; intro v3 w3 hmv3 hgv3; have kw3 : Below w2.heap.size w2 w3 := ((Below.refl w2.heap.size w2).alloc (Nat.le_refl _) _).grown hgv3 (by simp) (by intro k hk; simp only [Value.ownBlock, Option.some.injEq] at hk; omega))
          | (go_at_call 16; refine (HP1.out v1 w1 kw1 hmv1.rd).mono ?_; rintro e w2 ⟨hb', ov2, p2, rfl, hown2⟩; have hb2 := kw1.trans (hb'.mono kw1.size); obtain ⟨ao2, co2, rfl⟩ := own_shape hown2; have rd2 := Rd.of_own hown2; clear hb' hown2)
          | (at_builtin; refine wpList_app_m rfl _ _ _ _ rfl w.heap.size 5 i0 _ 1 1 Tryd.underlying30 hi hz0 hz1 hz2 rfl (.slice (some ⟨w.heap.size, 0, none⟩) 0 0) 0 _ rfl (mrow_new w w.heap.size #[] 5 1 0 (0, 0) (Nat.le_refl _) (by decide) rfl) _ b.length (bcells b) rfl (HR.out _ ((Below.refl _ _).alloc (Nat.le_refl _) _)) (by unfold maxLen; omega) (by omega) (by simp) ?_; intro v1 w1 hmv1 hgv1; have kw1 : Below w.heap.size w w1 := ((Below.refl w.heap.size w).alloc (Nat.le_refl _) _).grown hgv1 (by simp) (by intro k hk; simp only [Value.ownBlock, Option.some.injEq] at hk; omega)))
        go_ret
        exact ⟨rfl, hb14.trans (hb15.mono hb14.size)⟩
      · have HP3 : Hid (∀ v W, Below w.heap.size w W → Rd W v (1 + b.length + 1) 1 (([.int .u8 40] ++ bcells b) ++ [.int .u8 41]) → _) := fun v W hW hr => parse_no ([40] ++ b ++ [41]) _ g0 (by decide) v _ _ W (ht.below hW) hr c3 l3 (by omega)
        have HD : Hid (∀ W, _) := fun W => deepest_any b W (by omega)
        rw [g1] at HD
        have HCV : Hid (∀ W, Below w.heap.size w W → (convert 30 9 (.slice ao b.length c)).run Tryd.prog W = .ok (.string (bstr b)) W) := fun W hW => run_to_string W 30 9 5 Tryd.underlying30 Tryd.underlying5 Tryd.underlying9 _ b (h.below hW)
        clear c1 c2 c3 l1 l2 l3 sp1 sp2 h ht he g0 g1 hsame
        go_enter Tryd.func4, Tryd.ntmps4
        go_wp2_with (first
          | (go_at_call 14; refine (HK.out _ hb11).mono ?_; rintro e w13 ⟨rfl, hb13⟩)
          | (go_at_call 17; refine (HD.out _).mono ?_; rintro e w12 ⟨rfl, rfl⟩)
          | (go_at_call 18; refine hs11.out.mono ?_; rintro e w11 ⟨rfl, hb'⟩; have hb11 := hb10.trans (hb'.mono hb10.size); have d11 := HCV.out w11 hb11; clear hb')
          | (go_at_call 19; refine (HA.out (.slice ao5 ops.length co5) w9 ((rd5.below q8).below d9)).mono ?_; rintro e w10 ⟨av10, rfl, hown10, hb'⟩; have hb10 := hb9.trans (hb'.mono hb9.size); have d10 := d9.trans (hb'.mono d9.size); have hs11 := Lib.hid (HS.out av9 av10 w10 (Rd.of_own (own_below' hown9 hb')) (Rd.of_own hown10)); clear hb')
          | (go_at_call 19; refine (HA.out (.slice ao2 ops.length co2) w8 (rd2.below k8)).mono ?_; rintro e w9 ⟨av9, rfl, hown9, hb'⟩; have hb9 := hb8.trans (hb'.mono hb8.size); have d9 := hb'; clear hb')
          | (go_at_call 16; refine (HP3.out v7 w7 (hb5.trans (kw7.mono hb5.size)) hmv7.rd).mono ?_; rintro e w8 ⟨hb', p8, rfl⟩; have q8 : Below w5.heap.size w5 w8 := kw7.trans (hb'.mono kw7.size); have k8 : Below w2.heap.size w2 w8 := k5.trans (q8.mono k5.size); have hb8 := hb2.trans (k8.mono hb2.size); clear hb')
          | (at_builtin; refine wpList_app_m rfl _ _ _ _ rfl w5.heap.size 5 i0 _ 1 1 Tryd.underlying30 hi hz0 hz1 hz2 rfl v6 (1 + b.length) _ rfl (hmv6.below ((Below.refl _ _).alloc (Nat.le_refl _) (.cells #[.int .u8 41] 5))) _ 1 [.int .u8 41] rfl (src_new Tryd.underlying30 w6 #[.int .u8 41] 1 1 1 rfl (by intro u hu; simp at hu; subst hu; rfl)) (by unfold maxLen; omega) (by omega) (by have := kw6.size; simp; omega) ?_; intro v7 w7 hmv7 hgv7; have kw7 : Below w5.heap.size w5 w7 := (kw6.alloc kw6.size _).grown hgv7 (by have := kw6.size; simp; omega) hmv6.lt)
          | (at_builtin; refine wpList_app_m rfl _ _ _ _ rfl w5.heap.size 5 i0 _ 1 1 Tryd.underlying30 hi hz0 hz1 hz2 rfl (.slice (some ⟨w5.heap.size, 0, none⟩) 1 1) 1 _ rfl (mrow_new w5 w5.heap.size #[.int .u8 40] 5 1 1 (1, 1 + 1) (Nat.le_refl _) (by decide) rfl) _ b.length (bcells b) rfl (HR.out _ (hb5.alloc hb5.size _)) (by unfold maxLen; omega) (by omega) (by simp) ?_; intro v6 w6 hmv6 hgv6; have kw6 : Below w5.heap.size w5 w6 := ((Below.refl w5.heap.size w5).alloc (Nat.le_refl _) _).grown hgv6 (by simp) (by intro k hk; simp only [Value.ownBlock, Option.some.injEq] at hk; omega))
          | (go_at_call 16; refine (HP2.out v4 w4 (hb2.trans (kw4.mono hb2.size)) hmv4.rd).mono ?_; rintro e w5 ⟨hb', ov5, p5, rfl, hown5⟩; have k5 : Below w2.heap.size w2 w5 := kw4.trans (hb'.mono kw4.size); have hb5 := hb2.trans (k5.mono hb2.size); obtain ⟨ao5, co5, rfl⟩ := own_shape hown5; have rd5 := Rd.of_own hown5; clear hb' hown5)
          | (at_builtin; refine wpList_app_m rfl _ _ _ _ rfl w2.heap.size 5 i0 _ 1 1 Tryd.underlying30 hi hz0 hz1 hz2 rfl v3 (2 + b.length) _ rfl (hmv3.below ((Below.refl _ _).alloc (Nat.le_refl _) (.cells #[.int .u8 32] 5))) _ 1 [.int .u8 32] rfl (src_new Tryd.underlying30 w3 #[.int .u8 32] 1 1 1 rfl (by intro u hu; simp at hu; subst hu; rfl)) (by unfold maxLen; omega) (by omega) (by have := kw3.size; simp; omega) ?_; intro v4 w4 hmv4 hgv4; have kw4 : Below w2.heap.size w2 w4 := (kw3.alloc kw3.size _).grown hgv4 (by have := kw3.size; simp; omega) hmv3.lt)
          | (at_builtin; refine wpList_app_m rfl _ _ _ _ rfl w2.heap.size 5 i0 _ 1 1 Tryd.underlying30 hi hz0 hz1 hz2 rfl (.slice (some ⟨w2.heap.size, 0, none⟩) 2 2) 2 _ rfl (mrow_new w2 w2.heap.size #[.int .u8 32, .int .u8 32] 5 1 2 (2, 2 + 1) (Nat.le_refl _) (by decide) rfl) _ b.length (bcells b) rfl (HR.out _ (hb2.alloc hb2.size _)) (by unfold maxLen; omega) (by omega) (by simp) ?_; intro v3 w3 hmv3 hgv3; have kw3 : Below w2.heap.size w2 w3 := ((Below.refl w2.heap.size w2).alloc (Nat.le_refl _) _).grown hgv3 (by simp) (by intro k hk; simp only [Value.ownBlock, Option.some.injEq] at hk; omega))
          | (go_at_call 16; refine (HP1.out v1 w1 kw1 hmv1.rd).mono ?_; rintro e w2 ⟨hb', ov2, p2, rfl, hown2⟩; have hb2 := kw1.trans (hb'.mono kw1.size); obtain ⟨ao2, co2, rfl⟩ := own_shape hown2; have rd2 := Rd.of_own hown2; clear hb' hown2)
          | (at_builtin; refine wpList_app_m rfl _ _ _ _ rfl w.heap.size 5 i0 _ 1 1 Tryd.underlying30 hi hz0 hz1 hz2 rfl (.slice (some ⟨w.heap.size, 0, none⟩) 0 0) 0 _ rfl (mrow_new w w.heap.size #[] 5 1 0 (0, 0) (Nat.le_refl _) (by decide) rfl) _ b.length (bcells b) rfl (HR.out _ ((Below.refl _ _).alloc (Nat.le_refl _) _)) (by unfold maxLen; omega) (by omega) (by simp) ?_; intro v1 w1 hmv1 hgv1; have kw1 : Below w.heap.size w w1 := ((Below.refl w.heap.size w).alloc (Nat.le_refl _) _).grown hgv1 (by simp) (by intro k hk; simp only [Value.ownBlock, Option.some.injEq] at hk; omega)))
        go_ret
        exact ⟨rfl, hb11.trans (hb13.mono hb11.size)⟩
    · have HP1 : Hid (∀ v W, Below w.heap.size w W → Rd W v (0 + b.length) 1 ([] ++ bcells b) → _) := fun v W hW hr => parse_no b _ rfl he v _ _ W (ht.below hW) hr c1 l1 (by omega)
      have HP2 : Hid (∀ v W, Below w.heap.size w W → Rd W v (2 + b.length + 1) 1 (([.int .u8 32, .int .u8 32] ++ bcells b) ++ [.int .u8 32]) → _) := fun v W hW hr => parse_no ([32, 32] ++ b ++ [32]) _ sp1 he v _ _ W (ht.below hW) hr c2 l2 (by omega)
      have HP3 : Hid (∀ v W, Below w.heap.size w W → Rd W v (1 + b.length + 1) 1 (([.int .u8 40] ++ bcells b) ++ [.int .u8 41]) → _) := fun v W hW hr => parse_some ([40] ++ b ++ [41]) v _ _ W (ht.below hW) hr c3 l3 (by omega)
      have n1 : (parseErr b != 0) = true := by rw [bne_iff_ne]; exact he
      generalize parseErr b = er at *
      clear c1 c2 c3 l1 l2 l3 sp1 sp2 h ht he
      go_enter Tryd.func4, Tryd.ntmps4
      go_wp2_with (first
        | (go_at_call 16; refine (HP3.out v7 w7 hb7 hm7.rd).mono ?_; rintro e w8 ⟨hb', ov8, p8, er8, rfl⟩; have hb8 := hb7.trans (hb'.mono hb7.size); clear hb')
        | (at_builtin; refine wpList_app_m rfl _ _ _ _ rfl w.heap.size 5 i0 _ 1 1 Tryd.underlying30 hi hz0 hz1 hz2 rfl v6 (1 + b.length) _ rfl (hm6.below ((Below.refl _ _).alloc (Nat.le_refl _) (.cells #[.int .u8 41] 5))) _ 1 [.int .u8 41] rfl (src_new Tryd.underlying30 w6 #[.int .u8 41] 1 1 1 rfl (by intro u hu; simp at hu; subst hu; rfl)) (by unfold maxLen; omega) (by omega) (by have := hb6.size; simp; omega) ?_; intro v7 w7 hm7 hg7; have hb7 : Below w.heap.size w w7 := (hb6.alloc hb6.size _).grown hg7 (by have := hb6.size; simp; omega) hm6.lt)
        | (at_builtin; refine wpList_app_m rfl _ _ _ _ rfl w.heap.size 5 i0 _ 1 1 Tryd.underlying30 hi hz0 hz1 hz2 rfl (.slice (some ⟨w5.heap.size, 0, none⟩) 1 1) 1 _ rfl (mrow_new w5 w.heap.size #[.int .u8 40] 5 1 1 (1, 1 + 1) hb5.size (by decide) rfl) _ b.length (bcells b) rfl (HR.out _ (hb5.alloc hb5.size _)) (by unfold maxLen; omega) (by omega) (by have := hb5.size; simp; omega) ?_; intro v6 w6 hm6 hg6; have hb6 : Below w.heap.size w w6 := (hb5.alloc hb5.size _).grown hg6 (by have := hb5.size; simp; omega) (by intro k hk; simp only [Value.ownBlock, Option.some.injEq] at hk; have := hb5.size; omega))
        | (go_at_call 16; refine (HP2.out v4 w4 hb4 hm4.rd).mono ?_; rintro e w5 ⟨hb', p5, rfl⟩; have hb5 := hb4.trans (hb'.mono hb4.size); clear hb')
        | (at_builtin; refine wpList_app_m rfl _ _ _ _ rfl w.heap.size 5 i0 _ 1 1 Tryd.underlying30 hi hz0 hz1 hz2 rfl v3 (2 + b.length) _ rfl (hm3.below ((Below.refl _ _).alloc (Nat.le_refl _) (.cells #[.int .u8 32] 5))) _ 1 [.int .u8 32] rfl (src_new Tryd.underlying30 w3 #[.int .u8 32] 1 1 1 rfl (by intro u hu; simp at hu; subst hu; rfl)) (by unfold maxLen; omega) (by omega) (by have := hb3.size; simp; omega) ?_; intro v4 w4 hm4 hg4; have hb4 : Below w.heap.size w w4 := (hb3.alloc hb3.size _).grown hg4 (by have := hb3.size; simp; omega) hm3.lt)
        | (at_builtin; refine wpList_app_m rfl _ _ _ _ rfl w.heap.size 5 i0 _ 1 1 Tryd.underlying30 hi hz0 hz1 hz2 rfl (.slice (some ⟨w2.heap.size, 0, none⟩) 2 2) 2 _ rfl (mrow_new w2 w.heap.size #[.int .u8 32, .int .u8 32] 5 1 2 (2, 2 + 1) hb2.size (by decide) rfl) _ b.length (bcells b) rfl (HR.out _ (hb2.alloc hb2.size _)) (by unfold maxLen; omega) (by omega) (by have := hb2.size; simp; omega) ?_; intro v3 w3 hm3 hg3; have hb3 : Below w.heap.size w w3 := (hb2.alloc hb2.size _).grown hg3 (by have := hb2.size; simp; omega) (by intro k hk; simp only [Value.ownBlock, Option.some.injEq] at hk; have := hb2.size; omega))
        | (go_at_call 16; refine (HP1.out v1 w1 hb1 hm1.rd).mono ?_; rintro e w2 ⟨hb', p2, rfl⟩; have hb2 := hb1.trans (hb'.mono hb1.size); clear hb')
        | (at_builtin; refine wpList_app_m rfl _ _ _ _ rfl w.heap.size 5 i0 _ 1 1 Tryd.underlying30 hi hz0 hz1 hz2 rfl (.slice (some ⟨w.heap.size, 0, none⟩) 0 0) 0 _ rfl (mrow_new w w.heap.size #[] 5 1 0 (0, 0) (Nat.le_refl _) (by decide) rfl) _ b.length (bcells b) rfl (HR.out _ ((Below.refl _ _).alloc (Nat.le_refl _) _)) (by unfold maxLen; omega) (by omega) (by simp) ?_; intro v1 w1 hm1 hg1; have hb1 : Below w.heap.size w w1 := ((Below.refl w.heap.size w).alloc (Nat.le_refl _) _).grown hg1 (by simp) (by intro k hk; simp only [Value.ownBlock, Option.some.injEq] at hk; omega))
        | (go_at_call 14; refine (HK.out _ hb8).mono ?_; rintro e w9 ⟨rfl, hb9⟩))
      go_ret
      exact ⟨rfl, hb8.trans (hb9.mono hb8.size)⟩
end Go.Proofs.YtjbmihgfneamlaaDoor
