/- rubricklaw16.QueryRight: the walk. -/
import Derived.Test.YtjbmihgfneamlaaDoorRightLaw
import Derived.Test.YtjbmihgfneamlaaDoorAroundWalk
set_option linter.unusedVariables false
namespace Go.Proofs.YtjbmihgfneamlaaDoor
open Go.RowKit

/-- Parse: an error, and where. -/
theorem parse_no_at (b : List UInt8) (er at' : Int) (h : parseErr b = er) (ha : parseAt b = at') (hne : er ≠ 0) (v : Value) (n : Nat) (cs : List Value) (W : World) (ht : Tabs W) (hr : Rd W v n 1 cs) (hc : cs = bcells b) (hn : b.length = n) (hl : b.length ≤ 1000000000) :
    Calls Tryd.prog 16 #[v] W fun e w' => Below W.heap.size W w' ∧ e = .returned (.tuple #[.slice none 0 0, .int .i64 at', .int .i64 er]) := by
  subst hc
  subst hn
  refine (parse_any v b W ht hr (by omega)).mono ?_
  rintro e w' ⟨hb, ov, rfl, ⟨h0, _⟩ | ⟨h0, rfl⟩⟩
  · exact absurd (h.symm.trans h0) hne
  · exact ⟨hb, by rw [h, ha]⟩

/-- the place of an error lies in the text. -/
theorem elGo_pos (b : List UInt8) : ∀ (cs : List Int) (p : Nat) (st : Int) (acc : List El), p ≤ b.length → cs = decode (b.drop p) → st ≤ p → (∀ x ∈ acc, 0 ≤ x.pos ∧ x.pos ≤ b.length) → ∀ x ∈ elGo b p st acc cs, 0 ≤ x.pos ∧ x.pos ≤ b.length := by
  have hfl : ∀ (p : Nat) (st : Int) (acc : List El), p ≤ b.length → st ≤ p → (∀ x ∈ acc, 0 ≤ x.pos ∧ x.pos ≤ b.length) → ∀ x ∈ flush b st p acc, 0 ≤ x.pos ∧ x.pos ≤ b.length := by
    intro p st acc hp hst hacc x hx
    unfold flush at hx
    split at hx
    · exact hacc x hx
    · simp only [List.mem_append, List.mem_singleton] at hx
      rcases hx with hx | rfl
      · exact hacc x hx
      · simp only; omega
  have hsn : ∀ (l : List El) (y : El), (0 ≤ y.pos ∧ y.pos ≤ b.length) → (∀ x ∈ l, 0 ≤ x.pos ∧ x.pos ≤ b.length) → ∀ x ∈ l ++ [y], 0 ≤ x.pos ∧ x.pos ≤ b.length := by
    intro l y hy hl x hx
    simp only [List.mem_append, List.mem_singleton] at hx
    rcases hx with hx | rfl
    · exact hl x hx
    · exact hy
  intro cs
  induction cs with
  | nil =>
    intro p st acc hp hcs hst hacc
    simp only [elGo]
    exact hsn _ _ (by simp only; omega) (hfl p st acc hp hst hacc)
  | cons c cs ih =>
    intro p st acc hp hcs hst hacc
    have hstep : ∀ n, c ≠ 65533 → (enc c).length = n → p + n ≤ b.length ∧ cs = decode (b.drop (p + n)) := by
      intro n hne hn
      obtain ⟨h1, h2⟩ := decode_cons hcs.symm hne
      rw [List.length_drop] at h1
      rw [hn] at h1 h2
      exact ⟨by omega, by rw [h2, List.drop_drop]⟩
    simp only [elGo]
    by_cases hin : inWord c = true
    · obtain ⟨h1, h2⟩ := hstep _ (by rintro rfl; simp [bad_out] at hin) rfl
      rw [if_pos hin]
      exact ih _ _ _ h1 h2 (by split <;> omega) hacc
    · rw [if_neg hin]
      by_cases h32 : c = 32
      · obtain ⟨h1, h2⟩ := hstep 1 (by omega) (by subst h32; rfl)
        rw [if_pos h32]
        exact ih _ _ _ h1 h2 (by omega) (hfl p st acc hp hst hacc)
      · rw [if_neg h32]
        by_cases hs : sepChar c = true
        · obtain ⟨g1, g2, g3, g4⟩ := sep_kinds hs
          obtain ⟨h1, h2⟩ := hstep 1 g2 g3
          rw [if_pos hs]
          exact ih _ _ _ h1 h2 (by omega) (hsn _ _ (by simp only; omega) (hfl p st acc hp hst hacc))
        · rw [if_neg hs]
          exact hsn _ _ (by simp only; omega) (hfl p st acc hp hst hacc)

theorem parse_at (b : List UInt8) : 0 ≤ parseAt b ∧ parseAt b ≤ b.length := by
  unfold parseAt
  split
  · omega
  · split
    · omega
    · unfold posAt
      cases hx : (elems b)[(parsed b).2.nx]? with
      | none => simp only; omega
      | some x => exact elGo_pos b _ 0 (-1) [] (Nat.zero_le _) rfl (by omega) (by simp) x (List.mem_of_getElem? hx)

theorem rightGo_bd : ∀ (l : List QOp) (h w : Int), rightGo h w l = true → ∀ s ∈ l, (0 ≤ s.1 ∧ s.1 ≤ 3) ∧ s.2.length ≤ 64 := by
  intro l
  induction l with
  | nil => intro h w _ s hs; simp at hs
  | cons o l ih =>
    intro h w hr s hs
    obtain ⟨k, t⟩ := o
    simp only [rightGo] at hr
    simp only [List.mem_cons] at hs
    by_cases hk : k = 0
    · rw [if_pos hk] at hr
      by_cases ht : rightTok t = true
      · rw [if_pos ht] at hr
        rcases hs with rfl | hs
        · exact ⟨by simp only; omega, rightTok_len ht⟩
        · exact ih _ _ hr s hs
      · rw [if_neg ht] at hr; cases hr
    · rw [if_neg hk] at hr
      by_cases hk3 : k = 1 ∨ k = 2 ∨ k = 3
      · rw [if_pos hk3] at hr
        by_cases hb : t ≠ [] ∨ h < 2
        · rw [if_pos hb] at hr; cases hr
        · rw [if_neg hb] at hr
          rcases hs with rfl | hs
          · refine ⟨by simp only; omega, ?_⟩
            have : t = [] := Classical.byContradiction fun e => hb (.inl e)
            simp [this]
          · exact ih _ _ hr s hs
      · rw [if_neg hk3] at hr; cases hr

set_option maxRecDepth 100000 in
set_option maxHeartbeats 4000000 in
theorem right_walk (v : Value) (b : List UInt8) (w : World) (ht : Tabs w) (h : Rd w v b.length 1 (bcells b)) :
    Calls Tryd.prog 12 #[v] w fun e w' => e = .returned (.bool true) ∧ Below w.heap.size w w' := by
  have HK : Hid (∀ W, Below w.heap.size w W → Calls Tryd.prog 14 #[] W fun e w' => e = .returned (.bool true) ∧ Below W.heap.size W w') := fun W hW => knows16_any W (ht.below hW)
  have hsh : ∃ ao c, v = .slice ao b.length c := by
    obtain ⟨-, -, ⟨ao, c, rfl, h0⟩ | ⟨b, off, c, rfl, -⟩⟩ := h
    · exact ⟨ao, c, by rw [h0]⟩
    · exact ⟨_, c, rfl⟩
  obtain ⟨ao, c, rfl⟩ := hsh
  by_cases hlong : 2500 < b.length
  · have h1 : (2500 : Int) < (b.length : Int) := by omega
    clear h ht
    go_enter Tryd.func12, Tryd.ntmps12
    go_wp2_with (go_at_call 14; refine (HK.out _ (Below.refl _ _)).mono ?_; rintro e w2 ⟨rfl, hb2⟩)
    go_ret
    exact ⟨rfl, hb2⟩
  · have h1 : ¬ (2500 : Int) < (b.length : Int) := by omega
    obtain ⟨i0, hi, hz0, hz1, hz2⟩ := info_parts infoByte
    have HR : Hid (∀ W, Below w.heap.size w W → Src Tryd.prog 1 30 (.slice ao b.length c) b.length (bcells b) W) := fun W hW => (h.below hW).src Tryd.underlying30 (bcells_one b)
    have c1 : ([] : List Value) ++ bcells b = bcells b := rfl
    have l1 : b.length = 0 + b.length := by omega
    by_cases he : parseErr b = 0
    · obtain ⟨r1, r2, r3⟩ := parse_right b he
      have hopl : (parsed b).2.ops.length ≤ 100000 := by
        have h2 := (parsed_kept b).few
        have h3 := (parsed_kept b).lt
        have h4 := elGo_len b (decode b) 0 (-1) []
        have h5 := decode_len b
        have h6 : (elems b).length ≤ 20000 := by unfold elems; simp only [List.length_nil] at h4; omega
        simp only [List.length_nil] at h2
        omega
      have ha : parseAt b = 0 := by unfold parseAt; rw [if_pos he]; split <;> rfl
      have HP1 : Hid (∀ v W, Below w.heap.size w W → Rd W v (0 + b.length) 1 ([] ++ bcells b) → Calls Tryd.prog 16 #[v] W fun e w' => Below W.heap.size W w' ∧ ∃ ov, e = .returned (.tuple #[ov, .int .i64 0, .int .i64 0]) ∧ w'.ownsRow W.heap.size 38 2 ov (parsed b).2.ops.length (ocells (parsed b).2.ops)) := by
        intro v W hW hr
        rw [Nat.zero_add] at hr
        refine (parse_any v b W (ht.below hW) hr (by omega)).mono ?_
        rintro e w' ⟨hb, ov, rfl, ⟨h0, hown⟩ | ⟨h0, _⟩⟩
        · exact ⟨hb, _, by rw [he, ha], hown⟩
        · exact absurd he h0
      generalize (parsed b).2.ops = ops at *
      have hbd := rightGo_bd ops 0 0 r1
      have HQ : Hid (∀ (v : Value) W, Below w.heap.size w W → Rd W v ops.length 2 (ocells ops) → Calls Tryd.prog 34 #[v] W fun e w' => e = .returned (.bool true) ∧ Below W.heap.size W w') := fun v W hW hr => by
        have := qright_any v ops W (ht.below hW) hr hopl (fun s hs => by have := (hbd s hs).2; omega) (fun s hs => by have := (hbd s hs).1; omega)
        rw [r1] at this
        exact this
      have HT : Hid (∀ (v : Value) W, Rd W v ops.length 2 (ocells ops) → Calls Tryd.prog 35 #[v] W fun e w' => ∃ ao n c, e = .returned (.slice ao n c) ∧ (1 : Int) ≤ (n : Int) ∧ (n : Int) ≤ 16 ∧ Below W.heap.size W w') := fun v W hr => by
        refine (qterms_any v ops W hr hopl).mono ?_
        rintro e w' ⟨ao, n, c, rfl, q1, q2, q3⟩
        have := q2 (by omega)
        exact ⟨_, _, _, rfl, by omega, by omega, q3⟩
      clear c1 l1 h ht he r1 r2 r3 hopl ha hbd
      go_enter Tryd.func12, Tryd.ntmps12
      go_wp2_with (first
        | (go_at_call 16; refine (HP1.out v1 w1 hb1 hm1.rd).mono ?_; rintro e w2 ⟨hb', ov, rfl, hown⟩; have hb2 := hb1.trans (hb'.mono hb1.size); obtain ⟨ao2, co2, rfl⟩ := own_shape hown; have rd2 := Rd.of_own hown; clear hb')
        | (at_builtin; refine wpList_app_m rfl _ _ _ _ rfl w.heap.size 5 i0 _ 1 1 Tryd.underlying30 hi hz0 hz1 hz2 rfl (.slice (some ⟨w.heap.size, 0, none⟩) 0 0) 0 _ rfl (mrow_new w w.heap.size #[] 5 1 0 (0, 0) (Nat.le_refl _) (by decide) rfl) _ b.length (bcells b) rfl (HR.out _ ((Below.refl _ _).alloc (Nat.le_refl _) _)) (by unfold maxLen; omega) (by omega) (by simp) ?_; intro v1 w1 hm1 hg1; have hb1 : Below w.heap.size w w1 := ((Below.refl w.heap.size w).alloc (Nat.le_refl _) _).grown hg1 (by simp) (by intro k hk; simp only [Value.ownBlock, Option.some.injEq] at hk; omega))
        | (go_at_call 34; refine (HQ.out (.slice ao2 ops.length co2) w2 hb2 rd2).mono ?_; rintro e w3 ⟨rfl, d3⟩; have hb3 := hb2.trans (d3.mono hb2.size))
        | (go_at_call 35; refine (HT.out (.slice ao2 ops.length co2) w4 (rd2.below d4)).mono ?_; rintro e w5 ⟨ta5, tn5, tc5, rfl, i5, j5, b5⟩; have d5 := d4.trans (b5.mono d4.size); have hb5 := hb2.trans (d5.mono hb2.size))
        | (go_at_call 35; refine (HT.out (.slice ao2 ops.length co2) w3 (rd2.below d3)).mono ?_; rintro e w4 ⟨ta4, tn4, tc4, rfl, i4, j4, b4⟩; have d4 := d3.trans (b4.mono d3.size))
        | (go_at_call 14; refine (HK.out _ hb5).mono ?_; rintro e w9 ⟨rfl, hb9⟩))
      go_ret
      exact ⟨rfl, hb5.trans (hb9.mono hb5.size)⟩
    · have hpa := parse_at b
      have HP1 : Hid (∀ v W, Below w.heap.size w W → Rd W v (0 + b.length) 1 ([] ++ bcells b) → _) := fun v W hW hr => parse_no_at b _ _ rfl rfl he v _ _ W (ht.below hW) hr c1 l1 (by omega)
      have n1 : (parseErr b != 0) = true := by rw [bne_iff_ne]; exact he
      generalize parseErr b = er at *
      generalize parseAt b = at' at *
      obtain ⟨p1, p2⟩ := hpa
      clear c1 l1 h ht he
      go_enter Tryd.func12, Tryd.ntmps12
      go_wp2_with (first
        | (go_at_call 16; refine (HP1.out v1 w1 hb1 hm1.rd).mono ?_; rintro e w2 ⟨hb', rfl⟩; have hb2 := hb1.trans (hb'.mono hb1.size); clear hb')
        | (at_builtin; refine wpList_app_m rfl _ _ _ _ rfl w.heap.size 5 i0 _ 1 1 Tryd.underlying30 hi hz0 hz1 hz2 rfl (.slice (some ⟨w.heap.size, 0, none⟩) 0 0) 0 _ rfl (mrow_new w w.heap.size #[] 5 1 0 (0, 0) (Nat.le_refl _) (by decide) rfl) _ b.length (bcells b) rfl (HR.out _ ((Below.refl _ _).alloc (Nat.le_refl _) _)) (by unfold maxLen; omega) (by omega) (by simp) ?_; intro v1 w1 hm1 hg1; have hb1 : Below w.heap.size w w1 := ((Below.refl w.heap.size w).alloc (Nat.le_refl _) _).grown hg1 (by simp) (by intro k hk; simp only [Value.ownBlock, Option.some.injEq] at hk; omega))
        | (go_at_call 14; refine (HK.out _ hb2).mono ?_; rintro e w9 ⟨rfl, hb9⟩))
      go_ret
      exact ⟨rfl, hb2.trans (hb9.mono hb2.size)⟩
end Go.Proofs.YtjbmihgfneamlaaDoor
