/- rubricklaw05.TokenCuts: the walk. -/
import Derived.Test.YtjbmihgfneamlaaDoorKnows05
import Derived.Test.YtjbmihgfneamlaaDoorMark
set_option linter.unusedVariables false
namespace Go.Proofs.YtjbmihgfneamlaaDoor
open Go.RowKit Go.Sort

theorem great05_yes (ao : Option Addr) (n c : Nat) (w : World) (h : 2000 < n) : Calls Tryd.prog 21 #[.slice ao n c] w fun e w' => e = .returned (.bool true) ∧ w = w' := by
  have h1 : (2000 : Int) < (n : Int) := by omega
  go_enter Tryd.func21, Tryd.ntmps21
  go_wp2
  go_ret
  exact ⟨by first | rfl | exact ret_bool (decide_eq_true h1), rfl⟩
theorem great05_no (ao : Option Addr) (n c : Nat) (w : World) (h : ¬ 2000 < n) : Calls Tryd.prog 21 #[.slice ao n c] w fun e w' => e = .returned (.bool false) ∧ w = w' := by
  have h1 : ¬ (2000 : Int) < (n : Int) := by omega
  go_enter Tryd.func21, Tryd.ntmps21
  go_wp2
  go_ret
  exact ⟨by first | rfl | exact ret_bool (decide_eq_false h1), rfl⟩

theorem rd_shape {w : World} {v : Value} {n sz : Nat} {cells : List Value} (h : Rd w v n sz cells) : ∃ ao c, v = .slice ao n c := by
  obtain ⟨-, -, ⟨ao, c, rfl, h0⟩ | ⟨b, off, c, rfl, -⟩⟩ := h
  · exact ⟨ao, c, by rw [h0]⟩
  · exact ⟨_, c, rfl⟩

theorem rd_zero {w : World} {v : Value} {n : Nat} {cells : List Value} (h : Rd w v (0 + n) 1 ([] ++ cells)) : Rd w v n 1 cells := by rw [Nat.zero_add] at h; exact h

/-- are two lists of texts that the call itself holds alike? The same. -/
theorem same_true {v1 v2 : Value} {x : List (List UInt8)} {B1 B2 n m : Nat} {W1 W : World} (hn : n = x.length) (hm : m = x.length) (h1 : W1.ownsRow B1 9 1 v1 n (scells x)) (hb : Below W1.heap.size W1 W) (h2 : W.ownsRow B2 9 1 v2 m (scells x)) :
    Calls Tryd.prog 23 #[v1, v2] W fun e w' => e = .returned (.bool true) ∧ Below W.heap.size W w' := by
  subst hn
  subst hm
  have := same02_any v1 v2 x x W ((Rd.of_own h1).below hb) (Rd.of_own h2)
  simp only [beq_self_eq_true] at this
  exact this

set_option maxRecDepth 100000 in
set_option maxHeartbeats 8000000 in
theorem cuts_walk (v : Value) (b : List UInt8) (w : World) (ht : Tabs w) (h : Rd w v b.length 1 (bcells b)) :
    Calls Tryd.prog 6 #[v] w fun e w' => e = .returned (.bool true) ∧ Below w.heap.size w w' := by
  have HK : Hid (∀ W, Below w.heap.size w W → Calls Tryd.prog 22 #[] W fun e w' => e = .returned (.bool true) ∧ Below W.heap.size W w') := fun W hW => knows05_any W (ht.below hW)
  obtain ⟨ao, c, rfl⟩ := rd_shape h
  obtain ⟨i0, hi, hz0, hz1, hz2⟩ := info_parts infoByte
  by_cases hlong : 2000 < b.length
  · have hG := Lib.hid (fun W => great05_yes ao b.length c W hlong)
    clear h ht
    go_enter Tryd.func6, Tryd.ntmps6
    go_wp2_with (first | (go_at_call 21; refine (hG.out _).mono ?_; rintro e w' ⟨rfl, rfl⟩) | (go_at_call 22; refine (HK.out _ (Below.refl _ _)).mono ?_; rintro e w2 ⟨rfl, hb2⟩))
    go_ret
    exact ⟨rfl, hb2⟩
  · have hG := Lib.hid (fun W => great05_no ao b.length c W hlong)
    have hbl : b.length ≤ 2000 := by omega
    have HR : Hid (∀ W, Below w.heap.size w W → Src Tryd.prog 1 30 (.slice ao b.length c) b.length (bcells b) W) := fun W hW => (h.below hW).src Tryd.underlying30 (bcells_one b)
    have HRT := Lib.hid (fun W (hW : Below w.heap.size w W) => rterms_any (.slice ao b.length c) b W (h.below hW) (by omega))
    have HRS := Lib.hid (fun W (hW : Below w.heap.size w W) => rset_any (.slice ao b.length c) b W (h.below hW) (by omega))
    have HTT := Lib.hid (fun v W (hW : Below w.heap.size w W) (hr : Rd W v b.length 1 (bcells b)) => terms_any v b W (ht.below hW) hr (by omega))
    have HTS := Lib.hid (fun v W (hW : Below w.heap.size w W) (hr : Rd W v b.length 1 (bcells b)) => tset_any v b W (ht.below hW) hr (by omega))
    generalize setOf (terms b) = ss at *
    generalize terms b = ts at *
    clear h ht hlong
    go_enter Tryd.func6, Tryd.ntmps6
    go_wp2_with (first
      | (go_at_call 21; refine (hG.out _).mono ?_; rintro e w' ⟨rfl, rfl⟩)
      | (go_at_call 22; refine (HK.out _ B8).mono ?_; rintro e w9 ⟨rfl, hb9⟩; have B9 := B8.trans (hb9.mono B8.size))
      | (go_at_call 23; refine S7.out.mono ?_; rintro e w8 ⟨rfl, hb8⟩; have B8 := B7.trans (hb8.mono B7.size))
      | (go_at_call 27; refine (HRS.out _ B6).mono ?_; rintro e w7 ⟨v7, rfl, hown7, hb7⟩; have B7 := B6.trans (hb7.mono B6.size); have S7 := Lib.hid (same_true rfl rfl O6.out hb7 hown7))
      | (go_at_call 26; refine (HTS.out _ _ B5 (rd_zero hm5.rd)).mono ?_; rintro e w6 ⟨v6, rfl, hown6, hb6⟩; have B6 := B5.trans (hb6.mono B5.size); have O6 := Lib.hid hown6)
      | (at_builtin; refine wpList_app_mg (by rfl) _ _ _ _ rfl w4.heap.size 5 i0 _ 1 1 Tryd.underlying30 hi hz0 hz1 hz2 rfl (.slice (some ⟨w4.heap.size, 0, none⟩) 0 0) 0 _ rfl (mrow_new w4 w4.heap.size #[] 5 1 0 (0, 0) (Nat.le_refl _) (by decide) rfl) _ b.length (bcells b) rfl (HR.out _ (B4.alloc B4.size _)) (by unfold maxLen; omega) (by omega) (by simp) ?_; intro v5 w5 hm5 hg5; have B5 : Below w.heap.size w w5 := (B4.alloc B4.size _).grown hg5 (by have := B4.size; simp; omega) (by intro k hk; simp only [Value.ownBlock, Option.some.injEq] at hk; have := B4.size; omega))
      | (go_at_call 23; refine S3.out.mono ?_; rintro e w4 ⟨rfl, hb4⟩; have B4 := B3.trans (hb4.mono B3.size))
      | (go_at_call 25; refine (HRT.out _ B2).mono ?_; rintro e w3 ⟨v3, rfl, hown3, hb3⟩; have B3 := B2.trans (hb3.mono B2.size); have S3 := Lib.hid (same_true rfl rfl O2.out hb3 hown3))
      | (go_at_call 24; refine (HTT.out _ _ B1 (rd_zero hm1.rd)).mono ?_; rintro e w2 ⟨v2, rfl, hown2, hb2⟩; have B2 := B1.trans (hb2.mono B1.size); have O2 := Lib.hid hown2)
      | (at_builtin; refine wpList_app_m rfl _ _ _ _ rfl w.heap.size 5 i0 _ 1 1 Tryd.underlying30 hi hz0 hz1 hz2 rfl (.slice (some ⟨w.heap.size, 0, none⟩) 0 0) 0 _ rfl (mrow_new w w.heap.size #[] 5 1 0 (0, 0) (Nat.le_refl _) (by decide) rfl) _ b.length (bcells b) rfl (HR.out _ ((Below.refl _ _).alloc (Nat.le_refl _) _)) (by unfold maxLen; omega) (by omega) (by simp) ?_; intro v1 w1 hm1 hg1; have B1 : Below w.heap.size w w1 := ((Below.refl w.heap.size w).alloc (Nat.le_refl _) _).grown hg1 (by simp) (by intro k hk; simp only [Value.ownBlock, Option.some.injEq] at hk; omega)))
    go_ret
    exact ⟨by first | rfl | simp, B9⟩
end Go.Proofs.YtjbmihgfneamlaaDoor
