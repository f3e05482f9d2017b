/- rubricklaw16.QueryOne: the walk. -/
import Derived.Test.YtjbmihgfneamlaaDoorOneLaw
import Derived.Test.YtjbmihgfneamlaaDoorRef05r
import Derived.Test.YtjbmihgfneamlaaDoorBackWalk
set_option linter.unusedVariables false
namespace Go.Proofs.YtjbmihgfneamlaaDoor
open Go.RowKit

/-- Parse of a string's bytes, no error. -/
theorem parse_str_yes (s : List UInt8) (S : ByteArray) (hS : bstr s = S) (n : Nat) (hz : S.size = n) (ops : List QOp) (hp : parseErr s = 0) (ho : (parsed s).2.ops = ops) (W : World) (ht : Tabs W) (hn : n ≤ 1000000000) :
    Calls Tryd.prog 16 #[.slice (some ⟨W.heap.size, 0, none⟩) n (grownCap W n 0 5)] (W.drew.alloc (.cells (bytesRow S (grownCap W n 0 5)) 5 ((bytesRow S (grownCap W n 0 5)).size, (bytesRow S (grownCap W n 0 5)).size + 1))) fun e w' =>
      Below W.heap.size W w' ∧ ∃ ov p, e = .returned (.tuple #[ov, .int .i64 p, .int .i64 0]) ∧ w'.ownsRow W.heap.size 38 2 ov ops.length (ocells ops) := by
  subst hz
  subst hS
  subst ho
  rw [bstr_size] at hn
  refine (parse_str s W ht hn).mono ?_
  rintro e w' ⟨hb, ov, rfl, ⟨h0, hown⟩ | ⟨h0, _⟩⟩
  · exact ⟨hb, _, _, by rw [hp], hown⟩
  · exact absurd hp h0

theorem one_not (a b : List UInt8) (z : Int) (w : World) (ht : Tabs w) (hz : 0 ≤ z ∧ z < 256) (h : 200 < a.length ∨ 200 < b.length ∨ rightTok a = false ∨ rightTok b = false) :
    Calls Tryd.prog 5 #[.string (bstr a), .string (bstr b), .int .u8 z] w fun e w' => e = .returned (.bool true) ∧ Below w.heap.size w w' := by
  have HK : Hid (∀ W, Below w.heap.size w W → Calls Tryd.prog 14 #[] W fun e w' => e = .returned (.bool true) ∧ Below W.heap.size W w') := fun W hW => knows16_any W (ht.below hW)
  have sa := bstr_size a
  have sb := bstr_size b
  by_cases h1 : 200 < a.length
  · have g1 : (200 : Int) < (((bstr a).size : Nat) : Int) := by omega
    clear h ht
    go_enter Tryd.func5, Tryd.ntmps5
    go_wp2_with (go_at_call 14; refine (HK.out _ (Below.refl _ _)).mono ?_; rintro e w2 ⟨rfl, hb2⟩)
    go_ret
    exact ⟨rfl, hb2⟩
  · have g1 : ¬ (200 : Int) < (((bstr a).size : Nat) : Int) := by omega
    by_cases h2 : 200 < b.length
    · have g2 : (200 : Int) < (((bstr b).size : Nat) : Int) := by omega
      clear h ht
      go_enter Tryd.func5, Tryd.ntmps5
      go_wp2_with (go_at_call 14; refine (HK.out _ (Below.refl _ _)).mono ?_; rintro e w2 ⟨rfl, hb2⟩)
      go_ret
      exact ⟨rfl, hb2⟩
    · have g2 : ¬ (200 : Int) < (((bstr b).size : Nat) : Int) := by omega
      have HA := Lib.hid (rtok05_any a w (by omega))
      have HB : Hid (∀ W, _) := fun W => rtok05_any b W (by omega)
      by_cases h3 : rightTok a = true
      · have h4 : rightTok b = false := by
          rcases h with h | h | h | h
          · exact absurd h h1
          · exact absurd h h2
          · rw [h3] at h; cases h
          · exact h
        rw [h3] at HA
        rw [h4] at HB
        clear h ht h3 h4
        go_enter Tryd.func5, Tryd.ntmps5
        go_wp2_with (first
          | (go_at_call 20; refine (HB.out w1).mono ?_; rintro e w2 ⟨rfl, hb2⟩; have hb12 := hb1.trans (hb2.mono hb1.size))
          | (go_at_call 20; refine HA.out.mono ?_; rintro e w1 ⟨rfl, hb1⟩)
          | (go_at_call 14; refine (HK.out _ hb12).mono ?_; rintro e w3 ⟨rfl, hb3⟩))
        go_ret
        exact ⟨rfl, hb12.trans (hb3.mono hb12.size)⟩
      · have h3' : rightTok a = false := by simpa using h3
        rw [h3'] at HA
        clear h ht h3 h3'
        go_enter Tryd.func5, Tryd.ntmps5
        go_wp2_with (first
          | (go_at_call 20; refine HA.out.mono ?_; rintro e w1 ⟨rfl, hb1⟩)
          | (go_at_call 14; refine (HK.out _ hb1).mono ?_; rintro e w3 ⟨rfl, hb3⟩))
        go_ret
        exact ⟨rfl, hb1.trans (hb3.mono hb1.size)⟩

/-- the two literals of steps. -/
theorem one_lits (w5 wB : World) (a b : List UInt8) (k : Int) (h : wB = (w5.alloc (.cells #[.int .i64 0, .string (bstr a)] 38)).alloc (.cells #[.int .i64 0, .string (bstr a), .int .i64 0, .string (bstr b), .int .i64 k, .string { data := #[] }] 38)) :
    Rd wB (.slice (some ⟨w5.heap.size, 0, none⟩) 1 1) 1 2 (ocells [(0, a)]) ∧ Rd wB (.slice (some ⟨w5.heap.size + 1, 0, none⟩) 3 3) 3 2 (ocells [(0, a), (0, b), (k, [])]) ∧ Below w5.heap.size w5 wB := by
  have hb1 : Below w5.heap.size w5 (w5.alloc (.cells #[.int .i64 0, .string (bstr a)] 38)) := (Below.refl _ _).alloc (Nat.le_refl _) _
  have hs1 : (w5.alloc (.cells #[.int .i64 0, .string (bstr a)] 38)).heap.size = w5.heap.size + 1 := by simp
  have r1 := rd_new w5 #[.int .i64 0, .string (bstr a)] 38 2 1 rfl (by decide) (by decide)
  have r2 := rd_new (w5.alloc (.cells #[.int .i64 0, .string (bstr a)] 38)) #[.int .i64 0, .string (bstr a), .int .i64 0, .string (bstr b), .int .i64 k, .string { data := #[] }] 38 2 3 rfl (by decide) (by decide)
  rw [hs1] at r2
  generalize (w5.alloc (.cells #[.int .i64 0, .string (bstr a)] 38)) = wA at *
  have hb2 : Below wA.heap.size wA wB := by rw [h]; exact (Below.refl _ _).alloc (Nat.le_refl _) _
  rw [← h] at r2
  exact ⟨r1.below hb2, r2, hb1.trans (hb2.mono hb1.size)⟩

set_option maxRecDepth 100000 in
set_option maxHeartbeats 8000000 in
theorem one_main (a b : List UInt8) (z : Int) (w : World) (ht : Tabs w) (hz : 0 ≤ z ∧ z < 256) (ha : rightTok a = true) (hb : rightTok b = true) :
    Calls Tryd.prog 5 #[.string (bstr a), .string (bstr b), .int .u8 z] w fun e w' => e = .returned (.bool true) ∧ Below w.heap.size w w' := by
  have HK : Hid (∀ W, Below w.heap.size w W → Calls Tryd.prog 14 #[] W fun e w' => e = .returned (.bool true) ∧ Below W.heap.size W w') := fun W hW => knows16_any W (ht.below hW)
  have sa := bstr_size a
  have sb := bstr_size b
  have la := rightTok_len ha
  have lb := rightTok_len hb
  have g1 : ¬ (200 : Int) < (((bstr a).size : Nat) : Int) := by omega
  have g2 : ¬ (200 : Int) < (((bstr b).size : Nat) : Int) := by omega
  have HA := Lib.hid (rtok05_any a w (by omega))
  have HB : Hid (∀ W, _) := fun W => rtok05_any b W (by omega)
  rw [ha] at HA
  rw [hb] at HB
  obtain ⟨l1, l2⟩ := one_law ha
  have HP1 : Hid (∀ W, Below w.heap.size w W → _) := fun W hW => parse_str_yes a _ rfl _ sa _ l1 l2 W (ht.below hW) (by omega)
  have hzc : z % 3 = 0 ∨ z % 3 = 1 ∨ z % 3 = 2 := by omega
  have hzt : Int.tmod z 3 = z % 3 := Int.tmod_eq_emod_of_nonneg hz.1
  rcases hzc with hz3 | hz3 | hz3
  · rw [hz3] at hzt
    have hXb : (({ data := #[32, 38, 124, 33] } : ByteArray).extract 1 2) = bstr [opByte 1] := rfl
    have e2 : bstr (a ++ ([opByte 1] ++ b)) = (bstr a ++ (({ data := #[32, 38, 124, 33] } : ByteArray).extract 1 2) ++ bstr b) := by rw [hXb, bstr_append, bstr_append, List.append_assoc]
    have e3 : bstr (wide 1 a b) = (({ data := #[40, 32] } : ByteArray) ++ bstr a ++ ({ data := #[32] } : ByteArray) ++ (({ data := #[32, 38, 124, 33] } : ByteArray).extract 1 2) ++ ({ data := #[32] } : ByteArray) ++ bstr b ++ ({ data := #[41] } : ByteArray)) := by
      rw [hXb, show ({ data := #[40, 32] } : ByteArray) = bstr [40, 32] from rfl, show ({ data := #[32] } : ByteArray) = bstr [32] from rfl, show ({ data := #[41] } : ByteArray) = bstr [41] from rfl]
      simp only [bstr_append, wide]
      congr 1
      simp
    have z2 : (bstr a ++ (({ data := #[32, 38, 124, 33] } : ByteArray).extract 1 2) ++ bstr b).size = a.length + 1 + b.length := by rw [← e2, bstr_size]; simp; omega
    have z3 : (({ data := #[40, 32] } : ByteArray) ++ bstr a ++ ({ data := #[32] } : ByteArray) ++ (({ data := #[32, 38, 124, 33] } : ByteArray).extract 1 2) ++ ({ data := #[32] } : ByteArray) ++ bstr b ++ ({ data := #[41] } : ByteArray)).size = 2 + a.length + 1 + 1 + 1 + b.length + 1 := by rw [← e3, bstr_size]; simp [wide]; omega
    obtain ⟨m1, m2⟩ := two_law ha hb (k := 1) (by decide)
    obtain ⟨n1, n2⟩ := wide_law ha hb (k := 1) (by decide)
    have HP2 : Hid (∀ W, Below w.heap.size w W → _) := fun W hW => parse_str_yes (a ++ ([opByte 1] ++ b)) _ e2 _ z2 _ m1 m2 W (ht.below hW) (by omega)
    have HP3 : Hid (∀ W, Below w.heap.size w W → _) := fun W hW => parse_str_yes (wide 1 a b) _ e3 _ z3 _ n1 n2 W (ht.below hW) (by omega)
    have cv1 := fun W => run_bytes_of_string (P := Tryd.prog) W 9 30 5 (bstr a) Tryd.underlying9 Tryd.underlying30 Tryd.underlying5
    have cv2 := fun W => run_bytes_of_string (P := Tryd.prog) W 9 30 5 (bstr a ++ (({ data := #[32, 38, 124, 33] } : ByteArray).extract 1 2) ++ bstr b) Tryd.underlying9 Tryd.underlying30 Tryd.underlying5
    have cv3 := fun W => run_bytes_of_string (P := Tryd.prog) W 9 30 5 (({ data := #[40, 32] } : ByteArray) ++ bstr a ++ ({ data := #[32] } : ByteArray) ++ (({ data := #[32, 38, 124, 33] } : ByteArray).extract 1 2) ++ ({ data := #[32] } : ByteArray) ++ bstr b ++ ({ data := #[41] } : ByteArray)) Tryd.underlying9 Tryd.underlying30 Tryd.underlying5
    clear e2 e3 hXb m1 m2 n1 n2 l1 l2
    have q1 : ¬ 9223372036854775807 < (bstr a).size + 1 := by omega
    have q2 : ¬ 9223372036854775807 < (bstr a).size + 1 + (bstr b).size := by omega
    have q3 : ¬ 9223372036854775807 < 2 + (bstr a).size := by omega
    have q4 : ¬ 9223372036854775807 < 2 + (bstr a).size + 1 := by omega
    have q5 : ¬ 9223372036854775807 < 2 + (bstr a).size + 1 + 1 := by omega
    have q6 : ¬ 9223372036854775807 < 2 + (bstr a).size + 1 + 1 + 1 := by omega
    have q7 : ¬ 9223372036854775807 < 2 + (bstr a).size + 1 + 1 + 1 + (bstr b).size := by omega
    have q8 : ¬ 9223372036854775807 < 2 + (bstr a).size + 1 + 1 + 1 + (bstr b).size + 1 := by omega
    have HA1 : Hid (∀ (v : Value) W, Rd W v 1 2 (ocells [(0, a)]) → _) := fun v W hW => as_any v [(0, a)] W hW (by simp)
    have HS1 : Hid (∀ (v1 v2 : Value) W, Rd W v1 1 2 (ocells [(0, a)]) → Rd W v2 1 2 (ocells [(0, a)]) → _) := fun v1 v2 W h1 h2 => same_any v1 v2 [(0, a)] [(0, a)] W h1 h2
    have HA2 : Hid (∀ (v : Value) W, Rd W v 3 2 (ocells [(0, a), (0, b), (1, [])]) → _) := fun v W hW => as_any v [(0, a), (0, b), (1, [])] W hW (by simp)
    have HS2 : Hid (∀ (v1 v2 : Value) W, Rd W v1 3 2 (ocells [(0, a), (0, b), (1, [])]) → Rd W v2 3 2 (ocells [(0, a), (0, b), (1, [])]) → _) := fun v1 v2 W h1 h2 => same_any v1 v2 [(0, a), (0, b), (1, [])] [(0, a), (0, b), (1, [])] W h1 h2
    rw [show (([(0, a)] : List QOp) == [(0, a)]) = true from by simp] at HS1
    rw [show (([(0, a), (0, b), (1, [])] : List QOp) == [(0, a), (0, b), (1, [])]) = true from by simp] at HS2
    go_enter Tryd.func5, Tryd.ntmps5
    go_wp2_with (first
      | (go_at_call 14; refine (HK.out _ (hbB.trans (d14.mono hbB.size))).mono ?_; rintro e w15 ⟨rfl, hb15⟩)
      | (go_at_call 18; refine (HS2.out av12 av13 w13 (Rd.of_own (own_below' hown12 hb13)) (Rd.of_own hown13)).mono ?_; rintro e w14 ⟨rfl, hb14⟩; have d14 := d13.trans (hb14.mono d13.size))
      | (go_at_call 19; refine (HA2.out _ w12 (r2B.below d12)).mono ?_; rintro e w13 ⟨av13, rfl, hown13, hb13⟩; have d13 := d12.trans (hb13.mono d12.size))
      | (go_at_call 19; refine (HA2.out (.slice ao5 3 co5) w11 (rd5B.below d11)).mono ?_; rintro e w12 ⟨av12, rfl, hown12, hb12⟩; have d12 := d11.trans (hb12.mono d11.size))
      | (go_at_call 18; refine (HS2.out av9 av10 w10 (Rd.of_own (own_below' hown9 hb10)) (Rd.of_own hown10)).mono ?_; rintro e w11 ⟨rfl, hb11⟩; have d11 := d10.trans (hb11.mono d10.size))
      | (go_at_call 19; refine (HA2.out _ w9 (r2B.below d9)).mono ?_; rintro e w10 ⟨av10, rfl, hown10, hb10⟩; have d10 := d9.trans (hb10.mono d9.size))
      | (go_at_call 19; refine (HA2.out (.slice ao4 3 co4) w8 (rd4B.below d8)).mono ?_; rintro e w9 ⟨av9, rfl, hown9, hb9⟩; have d9 := d8.trans (hb9.mono d8.size))
      | (go_at_call 18; refine (HS1.out av6 av7 w7 (Rd.of_own (own_below' hown6 hb7)) (Rd.of_own hown7)).mono ?_; rintro e w8 ⟨rfl, hb8⟩; have d8 := d7.trans (hb8.mono d7.size))
      | (go_at_call 19; refine (HA1.out _ w6 (r1B.below d6)).mono ?_; rintro e w7 ⟨av7, rfl, hown7, hb7⟩; have d7 := d6.trans (hb7.mono d6.size))
      | (go_at_call 19; rw [← hwB]; refine (HA1.out (.slice ao3 1 co3) wB rd3B).mono ?_; rintro e w6 ⟨av6, rfl, hown6, d6⟩)
      | (go_at_call 16; refine (HP3.out w4 hb14).mono ?_; rintro e w5 ⟨hb5, ov5, p5, rfl, hown5⟩; obtain ⟨ao5, co5, rfl⟩ := own_shape hown5; have rd5 := Rd.of_own hown5; have hb15 := hb14.trans (hb5.mono hb14.size); obtain ⟨wB, hwB⟩ : ∃ x : World, x = (w5.alloc (.cells #[.int .i64 0, .string (bstr a)] 38)).alloc (.cells #[.int .i64 0, .string (bstr a), .int .i64 0, .string (bstr b), .int .i64 1, .string { data := #[] }] 38) := ⟨_, rfl⟩; obtain ⟨r1B, r2B, b5B⟩ := one_lits w5 wB a b 1 hwB; have hbB := hb15.trans (b5B.mono hb15.size); have rd5B := rd5.below b5B; have rd4B := (rd4.below hb5).below b5B; have rd3B := ((rd3.below hb4).below hb5).below b5B)
      | (go_at_call 16; refine (HP2.out w3 hb13).mono ?_; rintro e w4 ⟨hb4, ov4, p4, rfl, hown4⟩; obtain ⟨ao4, co4, rfl⟩ := own_shape hown4; have rd4 := Rd.of_own hown4; have hb14 := hb13.trans (hb4.mono hb13.size))
      | (go_at_call 16; refine (HP1.out w2 hb12).mono ?_; rintro e w3 ⟨hb3, ov3, p3, rfl, hown3⟩; obtain ⟨ao3, co3, rfl⟩ := own_shape hown3; have rd3 := Rd.of_own hown3; have hb13 := hb12.trans (hb3.mono hb12.size))
      | (go_at_call 20; refine (HB.out w1).mono ?_; rintro e w2 ⟨rfl, hb2⟩; have hb12 := hb1.trans (hb2.mono hb1.size))
      | (go_at_call 20; refine HA.out.mono ?_; rintro e w1 ⟨rfl, hb1⟩))
    go_ret
    exact ⟨rfl, (hbB.trans (d14.mono hbB.size)).trans (hb15.mono (hbB.trans (d14.mono hbB.size)).size)⟩
  · rw [hz3] at hzt
    have hXb : (({ data := #[32, 38, 124, 33] } : ByteArray).extract 2 3) = bstr [opByte 2] := rfl
    have e2 : bstr (a ++ ([opByte 2] ++ b)) = (bstr a ++ (({ data := #[32, 38, 124, 33] } : ByteArray).extract 2 3) ++ bstr b) := by rw [hXb, bstr_append, bstr_append, List.append_assoc]
    have e3 : bstr (wide 2 a b) = (({ data := #[40, 32] } : ByteArray) ++ bstr a ++ ({ data := #[32] } : ByteArray) ++ (({ data := #[32, 38, 124, 33] } : ByteArray).extract 2 3) ++ ({ data := #[32] } : ByteArray) ++ bstr b ++ ({ data := #[41] } : ByteArray)) := by
      rw [hXb, show ({ data := #[40, 32] } : ByteArray) = bstr [40, 32] from rfl, show ({ data := #[32] } : ByteArray) = bstr [32] from rfl, show ({ data := #[41] } : ByteArray) = bstr [41] from rfl]
      simp only [bstr_append, wide]
      congr 1
      simp
    have z2 : (bstr a ++ (({ data := #[32, 38, 124, 33] } : ByteArray).extract 2 3) ++ bstr b).size = a.length + 1 + b.length := by rw [← e2, bstr_size]; simp; omega
    have z3 : (({ data := #[40, 32] } : ByteArray) ++ bstr a ++ ({ data := #[32] } : ByteArray) ++ (({ data := #[32, 38, 124, 33] } : ByteArray).extract 2 3) ++ ({ data := #[32] } : ByteArray) ++ bstr b ++ ({ data := #[41] } : ByteArray)).size = 2 + a.length + 1 + 1 + 1 + b.length + 1 := by rw [← e3, bstr_size]; simp [wide]; omega
    obtain ⟨m1, m2⟩ := two_law ha hb (k := 2) (by decide)
    obtain ⟨n1, n2⟩ := wide_law ha hb (k := 2) (by decide)
    have HP2 : Hid (∀ W, Below w.heap.size w W → _) := fun W hW => parse_str_yes (a ++ ([opByte 2] ++ b)) _ e2 _ z2 _ m1 m2 W (ht.below hW) (by omega)
    have HP3 : Hid (∀ W, Below w.heap.size w W → _) := fun W hW => parse_str_yes (wide 2 a b) _ e3 _ z3 _ n1 n2 W (ht.below hW) (by omega)
    have cv1 := fun W => run_bytes_of_string (P := Tryd.prog) W 9 30 5 (bstr a) Tryd.underlying9 Tryd.underlying30 Tryd.underlying5
    have cv2 := fun W => run_bytes_of_string (P := Tryd.prog) W 9 30 5 (bstr a ++ (({ data := #[32, 38, 124, 33] } : ByteArray).extract 2 3) ++ bstr b) Tryd.underlying9 Tryd.underlying30 Tryd.underlying5
    have cv3 := fun W => run_bytes_of_string (P := Tryd.prog) W 9 30 5 (({ data := #[40, 32] } : ByteArray) ++ bstr a ++ ({ data := #[32] } : ByteArray) ++ (({ data := #[32, 38, 124, 33] } : ByteArray).extract 2 3) ++ ({ data := #[32] } : ByteArray) ++ bstr b ++ ({ data := #[41] } : ByteArray)) Tryd.underlying9 Tryd.underlying30 Tryd.underlying5
    clear e2 e3 hXb m1 m2 n1 n2 l1 l2
    have q1 : ¬ 9223372036854775807 < (bstr a).size + 1 := by omega
    have q2 : ¬ 9223372036854775807 < (bstr a).size + 1 + (bstr b).size := by omega
    have q3 : ¬ 9223372036854775807 < 2 + (bstr a).size := by omega
    have q4 : ¬ 9223372036854775807 < 2 + (bstr a).size + 1 := by omega
    have q5 : ¬ 9223372036854775807 < 2 + (bstr a).size + 1 + 1 := by omega
    have q6 : ¬ 9223372036854775807 < 2 + (bstr a).size + 1 + 1 + 1 := by omega
    have q7 : ¬ 9223372036854775807 < 2 + (bstr a).size + 1 + 1 + 1 + (bstr b).size := by omega
    have q8 : ¬ 9223372036854775807 < 2 + (bstr a).size + 1 + 1 + 1 + (bstr b).size + 1 := by omega
    have HA1 : Hid (∀ (v : Value) W, Rd W v 1 2 (ocells [(0, a)]) → _) := fun v W hW => as_any v [(0, a)] W hW (by simp)
    have HS1 : Hid (∀ (v1 v2 : Value) W, Rd W v1 1 2 (ocells [(0, a)]) → Rd W v2 1 2 (ocells [(0, a)]) → _) := fun v1 v2 W h1 h2 => same_any v1 v2 [(0, a)] [(0, a)] W h1 h2
    have HA2 : Hid (∀ (v : Value) W, Rd W v 3 2 (ocells [(0, a), (0, b), (2, [])]) → _) := fun v W hW => as_any v [(0, a), (0, b), (2, [])] W hW (by simp)
    have HS2 : Hid (∀ (v1 v2 : Value) W, Rd W v1 3 2 (ocells [(0, a), (0, b), (2, [])]) → Rd W v2 3 2 (ocells [(0, a), (0, b), (2, [])]) → _) := fun v1 v2 W h1 h2 => same_any v1 v2 [(0, a), (0, b), (2, [])] [(0, a), (0, b), (2, [])] W h1 h2
    rw [show (([(0, a)] : List QOp) == [(0, a)]) = true from by simp] at HS1
    rw [show (([(0, a), (0, b), (2, [])] : List QOp) == [(0, a), (0, b), (2, [])]) = true from by simp] at HS2
    go_enter Tryd.func5, Tryd.ntmps5
    go_wp2_with (first
      | (go_at_call 14; refine (HK.out _ (hbB.trans (d14.mono hbB.size))).mono ?_; rintro e w15 ⟨rfl, hb15⟩)
      | (go_at_call 18; refine (HS2.out av12 av13 w13 (Rd.of_own (own_below' hown12 hb13)) (Rd.of_own hown13)).mono ?_; rintro e w14 ⟨rfl, hb14⟩; have d14 := d13.trans (hb14.mono d13.size))
      | (go_at_call 19; refine (HA2.out _ w12 (r2B.below d12)).mono ?_; rintro e w13 ⟨av13, rfl, hown13, hb13⟩; have d13 := d12.trans (hb13.mono d12.size))
      | (go_at_call 19; refine (HA2.out (.slice ao5 3 co5) w11 (rd5B.below d11)).mono ?_; rintro e w12 ⟨av12, rfl, hown12, hb12⟩; have d12 := d11.trans (hb12.mono d11.size))
      | (go_at_call 18; refine (HS2.out av9 av10 w10 (Rd.of_own (own_below' hown9 hb10)) (Rd.of_own hown10)).mono ?_; rintro e w11 ⟨rfl, hb11⟩; have d11 := d10.trans (hb11.mono d10.size))
      | (go_at_call 19; refine (HA2.out _ w9 (r2B.below d9)).mono ?_; rintro e w10 ⟨av10, rfl, hown10, hb10⟩; have d10 := d9.trans (hb10.mono d9.size))
      | (go_at_call 19; refine (HA2.out (.slice ao4 3 co4) w8 (rd4B.below d8)).mono ?_; rintro e w9 ⟨av9, rfl, hown9, hb9⟩; have d9 := d8.trans (hb9.mono d8.size))
      | (go_at_call 18; refine (HS1.out av6 av7 w7 (Rd.of_own (own_below' hown6 hb7)) (Rd.of_own hown7)).mono ?_; rintro e w8 ⟨rfl, hb8⟩; have d8 := d7.trans (hb8.mono d7.size))
      | (go_at_call 19; refine (HA1.out _ w6 (r1B.below d6)).mono ?_; rintro e w7 ⟨av7, rfl, hown7, hb7⟩; have d7 := d6.trans (hb7.mono d6.size))
      | (go_at_call 19; rw [← hwB]; refine (HA1.out (.slice ao3 1 co3) wB rd3B).mono ?_; rintro e w6 ⟨av6, rfl, hown6, d6⟩)
      | (go_at_call 16; refine (HP3.out w4 hb14).mono ?_; rintro e w5 ⟨hb5, ov5, p5, rfl, hown5⟩; obtain ⟨ao5, co5, rfl⟩ := own_shape hown5; have rd5 := Rd.of_own hown5; have hb15 := hb14.trans (hb5.mono hb14.size); obtain ⟨wB, hwB⟩ : ∃ x : World, x = (w5.alloc (.cells #[.int .i64 0, .string (bstr a)] 38)).alloc (.cells #[.int .i64 0, .string (bstr a), .int .i64 0, .string (bstr b), .int .i64 2, .string { data := #[] }] 38) := ⟨_, rfl⟩; obtain ⟨r1B, r2B, b5B⟩ := one_lits w5 wB a b 2 hwB; have hbB := hb15.trans (b5B.mono hb15.size); have rd5B := rd5.below b5B; have rd4B := (rd4.below hb5).below b5B; have rd3B := ((rd3.below hb4).below hb5).below b5B)
      | (go_at_call 16; refine (HP2.out w3 hb13).mono ?_; rintro e w4 ⟨hb4, ov4, p4, rfl, hown4⟩; obtain ⟨ao4, co4, rfl⟩ := own_shape hown4; have rd4 := Rd.of_own hown4; have hb14 := hb13.trans (hb4.mono hb13.size))
      | (go_at_call 16; refine (HP1.out w2 hb12).mono ?_; rintro e w3 ⟨hb3, ov3, p3, rfl, hown3⟩; obtain ⟨ao3, co3, rfl⟩ := own_shape hown3; have rd3 := Rd.of_own hown3; have hb13 := hb12.trans (hb3.mono hb12.size))
      | (go_at_call 20; refine (HB.out w1).mono ?_; rintro e w2 ⟨rfl, hb2⟩; have hb12 := hb1.trans (hb2.mono hb1.size))
      | (go_at_call 20; refine HA.out.mono ?_; rintro e w1 ⟨rfl, hb1⟩))
    go_ret
    exact ⟨rfl, (hbB.trans (d14.mono hbB.size)).trans (hb15.mono (hbB.trans (d14.mono hbB.size)).size)⟩
  · rw [hz3] at hzt
    have hXb : (({ data := #[32, 38, 124, 33] } : ByteArray).extract 3 4) = bstr [opByte 3] := rfl
    have e2 : bstr (a ++ ([opByte 3] ++ b)) = (bstr a ++ (({ data := #[32, 38, 124, 33] } : ByteArray).extract 3 4) ++ bstr b) := by rw [hXb, bstr_append, bstr_append, List.append_assoc]
    have e3 : bstr (wide 3 a b) = (({ data := #[40, 32] } : ByteArray) ++ bstr a ++ ({ data := #[32] } : ByteArray) ++ (({ data := #[32, 38, 124, 33] } : ByteArray).extract 3 4) ++ ({ data := #[32] } : ByteArray) ++ bstr b ++ ({ data := #[41] } : ByteArray)) := by
      rw [hXb, show ({ data := #[40, 32] } : ByteArray) = bstr [40, 32] from rfl, show ({ data := #[32] } : ByteArray) = bstr [32] from rfl, show ({ data := #[41] } : ByteArray) = bstr [41] from rfl]
      simp only [bstr_append, wide]
      congr 1
      simp
    have z2 : (bstr a ++ (({ data := #[32, 38, 124, 33] } : ByteArray).extract 3 4) ++ bstr b).size = a.length + 1 + b.length := by rw [← e2, bstr_size]; simp; omega
    have z3 : (({ data := #[40, 32] } : ByteArray) ++ bstr a ++ ({ data := #[32] } : ByteArray) ++ (({ data := #[32, 38, 124, 33] } : ByteArray).extract 3 4) ++ ({ data := #[32] } : ByteArray) ++ bstr b ++ ({ data := #[41] } : ByteArray)).size = 2 + a.length + 1 + 1 + 1 + b.length + 1 := by rw [← e3, bstr_size]; simp [wide]; omega
    obtain ⟨m1, m2⟩ := two_law ha hb (k := 3) (by decide)
    obtain ⟨n1, n2⟩ := wide_law ha hb (k := 3) (by decide)
    have HP2 : Hid (∀ W, Below w.heap.size w W → _) := fun W hW => parse_str_yes (a ++ ([opByte 3] ++ b)) _ e2 _ z2 _ m1 m2 W (ht.below hW) (by omega)
    have HP3 : Hid (∀ W, Below w.heap.size w W → _) := fun W hW => parse_str_yes (wide 3 a b) _ e3 _ z3 _ n1 n2 W (ht.below hW) (by omega)
    have cv1 := fun W => run_bytes_of_string (P := Tryd.prog) W 9 30 5 (bstr a) Tryd.underlying9 Tryd.underlying30 Tryd.underlying5
    have cv2 := fun W => run_bytes_of_string (P := Tryd.prog) W 9 30 5 (bstr a ++ (({ data := #[32, 38, 124, 33] } : ByteArray).extract 3 4) ++ bstr b) Tryd.underlying9 Tryd.underlying30 Tryd.underlying5
    have cv3 := fun W => run_bytes_of_string (P := Tryd.prog) W 9 30 5 (({ data := #[40, 32] } : ByteArray) ++ bstr a ++ ({ data := #[32] } : ByteArray) ++ (({ data := #[32, 38, 124, 33] } : ByteArray).extract 3 4) ++ ({ data := #[32] } : ByteArray) ++ bstr b ++ ({ data := #[41] } : ByteArray)) Tryd.underlying9 Tryd.underlying30 Tryd.underlying5
    clear e2 e3 hXb m1 m2 n1 n2 l1 l2
    have q1 : ¬ 9223372036854775807 < (bstr a).size + 1 := by omega
    have q2 : ¬ 9223372036854775807 < (bstr a).size + 1 + (bstr b).size := by omega
    have q3 : ¬ 9223372036854775807 < 2 + (bstr a).size := by omega
    have q4 : ¬ 9223372036854775807 < 2 + (bstr a).size + 1 := by omega
    have q5 : ¬ 9223372036854775807 < 2 + (bstr a).size + 1 + 1 := by omega
    have q6 : ¬ 9223372036854775807 < 2 + (bstr a).size + 1 + 1 + 1 := by omega
    have q7 : ¬ 9223372036854775807 < 2 + (bstr a).size + 1 + 1 + 1 + (bstr b).size := by omega
    have q8 : ¬ 9223372036854775807 < 2 + (bstr a).size + 1 + 1 + 1 + (bstr b).size + 1 := by omega
    have HA1 : Hid (∀ (v : Value) W, Rd W v 1 2 (ocells [(0, a)]) → _) := fun v W hW => as_any v [(0, a)] W hW (by simp)
    have HS1 : Hid (∀ (v1 v2 : Value) W, Rd W v1 1 2 (ocells [(0, a)]) → Rd W v2 1 2 (ocells [(0, a)]) → _) := fun v1 v2 W h1 h2 => same_any v1 v2 [(0, a)] [(0, a)] W h1 h2
    have HA2 : Hid (∀ (v : Value) W, Rd W v 3 2 (ocells [(0, a), (0, b), (3, [])]) → _) := fun v W hW => as_any v [(0, a), (0, b), (3, [])] W hW (by simp)
    have HS2 : Hid (∀ (v1 v2 : Value) W, Rd W v1 3 2 (ocells [(0, a), (0, b), (3, [])]) → Rd W v2 3 2 (ocells [(0, a), (0, b), (3, [])]) → _) := fun v1 v2 W h1 h2 => same_any v1 v2 [(0, a), (0, b), (3, [])] [(0, a), (0, b), (3, [])] W h1 h2
    rw [show (([(0, a)] : List QOp) == [(0, a)]) = true from by simp] at HS1
    rw [show (([(0, a), (0, b), (3, [])] : List QOp) == [(0, a), (0, b), (3, [])]) = true from by simp] at HS2
    go_enter Tryd.func5, Tryd.ntmps5
    go_wp2_with (first
      | (go_at_call 14; refine (HK.out _ (hbB.trans (d14.mono hbB.size))).mono ?_; rintro e w15 ⟨rfl, hb15⟩)
      | (go_at_call 18; refine (HS2.out av12 av13 w13 (Rd.of_own (own_below' hown12 hb13)) (Rd.of_own hown13)).mono ?_; rintro e w14 ⟨rfl, hb14⟩; have d14 := d13.trans (hb14.mono d13.size))
      | (go_at_call 19; refine (HA2.out _ w12 (r2B.below d12)).mono ?_; rintro e w13 ⟨av13, rfl, hown13, hb13⟩; have d13 := d12.trans (hb13.mono d12.size))
      | (go_at_call 19; refine (HA2.out (.slice ao5 3 co5) w11 (rd5B.below d11)).mono ?_; rintro e w12 ⟨av12, rfl, hown12, hb12⟩; have d12 := d11.trans (hb12.mono d11.size))
      | (go_at_call 18; refine (HS2.out av9 av10 w10 (Rd.of_own (own_below' hown9 hb10)) (Rd.of_own hown10)).mono ?_; rintro e w11 ⟨rfl, hb11⟩; have d11 := d10.trans (hb11.mono d10.size))
      | (go_at_call 19; refine (HA2.out _ w9 (r2B.below d9)).mono ?_; rintro e w10 ⟨av10, rfl, hown10, hb10⟩; have d10 := d9.trans (hb10.mono d9.size))
      | (go_at_call 19; refine (HA2.out (.slice ao4 3 co4) w8 (rd4B.below d8)).mono ?_; rintro e w9 ⟨av9, rfl, hown9, hb9⟩; have d9 := d8.trans (hb9.mono d8.size))
      | (go_at_call 18; refine (HS1.out av6 av7 w7 (Rd.of_own (own_below' hown6 hb7)) (Rd.of_own hown7)).mono ?_; rintro e w8 ⟨rfl, hb8⟩; have d8 := d7.trans (hb8.mono d7.size))
      | (go_at_call 19; refine (HA1.out _ w6 (r1B.below d6)).mono ?_; rintro e w7 ⟨av7, rfl, hown7, hb7⟩; have d7 := d6.trans (hb7.mono d6.size))
      | (go_at_call 19; rw [← hwB]; refine (HA1.out (.slice ao3 1 co3) wB rd3B).mono ?_; rintro e w6 ⟨av6, rfl, hown6, d6⟩)
      | (go_at_call 16; refine (HP3.out w4 hb14).mono ?_; rintro e w5 ⟨hb5, ov5, p5, rfl, hown5⟩; obtain ⟨ao5, co5, rfl⟩ := own_shape hown5; have rd5 := Rd.of_own hown5; have hb15 := hb14.trans (hb5.mono hb14.size); obtain ⟨wB, hwB⟩ : ∃ x : World, x = (w5.alloc (.cells #[.int .i64 0, .string (bstr a)] 38)).alloc (.cells #[.int .i64 0, .string (bstr a), .int .i64 0, .string (bstr b), .int .i64 3, .string { data := #[] }] 38) := ⟨_, rfl⟩; obtain ⟨r1B, r2B, b5B⟩ := one_lits w5 wB a b 3 hwB; have hbB := hb15.trans (b5B.mono hb15.size); have rd5B := rd5.below b5B; have rd4B := (rd4.below hb5).below b5B; have rd3B := ((rd3.below hb4).below hb5).below b5B)
      | (go_at_call 16; refine (HP2.out w3 hb13).mono ?_; rintro e w4 ⟨hb4, ov4, p4, rfl, hown4⟩; obtain ⟨ao4, co4, rfl⟩ := own_shape hown4; have rd4 := Rd.of_own hown4; have hb14 := hb13.trans (hb4.mono hb13.size))
      | (go_at_call 16; refine (HP1.out w2 hb12).mono ?_; rintro e w3 ⟨hb3, ov3, p3, rfl, hown3⟩; obtain ⟨ao3, co3, rfl⟩ := own_shape hown3; have rd3 := Rd.of_own hown3; have hb13 := hb12.trans (hb3.mono hb12.size))
      | (go_at_call 20; refine (HB.out w1).mono ?_; rintro e w2 ⟨rfl, hb2⟩; have hb12 := hb1.trans (hb2.mono hb1.size))
      | (go_at_call 20; refine HA.out.mono ?_; rintro e w1 ⟨rfl, hb1⟩))
    go_ret
    exact ⟨rfl, (hbB.trans (d14.mono hbB.size)).trans (hb15.mono (hbB.trans (d14.mono hbB.size)).size)⟩

/-- the whole. -/
theorem one_call (a b : List UInt8) (z : Int) (w : World) (ht : Tabs w) (_ : True) (_ : True) (hz : 0 ≤ z ∧ z < 256) :
    Calls Tryd.prog 5 #[.string (bstr a), .string (bstr b), .int .u8 z] w fun e w' => e = .returned (.bool true) ∧ Below w.heap.size w w' := by
  by_cases h : 200 < a.length ∨ 200 < b.length ∨ rightTok a = false ∨ rightTok b = false
  · exact one_not a b z w ht hz h
  · have ha : rightTok a = true := by cases hr : rightTok a with | true => rfl | false => exact absurd (.inr (.inr (.inl hr))) h
    have hb : rightTok b = true := by cases hr : rightTok b with | true => rfl | false => exact absurd (.inr (.inr (.inr hr))) h
    exact one_main a b z w ht hz ha hb
end Go.Proofs.YtjbmihgfneamlaaDoor
