/- utf.first: the first character of bytes. -/
import Derived.Test.YteegbjjpjdlcmaaGreatDoorTab
set_option linter.unusedVariables false
namespace Go.Proofs.YteegbjjpjdlcmaaGreatDoor
open Go.RowKit

def bcells (l : List UInt8) : List Value := l.map fun b => .int .u8 (ch b)

theorem ch_bd (b : UInt8) : 0 ≤ ch b ∧ ch b ≤ 255 := by unfold ch; have := b.toNat_lt; omega

theorem wraps_i64' (n : Int) (h0 : 0 ≤ n) (h1 : n < 2 ^ 62) : IntKind.i64.wrap n = n := by rw [IntKind.wrap_i64]; omega
theorem i64_and31 (x : Int) (h0 : 0 ≤ x) (h1 : x < 1000000) : bits .and .i64 x 31 = x % 32 := bits_mask .i64 62 (by decide) wraps_i64' 5 (by omega) x h0 (by omega)
theorem i64_and15 (x : Int) (h0 : 0 ≤ x) (h1 : x < 1000000) : bits .and .i64 x 15 = x % 16 := bits_mask .i64 62 (by decide) wraps_i64' 4 (by omega) x h0 (by omega)
theorem i64_and7 (x : Int) (h0 : 0 ≤ x) (h1 : x < 1000000) : bits .and .i64 x 7 = x % 8 := bits_mask .i64 62 (by decide) wraps_i64' 3 (by omega) x h0 (by omega)
theorem i64_and63 (x : Int) (h0 : 0 ≤ x) (h1 : x < 10000000) : bits .and .i64 x 63 = x % 64 := bits_mask .i64 62 (by decide) wraps_i64' 6 (by omega) x h0 (by omega)
theorem i64_or6 (x y : Int) (hx : 0 ≤ x) (hm : x % 64 = 0) (hx1 : x < 100000000) (h0 : 0 ≤ y) (h1 : y < 64) : bits .or .i64 x y = x + y :=
  bits_join .i64 62 (by decide) wraps_i64' 6 x y hx hm (by omega) h0 h1 (by omega)

theorem ret2_ii {a b c d : Int} (h1 : a = c) (h2 : b = d) : Ending.returned (.tuple #[.int .i64 a, .int .i64 b]) = .returned (.tuple #[.int .i64 c, .int .i64 d]) := by rw [h1, h2]

def FirstIs (c : Int) (n : Int) (w : World) (e : Ending) (w' : World) : Prop := e = .returned (.tuple #[.int .i64 c, .int .i64 n]) ∧ w = w'

set_option maxHeartbeats 400000 in
theorem first_ascii (b off c n : Nat) (w : World) (hn0 : 0 < n) (hnn : n ≤ 9223372036854775807) (hnc : n ≤ c) (z : Int) (h0 : w.cell? ⟨b, off, none⟩ = some (.int .u8 z)) (hz0 : 0 ≤ z) (hz : z < 128) :
    Calls Tryz.prog 69 #[.slice (some ⟨b, off, none⟩) n c] w (FirstIs z 1 w) := by
  go_enter Tryz.func69, Tryz.ntmps69
  go_wp2
  go_ret2
  exact ⟨rfl, rfl⟩

set_option maxHeartbeats 400000 in
theorem first_low (b off c n : Nat) (w : World) (hn0 : 0 < n) (hnn : n ≤ 9223372036854775807) (hnc : n ≤ c) (z : Int) (h0 : w.cell? ⟨b, off, none⟩ = some (.int .u8 z)) (hz0 : 128 ≤ z) (hz : z < 192) :
    Calls Tryz.prog 69 #[.slice (some ⟨b, off, none⟩) n c] w (FirstIs 65533 1 w) := by
  have a1 : (z / 32 == 6) = false := beq_eq_false_iff_ne.2 (by omega)
  have a2 : (z / 16 == 14) = false := beq_eq_false_iff_ne.2 (by omega)
  have a3 : (z / 8 == 30) = false := beq_eq_false_iff_ne.2 (by omega)
  go_enter Tryz.func69, Tryz.ntmps69
  go_wp2
  go_ret2
  exact ⟨rfl, rfl⟩

set_option maxHeartbeats 400000 in
theorem first_high (b off c n : Nat) (w : World) (hn0 : 0 < n) (hnn : n ≤ 9223372036854775807) (hnc : n ≤ c) (z : Int) (h0 : w.cell? ⟨b, off, none⟩ = some (.int .u8 z)) (hz0 : 248 ≤ z) (hz : z ≤ 255) :
    Calls Tryz.prog 69 #[.slice (some ⟨b, off, none⟩) n c] w (FirstIs 65533 1 w) := by
  have a1 : (z / 32 == 6) = false := beq_eq_false_iff_ne.2 (by omega)
  have a2 : (z / 16 == 14) = false := beq_eq_false_iff_ne.2 (by omega)
  have a3 : (z / 8 == 30) = false := beq_eq_false_iff_ne.2 (by omega)
  go_enter Tryz.func69, Tryz.ntmps69
  go_wp2
  go_ret2
  exact ⟨rfl, rfl⟩

set_option maxHeartbeats 400000 in
theorem first_short2 (b off c n : Nat) (w : World) (hn0 : 0 < n) (hnn : n ≤ 9223372036854775807) (hnc : n ≤ c) (z : Int) (h0 : w.cell? ⟨b, off, none⟩ = some (.int .u8 z)) (hz0 : 192 ≤ z) (hz : z < 224) (hs : n < 2) :
    Calls Tryz.prog 69 #[.slice (some ⟨b, off, none⟩) n c] w (FirstIs 65533 1 w) := by
  have a1 : (z / 32 == 6) = true := beq_iff_eq.2 (by omega)
  have e0 : bits BinOp.and IntKind.i64 z 31 = z - 192 := by rw [i64_and31 z (by omega) (by omega)]; omega
  have hsi : (n : Int) < 2 := by omega
  go_enter Tryz.func69, Tryz.ntmps69
  go_wp2
  go_ret2
  exact ⟨rfl, rfl⟩

set_option maxHeartbeats 400000 in
theorem first_cont2_1 (b off c n : Nat) (w : World) (hn0 : 0 < n) (hnn : n ≤ 9223372036854775807) (hnc : n ≤ c) (z : Int) (h0 : w.cell? ⟨b, off, none⟩ = some (.int .u8 z)) (hz0 : 192 ≤ z) (hz : z < 224) (hs : 2 ≤ n) (z1 : Int) (h1 : w.cell? ⟨b, off + 1, none⟩ = some (.int .u8 z1)) (q1 : 0 ≤ z1) (r1 : z1 ≤ 255) (c1 : z1 < 128 ∨ 192 ≤ z1) :
    Calls Tryz.prog 69 #[.slice (some ⟨b, off, none⟩) n c] w (FirstIs 65533 1 w) := by
  have a1 : (z / 32 == 6) = true := beq_iff_eq.2 (by omega)
  have e0 : bits BinOp.and IntKind.i64 z 31 = z - 192 := by rw [i64_and31 z (by omega) (by omega)]; omega
  have hsi : (2 : Int) ≤ (n : Int) := by omega
  have hsc : 2 ≤ c := by omega
  have b1 : (z1 / 64 != 2) = true := by rw [bne_iff_ne]; omega
  go_enter Tryz.func69, Tryz.ntmps69
  go_wp2
  refine wp_loop_rounds 1 ?_
  rw [rounds_succ]
  go_wp2
  go_ret2
  exact ⟨rfl, rfl⟩

set_option maxHeartbeats 400000 in
theorem first_ok2 (b off c n : Nat) (w : World) (hn0 : 0 < n) (hnn : n ≤ 9223372036854775807) (hnc : n ≤ c) (z : Int) (h0 : w.cell? ⟨b, off, none⟩ = some (.int .u8 z)) (hz0 : 192 ≤ z) (hz : z < 224) (hs : 2 ≤ n) (z1 : Int) (h1 : w.cell? ⟨b, off + 1, none⟩ = some (.int .u8 z1)) (c1 : 128 ≤ z1) (d1 : z1 < 192) (hc : isChar ((z - 192) * 64 + (z1 - 128)) = true) (hsz : csize ((z - 192) * 64 + (z1 - 128)) = 2) :
    Calls Tryz.prog 69 #[.slice (some ⟨b, off, none⟩) n c] w (FirstIs ((z - 192) * 64 + (z1 - 128)) 2 w) := by
  have a1 : (z / 32 == 6) = true := beq_iff_eq.2 (by omega)
  have e0 : bits BinOp.and IntKind.i64 z 31 = z - 192 := by rw [i64_and31 z (by omega) (by omega)]; omega
  have hsi : (2 : Int) ≤ (n : Int) := by omega
  have hsc : 2 ≤ c := by omega
  have b1 : (z1 / 64 != 2) = false := by rw [bne_eq_false_iff_eq]; omega
  have f1 : bits BinOp.and IntKind.u8 z1 63 = z1 - 128 := by rw [u8_and63 z1 (by omega) (by omega)]; omega
  have g1 : bits BinOp.or IntKind.i64 ((z - 192) * 64) (z1 - 128) = (z - 192) * 64 + (z1 - 128) := i64_or6 _ _ (by omega) (by omega) (by omega) (by omega) (by omega)
  have hR := right_any ((z - 192) * 64 + (z1 - 128)) w
  rw [hc] at hR
  have hS := size_any ((z - 192) * 64 + (z1 - 128)) w
  rw [hsz] at hS
  have HR := Lib.hid hR
  have HS := Lib.hid hS
  clear hR hS hc hsz
  go_enter Tryz.func69, Tryz.ntmps69
  go_wp2
  refine wp_loop_rounds 2 ?_
  rw [rounds_succ]
  go_wp2_with (first | (go_at_call 92; with_reducible refine HR.out.mono ?_; rintro e w' ⟨rfl, rfl⟩) | (go_at_call 93; with_reducible refine HS.out.mono ?_; rintro e w' ⟨rfl, rfl⟩))
  rw [rounds_succ]
  go_wp2_with (first | (go_at_call 92; with_reducible refine HR.out.mono ?_; rintro e w' ⟨rfl, rfl⟩) | (go_at_call 93; with_reducible refine HS.out.mono ?_; rintro e w' ⟨rfl, rfl⟩))
  go_ret2
  exact ⟨rfl, rfl⟩

set_option maxHeartbeats 400000 in
theorem first_no2_char (b off c n : Nat) (w : World) (hn0 : 0 < n) (hnn : n ≤ 9223372036854775807) (hnc : n ≤ c) (z : Int) (h0 : w.cell? ⟨b, off, none⟩ = some (.int .u8 z)) (hz0 : 192 ≤ z) (hz : z < 224) (hs : 2 ≤ n) (z1 : Int) (h1 : w.cell? ⟨b, off + 1, none⟩ = some (.int .u8 z1)) (c1 : 128 ≤ z1) (d1 : z1 < 192) (hc : isChar ((z - 192) * 64 + (z1 - 128)) = false) :
    Calls Tryz.prog 69 #[.slice (some ⟨b, off, none⟩) n c] w (FirstIs 65533 1 w) := by
  have a1 : (z / 32 == 6) = true := beq_iff_eq.2 (by omega)
  have e0 : bits BinOp.and IntKind.i64 z 31 = z - 192 := by rw [i64_and31 z (by omega) (by omega)]; omega
  have hsi : (2 : Int) ≤ (n : Int) := by omega
  have hsc : 2 ≤ c := by omega
  have b1 : (z1 / 64 != 2) = false := by rw [bne_eq_false_iff_eq]; omega
  have f1 : bits BinOp.and IntKind.u8 z1 63 = z1 - 128 := by rw [u8_and63 z1 (by omega) (by omega)]; omega
  have g1 : bits BinOp.or IntKind.i64 ((z - 192) * 64) (z1 - 128) = (z - 192) * 64 + (z1 - 128) := i64_or6 _ _ (by omega) (by omega) (by omega) (by omega) (by omega)
  have hR := right_any ((z - 192) * 64 + (z1 - 128)) w
  rw [hc] at hR
  have HR := Lib.hid hR
  clear hR hc
  go_enter Tryz.func69, Tryz.ntmps69
  go_wp2
  refine wp_loop_rounds 2 ?_
  rw [rounds_succ]
  go_wp2_with (go_at_call 92; with_reducible refine HR.out.mono ?_; rintro e w' ⟨rfl, rfl⟩)
  rw [rounds_succ]
  go_wp2_with (go_at_call 92; with_reducible refine HR.out.mono ?_; rintro e w' ⟨rfl, rfl⟩)
  go_ret2
  exact ⟨rfl, rfl⟩

set_option maxHeartbeats 400000 in
theorem first_no2_size (b off c n : Nat) (w : World) (hn0 : 0 < n) (hnn : n ≤ 9223372036854775807) (hnc : n ≤ c) (z : Int) (h0 : w.cell? ⟨b, off, none⟩ = some (.int .u8 z)) (hz0 : 192 ≤ z) (hz : z < 224) (hs : 2 ≤ n) (z1 : Int) (h1 : w.cell? ⟨b, off + 1, none⟩ = some (.int .u8 z1)) (c1 : 128 ≤ z1) (d1 : z1 < 192) (hc : isChar ((z - 192) * 64 + (z1 - 128)) = true) (hsz : (csize ((z - 192) * 64 + (z1 - 128)) != 2) = true) :
    Calls Tryz.prog 69 #[.slice (some ⟨b, off, none⟩) n c] w (FirstIs 65533 1 w) := by
  have a1 : (z / 32 == 6) = true := beq_iff_eq.2 (by omega)
  have e0 : bits BinOp.and IntKind.i64 z 31 = z - 192 := by rw [i64_and31 z (by omega) (by omega)]; omega
  have hsi : (2 : Int) ≤ (n : Int) := by omega
  have hsc : 2 ≤ c := by omega
  have b1 : (z1 / 64 != 2) = false := by rw [bne_eq_false_iff_eq]; omega
  have f1 : bits BinOp.and IntKind.u8 z1 63 = z1 - 128 := by rw [u8_and63 z1 (by omega) (by omega)]; omega
  have g1 : bits BinOp.or IntKind.i64 ((z - 192) * 64) (z1 - 128) = (z - 192) * 64 + (z1 - 128) := i64_or6 _ _ (by omega) (by omega) (by omega) (by omega) (by omega)
  have hR := right_any ((z - 192) * 64 + (z1 - 128)) w
  rw [hc] at hR
  have hS := size_any ((z - 192) * 64 + (z1 - 128)) w
  have HR := Lib.hid hR
  have HS := Lib.hid hS
  clear hR hS hc
  go_enter Tryz.func69, Tryz.ntmps69
  go_wp2
  refine wp_loop_rounds 2 ?_
  rw [rounds_succ]
  go_wp2_with (first | (go_at_call 92; with_reducible refine HR.out.mono ?_; rintro e w' ⟨rfl, rfl⟩) | (go_at_call 93; with_reducible refine HS.out.mono ?_; rintro e w' ⟨rfl, rfl⟩))
  rw [rounds_succ]
  go_wp2_with (first | (go_at_call 92; with_reducible refine HR.out.mono ?_; rintro e w' ⟨rfl, rfl⟩) | (go_at_call 93; with_reducible refine HS.out.mono ?_; rintro e w' ⟨rfl, rfl⟩))
  go_ret2
  exact ⟨rfl, rfl⟩

set_option maxHeartbeats 400000 in
theorem first_short3 (b off c n : Nat) (w : World) (hn0 : 0 < n) (hnn : n ≤ 9223372036854775807) (hnc : n ≤ c) (z : Int) (h0 : w.cell? ⟨b, off, none⟩ = some (.int .u8 z)) (hz0 : 224 ≤ z) (hz : z < 240) (hs : n < 3) :
    Calls Tryz.prog 69 #[.slice (some ⟨b, off, none⟩) n c] w (FirstIs 65533 1 w) := by
  have a1 : (z / 32 == 6) = false := beq_eq_false_iff_ne.2 (by omega)
  have a2 : (z / 16 == 14) = true := beq_iff_eq.2 (by omega)
  have e0 : bits BinOp.and IntKind.i64 z 15 = z - 224 := by rw [i64_and15 z (by omega) (by omega)]; omega
  have hsi : (n : Int) < 3 := by omega
  go_enter Tryz.func69, Tryz.ntmps69
  go_wp2
  go_ret2
  exact ⟨rfl, rfl⟩

set_option maxHeartbeats 400000 in
theorem first_cont3_1 (b off c n : Nat) (w : World) (hn0 : 0 < n) (hnn : n ≤ 9223372036854775807) (hnc : n ≤ c) (z : Int) (h0 : w.cell? ⟨b, off, none⟩ = some (.int .u8 z)) (hz0 : 224 ≤ z) (hz : z < 240) (hs : 3 ≤ n) (z1 : Int) (h1 : w.cell? ⟨b, off + 1, none⟩ = some (.int .u8 z1)) (q1 : 0 ≤ z1) (r1 : z1 ≤ 255) (c1 : z1 < 128 ∨ 192 ≤ z1) :
    Calls Tryz.prog 69 #[.slice (some ⟨b, off, none⟩) n c] w (FirstIs 65533 1 w) := by
  have a1 : (z / 32 == 6) = false := beq_eq_false_iff_ne.2 (by omega)
  have a2 : (z / 16 == 14) = true := beq_iff_eq.2 (by omega)
  have e0 : bits BinOp.and IntKind.i64 z 15 = z - 224 := by rw [i64_and15 z (by omega) (by omega)]; omega
  have hsi : (3 : Int) ≤ (n : Int) := by omega
  have hsc : 3 ≤ c := by omega
  have b1 : (z1 / 64 != 2) = true := by rw [bne_iff_ne]; omega
  go_enter Tryz.func69, Tryz.ntmps69
  go_wp2
  refine wp_loop_rounds 1 ?_
  rw [rounds_succ]
  go_wp2
  go_ret2
  exact ⟨rfl, rfl⟩

set_option maxHeartbeats 400000 in
theorem first_cont3_2 (b off c n : Nat) (w : World) (hn0 : 0 < n) (hnn : n ≤ 9223372036854775807) (hnc : n ≤ c) (z : Int) (h0 : w.cell? ⟨b, off, none⟩ = some (.int .u8 z)) (hz0 : 224 ≤ z) (hz : z < 240) (hs : 3 ≤ n) (z1 : Int) (h1 : w.cell? ⟨b, off + 1, none⟩ = some (.int .u8 z1)) (q1 : 0 ≤ z1) (r1 : z1 ≤ 255) (z2 : Int) (h2 : w.cell? ⟨b, off + 1 + 1, none⟩ = some (.int .u8 z2)) (q2 : 0 ≤ z2) (r2 : z2 ≤ 255) (c1 : 128 ≤ z1) (d1 : z1 < 192) (c2 : z2 < 128 ∨ 192 ≤ z2) :
    Calls Tryz.prog 69 #[.slice (some ⟨b, off, none⟩) n c] w (FirstIs 65533 1 w) := by
  have a1 : (z / 32 == 6) = false := beq_eq_false_iff_ne.2 (by omega)
  have a2 : (z / 16 == 14) = true := beq_iff_eq.2 (by omega)
  have e0 : bits BinOp.and IntKind.i64 z 15 = z - 224 := by rw [i64_and15 z (by omega) (by omega)]; omega
  have hsi : (3 : Int) ≤ (n : Int) := by omega
  have hsc : 3 ≤ c := by omega
  have b1 : (z1 / 64 != 2) = false := by rw [bne_eq_false_iff_eq]; omega
  have f1 : bits BinOp.and IntKind.u8 z1 63 = z1 - 128 := by rw [u8_and63 z1 (by omega) (by omega)]; omega
  have g1 : bits BinOp.or IntKind.i64 ((z - 224) * 64) (z1 - 128) = (z - 224) * 64 + (z1 - 128) := i64_or6 _ _ (by omega) (by omega) (by omega) (by omega) (by omega)
  have b2 : (z2 / 64 != 2) = true := by rw [bne_iff_ne]; omega
  go_enter Tryz.func69, Tryz.ntmps69
  go_wp2
  refine wp_loop_rounds 2 ?_
  rw [rounds_succ]
  go_wp2
  rw [rounds_succ]
  go_wp2
  go_ret2
  exact ⟨rfl, rfl⟩

set_option maxHeartbeats 400000 in
theorem first_ok3 (b off c n : Nat) (w : World) (hn0 : 0 < n) (hnn : n ≤ 9223372036854775807) (hnc : n ≤ c) (z : Int) (h0 : w.cell? ⟨b, off, none⟩ = some (.int .u8 z)) (hz0 : 224 ≤ z) (hz : z < 240) (hs : 3 ≤ n) (z1 : Int) (h1 : w.cell? ⟨b, off + 1, none⟩ = some (.int .u8 z1)) (c1 : 128 ≤ z1) (d1 : z1 < 192) (z2 : Int) (h2 : w.cell? ⟨b, off + 1 + 1, none⟩ = some (.int .u8 z2)) (c2 : 128 ≤ z2) (d2 : z2 < 192) (hc : isChar (((z - 224) * 64 + (z1 - 128)) * 64 + (z2 - 128)) = true) (hsz : csize (((z - 224) * 64 + (z1 - 128)) * 64 + (z2 - 128)) = 3) :
    Calls Tryz.prog 69 #[.slice (some ⟨b, off, none⟩) n c] w (FirstIs (((z - 224) * 64 + (z1 - 128)) * 64 + (z2 - 128)) 3 w) := by
  have a1 : (z / 32 == 6) = false := beq_eq_false_iff_ne.2 (by omega)
  have a2 : (z / 16 == 14) = true := beq_iff_eq.2 (by omega)
  have e0 : bits BinOp.and IntKind.i64 z 15 = z - 224 := by rw [i64_and15 z (by omega) (by omega)]; omega
  have hsi : (3 : Int) ≤ (n : Int) := by omega
  have hsc : 3 ≤ c := by omega
  have b1 : (z1 / 64 != 2) = false := by rw [bne_eq_false_iff_eq]; omega
  have f1 : bits BinOp.and IntKind.u8 z1 63 = z1 - 128 := by rw [u8_and63 z1 (by omega) (by omega)]; omega
  have g1 : bits BinOp.or IntKind.i64 ((z - 224) * 64) (z1 - 128) = (z - 224) * 64 + (z1 - 128) := i64_or6 _ _ (by omega) (by omega) (by omega) (by omega) (by omega)
  have b2 : (z2 / 64 != 2) = false := by rw [bne_eq_false_iff_eq]; omega
  have f2 : bits BinOp.and IntKind.u8 z2 63 = z2 - 128 := by rw [u8_and63 z2 (by omega) (by omega)]; omega
  have g2 : bits BinOp.or IntKind.i64 (((z - 224) * 64 + (z1 - 128)) * 64) (z2 - 128) = ((z - 224) * 64 + (z1 - 128)) * 64 + (z2 - 128) := i64_or6 _ _ (by omega) (by omega) (by omega) (by omega) (by omega)
  have hR := right_any (((z - 224) * 64 + (z1 - 128)) * 64 + (z2 - 128)) w
  rw [hc] at hR
  have hS := size_any (((z - 224) * 64 + (z1 - 128)) * 64 + (z2 - 128)) w
  rw [hsz] at hS
  have HR := Lib.hid hR
  have HS := Lib.hid hS
  clear hR hS hc hsz
  go_enter Tryz.func69, Tryz.ntmps69
  go_wp2
  refine wp_loop_rounds 3 ?_
  rw [rounds_succ]
  go_wp2_with (first | (go_at_call 92; with_reducible refine HR.out.mono ?_; rintro e w' ⟨rfl, rfl⟩) | (go_at_call 93; with_reducible refine HS.out.mono ?_; rintro e w' ⟨rfl, rfl⟩))
  rw [rounds_succ]
  go_wp2_with (first | (go_at_call 92; with_reducible refine HR.out.mono ?_; rintro e w' ⟨rfl, rfl⟩) | (go_at_call 93; with_reducible refine HS.out.mono ?_; rintro e w' ⟨rfl, rfl⟩))
  rw [rounds_succ]
  go_wp2_with (first | (go_at_call 92; with_reducible refine HR.out.mono ?_; rintro e w' ⟨rfl, rfl⟩) | (go_at_call 93; with_reducible refine HS.out.mono ?_; rintro e w' ⟨rfl, rfl⟩))
  go_ret2
  exact ⟨rfl, rfl⟩

set_option maxHeartbeats 400000 in
theorem first_no3_char (b off c n : Nat) (w : World) (hn0 : 0 < n) (hnn : n ≤ 9223372036854775807) (hnc : n ≤ c) (z : Int) (h0 : w.cell? ⟨b, off, none⟩ = some (.int .u8 z)) (hz0 : 224 ≤ z) (hz : z < 240) (hs : 3 ≤ n) (z1 : Int) (h1 : w.cell? ⟨b, off + 1, none⟩ = some (.int .u8 z1)) (c1 : 128 ≤ z1) (d1 : z1 < 192) (z2 : Int) (h2 : w.cell? ⟨b, off + 1 + 1, none⟩ = some (.int .u8 z2)) (c2 : 128 ≤ z2) (d2 : z2 < 192) (hc : isChar (((z - 224) * 64 + (z1 - 128)) * 64 + (z2 - 128)) = false) :
    Calls Tryz.prog 69 #[.slice (some ⟨b, off, none⟩) n c] w (FirstIs 65533 1 w) := by
  have a1 : (z / 32 == 6) = false := beq_eq_false_iff_ne.2 (by omega)
  have a2 : (z / 16 == 14) = true := beq_iff_eq.2 (by omega)
  have e0 : bits BinOp.and IntKind.i64 z 15 = z - 224 := by rw [i64_and15 z (by omega) (by omega)]; omega
  have hsi : (3 : Int) ≤ (n : Int) := by omega
  have hsc : 3 ≤ c := by omega
  have b1 : (z1 / 64 != 2) = false := by rw [bne_eq_false_iff_eq]; omega
  have f1 : bits BinOp.and IntKind.u8 z1 63 = z1 - 128 := by rw [u8_and63 z1 (by omega) (by omega)]; omega
  have g1 : bits BinOp.or IntKind.i64 ((z - 224) * 64) (z1 - 128) = (z - 224) * 64 + (z1 - 128) := i64_or6 _ _ (by omega) (by omega) (by omega) (by omega) (by omega)
  have b2 : (z2 / 64 != 2) = false := by rw [bne_eq_false_iff_eq]; omega
  have f2 : bits BinOp.and IntKind.u8 z2 63 = z2 - 128 := by rw [u8_and63 z2 (by omega) (by omega)]; omega
  have g2 : bits BinOp.or IntKind.i64 (((z - 224) * 64 + (z1 - 128)) * 64) (z2 - 128) = ((z - 224) * 64 + (z1 - 128)) * 64 + (z2 - 128) := i64_or6 _ _ (by omega) (by omega) (by omega) (by omega) (by omega)
  have hR := right_any (((z - 224) * 64 + (z1 - 128)) * 64 + (z2 - 128)) w
  rw [hc] at hR
  have HR := Lib.hid hR
  clear hR hc
  go_enter Tryz.func69, Tryz.ntmps69
  go_wp2
  refine wp_loop_rounds 3 ?_
  rw [rounds_succ]
  go_wp2_with (go_at_call 92; with_reducible refine HR.out.mono ?_; rintro e w' ⟨rfl, rfl⟩)
  rw [rounds_succ]
  go_wp2_with (go_at_call 92; with_reducible refine HR.out.mono ?_; rintro e w' ⟨rfl, rfl⟩)
  rw [rounds_succ]
  go_wp2_with (go_at_call 92; with_reducible refine HR.out.mono ?_; rintro e w' ⟨rfl, rfl⟩)
  go_ret2
  exact ⟨rfl, rfl⟩

set_option maxHeartbeats 400000 in
theorem first_no3_size (b off c n : Nat) (w : World) (hn0 : 0 < n) (hnn : n ≤ 9223372036854775807) (hnc : n ≤ c) (z : Int) (h0 : w.cell? ⟨b, off, none⟩ = some (.int .u8 z)) (hz0 : 224 ≤ z) (hz : z < 240) (hs : 3 ≤ n) (z1 : Int) (h1 : w.cell? ⟨b, off + 1, none⟩ = some (.int .u8 z1)) (c1 : 128 ≤ z1) (d1 : z1 < 192) (z2 : Int) (h2 : w.cell? ⟨b, off + 1 + 1, none⟩ = some (.int .u8 z2)) (c2 : 128 ≤ z2) (d2 : z2 < 192) (hc : isChar (((z - 224) * 64 + (z1 - 128)) * 64 + (z2 - 128)) = true) (hsz : (csize (((z - 224) * 64 + (z1 - 128)) * 64 + (z2 - 128)) != 3) = true) :
    Calls Tryz.prog 69 #[.slice (some ⟨b, off, none⟩) n c] w (FirstIs 65533 1 w) := by
  have a1 : (z / 32 == 6) = false := beq_eq_false_iff_ne.2 (by omega)
  have a2 : (z / 16 == 14) = true := beq_iff_eq.2 (by omega)
  have e0 : bits BinOp.and IntKind.i64 z 15 = z - 224 := by rw [i64_and15 z (by omega) (by omega)]; omega
  have hsi : (3 : Int) ≤ (n : Int) := by omega
  have hsc : 3 ≤ c := by omega
  have b1 : (z1 / 64 != 2) = false := by rw [bne_eq_false_iff_eq]; omega
  have f1 : bits BinOp.and IntKind.u8 z1 63 = z1 - 128 := by rw [u8_and63 z1 (by omega) (by omega)]; omega
  have g1 : bits BinOp.or IntKind.i64 ((z - 224) * 64) (z1 - 128) = (z - 224) * 64 + (z1 - 128) := i64_or6 _ _ (by omega) (by omega) (by omega) (by omega) (by omega)
  have b2 : (z2 / 64 != 2) = false := by rw [bne_eq_false_iff_eq]; omega
  have f2 : bits BinOp.and IntKind.u8 z2 63 = z2 - 128 := by rw [u8_and63 z2 (by omega) (by omega)]; omega
  have g2 : bits BinOp.or IntKind.i64 (((z - 224) * 64 + (z1 - 128)) * 64) (z2 - 128) = ((z - 224) * 64 + (z1 - 128)) * 64 + (z2 - 128) := i64_or6 _ _ (by omega) (by omega) (by omega) (by omega) (by omega)
  have hR := right_any (((z - 224) * 64 + (z1 - 128)) * 64 + (z2 - 128)) w
  rw [hc] at hR
  have hS := size_any (((z - 224) * 64 + (z1 - 128)) * 64 + (z2 - 128)) w
  have HR := Lib.hid hR
  have HS := Lib.hid hS
  clear hR hS hc
  go_enter Tryz.func69, Tryz.ntmps69
  go_wp2
  refine wp_loop_rounds 3 ?_
  rw [rounds_succ]
  go_wp2_with (first | (go_at_call 92; with_reducible refine HR.out.mono ?_; rintro e w' ⟨rfl, rfl⟩) | (go_at_call 93; with_reducible refine HS.out.mono ?_; rintro e w' ⟨rfl, rfl⟩))
  rw [rounds_succ]
  go_wp2_with (first | (go_at_call 92; with_reducible refine HR.out.mono ?_; rintro e w' ⟨rfl, rfl⟩) | (go_at_call 93; with_reducible refine HS.out.mono ?_; rintro e w' ⟨rfl, rfl⟩))
  rw [rounds_succ]
  go_wp2_with (first | (go_at_call 92; with_reducible refine HR.out.mono ?_; rintro e w' ⟨rfl, rfl⟩) | (go_at_call 93; with_reducible refine HS.out.mono ?_; rintro e w' ⟨rfl, rfl⟩))
  go_ret2
  exact ⟨rfl, rfl⟩

set_option maxHeartbeats 400000 in
theorem first_short4 (b off c n : Nat) (w : World) (hn0 : 0 < n) (hnn : n ≤ 9223372036854775807) (hnc : n ≤ c) (z : Int) (h0 : w.cell? ⟨b, off, none⟩ = some (.int .u8 z)) (hz0 : 240 ≤ z) (hz : z < 248) (hs : n < 4) :
    Calls Tryz.prog 69 #[.slice (some ⟨b, off, none⟩) n c] w (FirstIs 65533 1 w) := by
  have a1 : (z / 32 == 6) = false := beq_eq_false_iff_ne.2 (by omega)
  have a2 : (z / 16 == 14) = false := beq_eq_false_iff_ne.2 (by omega)
  have a3 : (z / 8 == 30) = true := beq_iff_eq.2 (by omega)
  have e0 : bits BinOp.and IntKind.i64 z 7 = z - 240 := by rw [i64_and7 z (by omega) (by omega)]; omega
  have hsi : (n : Int) < 4 := by omega
  go_enter Tryz.func69, Tryz.ntmps69
  go_wp2
  go_ret2
  exact ⟨rfl, rfl⟩

set_option maxHeartbeats 400000 in
theorem first_cont4_1 (b off c n : Nat) (w : World) (hn0 : 0 < n) (hnn : n ≤ 9223372036854775807) (hnc : n ≤ c) (z : Int) (h0 : w.cell? ⟨b, off, none⟩ = some (.int .u8 z)) (hz0 : 240 ≤ z) (hz : z < 248) (hs : 4 ≤ n) (z1 : Int) (h1 : w.cell? ⟨b, off + 1, none⟩ = some (.int .u8 z1)) (q1 : 0 ≤ z1) (r1 : z1 ≤ 255) (c1 : z1 < 128 ∨ 192 ≤ z1) :
    Calls Tryz.prog 69 #[.slice (some ⟨b, off, none⟩) n c] w (FirstIs 65533 1 w) := by
  have a1 : (z / 32 == 6) = false := beq_eq_false_iff_ne.2 (by omega)
  have a2 : (z / 16 == 14) = false := beq_eq_false_iff_ne.2 (by omega)
  have a3 : (z / 8 == 30) = true := beq_iff_eq.2 (by omega)
  have e0 : bits BinOp.and IntKind.i64 z 7 = z - 240 := by rw [i64_and7 z (by omega) (by omega)]; omega
  have hsi : (4 : Int) ≤ (n : Int) := by omega
  have hsc : 4 ≤ c := by omega
  have b1 : (z1 / 64 != 2) = true := by rw [bne_iff_ne]; omega
  go_enter Tryz.func69, Tryz.ntmps69
  go_wp2
  refine wp_loop_rounds 1 ?_
  rw [rounds_succ]
  go_wp2
  go_ret2
  exact ⟨rfl, rfl⟩

set_option maxHeartbeats 400000 in
theorem first_cont4_2 (b off c n : Nat) (w : World) (hn0 : 0 < n) (hnn : n ≤ 9223372036854775807) (hnc : n ≤ c) (z : Int) (h0 : w.cell? ⟨b, off, none⟩ = some (.int .u8 z)) (hz0 : 240 ≤ z) (hz : z < 248) (hs : 4 ≤ n) (z1 : Int) (h1 : w.cell? ⟨b, off + 1, none⟩ = some (.int .u8 z1)) (q1 : 0 ≤ z1) (r1 : z1 ≤ 255) (z2 : Int) (h2 : w.cell? ⟨b, off + 1 + 1, none⟩ = some (.int .u8 z2)) (q2 : 0 ≤ z2) (r2 : z2 ≤ 255) (c1 : 128 ≤ z1) (d1 : z1 < 192) (c2 : z2 < 128 ∨ 192 ≤ z2) :
    Calls Tryz.prog 69 #[.slice (some ⟨b, off, none⟩) n c] w (FirstIs 65533 1 w) := by
  have a1 : (z / 32 == 6) = false := beq_eq_false_iff_ne.2 (by omega)
  have a2 : (z / 16 == 14) = false := beq_eq_false_iff_ne.2 (by omega)
  have a3 : (z / 8 == 30) = true := beq_iff_eq.2 (by omega)
  have e0 : bits BinOp.and IntKind.i64 z 7 = z - 240 := by rw [i64_and7 z (by omega) (by omega)]; omega
  have hsi : (4 : Int) ≤ (n : Int) := by omega
  have hsc : 4 ≤ c := by omega
  have b1 : (z1 / 64 != 2) = false := by rw [bne_eq_false_iff_eq]; omega
  have f1 : bits BinOp.and IntKind.u8 z1 63 = z1 - 128 := by rw [u8_and63 z1 (by omega) (by omega)]; omega
  have g1 : bits BinOp.or IntKind.i64 ((z - 240) * 64) (z1 - 128) = (z - 240) * 64 + (z1 - 128) := i64_or6 _ _ (by omega) (by omega) (by omega) (by omega) (by omega)
  have b2 : (z2 / 64 != 2) = true := by rw [bne_iff_ne]; omega
  go_enter Tryz.func69, Tryz.ntmps69
  go_wp2
  refine wp_loop_rounds 2 ?_
  rw [rounds_succ]
  go_wp2
  rw [rounds_succ]
  go_wp2
  go_ret2
  exact ⟨rfl, rfl⟩

set_option maxHeartbeats 400000 in
theorem first_cont4_3 (b off c n : Nat) (w : World) (hn0 : 0 < n) (hnn : n ≤ 9223372036854775807) (hnc : n ≤ c) (z : Int) (h0 : w.cell? ⟨b, off, none⟩ = some (.int .u8 z)) (hz0 : 240 ≤ z) (hz : z < 248) (hs : 4 ≤ n) (z1 : Int) (h1 : w.cell? ⟨b, off + 1, none⟩ = some (.int .u8 z1)) (q1 : 0 ≤ z1) (r1 : z1 ≤ 255) (z2 : Int) (h2 : w.cell? ⟨b, off + 1 + 1, none⟩ = some (.int .u8 z2)) (q2 : 0 ≤ z2) (r2 : z2 ≤ 255) (z3 : Int) (h3 : w.cell? ⟨b, off + 1 + 2, none⟩ = some (.int .u8 z3)) (q3 : 0 ≤ z3) (r3 : z3 ≤ 255) (c1 : 128 ≤ z1) (d1 : z1 < 192) (c2 : 128 ≤ z2) (d2 : z2 < 192) (c3 : z3 < 128 ∨ 192 ≤ z3) :
    Calls Tryz.prog 69 #[.slice (some ⟨b, off, none⟩) n c] w (FirstIs 65533 1 w) := by
  have a1 : (z / 32 == 6) = false := beq_eq_false_iff_ne.2 (by omega)
  have a2 : (z / 16 == 14) = false := beq_eq_false_iff_ne.2 (by omega)
  have a3 : (z / 8 == 30) = true := beq_iff_eq.2 (by omega)
  have e0 : bits BinOp.and IntKind.i64 z 7 = z - 240 := by rw [i64_and7 z (by omega) (by omega)]; omega
  have hsi : (4 : Int) ≤ (n : Int) := by omega
  have hsc : 4 ≤ c := by omega
  have b1 : (z1 / 64 != 2) = false := by rw [bne_eq_false_iff_eq]; omega
  have f1 : bits BinOp.and IntKind.u8 z1 63 = z1 - 128 := by rw [u8_and63 z1 (by omega) (by omega)]; omega
  have g1 : bits BinOp.or IntKind.i64 ((z - 240) * 64) (z1 - 128) = (z - 240) * 64 + (z1 - 128) := i64_or6 _ _ (by omega) (by omega) (by omega) (by omega) (by omega)
  have b2 : (z2 / 64 != 2) = false := by rw [bne_eq_false_iff_eq]; omega
  have f2 : bits BinOp.and IntKind.u8 z2 63 = z2 - 128 := by rw [u8_and63 z2 (by omega) (by omega)]; omega
  have g2 : bits BinOp.or IntKind.i64 (((z - 240) * 64 + (z1 - 128)) * 64) (z2 - 128) = ((z - 240) * 64 + (z1 - 128)) * 64 + (z2 - 128) := i64_or6 _ _ (by omega) (by omega) (by omega) (by omega) (by omega)
  have b3 : (z3 / 64 != 2) = true := by rw [bne_iff_ne]; omega
  go_enter Tryz.func69, Tryz.ntmps69
  go_wp2
  refine wp_loop_rounds 3 ?_
  rw [rounds_succ]
  go_wp2
  rw [rounds_succ]
  go_wp2
  rw [rounds_succ]
  go_wp2
  go_ret2
  exact ⟨rfl, rfl⟩

set_option maxHeartbeats 400000 in
theorem first_ok4 (b off c n : Nat) (w : World) (hn0 : 0 < n) (hnn : n ≤ 9223372036854775807) (hnc : n ≤ c) (z : Int) (h0 : w.cell? ⟨b, off, none⟩ = some (.int .u8 z)) (hz0 : 240 ≤ z) (hz : z < 248) (hs : 4 ≤ n) (z1 : Int) (h1 : w.cell? ⟨b, off + 1, none⟩ = some (.int .u8 z1)) (c1 : 128 ≤ z1) (d1 : z1 < 192) (z2 : Int) (h2 : w.cell? ⟨b, off + 1 + 1, none⟩ = some (.int .u8 z2)) (c2 : 128 ≤ z2) (d2 : z2 < 192) (z3 : Int) (h3 : w.cell? ⟨b, off + 1 + 2, none⟩ = some (.int .u8 z3)) (c3 : 128 ≤ z3) (d3 : z3 < 192) (hc : isChar ((((z - 240) * 64 + (z1 - 128)) * 64 + (z2 - 128)) * 64 + (z3 - 128)) = true) (hsz : csize ((((z - 240) * 64 + (z1 - 128)) * 64 + (z2 - 128)) * 64 + (z3 - 128)) = 4) :
    Calls Tryz.prog 69 #[.slice (some ⟨b, off, none⟩) n c] w (FirstIs ((((z - 240) * 64 + (z1 - 128)) * 64 + (z2 - 128)) * 64 + (z3 - 128)) 4 w) := by
  have a1 : (z / 32 == 6) = false := beq_eq_false_iff_ne.2 (by omega)
  have a2 : (z / 16 == 14) = false := beq_eq_false_iff_ne.2 (by omega)
  have a3 : (z / 8 == 30) = true := beq_iff_eq.2 (by omega)
  have e0 : bits BinOp.and IntKind.i64 z 7 = z - 240 := by rw [i64_and7 z (by omega) (by omega)]; omega
  have hsi : (4 : Int) ≤ (n : Int) := by omega
  have hsc : 4 ≤ c := by omega
  have b1 : (z1 / 64 != 2) = false := by rw [bne_eq_false_iff_eq]; omega
  have f1 : bits BinOp.and IntKind.u8 z1 63 = z1 - 128 := by rw [u8_and63 z1 (by omega) (by omega)]; omega
  have g1 : bits BinOp.or IntKind.i64 ((z - 240) * 64) (z1 - 128) = (z - 240) * 64 + (z1 - 128) := i64_or6 _ _ (by omega) (by omega) (by omega) (by omega) (by omega)
  have b2 : (z2 / 64 != 2) = false := by rw [bne_eq_false_iff_eq]; omega
  have f2 : bits BinOp.and IntKind.u8 z2 63 = z2 - 128 := by rw [u8_and63 z2 (by omega) (by omega)]; omega
  have g2 : bits BinOp.or IntKind.i64 (((z - 240) * 64 + (z1 - 128)) * 64) (z2 - 128) = ((z - 240) * 64 + (z1 - 128)) * 64 + (z2 - 128) := i64_or6 _ _ (by omega) (by omega) (by omega) (by omega) (by omega)
  have b3 : (z3 / 64 != 2) = false := by rw [bne_eq_false_iff_eq]; omega
  have f3 : bits BinOp.and IntKind.u8 z3 63 = z3 - 128 := by rw [u8_and63 z3 (by omega) (by omega)]; omega
  have g3 : bits BinOp.or IntKind.i64 ((((z - 240) * 64 + (z1 - 128)) * 64 + (z2 - 128)) * 64) (z3 - 128) = (((z - 240) * 64 + (z1 - 128)) * 64 + (z2 - 128)) * 64 + (z3 - 128) := i64_or6 _ _ (by omega) (by omega) (by omega) (by omega) (by omega)
  have hR := right_any ((((z - 240) * 64 + (z1 - 128)) * 64 + (z2 - 128)) * 64 + (z3 - 128)) w
  rw [hc] at hR
  have hS := size_any ((((z - 240) * 64 + (z1 - 128)) * 64 + (z2 - 128)) * 64 + (z3 - 128)) w
  rw [hsz] at hS
  have HR := Lib.hid hR
  have HS := Lib.hid hS
  clear hR hS hc hsz
  go_enter Tryz.func69, Tryz.ntmps69
  go_wp2
  refine wp_loop_rounds 4 ?_
  rw [rounds_succ]
  go_wp2_with (first | (go_at_call 92; with_reducible refine HR.out.mono ?_; rintro e w' ⟨rfl, rfl⟩) | (go_at_call 93; with_reducible refine HS.out.mono ?_; rintro e w' ⟨rfl, rfl⟩))
  rw [rounds_succ]
  go_wp2_with (first | (go_at_call 92; with_reducible refine HR.out.mono ?_; rintro e w' ⟨rfl, rfl⟩) | (go_at_call 93; with_reducible refine HS.out.mono ?_; rintro e w' ⟨rfl, rfl⟩))
  rw [rounds_succ]
  go_wp2_with (first | (go_at_call 92; with_reducible refine HR.out.mono ?_; rintro e w' ⟨rfl, rfl⟩) | (go_at_call 93; with_reducible refine HS.out.mono ?_; rintro e w' ⟨rfl, rfl⟩))
  rw [rounds_succ]
  go_wp2_with (first | (go_at_call 92; with_reducible refine HR.out.mono ?_; rintro e w' ⟨rfl, rfl⟩) | (go_at_call 93; with_reducible refine HS.out.mono ?_; rintro e w' ⟨rfl, rfl⟩))
  go_ret2
  exact ⟨rfl, rfl⟩

set_option maxHeartbeats 400000 in
theorem first_no4_char (b off c n : Nat) (w : World) (hn0 : 0 < n) (hnn : n ≤ 9223372036854775807) (hnc : n ≤ c) (z : Int) (h0 : w.cell? ⟨b, off, none⟩ = some (.int .u8 z)) (hz0 : 240 ≤ z) (hz : z < 248) (hs : 4 ≤ n) (z1 : Int) (h1 : w.cell? ⟨b, off + 1, none⟩ = some (.int .u8 z1)) (c1 : 128 ≤ z1) (d1 : z1 < 192) (z2 : Int) (h2 : w.cell? ⟨b, off + 1 + 1, none⟩ = some (.int .u8 z2)) (c2 : 128 ≤ z2) (d2 : z2 < 192) (z3 : Int) (h3 : w.cell? ⟨b, off + 1 + 2, none⟩ = some (.int .u8 z3)) (c3 : 128 ≤ z3) (d3 : z3 < 192) (hc : isChar ((((z - 240) * 64 + (z1 - 128)) * 64 + (z2 - 128)) * 64 + (z3 - 128)) = false) :
    Calls Tryz.prog 69 #[.slice (some ⟨b, off, none⟩) n c] w (FirstIs 65533 1 w) := by
  have a1 : (z / 32 == 6) = false := beq_eq_false_iff_ne.2 (by omega)
  have a2 : (z / 16 == 14) = false := beq_eq_false_iff_ne.2 (by omega)
  have a3 : (z / 8 == 30) = true := beq_iff_eq.2 (by omega)
  have e0 : bits BinOp.and IntKind.i64 z 7 = z - 240 := by rw [i64_and7 z (by omega) (by omega)]; omega
  have hsi : (4 : Int) ≤ (n : Int) := by omega
  have hsc : 4 ≤ c := by omega
  have b1 : (z1 / 64 != 2) = false := by rw [bne_eq_false_iff_eq]; omega
  have f1 : bits BinOp.and IntKind.u8 z1 63 = z1 - 128 := by rw [u8_and63 z1 (by omega) (by omega)]; omega
  have g1 : bits BinOp.or IntKind.i64 ((z - 240) * 64) (z1 - 128) = (z - 240) * 64 + (z1 - 128) := i64_or6 _ _ (by omega) (by omega) (by omega) (by omega) (by omega)
  have b2 : (z2 / 64 != 2) = false := by rw [bne_eq_false_iff_eq]; omega
  have f2 : bits BinOp.and IntKind.u8 z2 63 = z2 - 128 := by rw [u8_and63 z2 (by omega) (by omega)]; omega
  have g2 : bits BinOp.or IntKind.i64 (((z - 240) * 64 + (z1 - 128)) * 64) (z2 - 128) = ((z - 240) * 64 + (z1 - 128)) * 64 + (z2 - 128) := i64_or6 _ _ (by omega) (by omega) (by omega) (by omega) (by omega)
  have b3 : (z3 / 64 != 2) = false := by rw [bne_eq_false_iff_eq]; omega
  have f3 : bits BinOp.and IntKind.u8 z3 63 = z3 - 128 := by rw [u8_and63 z3 (by omega) (by omega)]; omega
  have g3 : bits BinOp.or IntKind.i64 ((((z - 240) * 64 + (z1 - 128)) * 64 + (z2 - 128)) * 64) (z3 - 128) = (((z - 240) * 64 + (z1 - 128)) * 64 + (z2 - 128)) * 64 + (z3 - 128) := i64_or6 _ _ (by omega) (by omega) (by omega) (by omega) (by omega)
  have hR := right_any ((((z - 240) * 64 + (z1 - 128)) * 64 + (z2 - 128)) * 64 + (z3 - 128)) w
  rw [hc] at hR
  have HR := Lib.hid hR
  clear hR hc
  go_enter Tryz.func69, Tryz.ntmps69
  go_wp2
  refine wp_loop_rounds 4 ?_
  rw [rounds_succ]
  go_wp2_with (go_at_call 92; with_reducible refine HR.out.mono ?_; rintro e w' ⟨rfl, rfl⟩)
  rw [rounds_succ]
  go_wp2_with (go_at_call 92; with_reducible refine HR.out.mono ?_; rintro e w' ⟨rfl, rfl⟩)
  rw [rounds_succ]
  go_wp2_with (go_at_call 92; with_reducible refine HR.out.mono ?_; rintro e w' ⟨rfl, rfl⟩)
  rw [rounds_succ]
  go_wp2_with (go_at_call 92; with_reducible refine HR.out.mono ?_; rintro e w' ⟨rfl, rfl⟩)
  go_ret2
  exact ⟨rfl, rfl⟩

set_option maxHeartbeats 400000 in
theorem first_no4_size (b off c n : Nat) (w : World) (hn0 : 0 < n) (hnn : n ≤ 9223372036854775807) (hnc : n ≤ c) (z : Int) (h0 : w.cell? ⟨b, off, none⟩ = some (.int .u8 z)) (hz0 : 240 ≤ z) (hz : z < 248) (hs : 4 ≤ n) (z1 : Int) (h1 : w.cell? ⟨b, off + 1, none⟩ = some (.int .u8 z1)) (c1 : 128 ≤ z1) (d1 : z1 < 192) (z2 : Int) (h2 : w.cell? ⟨b, off + 1 + 1, none⟩ = some (.int .u8 z2)) (c2 : 128 ≤ z2) (d2 : z2 < 192) (z3 : Int) (h3 : w.cell? ⟨b, off + 1 + 2, none⟩ = some (.int .u8 z3)) (c3 : 128 ≤ z3) (d3 : z3 < 192) (hc : isChar ((((z - 240) * 64 + (z1 - 128)) * 64 + (z2 - 128)) * 64 + (z3 - 128)) = true) (hsz : (csize ((((z - 240) * 64 + (z1 - 128)) * 64 + (z2 - 128)) * 64 + (z3 - 128)) != 4) = true) :
    Calls Tryz.prog 69 #[.slice (some ⟨b, off, none⟩) n c] w (FirstIs 65533 1 w) := by
  have a1 : (z / 32 == 6) = false := beq_eq_false_iff_ne.2 (by omega)
  have a2 : (z / 16 == 14) = false := beq_eq_false_iff_ne.2 (by omega)
  have a3 : (z / 8 == 30) = true := beq_iff_eq.2 (by omega)
  have e0 : bits BinOp.and IntKind.i64 z 7 = z - 240 := by rw [i64_and7 z (by omega) (by omega)]; omega
  have hsi : (4 : Int) ≤ (n : Int) := by omega
  have hsc : 4 ≤ c := by omega
  have b1 : (z1 / 64 != 2) = false := by rw [bne_eq_false_iff_eq]; omega
  have f1 : bits BinOp.and IntKind.u8 z1 63 = z1 - 128 := by rw [u8_and63 z1 (by omega) (by omega)]; omega
  have g1 : bits BinOp.or IntKind.i64 ((z - 240) * 64) (z1 - 128) = (z - 240) * 64 + (z1 - 128) := i64_or6 _ _ (by omega) (by omega) (by omega) (by omega) (by omega)
  have b2 : (z2 / 64 != 2) = false := by rw [bne_eq_false_iff_eq]; omega
  have f2 : bits BinOp.and IntKind.u8 z2 63 = z2 - 128 := by rw [u8_and63 z2 (by omega) (by omega)]; omega
  have g2 : bits BinOp.or IntKind.i64 (((z - 240) * 64 + (z1 - 128)) * 64) (z2 - 128) = ((z - 240) * 64 + (z1 - 128)) * 64 + (z2 - 128) := i64_or6 _ _ (by omega) (by omega) (by omega) (by omega) (by omega)
  have b3 : (z3 / 64 != 2) = false := by rw [bne_eq_false_iff_eq]; omega
  have f3 : bits BinOp.and IntKind.u8 z3 63 = z3 - 128 := by rw [u8_and63 z3 (by omega) (by omega)]; omega
  have g3 : bits BinOp.or IntKind.i64 ((((z - 240) * 64 + (z1 - 128)) * 64 + (z2 - 128)) * 64) (z3 - 128) = (((z - 240) * 64 + (z1 - 128)) * 64 + (z2 - 128)) * 64 + (z3 - 128) := i64_or6 _ _ (by omega) (by omega) (by omega) (by omega) (by omega)
  have hR := right_any ((((z - 240) * 64 + (z1 - 128)) * 64 + (z2 - 128)) * 64 + (z3 - 128)) w
  rw [hc] at hR
  have hS := size_any ((((z - 240) * 64 + (z1 - 128)) * 64 + (z2 - 128)) * 64 + (z3 - 128)) w
  have HR := Lib.hid hR
  have HS := Lib.hid hS
  clear hR hS hc
  go_enter Tryz.func69, Tryz.ntmps69
  go_wp2
  refine wp_loop_rounds 4 ?_
  rw [rounds_succ]
  go_wp2_with (first | (go_at_call 92; with_reducible refine HR.out.mono ?_; rintro e w' ⟨rfl, rfl⟩) | (go_at_call 93; with_reducible refine HS.out.mono ?_; rintro e w' ⟨rfl, rfl⟩))
  rw [rounds_succ]
  go_wp2_with (first | (go_at_call 92; with_reducible refine HR.out.mono ?_; rintro e w' ⟨rfl, rfl⟩) | (go_at_call 93; with_reducible refine HS.out.mono ?_; rintro e w' ⟨rfl, rfl⟩))
  rw [rounds_succ]
  go_wp2_with (first | (go_at_call 92; with_reducible refine HR.out.mono ?_; rintro e w' ⟨rfl, rfl⟩) | (go_at_call 93; with_reducible refine HS.out.mono ?_; rintro e w' ⟨rfl, rfl⟩))
  rw [rounds_succ]
  go_wp2_with (first | (go_at_call 92; with_reducible refine HR.out.mono ?_; rintro e w' ⟨rfl, rfl⟩) | (go_at_call 93; with_reducible refine HS.out.mono ?_; rintro e w' ⟨rfl, rfl⟩))
  go_ret2
  exact ⟨rfl, rfl⟩

end Go.Proofs.YteegbjjpjdlcmaaGreatDoor
