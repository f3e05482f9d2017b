/- rubrickref04: in, Letter, Small, Right, least, Encode; rubrickref05.In. -/
import Derived.Test.YteegbjjpjdlcmaaDoorEncode
set_option linter.unusedVariables false
namespace Go.Proofs.YteegbjjpjdlcmaaDoor
open Go.RowKit

theorem in_yes (c x y : Int) (w : World) (h1 : x ≤ c) (h2 : c ≤ y) : Calls Tryd.prog 110 #[.int .i64 c, .int .i64 x, .int .i64 y] w fun e w' => e = .returned (.bool true) ∧ w = w' := by
  go_enter Tryd.func110, Tryd.ntmps110
  go_wp2
  go_ret
  exact ⟨by first | rfl | exact ret_bool (decide_eq_true h2), rfl⟩
theorem in_low (c x y : Int) (w : World) (h1 : c < x) : Calls Tryd.prog 110 #[.int .i64 c, .int .i64 x, .int .i64 y] w fun e w' => e = .returned (.bool false) ∧ w = w' := by
  have h2 : ¬ x ≤ c := by omega
  go_enter Tryd.func110, Tryd.ntmps110
  go_wp2
  go_ret
  exact ⟨rfl, rfl⟩
theorem in_high (c x y : Int) (w : World) (h0 : x ≤ c) (h1 : y < c) : Calls Tryd.prog 110 #[.int .i64 c, .int .i64 x, .int .i64 y] w fun e w' => e = .returned (.bool false) ∧ w = w' := by
  have h2 : ¬ c ≤ y := by omega
  go_enter Tryd.func110, Tryd.ntmps110
  go_wp2
  go_ret
  exact ⟨by first | rfl | exact ret_bool (decide_eq_false h2), rfl⟩
theorem in_not (c x y : Int) (w : World) (h : c < x ∨ y < c) : Calls Tryd.prog 110 #[.int .i64 c, .int .i64 x, .int .i64 y] w fun e w' => e = .returned (.bool false) ∧ w = w' := by
  by_cases h1 : c < x
  · exact in_low c x y w h1
  · exact in_high c x y w (by omega) (by omega)

theorem isLetter_iff (c : Int) : isLetter c = true ↔ (65 ≤ c ∧ c ≤ 90) ∨ (97 ≤ c ∧ c ≤ 122) ∨ (192 ≤ c ∧ c ≤ 214) ∨ (216 ≤ c ∧ c ≤ 246) ∨ (248 ≤ c ∧ c ≤ 255) ∨ (913 ≤ c ∧ c ≤ 929) ∨ (931 ≤ c ∧ c ≤ 937) ∨ (945 ≤ c ∧ c ≤ 969) ∨ (1024 ≤ c ∧ c ≤ 1119) := by
  simp [isLetter, spans]
set_option maxHeartbeats 1000000 in
theorem rletter_any (c : Int) (w : World) : Calls Tryd.prog 109 #[.int .i64 c] w fun e w' => e = .returned (.bool (isLetter c)) ∧ w = w' := by
  have hiff := isLetter_iff c
  by_cases g0 : 65 ≤ c ∧ c ≤ 90
  · have hr : isLetter c = true := hiff.2 (by omega)
    rw [hr]
    have H0 := Lib.hid (in_yes c 65 90 w g0.1 g0.2)
    clear hiff hr g0
    go_enter Tryd.func109, Tryd.ntmps109
    go_wp2_with (first | (go_at_call 110; with_reducible refine H0.out.mono ?_; rintro e w' ⟨rfl, rfl⟩))
    go_ret
    exact ⟨rfl, rfl⟩
  by_cases g1 : 97 ≤ c ∧ c ≤ 122
  · have hr : isLetter c = true := hiff.2 (by omega)
    rw [hr]
    have H0 := Lib.hid (in_not c 65 90 w (by omega))
    have H1 := Lib.hid (in_yes c 97 122 w g1.1 g1.2)
    clear hiff hr g0 g1
    go_enter Tryd.func109, Tryd.ntmps109
    go_wp2_with (first | (go_at_call 110; with_reducible refine H0.out.mono ?_; rintro e w' ⟨rfl, rfl⟩) | (go_at_call 110; with_reducible refine H1.out.mono ?_; rintro e w' ⟨rfl, rfl⟩))
    go_ret
    exact ⟨rfl, rfl⟩
  by_cases g2 : 192 ≤ c ∧ c ≤ 214
  · have hr : isLetter c = true := hiff.2 (by omega)
    rw [hr]
    have H0 := Lib.hid (in_not c 65 90 w (by omega))
    have H1 := Lib.hid (in_not c 97 122 w (by omega))
    have H2 := Lib.hid (in_yes c 192 214 w g2.1 g2.2)
    clear hiff hr g0 g1 g2
    go_enter Tryd.func109, Tryd.ntmps109
    go_wp2_with (first | (go_at_call 110; with_reducible refine H0.out.mono ?_; rintro e w' ⟨rfl, rfl⟩) | (go_at_call 110; with_reducible refine H1.out.mono ?_; rintro e w' ⟨rfl, rfl⟩) | (go_at_call 110; with_reducible refine H2.out.mono ?_; rintro e w' ⟨rfl, rfl⟩))
    go_ret
    exact ⟨rfl, rfl⟩
  by_cases g3 : 216 ≤ c ∧ c ≤ 246
  · have hr : isLetter c = true := hiff.2 (by omega)
    rw [hr]
    have H0 := Lib.hid (in_not c 65 90 w (by omega))
    have H1 := Lib.hid (in_not c 97 122 w (by omega))
    have H2 := Lib.hid (in_not c 192 214 w (by omega))
    have H3 := Lib.hid (in_yes c 216 246 w g3.1 g3.2)
    clear hiff hr g0 g1 g2 g3
    go_enter Tryd.func109, Tryd.ntmps109
    go_wp2_with (first | (go_at_call 110; with_reducible refine H0.out.mono ?_; rintro e w' ⟨rfl, rfl⟩) | (go_at_call 110; with_reducible refine H1.out.mono ?_; rintro e w' ⟨rfl, rfl⟩) | (go_at_call 110; with_reducible refine H2.out.mono ?_; rintro e w' ⟨rfl, rfl⟩) | (go_at_call 110; with_reducible refine H3.out.mono ?_; rintro e w' ⟨rfl, rfl⟩))
    go_ret
    exact ⟨rfl, rfl⟩
  by_cases g4 : 248 ≤ c ∧ c ≤ 255
  · have hr : isLetter c = true := hiff.2 (by omega)
    rw [hr]
    have H0 := Lib.hid (in_not c 65 90 w (by omega))
    have H1 := Lib.hid (in_not c 97 122 w (by omega))
    have H2 := Lib.hid (in_not c 192 214 w (by omega))
    have H3 := Lib.hid (in_not c 216 246 w (by omega))
    have H4 := Lib.hid (in_yes c 248 255 w g4.1 g4.2)
    clear hiff hr g0 g1 g2 g3 g4
    go_enter Tryd.func109, Tryd.ntmps109
    go_wp2_with (first | (go_at_call 110; with_reducible refine H0.out.mono ?_; rintro e w' ⟨rfl, rfl⟩) | (go_at_call 110; with_reducible refine H1.out.mono ?_; rintro e w' ⟨rfl, rfl⟩) | (go_at_call 110; with_reducible refine H2.out.mono ?_; rintro e w' ⟨rfl, rfl⟩) | (go_at_call 110; with_reducible refine H3.out.mono ?_; rintro e w' ⟨rfl, rfl⟩) | (go_at_call 110; with_reducible refine H4.out.mono ?_; rintro e w' ⟨rfl, rfl⟩))
    go_ret
    exact ⟨rfl, rfl⟩
  by_cases g5 : 913 ≤ c ∧ c ≤ 929
  · have hr : isLetter c = true := hiff.2 (by omega)
    rw [hr]
    have H0 := Lib.hid (in_not c 65 90 w (by omega))
    have H1 := Lib.hid (in_not c 97 122 w (by omega))
    have H2 := Lib.hid (in_not c 192 214 w (by omega))
    have H3 := Lib.hid (in_not c 216 246 w (by omega))
    have H4 := Lib.hid (in_not c 248 255 w (by omega))
    have H5 := Lib.hid (in_yes c 913 929 w g5.1 g5.2)
    clear hiff hr g0 g1 g2 g3 g4 g5
    go_enter Tryd.func109, Tryd.ntmps109
    go_wp2_with (first | (go_at_call 110; with_reducible refine H0.out.mono ?_; rintro e w' ⟨rfl, rfl⟩) | (go_at_call 110; with_reducible refine H1.out.mono ?_; rintro e w' ⟨rfl, rfl⟩) | (go_at_call 110; with_reducible refine H2.out.mono ?_; rintro e w' ⟨rfl, rfl⟩) | (go_at_call 110; with_reducible refine H3.out.mono ?_; rintro e w' ⟨rfl, rfl⟩) | (go_at_call 110; with_reducible refine H4.out.mono ?_; rintro e w' ⟨rfl, rfl⟩) | (go_at_call 110; with_reducible refine H5.out.mono ?_; rintro e w' ⟨rfl, rfl⟩))
    go_ret
    exact ⟨rfl, rfl⟩
  by_cases g6 : 931 ≤ c ∧ c ≤ 937
  · have hr : isLetter c = true := hiff.2 (by omega)
    rw [hr]
    have H0 := Lib.hid (in_not c 65 90 w (by omega))
    have H1 := Lib.hid (in_not c 97 122 w (by omega))
    have H2 := Lib.hid (in_not c 192 214 w (by omega))
    have H3 := Lib.hid (in_not c 216 246 w (by omega))
    have H4 := Lib.hid (in_not c 248 255 w (by omega))
    have H5 := Lib.hid (in_not c 913 929 w (by omega))
    have H6 := Lib.hid (in_yes c 931 937 w g6.1 g6.2)
    clear hiff hr g0 g1 g2 g3 g4 g5 g6
    go_enter Tryd.func109, Tryd.ntmps109
    go_wp2_with (first | (go_at_call 110; with_reducible refine H0.out.mono ?_; rintro e w' ⟨rfl, rfl⟩) | (go_at_call 110; with_reducible refine H1.out.mono ?_; rintro e w' ⟨rfl, rfl⟩) | (go_at_call 110; with_reducible refine H2.out.mono ?_; rintro e w' ⟨rfl, rfl⟩) | (go_at_call 110; with_reducible refine H3.out.mono ?_; rintro e w' ⟨rfl, rfl⟩) | (go_at_call 110; with_reducible refine H4.out.mono ?_; rintro e w' ⟨rfl, rfl⟩) | (go_at_call 110; with_reducible refine H5.out.mono ?_; rintro e w' ⟨rfl, rfl⟩) | (go_at_call 110; with_reducible refine H6.out.mono ?_; rintro e w' ⟨rfl, rfl⟩))
    go_ret
    exact ⟨rfl, rfl⟩
  by_cases g7 : 945 ≤ c ∧ c ≤ 969
  · have hr : isLetter c = true := hiff.2 (by omega)
    rw [hr]
    have H0 := Lib.hid (in_not c 65 90 w (by omega))
    have H1 := Lib.hid (in_not c 97 122 w (by omega))
    have H2 := Lib.hid (in_not c 192 214 w (by omega))
    have H3 := Lib.hid (in_not c 216 246 w (by omega))
    have H4 := Lib.hid (in_not c 248 255 w (by omega))
    have H5 := Lib.hid (in_not c 913 929 w (by omega))
    have H6 := Lib.hid (in_not c 931 937 w (by omega))
    have H7 := Lib.hid (in_yes c 945 969 w g7.1 g7.2)
    clear hiff hr g0 g1 g2 g3 g4 g5 g6 g7
    go_enter Tryd.func109, Tryd.ntmps109
    go_wp2_with (first | (go_at_call 110; with_reducible refine H0.out.mono ?_; rintro e w' ⟨rfl, rfl⟩) | (go_at_call 110; with_reducible refine H1.out.mono ?_; rintro e w' ⟨rfl, rfl⟩) | (go_at_call 110; with_reducible refine H2.out.mono ?_; rintro e w' ⟨rfl, rfl⟩) | (go_at_call 110; with_reducible refine H3.out.mono ?_; rintro e w' ⟨rfl, rfl⟩) | (go_at_call 110; with_reducible refine H4.out.mono ?_; rintro e w' ⟨rfl, rfl⟩) | (go_at_call 110; with_reducible refine H5.out.mono ?_; rintro e w' ⟨rfl, rfl⟩) | (go_at_call 110; with_reducible refine H6.out.mono ?_; rintro e w' ⟨rfl, rfl⟩) | (go_at_call 110; with_reducible refine H7.out.mono ?_; rintro e w' ⟨rfl, rfl⟩))
    go_ret
    exact ⟨rfl, rfl⟩
  by_cases g8 : 1024 ≤ c ∧ c ≤ 1119
  · have hr : isLetter c = true := hiff.2 (by omega)
    rw [hr]
    have H0 := Lib.hid (in_not c 65 90 w (by omega))
    have H1 := Lib.hid (in_not c 97 122 w (by omega))
    have H2 := Lib.hid (in_not c 192 214 w (by omega))
    have H3 := Lib.hid (in_not c 216 246 w (by omega))
    have H4 := Lib.hid (in_not c 248 255 w (by omega))
    have H5 := Lib.hid (in_not c 913 929 w (by omega))
    have H6 := Lib.hid (in_not c 931 937 w (by omega))
    have H7 := Lib.hid (in_not c 945 969 w (by omega))
    have H8 := Lib.hid (in_yes c 1024 1119 w g8.1 g8.2)
    clear hiff hr g0 g1 g2 g3 g4 g5 g6 g7 g8
    go_enter Tryd.func109, Tryd.ntmps109
    go_wp2_with (first | (go_at_call 110; with_reducible refine H0.out.mono ?_; rintro e w' ⟨rfl, rfl⟩) | (go_at_call 110; with_reducible refine H1.out.mono ?_; rintro e w' ⟨rfl, rfl⟩) | (go_at_call 110; with_reducible refine H2.out.mono ?_; rintro e w' ⟨rfl, rfl⟩) | (go_at_call 110; with_reducible refine H3.out.mono ?_; rintro e w' ⟨rfl, rfl⟩) | (go_at_call 110; with_reducible refine H4.out.mono ?_; rintro e w' ⟨rfl, rfl⟩) | (go_at_call 110; with_reducible refine H5.out.mono ?_; rintro e w' ⟨rfl, rfl⟩) | (go_at_call 110; with_reducible refine H6.out.mono ?_; rintro e w' ⟨rfl, rfl⟩) | (go_at_call 110; with_reducible refine H7.out.mono ?_; rintro e w' ⟨rfl, rfl⟩) | (go_at_call 110; with_reducible refine H8.out.mono ?_; rintro e w' ⟨rfl, rfl⟩))
    go_ret
    exact ⟨rfl, rfl⟩
  have hr : isLetter c = false := by rw [Bool.eq_false_iff]; intro e; have := hiff.1 e; omega
  rw [hr]
  have H0 := Lib.hid (in_not c 65 90 w (by omega))
  have H1 := Lib.hid (in_not c 97 122 w (by omega))
  have H2 := Lib.hid (in_not c 192 214 w (by omega))
  have H3 := Lib.hid (in_not c 216 246 w (by omega))
  have H4 := Lib.hid (in_not c 248 255 w (by omega))
  have H5 := Lib.hid (in_not c 913 929 w (by omega))
  have H6 := Lib.hid (in_not c 931 937 w (by omega))
  have H7 := Lib.hid (in_not c 945 969 w (by omega))
  have H8 := Lib.hid (in_not c 1024 1119 w (by omega))
  clear hiff hr g0 g1 g2 g3 g4 g5 g6 g7 g8
  go_enter Tryd.func109, Tryd.ntmps109
  go_wp2_with (first | (go_at_call 110; with_reducible refine H0.out.mono ?_; rintro e w' ⟨rfl, rfl⟩) | (go_at_call 110; with_reducible refine H1.out.mono ?_; rintro e w' ⟨rfl, rfl⟩) | (go_at_call 110; with_reducible refine H2.out.mono ?_; rintro e w' ⟨rfl, rfl⟩) | (go_at_call 110; with_reducible refine H3.out.mono ?_; rintro e w' ⟨rfl, rfl⟩) | (go_at_call 110; with_reducible refine H4.out.mono ?_; rintro e w' ⟨rfl, rfl⟩) | (go_at_call 110; with_reducible refine H5.out.mono ?_; rintro e w' ⟨rfl, rfl⟩) | (go_at_call 110; with_reducible refine H6.out.mono ?_; rintro e w' ⟨rfl, rfl⟩) | (go_at_call 110; with_reducible refine H7.out.mono ?_; rintro e w' ⟨rfl, rfl⟩) | (go_at_call 110; with_reducible refine H8.out.mono ?_; rintro e w' ⟨rfl, rfl⟩))
  go_ret
  exact ⟨rfl, rfl⟩

theorem small_eq (c : Int) : small c = if 65 ≤ c ∧ c ≤ 90 then c + 32 else if 192 ≤ c ∧ c ≤ 214 then c + 32 else if 216 ≤ c ∧ c ≤ 222 then c + 32 else if 913 ≤ c ∧ c ≤ 929 then c + 32 else if 931 ≤ c ∧ c ≤ 937 then c + 32 else if 1024 ≤ c ∧ c ≤ 1039 then c + 80 else if 1040 ≤ c ∧ c ≤ 1071 then c + 32 else c := by
  unfold small
  simp only [shifts, List.find?_cons, List.find?_nil]
  by_cases g0 : 65 ≤ c ∧ c ≤ 90
  · rw [if_pos g0]; simp [g0.1, g0.2]
  rw [if_neg g0, show (decide (65 ≤ c) && decide (c ≤ 90)) = false from by simp; omega]
  simp only
  by_cases g1 : 192 ≤ c ∧ c ≤ 214
  · rw [if_pos g1]; simp [g1.1, g1.2]
  rw [if_neg g1, show (decide (192 ≤ c) && decide (c ≤ 214)) = false from by simp; omega]
  simp only
  by_cases g2 : 216 ≤ c ∧ c ≤ 222
  · rw [if_pos g2]; simp [g2.1, g2.2]
  rw [if_neg g2, show (decide (216 ≤ c) && decide (c ≤ 222)) = false from by simp; omega]
  simp only
  by_cases g3 : 913 ≤ c ∧ c ≤ 929
  · rw [if_pos g3]; simp [g3.1, g3.2]
  rw [if_neg g3, show (decide (913 ≤ c) && decide (c ≤ 929)) = false from by simp; omega]
  simp only
  by_cases g4 : 931 ≤ c ∧ c ≤ 937
  · rw [if_pos g4]; simp [g4.1, g4.2]
  rw [if_neg g4, show (decide (931 ≤ c) && decide (c ≤ 937)) = false from by simp; omega]
  simp only
  by_cases g5 : 1024 ≤ c ∧ c ≤ 1039
  · rw [if_pos g5]; simp [g5.1, g5.2]
  rw [if_neg g5, show (decide (1024 ≤ c) && decide (c ≤ 1039)) = false from by simp; omega]
  simp only
  by_cases g6 : 1040 ≤ c ∧ c ≤ 1071
  · rw [if_pos g6]; simp [g6.1, g6.2]
  rw [if_neg g6, show (decide (1040 ≤ c) && decide (c ≤ 1071)) = false from by simp; omega]

set_option maxHeartbeats 1000000 in
theorem rsmall_any (c : Int) (w : World) (h0 : -1000000000 ≤ c) (h1 : c ≤ 1000000000) : Calls Tryd.prog 86 #[.int .i64 c] w fun e w' => e = .returned (.int .i64 (small c)) ∧ w = w' := by
  have hsm := small_eq c
  by_cases g0 : 1024 ≤ c ∧ c ≤ 1039
  · have hr : small c = c + 80 := by rw [hsm]; repeat' split; all_goals omega
    rw [hr]
    have H0 := Lib.hid (in_yes c 1024 1039 w g0.1 g0.2)
    clear hsm hr g0
    go_enter Tryd.func86, Tryd.ntmps86
    go_wp2_with (first | (go_at_call 110; with_reducible refine H0.out.mono ?_; rintro e w' ⟨rfl, rfl⟩))
    go_ret
    exact ⟨rfl, rfl⟩
  by_cases g1 : 65 ≤ c ∧ c ≤ 90
  · have hr : small c = c + 32 := by rw [hsm]; repeat' split; all_goals omega
    rw [hr]
    have H0 := Lib.hid (in_not c 1024 1039 w (by omega))
    have H1 := Lib.hid (in_yes c 65 90 w g1.1 g1.2)
    clear hsm hr g0 g1
    go_enter Tryd.func86, Tryd.ntmps86
    go_wp2_with (first | (go_at_call 110; with_reducible refine H0.out.mono ?_; rintro e w' ⟨rfl, rfl⟩) | (go_at_call 110; with_reducible refine H1.out.mono ?_; rintro e w' ⟨rfl, rfl⟩))
    go_ret
    exact ⟨rfl, rfl⟩
  by_cases g2 : 192 ≤ c ∧ c ≤ 214
  · have hr : small c = c + 32 := by rw [hsm]; repeat' split; all_goals omega
    rw [hr]
    have H0 := Lib.hid (in_not c 1024 1039 w (by omega))
    have H1 := Lib.hid (in_not c 65 90 w (by omega))
    have H2 := Lib.hid (in_yes c 192 214 w g2.1 g2.2)
    clear hsm hr g0 g1 g2
    go_enter Tryd.func86, Tryd.ntmps86
    go_wp2_with (first | (go_at_call 110; with_reducible refine H0.out.mono ?_; rintro e w' ⟨rfl, rfl⟩) | (go_at_call 110; with_reducible refine H1.out.mono ?_; rintro e w' ⟨rfl, rfl⟩) | (go_at_call 110; with_reducible refine H2.out.mono ?_; rintro e w' ⟨rfl, rfl⟩))
    go_ret
    exact ⟨rfl, rfl⟩
  by_cases g3 : 216 ≤ c ∧ c ≤ 222
  · have hr : small c = c + 32 := by rw [hsm]; repeat' split; all_goals omega
    rw [hr]
    have H0 := Lib.hid (in_not c 1024 1039 w (by omega))
    have H1 := Lib.hid (in_not c 65 90 w (by omega))
    have H2 := Lib.hid (in_not c 192 214 w (by omega))
    have H3 := Lib.hid (in_yes c 216 222 w g3.1 g3.2)
    clear hsm hr g0 g1 g2 g3
    go_enter Tryd.func86, Tryd.ntmps86
    go_wp2_with (first | (go_at_call 110; with_reducible refine H0.out.mono ?_; rintro e w' ⟨rfl, rfl⟩) | (go_at_call 110; with_reducible refine H1.out.mono ?_; rintro e w' ⟨rfl, rfl⟩) | (go_at_call 110; with_reducible refine H2.out.mono ?_; rintro e w' ⟨rfl, rfl⟩) | (go_at_call 110; with_reducible refine H3.out.mono ?_; rintro e w' ⟨rfl, rfl⟩))
    go_ret
    exact ⟨rfl, rfl⟩
  by_cases g4 : 913 ≤ c ∧ c ≤ 929
  · have hr : small c = c + 32 := by rw [hsm]; repeat' split; all_goals omega
    rw [hr]
    have H0 := Lib.hid (in_not c 1024 1039 w (by omega))
    have H1 := Lib.hid (in_not c 65 90 w (by omega))
    have H2 := Lib.hid (in_not c 192 214 w (by omega))
    have H3 := Lib.hid (in_not c 216 222 w (by omega))
    have H4 := Lib.hid (in_yes c 913 929 w g4.1 g4.2)
    clear hsm hr g0 g1 g2 g3 g4
    go_enter Tryd.func86, Tryd.ntmps86
    go_wp2_with (first | (go_at_call 110; with_reducible refine H0.out.mono ?_; rintro e w' ⟨rfl, rfl⟩) | (go_at_call 110; with_reducible refine H1.out.mono ?_; rintro e w' ⟨rfl, rfl⟩) | (go_at_call 110; with_reducible refine H2.out.mono ?_; rintro e w' ⟨rfl, rfl⟩) | (go_at_call 110; with_reducible refine H3.out.mono ?_; rintro e w' ⟨rfl, rfl⟩) | (go_at_call 110; with_reducible refine H4.out.mono ?_; rintro e w' ⟨rfl, rfl⟩))
    go_ret
    exact ⟨rfl, rfl⟩
  by_cases g5 : 931 ≤ c ∧ c ≤ 937
  · have hr : small c = c + 32 := by rw [hsm]; repeat' split; all_goals omega
    rw [hr]
    have H0 := Lib.hid (in_not c 1024 1039 w (by omega))
    have H1 := Lib.hid (in_not c 65 90 w (by omega))
    have H2 := Lib.hid (in_not c 192 214 w (by omega))
    have H3 := Lib.hid (in_not c 216 222 w (by omega))
    have H4 := Lib.hid (in_not c 913 929 w (by omega))
    have H5 := Lib.hid (in_yes c 931 937 w g5.1 g5.2)
    clear hsm hr g0 g1 g2 g3 g4 g5
    go_enter Tryd.func86, Tryd.ntmps86
    go_wp2_with (first | (go_at_call 110; with_reducible refine H0.out.mono ?_; rintro e w' ⟨rfl, rfl⟩) | (go_at_call 110; with_reducible refine H1.out.mono ?_; rintro e w' ⟨rfl, rfl⟩) | (go_at_call 110; with_reducible refine H2.out.mono ?_; rintro e w' ⟨rfl, rfl⟩) | (go_at_call 110; with_reducible refine H3.out.mono ?_; rintro e w' ⟨rfl, rfl⟩) | (go_at_call 110; with_reducible refine H4.out.mono ?_; rintro e w' ⟨rfl, rfl⟩) | (go_at_call 110; with_reducible refine H5.out.mono ?_; rintro e w' ⟨rfl, rfl⟩))
    go_ret
    exact ⟨rfl, rfl⟩
  by_cases g6 : 1040 ≤ c ∧ c ≤ 1071
  · have hr : small c = c + 32 := by rw [hsm]; repeat' split; all_goals omega
    rw [hr]
    have H0 := Lib.hid (in_not c 1024 1039 w (by omega))
    have H1 := Lib.hid (in_not c 65 90 w (by omega))
    have H2 := Lib.hid (in_not c 192 214 w (by omega))
    have H3 := Lib.hid (in_not c 216 222 w (by omega))
    have H4 := Lib.hid (in_not c 913 929 w (by omega))
    have H5 := Lib.hid (in_not c 931 937 w (by omega))
    have H6 := Lib.hid (in_yes c 1040 1071 w g6.1 g6.2)
    clear hsm hr g0 g1 g2 g3 g4 g5 g6
    go_enter Tryd.func86, Tryd.ntmps86
    go_wp2_with (first | (go_at_call 110; with_reducible refine H0.out.mono ?_; rintro e w' ⟨rfl, rfl⟩) | (go_at_call 110; with_reducible refine H1.out.mono ?_; rintro e w' ⟨rfl, rfl⟩) | (go_at_call 110; with_reducible refine H2.out.mono ?_; rintro e w' ⟨rfl, rfl⟩) | (go_at_call 110; with_reducible refine H3.out.mono ?_; rintro e w' ⟨rfl, rfl⟩) | (go_at_call 110; with_reducible refine H4.out.mono ?_; rintro e w' ⟨rfl, rfl⟩) | (go_at_call 110; with_reducible refine H5.out.mono ?_; rintro e w' ⟨rfl, rfl⟩) | (go_at_call 110; with_reducible refine H6.out.mono ?_; rintro e w' ⟨rfl, rfl⟩))
    go_ret
    exact ⟨rfl, rfl⟩
  have hr : small c = c := by rw [hsm]; repeat' split; all_goals omega
  rw [hr]
  have H0 := Lib.hid (in_not c 1024 1039 w (by omega))
  have H1 := Lib.hid (in_not c 65 90 w (by omega))
  have H2 := Lib.hid (in_not c 192 214 w (by omega))
  have H3 := Lib.hid (in_not c 216 222 w (by omega))
  have H4 := Lib.hid (in_not c 913 929 w (by omega))
  have H5 := Lib.hid (in_not c 931 937 w (by omega))
  have H6 := Lib.hid (in_not c 1040 1071 w (by omega))
  clear hsm hr g0 g1 g2 g3 g4 g5 g6
  go_enter Tryd.func86, Tryd.ntmps86
  go_wp2_with (first | (go_at_call 110; with_reducible refine H0.out.mono ?_; rintro e w' ⟨rfl, rfl⟩) | (go_at_call 110; with_reducible refine H1.out.mono ?_; rintro e w' ⟨rfl, rfl⟩) | (go_at_call 110; with_reducible refine H2.out.mono ?_; rintro e w' ⟨rfl, rfl⟩) | (go_at_call 110; with_reducible refine H3.out.mono ?_; rintro e w' ⟨rfl, rfl⟩) | (go_at_call 110; with_reducible refine H4.out.mono ?_; rintro e w' ⟨rfl, rfl⟩) | (go_at_call 110; with_reducible refine H5.out.mono ?_; rintro e w' ⟨rfl, rfl⟩) | (go_at_call 110; with_reducible refine H6.out.mono ?_; rintro e w' ⟨rfl, rfl⟩))
  go_ret
  exact ⟨rfl, rfl⟩

theorem rright_any (c : Int) (w : World) : Calls Tryd.prog 106 #[.int .i64 c] w fun e w' => e = .returned (.bool (isChar c)) ∧ w = w' := by
  have cases' : (¬ 0 ≤ c ∧ ¬ 57343 < c ∧ isChar c = false) ∨ (0 ≤ c ∧ c < 55296 ∧ isChar c = true) ∨ (0 ≤ c ∧ ¬ c < 55296 ∧ ¬ 57343 < c ∧ isChar c = false) ∨ (0 ≤ c ∧ ¬ c < 55296 ∧ 57343 < c ∧ c < 1114112 ∧ isChar c = true) ∨ (0 ≤ c ∧ ¬ c < 55296 ∧ 57343 < c ∧ ¬ c < 1114112 ∧ isChar c = false) := by
    simp only [isChar, Bool.and_eq_true, Bool.or_eq_true, decide_eq_true_eq, Bool.and_eq_false_iff, Bool.or_eq_false_iff, decide_eq_false_iff_not]
    omega
  rcases cases' with ⟨h1, h3, h2⟩ | ⟨h0, h1, h2⟩ | ⟨h0, h1, h3, h2⟩ | ⟨h0, h1, h3, h4, h2⟩ | ⟨h0, h1, h3, h4, h2⟩
  all_goals
    rw [h2]
    clear h2
    go_enter Tryd.func106, Tryd.ntmps106
    go_wp2
    go_ret
    refine ⟨ret_bool ?_, rfl⟩
    first | rfl | (simp; omega) | (simp; done)

theorem rleast_any (x y : Int) (w : World) : Calls Tryd.prog 108 #[.int .i64 x, .int .i64 y] w fun e w' => e = .returned (.int .i64 (if x < y then x else y)) ∧ w = w' := by
  by_cases h : x < y
  · rw [if_pos h]
    go_enter Tryd.func108, Tryd.ntmps108
    go_wp2
    go_ret
    exact ⟨rfl, rfl⟩
  · rw [if_neg h]
    go_enter Tryd.func108, Tryd.ntmps108
    go_wp2
    go_ret
    exact ⟨rfl, rfl⟩

theorem rin_any (c : Int) (w : World) : Calls Tryd.prog 85 #[.int .i64 c] w fun e w' => e = .returned (.bool (inWord c)) ∧ w = w' := by
  have hL := rletter_any c w
  cases hl : isLetter c with
  | true =>
    rw [hl] at hL
    have HL := Lib.hid hL
    have hr : inWord c = true := by unfold inWord; rw [hl]; rfl
    rw [hr]
    clear hL hl hr
    go_enter Tryd.func85, Tryd.ntmps85
    go_wp2_with (go_at_call 109; with_reducible refine HL.out.mono ?_; rintro e w' ⟨rfl, rfl⟩)
    go_ret
    exact ⟨rfl, rfl⟩
  | false =>
    rw [hl] at hL
    have HL := Lib.hid hL
    have cases' : (¬ 48 ≤ c ∧ inWord c = false) ∨ (48 ≤ c ∧ ¬ c ≤ 57 ∧ inWord c = false) ∨ (48 ≤ c ∧ c ≤ 57 ∧ inWord c = true) := by
      unfold inWord
      rw [hl]
      simp only [isDigit, Bool.false_or, Bool.and_eq_true, decide_eq_true_eq, Bool.and_eq_false_iff, decide_eq_false_iff_not]
      omega
    clear hL hl
    rcases cases' with ⟨h1, h2⟩ | ⟨h0, h1, h2⟩ | ⟨h0, h1, h2⟩
    all_goals
      rw [h2]
      clear h2
      go_enter Tryd.func85, Tryd.ntmps85
      go_wp2_with (go_at_call 109; with_reducible refine HL.out.mono ?_; rintro e w' ⟨rfl, rfl⟩)
      go_ret
      first | exact ⟨rfl, rfl⟩ | exact ⟨ret_bool (decide_eq_false (by omega)), rfl⟩ | exact ⟨ret_bool (decide_eq_true (by omega)), rfl⟩

set_option maxHeartbeats 1000000 in
theorem rencode_1 (c : Int) (w : World) (h0 : 0 ≤ c) (hm : c ≤ 1114111) (hc : c < 128) : Calls Tryd.prog 107 #[.int .i64 c] w (Gives w 5 1 (enc c).length (bcells (enc c))) := by
  have hl : enc c = [u8 (c)] := by unfold enc; rw [if_pos (by omega)]
  have he : bcells (enc c) = [.int .u8 (c)] := by
    rw [hl]; simp only [bcells, List.map_cons, List.map_nil]
    rw [ch_u8 (c) (by omega) (by omega)]
  have hn : (enc c).length = 1 := by rw [hl]; rfl
  have e0 : IntKind.u8.wrap (c) = c := wrap_u8_in _ (by omega) (by omega)
  have n0 : c < 128 := by omega
  have HE := Lib.hid he
  have HN := Lib.hid hn
  clear he hn hl
  go_enter Tryd.func107, Tryd.ntmps107
  go_wp2
  go_ret
  refine ⟨_, rfl, ?_, (Below.refl _ _).alloc (Nat.le_refl _) _⟩
  rw [HE.out, HN.out]
  exact own_new _ #[.int .u8 (c)] _ 1 1 rfl (by decide)

set_option maxHeartbeats 1000000 in
theorem rencode_2 (c : Int) (w : World) (h0 : 0 ≤ c) (hm : c ≤ 1114111) (hc : 128 ≤ c ∧ c < 2048) : Calls Tryd.prog 107 #[.int .i64 c] w (Gives w 5 1 (enc c).length (bcells (enc c))) := by
  have hl : enc c = [u8 (192 + c / 64), u8 (128 + c % 64)] := by unfold enc; rw [if_neg (by omega)]; rw [if_pos (by omega)]
  have he : bcells (enc c) = [.int .u8 (192 + c / 64), .int .u8 (128 + c % 64)] := by
    rw [hl]; simp only [bcells, List.map_cons, List.map_nil]
    rw [ch_u8 (192 + c / 64) (by omega) (by omega), ch_u8 (128 + c % 64) (by omega) (by omega)]
  have hn : (enc c).length = 2 := by rw [hl]; rfl
  have e0 : IntKind.u8.wrap (192 + c / 64) = 192 + c / 64 := wrap_u8_in _ (by omega) (by omega)
  have e1 : IntKind.u8.wrap (128 + c % 64) = 128 + c % 64 := wrap_u8_in _ (by omega) (by omega)
  have n0 : ¬ c < 128 := by omega
  have n1 : c < 2048 := by omega
  have t1 : Int.tdiv c 64 = c / 64 := Int.tdiv_eq_ediv_of_nonneg h0
  have t2 : Int.tmod c 64 = c % 64 := Int.tmod_eq_emod_of_nonneg h0
  have HE := Lib.hid he
  have HN := Lib.hid hn
  clear he hn hl
  go_enter Tryd.func107, Tryd.ntmps107
  go_wp2
  go_ret
  refine ⟨_, rfl, ?_, (Below.refl _ _).alloc (Nat.le_refl _) _⟩
  rw [HE.out, HN.out]
  exact own_new _ #[.int .u8 (192 + c / 64), .int .u8 (128 + c % 64)] _ 1 2 rfl (by decide)

set_option maxHeartbeats 1000000 in
theorem rencode_3 (c : Int) (w : World) (h0 : 0 ≤ c) (hm : c ≤ 1114111) (hc : 2048 ≤ c ∧ c < 65536) : Calls Tryd.prog 107 #[.int .i64 c] w (Gives w 5 1 (enc c).length (bcells (enc c))) := by
  have hl : enc c = [u8 (224 + c / 4096), u8 (128 + c / 64 % 64), u8 (128 + c % 64)] := by unfold enc; rw [if_neg (by omega)]; rw [if_neg (by omega)]; rw [if_pos (by omega)]
  have he : bcells (enc c) = [.int .u8 (224 + c / 4096), .int .u8 (128 + c / 64 % 64), .int .u8 (128 + c % 64)] := by
    rw [hl]; simp only [bcells, List.map_cons, List.map_nil]
    rw [ch_u8 (224 + c / 4096) (by omega) (by omega), ch_u8 (128 + c / 64 % 64) (by omega) (by omega), ch_u8 (128 + c % 64) (by omega) (by omega)]
  have hn : (enc c).length = 3 := by rw [hl]; rfl
  have e0 : IntKind.u8.wrap (224 + c / 4096) = 224 + c / 4096 := wrap_u8_in _ (by omega) (by omega)
  have e1 : IntKind.u8.wrap (128 + c / 64 % 64) = 128 + c / 64 % 64 := wrap_u8_in _ (by omega) (by omega)
  have e2 : IntKind.u8.wrap (128 + c % 64) = 128 + c % 64 := wrap_u8_in _ (by omega) (by omega)
  have n0 : ¬ c < 128 := by omega
  have n1 : ¬ c < 2048 := by omega
  have n2 : c < 65536 := by omega
  have t1 : Int.tdiv c 64 = c / 64 := Int.tdiv_eq_ediv_of_nonneg h0
  have t2 : Int.tmod c 64 = c % 64 := Int.tmod_eq_emod_of_nonneg h0
  have t3 : Int.tdiv c 4096 = c / 4096 := Int.tdiv_eq_ediv_of_nonneg h0
  have t5 : Int.tmod (c / 64) 64 = c / 64 % 64 := Int.tmod_eq_emod_of_nonneg (by omega)
  have HE := Lib.hid he
  have HN := Lib.hid hn
  clear he hn hl
  go_enter Tryd.func107, Tryd.ntmps107
  go_wp2
  go_ret
  refine ⟨_, rfl, ?_, (Below.refl _ _).alloc (Nat.le_refl _) _⟩
  rw [HE.out, HN.out]
  exact own_new _ #[.int .u8 (224 + c / 4096), .int .u8 (128 + c / 64 % 64), .int .u8 (128 + c % 64)] _ 1 3 rfl (by decide)

set_option maxHeartbeats 1000000 in
theorem rencode_4 (c : Int) (w : World) (h0 : 0 ≤ c) (hm : c ≤ 1114111) (hc : 65536 ≤ c) : Calls Tryd.prog 107 #[.int .i64 c] w (Gives w 5 1 (enc c).length (bcells (enc c))) := by
  have hl : enc c = [u8 (240 + c / 262144), u8 (128 + c / 4096 % 64), u8 (128 + c / 64 % 64), u8 (128 + c % 64)] := by unfold enc; rw [if_neg (by omega)]; rw [if_neg (by omega)]; rw [if_neg (by omega)]
  have he : bcells (enc c) = [.int .u8 (240 + c / 262144), .int .u8 (128 + c / 4096 % 64), .int .u8 (128 + c / 64 % 64), .int .u8 (128 + c % 64)] := by
    rw [hl]; simp only [bcells, List.map_cons, List.map_nil]
    rw [ch_u8 (240 + c / 262144) (by omega) (by omega), ch_u8 (128 + c / 4096 % 64) (by omega) (by omega), ch_u8 (128 + c / 64 % 64) (by omega) (by omega), ch_u8 (128 + c % 64) (by omega) (by omega)]
  have hn : (enc c).length = 4 := by rw [hl]; rfl
  have e0 : IntKind.u8.wrap (240 + c / 262144) = 240 + c / 262144 := wrap_u8_in _ (by omega) (by omega)
  have e1 : IntKind.u8.wrap (128 + c / 4096 % 64) = 128 + c / 4096 % 64 := wrap_u8_in _ (by omega) (by omega)
  have e2 : IntKind.u8.wrap (128 + c / 64 % 64) = 128 + c / 64 % 64 := wrap_u8_in _ (by omega) (by omega)
  have e3 : IntKind.u8.wrap (128 + c % 64) = 128 + c % 64 := wrap_u8_in _ (by omega) (by omega)
  have n0 : ¬ c < 128 := by omega
  have n1 : ¬ c < 2048 := by omega
  have n2 : ¬ c < 65536 := by omega
  have t1 : Int.tdiv c 64 = c / 64 := Int.tdiv_eq_ediv_of_nonneg h0
  have t2 : Int.tmod c 64 = c % 64 := Int.tmod_eq_emod_of_nonneg h0
  have t3 : Int.tdiv c 4096 = c / 4096 := Int.tdiv_eq_ediv_of_nonneg h0
  have t5 : Int.tmod (c / 64) 64 = c / 64 % 64 := Int.tmod_eq_emod_of_nonneg (by omega)
  have t4 : Int.tdiv c 262144 = c / 262144 := Int.tdiv_eq_ediv_of_nonneg h0
  have t6 : Int.tmod (c / 4096) 64 = c / 4096 % 64 := Int.tmod_eq_emod_of_nonneg (by omega)
  have HE := Lib.hid he
  have HN := Lib.hid hn
  clear he hn hl
  go_enter Tryd.func107, Tryd.ntmps107
  go_wp2
  go_ret
  refine ⟨_, rfl, ?_, (Below.refl _ _).alloc (Nat.le_refl _) _⟩
  rw [HE.out, HN.out]
  exact own_new _ #[.int .u8 (240 + c / 262144), .int .u8 (128 + c / 4096 % 64), .int .u8 (128 + c / 64 % 64), .int .u8 (128 + c % 64)] _ 1 4 rfl (by decide)

theorem rencode_any (c : Int) (w : World) (h0 : 0 ≤ c) (hm : c ≤ 1114111) : Calls Tryd.prog 107 #[.int .i64 c] w (Gives w 5 1 (enc c).length (bcells (enc c))) := by
  by_cases h1 : c < 128
  · exact rencode_1 c w h0 hm h1
  · by_cases h2 : c < 2048
    · exact rencode_2 c w h0 hm ⟨by omega, h2⟩
    · by_cases h3 : c < 65536
      · exact rencode_3 c w h0 hm ⟨by omega, h3⟩
      · exact rencode_4 c w h0 hm (by omega)
end Go.Proofs.YteegbjjpjdlcmaaDoor
