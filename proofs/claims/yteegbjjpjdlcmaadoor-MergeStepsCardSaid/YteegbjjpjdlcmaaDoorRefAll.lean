/- Ref04a, Ref04b, Ref04c, Ref05r: in one text. -/
import Derived.Test.YteegbjjpjdlcmaaDoorEncode
import Derived.Test.YteegbjjpjdlcmaaDoorRefLaw
import Derived.BigQuiet
import Derived.Lib.QuietBelow
import Derived.Test.YteegbjjpjdlcmaaDoorHeld
/- rubrickref04: in, Letter, Small, Right, least, Encode; rubrickref05.In. -/
set_option linter.unusedVariables false
namespace Go.Proofs.YteegbjjpjdlcmaaDoor
open Go.RowKit

theorem in_yes (c x y : Int) (w : World) (h1 : x ≤ c) (h2 : c ≤ y) : Calls Tryd.prog 110 #[.int .i64 c, .int .i64 x, .int .i64 y] w fun e w' => e = .returned (.bool true) ∧ w = w' := by
  go_enter Tryd.func110, Tryd.ntmps110
  go_wp2
  go_ret
  exact ⟨by first | rfl | exact ret_bool (decide_eq_true h2), rfl⟩
theorem in_low (c x y : Int) (w : World) (h1 : c < x) : Calls Tryd.prog 110 #[.int .i64 c, .int .i64 x, .int .i64 y] w fun e w' => e = .returned (.bool false) ∧ w = w' := by
  have h2 : ¬ x ≤ c := by omega
  go_enter Tryd.func110, Tryd.ntmps110
  go_wp2
  go_ret
  exact ⟨rfl, rfl⟩
theorem in_high (c x y : Int) (w : World) (h0 : x ≤ c) (h1 : y < c) : Calls Tryd.prog 110 #[.int .i64 c, .int .i64 x, .int .i64 y] w fun e w' => e = .returned (.bool false) ∧ w = w' := by
  have h2 : ¬ c ≤ y := by omega
  go_enter Tryd.func110, Tryd.ntmps110
  go_wp2
  go_ret
  exact ⟨by first | rfl | exact ret_bool (decide_eq_false h2), rfl⟩
theorem in_not (c x y : Int) (w : World) (h : c < x ∨ y < c) : Calls Tryd.prog 110 #[.int .i64 c, .int .i64 x, .int .i64 y] w fun e w' => e = .returned (.bool false) ∧ w = w' := by
  by_cases h1 : c < x
  · exact in_low c x y w h1
  · exact in_high c x y w (by omega) (by omega)

theorem isLetter_iff (c : Int) : isLetter c = true ↔ (65 ≤ c ∧ c ≤ 90) ∨ (97 ≤ c ∧ c ≤ 122) ∨ (192 ≤ c ∧ c ≤ 214) ∨ (216 ≤ c ∧ c ≤ 246) ∨ (248 ≤ c ∧ c ≤ 255) ∨ (913 ≤ c ∧ c ≤ 929) ∨ (931 ≤ c ∧ c ≤ 937) ∨ (945 ≤ c ∧ c ≤ 969) ∨ (1024 ≤ c ∧ c ≤ 1119) := by
  simp [isLetter, spans]
set_option maxHeartbeats 1000000 in
theorem rletter_any (c : Int) (w : World) : Calls Tryd.prog 109 #[.int .i64 c] w fun e w' => e = .returned (.bool (isLetter c)) ∧ w = w' := by
  have hiff := isLetter_iff c
  by_cases g0 : 65 ≤ c ∧ c ≤ 90
  · have hr : isLetter c = true := hiff.2 (by omega)
    rw [hr]
    have H0 := Lib.hid (in_yes c 65 90 w g0.1 g0.2)
    clear hiff hr g0
    go_enter Tryd.func109, Tryd.ntmps109
    go_wp2_with (first | (go_at_call 110; with_reducible refine H0.out.mono ?_; rintro e w' ⟨rfl, rfl⟩))
    go_ret
    exact ⟨rfl, rfl⟩
  by_cases g1 : 97 ≤ c ∧ c ≤ 122
  · have hr : isLetter c = true := hiff.2 (by omega)
    rw [hr]
    have H0 := Lib.hid (in_not c 65 90 w (by omega))
    have H1 := Lib.hid (in_yes c 97 122 w g1.1 g1.2)
    clear hiff hr g0 g1
    go_enter Tryd.func109, Tryd.ntmps109
    go_wp2_with (first | (go_at_call 110; with_reducible refine H0.out.mono ?_; rintro e w' ⟨rfl, rfl⟩) | (go_at_call 110; with_reducible refine H1.out.mono ?_; rintro e w' ⟨rfl, rfl⟩))
    go_ret
    exact ⟨rfl, rfl⟩
  by_cases g2 : 192 ≤ c ∧ c ≤ 214
  · have hr : isLetter c = true := hiff.2 (by omega)
    rw [hr]
    have H0 := Lib.hid (in_not c 65 90 w (by omega))
    have H1 := Lib.hid (in_not c 97 122 w (by omega))
    have H2 := Lib.hid (in_yes c 192 214 w g2.1 g2.2)
    clear hiff hr g0 g1 g2
    go_enter Tryd.func109, Tryd.ntmps109
    go_wp2_with (first | (go_at_call 110; with_reducible refine H0.out.mono ?_; rintro e w' ⟨rfl, rfl⟩) | (go_at_call 110; with_reducible refine H1.out.mono ?_; rintro e w' ⟨rfl, rfl⟩) | (go_at_call 110; with_reducible refine H2.out.mono ?_; rintro e w' ⟨rfl, rfl⟩))
    go_ret
    exact ⟨rfl, rfl⟩
  by_cases g3 : 216 ≤ c ∧ c ≤ 246
  · have hr : isLetter c = true := hiff.2 (by omega)
    rw [hr]
    have H0 := Lib.hid (in_not c 65 90 w (by omega))
    have H1 := Lib.hid (in_not c 97 122 w (by omega))
    have H2 := Lib.hid (in_not c 192 214 w (by omega))
    have H3 := Lib.hid (in_yes c 216 246 w g3.1 g3.2)
    clear hiff hr g0 g1 g2 g3
    go_enter Tryd.func109, Tryd.ntmps109
    go_wp2_with (first | (go_at_call 110; with_reducible refine H0.out.mono ?_; rintro e w' ⟨rfl, rfl⟩) | (go_at_call 110; with_reducible refine H1.out.mono ?_; rintro e w' ⟨rfl, rfl⟩) | (go_at_call 110; with_reducible refine H2.out.mono ?_; rintro e w' ⟨rfl, rfl⟩) | (go_at_call 110; with_reducible refine H3.out.mono ?_; rintro e w' ⟨rfl, rfl⟩))
    go_ret
    exact ⟨rfl, rfl⟩
  by_cases g4 : 248 ≤ c ∧ c ≤ 255
  · have hr : isLetter c = true := hiff.2 (by omega)
    rw [hr]
    have H0 := Lib.hid (in_not c 65 90 w (by omega))
    have H1 := Lib.hid (in_not c 97 122 w (by omega))
    have H2 := Lib.hid (in_not c 192 214 w (by omega))
    have H3 := Lib.hid (in_not c 216 246 w (by omega))
    have H4 := Lib.hid (in_yes c 248 255 w g4.1 g4.2)
    clear hiff hr g0 g1 g2 g3 g4
    go_enter Tryd.func109, Tryd.ntmps109
    go_wp2_with (first | (go_at_call 110; with_reducible refine H0.out.mono ?_; rintro e w' ⟨rfl, rfl⟩) | (go_at_call 110; with_reducible refine H1.out.mono ?_; rintro e w' ⟨rfl, rfl⟩) | (go_at_call 110; with_reducible refine H2.out.mono ?_; rintro e w' ⟨rfl, rfl⟩) | (go_at_call 110; with_reducible refine H3.out.mono ?_; rintro e w' ⟨rfl, rfl⟩) | (go_at_call 110; with_reducible refine H4.out.mono ?_; rintro e w' ⟨rfl, rfl⟩))
    go_ret
    exact ⟨rfl, rfl⟩
  by_cases g5 : 913 ≤ c ∧ c ≤ 929
  · have hr : isLetter c = true := hiff.2 (by omega)
    rw [hr]
    have H0 := Lib.hid (in_not c 65 90 w (by omega))
    have H1 := Lib.hid (in_not c 97 122 w (by omega))
    have H2 := Lib.hid (in_not c 192 214 w (by omega))
    have H3 := Lib.hid (in_not c 216 246 w (by omega))
    have H4 := Lib.hid (in_not c 248 255 w (by omega))
    have H5 := Lib.hid (in_yes c 913 929 w g5.1 g5.2)
    clear hiff hr g0 g1 g2 g3 g4 g5
    go_enter Tryd.func109, Tryd.ntmps109
    go_wp2_with (first | (go_at_call 110; with_reducible refine H0.out.mono ?_; rintro e w' ⟨rfl, rfl⟩) | (go_at_call 110; with_reducible refine H1.out.mono ?_; rintro e w' ⟨rfl, rfl⟩) | (go_at_call 110; with_reducible refine H2.out.mono ?_; rintro e w' ⟨rfl, rfl⟩) | (go_at_call 110; with_reducible refine H3.out.mono ?_; rintro e w' ⟨rfl, rfl⟩) | (go_at_call 110; with_reducible refine H4.out.mono ?_; rintro e w' ⟨rfl, rfl⟩) | (go_at_call 110; with_reducible refine H5.out.mono ?_; rintro e w' ⟨rfl, rfl⟩))
    go_ret
    exact ⟨rfl, rfl⟩
  by_cases g6 : 931 ≤ c ∧ c ≤ 937
  · have hr : isLetter c = true := hiff.2 (by omega)
    rw [hr]
    have H0 := Lib.hid (in_not c 65 90 w (by omega))
    have H1 := Lib.hid (in_not c 97 122 w (by omega))
    have H2 := Lib.hid (in_not c 192 214 w (by omega))
    have H3 := Lib.hid (in_not c 216 246 w (by omega))
    have H4 := Lib.hid (in_not c 248 255 w (by omega))
    have H5 := Lib.hid (in_not c 913 929 w (by omega))
    have H6 := Lib.hid (in_yes c 931 937 w g6.1 g6.2)
    clear hiff hr g0 g1 g2 g3 g4 g5 g6
    go_enter Tryd.func109, Tryd.ntmps109
    go_wp2_with (first | (go_at_call 110; with_reducible refine H0.out.mono ?_; rintro e w' ⟨rfl, rfl⟩) | (go_at_call 110; with_reducible refine H1.out.mono ?_; rintro e w' ⟨rfl, rfl⟩) | (go_at_call 110; with_reducible refine H2.out.mono ?_; rintro e w' ⟨rfl, rfl⟩) | (go_at_call 110; with_reducible refine H3.out.mono ?_; rintro e w' ⟨rfl, rfl⟩) | (go_at_call 110; with_reducible refine H4.out.mono ?_; rintro e w' ⟨rfl, rfl⟩) | (go_at_call 110; with_reducible refine H5.out.mono ?_; rintro e w' ⟨rfl, rfl⟩) | (go_at_call 110; with_reducible refine H6.out.mono ?_; rintro e w' ⟨rfl, rfl⟩))
    go_ret
    exact ⟨rfl, rfl⟩
  by_cases g7 : 945 ≤ c ∧ c ≤ 969
  · have hr : isLetter c = true := hiff.2 (by omega)
    rw [hr]
    have H0 := Lib.hid (in_not c 65 90 w (by omega))
    have H1 := Lib.hid (in_not c 97 122 w (by omega))
    have H2 := Lib.hid (in_not c 192 214 w (by omega))
    have H3 := Lib.hid (in_not c 216 246 w (by omega))
    have H4 := Lib.hid (in_not c 248 255 w (by omega))
    have H5 := Lib.hid (in_not c 913 929 w (by omega))
    have H6 := Lib.hid (in_not c 931 937 w (by omega))
    have H7 := Lib.hid (in_yes c 945 969 w g7.1 g7.2)
    clear hiff hr g0 g1 g2 g3 g4 g5 g6 g7
    go_enter Tryd.func109, Tryd.ntmps109
    go_wp2_with (first | (go_at_call 110; with_reducible refine H0.out.mono ?_; rintro e w' ⟨rfl, rfl⟩) | (go_at_call 110; with_reducible refine H1.out.mono ?_; rintro e w' ⟨rfl, rfl⟩) | (go_at_call 110; with_reducible refine H2.out.mono ?_; rintro e w' ⟨rfl, rfl⟩) | (go_at_call 110; with_reducible refine H3.out.mono ?_; rintro e w' ⟨rfl, rfl⟩) | (go_at_call 110; with_reducible refine H4.out.mono ?_; rintro e w' ⟨rfl, rfl⟩) | (go_at_call 110; with_reducible refine H5.out.mono ?_; rintro e w' ⟨rfl, rfl⟩) | (go_at_call 110; with_reducible refine H6.out.mono ?_; rintro e w' ⟨rfl, rfl⟩) | (go_at_call 110; with_reducible refine H7.out.mono ?_; rintro e w' ⟨rfl, rfl⟩))
    go_ret
    exact ⟨rfl, rfl⟩
  by_cases g8 : 1024 ≤ c ∧ c ≤ 1119
  · have hr : isLetter c = true := hiff.2 (by omega)
    rw [hr]
    have H0 := Lib.hid (in_not c 65 90 w (by omega))
    have H1 := Lib.hid (in_not c 97 122 w (by omega))
    have H2 := Lib.hid (in_not c 192 214 w (by omega))
    have H3 := Lib.hid (in_not c 216 246 w (by omega))
    have H4 := Lib.hid (in_not c 248 255 w (by omega))
    have H5 := Lib.hid (in_not c 913 929 w (by omega))
    have H6 := Lib.hid (in_not c 931 937 w (by omega))
    have H7 := Lib.hid (in_not c 945 969 w (by omega))
    have H8 := Lib.hid (in_yes c 1024 1119 w g8.1 g8.2)
    clear hiff hr g0 g1 g2 g3 g4 g5 g6 g7 g8
    go_enter Tryd.func109, Tryd.ntmps109
    go_wp2_with (first | (go_at_call 110; with_reducible refine H0.out.mono ?_; rintro e w' ⟨rfl, rfl⟩) | (go_at_call 110; with_reducible refine H1.out.mono ?_; rintro e w' ⟨rfl, rfl⟩) | (go_at_call 110; with_reducible refine H2.out.mono ?_; rintro e w' ⟨rfl, rfl⟩) | (go_at_call 110; with_reducible refine H3.out.mono ?_; rintro e w' ⟨rfl, rfl⟩) | (go_at_call 110; with_reducible refine H4.out.mono ?_; rintro e w' ⟨rfl, rfl⟩) | (go_at_call 110; with_reducible refine H5.out.mono ?_; rintro e w' ⟨rfl, rfl⟩) | (go_at_call 110; with_reducible refine H6.out.mono ?_; rintro e w' ⟨rfl, rfl⟩) | (go_at_call 110; with_reducible refine H7.out.mono ?_; rintro e w' ⟨rfl, rfl⟩) | (go_at_call 110; with_reducible refine H8.out.mono ?_; rintro e w' ⟨rfl, rfl⟩))
    go_ret
    exact ⟨rfl, rfl⟩
  have hr : isLetter c = false := by rw [Bool.eq_false_iff]; intro e; have := hiff.1 e; omega
  rw [hr]
  have H0 := Lib.hid (in_not c 65 90 w (by omega))
  have H1 := Lib.hid (in_not c 97 122 w (by omega))
  have H2 := Lib.hid (in_not c 192 214 w (by omega))
  have H3 := Lib.hid (in_not c 216 246 w (by omega))
  have H4 := Lib.hid (in_not c 248 255 w (by omega))
  have H5 := Lib.hid (in_not c 913 929 w (by omega))
  have H6 := Lib.hid (in_not c 931 937 w (by omega))
  have H7 := Lib.hid (in_not c 945 969 w (by omega))
  have H8 := Lib.hid (in_not c 1024 1119 w (by omega))
  clear hiff hr g0 g1 g2 g3 g4 g5 g6 g7 g8
  go_enter Tryd.func109, Tryd.ntmps109
  go_wp2_with (first | (go_at_call 110; with_reducible refine H0.out.mono ?_; rintro e w' ⟨rfl, rfl⟩) | (go_at_call 110; with_reducible refine H1.out.mono ?_; rintro e w' ⟨rfl, rfl⟩) | (go_at_call 110; with_reducible refine H2.out.mono ?_; rintro e w' ⟨rfl, rfl⟩) | (go_at_call 110; with_reducible refine H3.out.mono ?_; rintro e w' ⟨rfl, rfl⟩) | (go_at_call 110; with_reducible refine H4.out.mono ?_; rintro e w' ⟨rfl, rfl⟩) | (go_at_call 110; with_reducible refine H5.out.mono ?_; rintro e w' ⟨rfl, rfl⟩) | (go_at_call 110; with_reducible refine H6.out.mono ?_; rintro e w' ⟨rfl, rfl⟩) | (go_at_call 110; with_reducible refine H7.out.mono ?_; rintro e w' ⟨rfl, rfl⟩) | (go_at_call 110; with_reducible refine H8.out.mono ?_; rintro e w' ⟨rfl, rfl⟩))
  go_ret
  exact ⟨rfl, rfl⟩

theorem small_eq (c : Int) : small c = if 65 ≤ c ∧ c ≤ 90 then c + 32 else if 192 ≤ c ∧ c ≤ 214 then c + 32 else if 216 ≤ c ∧ c ≤ 222 then c + 32 else if 913 ≤ c ∧ c ≤ 929 then c + 32 else if 931 ≤ c ∧ c ≤ 937 then c + 32 else if 1024 ≤ c ∧ c ≤ 1039 then c + 80 else if 1040 ≤ c ∧ c ≤ 1071 then c + 32 else c := by
  unfold small
  simp only [shifts, List.find?_cons, List.find?_nil]
  by_cases g0 : 65 ≤ c ∧ c ≤ 90
  · rw [if_pos g0]; simp [g0.1, g0.2]
  rw [if_neg g0, show (decide (65 ≤ c) && decide (c ≤ 90)) = false from by simp; omega]
  simp only
  by_cases g1 : 192 ≤ c ∧ c ≤ 214
  · rw [if_pos g1]; simp [g1.1, g1.2]
  rw [if_neg g1, show (decide (192 ≤ c) && decide (c ≤ 214)) = false from by simp; omega]
  simp only
  by_cases g2 : 216 ≤ c ∧ c ≤ 222
  · rw [if_pos g2]; simp [g2.1, g2.2]
  rw [if_neg g2, show (decide (216 ≤ c) && decide (c ≤ 222)) = false from by simp; omega]
  simp only
  by_cases g3 : 913 ≤ c ∧ c ≤ 929
  · rw [if_pos g3]; simp [g3.1, g3.2]
  rw [if_neg g3, show (decide (913 ≤ c) && decide (c ≤ 929)) = false from by simp; omega]
  simp only
  by_cases g4 : 931 ≤ c ∧ c ≤ 937
  · rw [if_pos g4]; simp [g4.1, g4.2]
  rw [if_neg g4, show (decide (931 ≤ c) && decide (c ≤ 937)) = false from by simp; omega]
  simp only
  by_cases g5 : 1024 ≤ c ∧ c ≤ 1039
  · rw [if_pos g5]; simp [g5.1, g5.2]
  rw [if_neg g5, show (decide (1024 ≤ c) && decide (c ≤ 1039)) = false from by simp; omega]
  simp only
  by_cases g6 : 1040 ≤ c ∧ c ≤ 1071
  · rw [if_pos g6]; simp [g6.1, g6.2]
  rw [if_neg g6, show (decide (1040 ≤ c) && decide (c ≤ 1071)) = false from by simp; omega]

set_option maxHeartbeats 1000000 in
theorem rsmall_any (c : Int) (w : World) (h0 : -1000000000 ≤ c) (h1 : c ≤ 1000000000) : Calls Tryd.prog 86 #[.int .i64 c] w fun e w' => e = .returned (.int .i64 (small c)) ∧ w = w' := by
  have hsm := small_eq c
  by_cases g0 : 1024 ≤ c ∧ c ≤ 1039
  · have hr : small c = c + 80 := by rw [hsm]; repeat' split; all_goals omega
    rw [hr]
    have H0 := Lib.hid (in_yes c 1024 1039 w g0.1 g0.2)
    clear hsm hr g0
    go_enter Tryd.func86, Tryd.ntmps86
    go_wp2_with (first | (go_at_call 110; with_reducible refine H0.out.mono ?_; rintro e w' ⟨rfl, rfl⟩))
    go_ret
    exact ⟨rfl, rfl⟩
  by_cases g1 : 65 ≤ c ∧ c ≤ 90
  · have hr : small c = c + 32 := by rw [hsm]; repeat' split; all_goals omega
    rw [hr]
    have H0 := Lib.hid (in_not c 1024 1039 w (by omega))
    have H1 := Lib.hid (in_yes c 65 90 w g1.1 g1.2)
    clear hsm hr g0 g1
    go_enter Tryd.func86, Tryd.ntmps86
    go_wp2_with (first | (go_at_call 110; with_reducible refine H0.out.mono ?_; rintro e w' ⟨rfl, rfl⟩) | (go_at_call 110; with_reducible refine H1.out.mono ?_; rintro e w' ⟨rfl, rfl⟩))
    go_ret
    exact ⟨rfl, rfl⟩
  by_cases g2 : 192 ≤ c ∧ c ≤ 214
  · have hr : small c = c + 32 := by rw [hsm]; repeat' split; all_goals omega
    rw [hr]
    have H0 := Lib.hid (in_not c 1024 1039 w (by omega))
    have H1 := Lib.hid (in_not c 65 90 w (by omega))
    have H2 := Lib.hid (in_yes c 192 214 w g2.1 g2.2)
    clear hsm hr g0 g1 g2
    go_enter Tryd.func86, Tryd.ntmps86
    go_wp2_with (first | (go_at_call 110; with_reducible refine H0.out.mono ?_; rintro e w' ⟨rfl, rfl⟩) | (go_at_call 110; with_reducible refine H1.out.mono ?_; rintro e w' ⟨rfl, rfl⟩) | (go_at_call 110; with_reducible refine H2.out.mono ?_; rintro e w' ⟨rfl, rfl⟩))
    go_ret
    exact ⟨rfl, rfl⟩
  by_cases g3 : 216 ≤ c ∧ c ≤ 222
  · have hr : small c = c + 32 := by rw [hsm]; repeat' split; all_goals omega
    rw [hr]
    have H0 := Lib.hid (in_not c 1024 1039 w (by omega))
    have H1 := Lib.hid (in_not c 65 90 w (by omega))
    have H2 := Lib.hid (in_not c 192 214 w (by omega))
    have H3 := Lib.hid (in_yes c 216 222 w g3.1 g3.2)
    clear hsm hr g0 g1 g2 g3
    go_enter Tryd.func86, Tryd.ntmps86
    go_wp2_with (first | (go_at_call 110; with_reducible refine H0.out.mono ?_; rintro e w' ⟨rfl, rfl⟩) | (go_at_call 110; with_reducible refine H1.out.mono ?_; rintro e w' ⟨rfl, rfl⟩) | (go_at_call 110; with_reducible refine H2.out.mono ?_; rintro e w' ⟨rfl, rfl⟩) | (go_at_call 110; with_reducible refine H3.out.mono ?_; rintro e w' ⟨rfl, rfl⟩))
    go_ret
    exact ⟨rfl, rfl⟩
  by_cases g4 : 913 ≤ c ∧ c ≤ 929
  · have hr : small c = c + 32 := by rw [hsm]; repeat' split; all_goals omega
    rw [hr]
    have H0 := Lib.hid (in_not c 1024 1039 w (by omega))
    have H1 := Lib.hid (in_not c 65 90 w (by omega))
    have H2 := Lib.hid (in_not c 192 214 w (by omega))
    have H3 := Lib.hid (in_not c 216 222 w (by omega))
    have H4 := Lib.hid (in_yes c 913 929 w g4.1 g4.2)
    clear hsm hr g0 g1 g2 g3 g4
    go_enter Tryd.func86, Tryd.ntmps86
    go_wp2_with (first | (go_at_call 110; with_reducible refine H0.out.mono ?_; rintro e w' ⟨rfl, rfl⟩) | (go_at_call 110; with_reducible refine H1.out.mono ?_; rintro e w' ⟨rfl, rfl⟩) | (go_at_call 110; with_reducible refine H2.out.mono ?_; rintro e w' ⟨rfl, rfl⟩) | (go_at_call 110; with_reducible refine H3.out.mono ?_; rintro e w' ⟨rfl, rfl⟩) | (go_at_call 110; with_reducible refine H4.out.mono ?_; rintro e w' ⟨rfl, rfl⟩))
    go_ret
    exact ⟨rfl, rfl⟩
  by_cases g5 : 931 ≤ c ∧ c ≤ 937
  · have hr : small c = c + 32 := by rw [hsm]; repeat' split; all_goals omega
    rw [hr]
    have H0 := Lib.hid (in_not c 1024 1039 w (by omega))
    have H1 := Lib.hid (in_not c 65 90 w (by omega))
    have H2 := Lib.hid (in_not c 192 214 w (by omega))
    have H3 := Lib.hid (in_not c 216 222 w (by omega))
    have H4 := Lib.hid (in_not c 913 929 w (by omega))
    have H5 := Lib.hid (in_yes c 931 937 w g5.1 g5.2)
    clear hsm hr g0 g1 g2 g3 g4 g5
    go_enter Tryd.func86, Tryd.ntmps86
    go_wp2_with (first | (go_at_call 110; with_reducible refine H0.out.mono ?_; rintro e w' ⟨rfl, rfl⟩) | (go_at_call 110; with_reducible refine H1.out.mono ?_; rintro e w' ⟨rfl, rfl⟩) | (go_at_call 110; with_reducible refine H2.out.mono ?_; rintro e w' ⟨rfl, rfl⟩) | (go_at_call 110; with_reducible refine H3.out.mono ?_; rintro e w' ⟨rfl, rfl⟩) | (go_at_call 110; with_reducible refine H4.out.mono ?_; rintro e w' ⟨rfl, rfl⟩) | (go_at_call 110; with_reducible refine H5.out.mono ?_; rintro e w' ⟨rfl, rfl⟩))
    go_ret
    exact ⟨rfl, rfl⟩
  by_cases g6 : 1040 ≤ c ∧ c ≤ 1071
  · have hr : small c = c + 32 := by rw [hsm]; repeat' split; all_goals omega
    rw [hr]
    have H0 := Lib.hid (in_not c 1024 1039 w (by omega))
    have H1 := Lib.hid (in_not c 65 90 w (by omega))
    have H2 := Lib.hid (in_not c 192 214 w (by omega))
    have H3 := Lib.hid (in_not c 216 222 w (by omega))
    have H4 := Lib.hid (in_not c 913 929 w (by omega))
    have H5 := Lib.hid (in_not c 931 937 w (by omega))
    have H6 := Lib.hid (in_yes c 1040 1071 w g6.1 g6.2)
    clear hsm hr g0 g1 g2 g3 g4 g5 g6
    go_enter Tryd.func86, Tryd.ntmps86
    go_wp2_with (first | (go_at_call 110; with_reducible refine H0.out.mono ?_; rintro e w' ⟨rfl, rfl⟩) | (go_at_call 110; with_reducible refine H1.out.mono ?_; rintro e w' ⟨rfl, rfl⟩) | (go_at_call 110; with_reducible refine H2.out.mono ?_; rintro e w' ⟨rfl, rfl⟩) | (go_at_call 110; with_reducible refine H3.out.mono ?_; rintro e w' ⟨rfl, rfl⟩) | (go_at_call 110; with_reducible refine H4.out.mono ?_; rintro e w' ⟨rfl, rfl⟩) | (go_at_call 110; with_reducible refine H5.out.mono ?_; rintro e w' ⟨rfl, rfl⟩) | (go_at_call 110; with_reducible refine H6.out.mono ?_; rintro e w' ⟨rfl, rfl⟩))
    go_ret
    exact ⟨rfl, rfl⟩
  have hr : small c = c := by rw [hsm]; repeat' split; all_goals omega
  rw [hr]
  have H0 := Lib.hid (in_not c 1024 1039 w (by omega))
  have H1 := Lib.hid (in_not c 65 90 w (by omega))
  have H2 := Lib.hid (in_not c 192 214 w (by omega))
  have H3 := Lib.hid (in_not c 216 222 w (by omega))
  have H4 := Lib.hid (in_not c 913 929 w (by omega))
  have H5 := Lib.hid (in_not c 931 937 w (by omega))
  have H6 := Lib.hid (in_not c 1040 1071 w (by omega))
  clear hsm hr g0 g1 g2 g3 g4 g5 g6
  go_enter Tryd.func86, Tryd.ntmps86
  go_wp2_with (first | (go_at_call 110; with_reducible refine H0.out.mono ?_; rintro e w' ⟨rfl, rfl⟩) | (go_at_call 110; with_reducible refine H1.out.mono ?_; rintro e w' ⟨rfl, rfl⟩) | (go_at_call 110; with_reducible refine H2.out.mono ?_; rintro e w' ⟨rfl, rfl⟩) | (go_at_call 110; with_reducible refine H3.out.mono ?_; rintro e w' ⟨rfl, rfl⟩) | (go_at_call 110; with_reducible refine H4.out.mono ?_; rintro e w' ⟨rfl, rfl⟩) | (go_at_call 110; with_reducible refine H5.out.mono ?_; rintro e w' ⟨rfl, rfl⟩) | (go_at_call 110; with_reducible refine H6.out.mono ?_; rintro e w' ⟨rfl, rfl⟩))
  go_ret
  exact ⟨rfl, rfl⟩

theorem rright_any (c : Int) (w : World) : Calls Tryd.prog 106 #[.int .i64 c] w fun e w' => e = .returned (.bool (isChar c)) ∧ w = w' := by
  have cases' : (¬ 0 ≤ c ∧ ¬ 57343 < c ∧ isChar c = false) ∨ (0 ≤ c ∧ c < 55296 ∧ isChar c = true) ∨ (0 ≤ c ∧ ¬ c < 55296 ∧ ¬ 57343 < c ∧ isChar c = false) ∨ (0 ≤ c ∧ ¬ c < 55296 ∧ 57343 < c ∧ c < 1114112 ∧ isChar c = true) ∨ (0 ≤ c ∧ ¬ c < 55296 ∧ 57343 < c ∧ ¬ c < 1114112 ∧ isChar c = false) := by
    simp only [isChar, Bool.and_eq_true, Bool.or_eq_true, decide_eq_true_eq, Bool.and_eq_false_iff, Bool.or_eq_false_iff, decide_eq_false_iff_not]
    omega
  rcases cases' with ⟨h1, h3, h2⟩ | ⟨h0, h1, h2⟩ | ⟨h0, h1, h3, h2⟩ | ⟨h0, h1, h3, h4, h2⟩ | ⟨h0, h1, h3, h4, h2⟩
  all_goals
    rw [h2]
    clear h2
    go_enter Tryd.func106, Tryd.ntmps106
    go_wp2
    go_ret
    refine ⟨ret_bool ?_, rfl⟩
    first | rfl | (simp; omega) | (simp; done)

theorem rleast_any (x y : Int) (w : World) : Calls Tryd.prog 108 #[.int .i64 x, .int .i64 y] w fun e w' => e = .returned (.int .i64 (if x < y then x else y)) ∧ w = w' := by
  by_cases h : x < y
  · rw [if_pos h]
    go_enter Tryd.func108, Tryd.ntmps108
    go_wp2
    go_ret
    exact ⟨rfl, rfl⟩
  · rw [if_neg h]
    go_enter Tryd.func108, Tryd.ntmps108
    go_wp2
    go_ret
    exact ⟨rfl, rfl⟩

theorem rin_any (c : Int) (w : World) : Calls Tryd.prog 85 #[.int .i64 c] w fun e w' => e = .returned (.bool (inWord c)) ∧ w = w' := by
  have hL := rletter_any c w
  cases hl : isLetter c with
  | true =>
    rw [hl] at hL
    have HL := Lib.hid hL
    have hr : inWord c = true := by unfold inWord; rw [hl]; rfl
    rw [hr]
    clear hL hl hr
    go_enter Tryd.func85, Tryd.ntmps85
    go_wp2_with (go_at_call 109; with_reducible refine HL.out.mono ?_; rintro e w' ⟨rfl, rfl⟩)
    go_ret
    exact ⟨rfl, rfl⟩
  | false =>
    rw [hl] at hL
    have HL := Lib.hid hL
    have cases' : (¬ 48 ≤ c ∧ inWord c = false) ∨ (48 ≤ c ∧ ¬ c ≤ 57 ∧ inWord c = false) ∨ (48 ≤ c ∧ c ≤ 57 ∧ inWord c = true) := by
      unfold inWord
      rw [hl]
      simp only [isDigit, Bool.false_or, Bool.and_eq_true, decide_eq_true_eq, Bool.and_eq_false_iff, decide_eq_false_iff_not]
      omega
    clear hL hl
    rcases cases' with ⟨h1, h2⟩ | ⟨h0, h1, h2⟩ | ⟨h0, h1, h2⟩
    all_goals
      rw [h2]
      clear h2
      go_enter Tryd.func85, Tryd.ntmps85
      go_wp2_with (go_at_call 109; with_reducible refine HL.out.mono ?_; rintro e w' ⟨rfl, rfl⟩)
      go_ret
      first | exact ⟨rfl, rfl⟩ | exact ⟨ret_bool (decide_eq_false (by omega)), rfl⟩ | exact ⟨ret_bool (decide_eq_true (by omega)), rfl⟩

set_option maxHeartbeats 1000000 in
theorem rencode_1 (c : Int) (w : World) (h0 : 0 ≤ c) (hm : c ≤ 1114111) (hc : c < 128) : Calls Tryd.prog 107 #[.int .i64 c] w (Gives w 5 1 (enc c).length (bcells (enc c))) := by
  have hl : enc c = [u8 (c)] := by unfold enc; rw [if_pos (by omega)]
  have he : bcells (enc c) = [.int .u8 (c)] := by
    rw [hl]; simp only [bcells, List.map_cons, List.map_nil]
    rw [ch_u8 (c) (by omega) (by omega)]
  have hn : (enc c).length = 1 := by rw [hl]; rfl
  have e0 : IntKind.u8.wrap (c) = c := wrap_u8_in _ (by omega) (by omega)
  have n0 : c < 128 := by omega
  have HE := Lib.hid he
  have HN := Lib.hid hn
  clear he hn hl
  go_enter Tryd.func107, Tryd.ntmps107
  go_wp2
  go_ret
  refine ⟨_, rfl, ?_, (Below.refl _ _).alloc (Nat.le_refl _) _⟩
  rw [HE.out, HN.out]
  exact own_new _ #[.int .u8 (c)] _ 1 1 rfl (by decide)

set_option maxHeartbeats 1000000 in
theorem rencode_2 (c : Int) (w : World) (h0 : 0 ≤ c) (hm : c ≤ 1114111) (hc : 128 ≤ c ∧ c < 2048) : Calls Tryd.prog 107 #[.int .i64 c] w (Gives w 5 1 (enc c).length (bcells (enc c))) := by
  have hl : enc c = [u8 (192 + c / 64), u8 (128 + c % 64)] := by unfold enc; rw [if_neg (by omega)]; rw [if_pos (by omega)]
  have he : bcells (enc c) = [.int .u8 (192 + c / 64), .int .u8 (128 + c % 64)] := by
    rw [hl]; simp only [bcells, List.map_cons, List.map_nil]
    rw [ch_u8 (192 + c / 64) (by omega) (by omega), ch_u8 (128 + c % 64) (by omega) (by omega)]
  have hn : (enc c).length = 2 := by rw [hl]; rfl
  have e0 : IntKind.u8.wrap (192 + c / 64) = 192 + c / 64 := wrap_u8_in _ (by omega) (by omega)
  have e1 : IntKind.u8.wrap (128 + c % 64) = 128 + c % 64 := wrap_u8_in _ (by omega) (by omega)
  have n0 : ¬ c < 128 := by omega
  have n1 : c < 2048 := by omega
  have t1 : Int.tdiv c 64 = c / 64 := Int.tdiv_eq_ediv_of_nonneg h0
  have t2 : Int.tmod c 64 = c % 64 := Int.tmod_eq_emod_of_nonneg h0
  have HE := Lib.hid he
  have HN := Lib.hid hn
  clear he hn hl
  go_enter Tryd.func107, Tryd.ntmps107
  go_wp2
  go_ret
  refine ⟨_, rfl, ?_, (Below.refl _ _).alloc (Nat.le_refl _) _⟩
  rw [HE.out, HN.out]
  exact own_new _ #[.int .u8 (192 + c / 64), .int .u8 (128 + c % 64)] _ 1 2 rfl (by decide)

set_option maxHeartbeats 1000000 in
theorem rencode_3 (c : Int) (w : World) (h0 : 0 ≤ c) (hm : c ≤ 1114111) (hc : 2048 ≤ c ∧ c < 65536) : Calls Tryd.prog 107 #[.int .i64 c] w (Gives w 5 1 (enc c).length (bcells (enc c))) := by
  have hl : enc c = [u8 (224 + c / 4096), u8 (128 + c / 64 % 64), u8 (128 + c % 64)] := by unfold enc; rw [if_neg (by omega)]; rw [if_neg (by omega)]; rw [if_pos (by omega)]
  have he : bcells (enc c) = [.int .u8 (224 + c / 4096), .int .u8 (128 + c / 64 % 64), .int .u8 (128 + c % 64)] := by
    rw [hl]; simp only [bcells, List.map_cons, List.map_nil]
    rw [ch_u8 (224 + c / 4096) (by omega) (by omega), ch_u8 (128 + c / 64 % 64) (by omega) (by omega), ch_u8 (128 + c % 64) (by omega) (by omega)]
  have hn : (enc c).length = 3 := by rw [hl]; rfl
  have e0 : IntKind.u8.wrap (224 + c / 4096) = 224 + c / 4096 := wrap_u8_in _ (by omega) (by omega)
  have e1 : IntKind.u8.wrap (128 + c / 64 % 64) = 128 + c / 64 % 64 := wrap_u8_in _ (by omega) (by omega)
  have e2 : IntKind.u8.wrap (128 + c % 64) = 128 + c % 64 := wrap_u8_in _ (by omega) (by omega)
  have n0 : ¬ c < 128 := by omega
  have n1 : ¬ c < 2048 := by omega
  have n2 : c < 65536 := by omega
  have t1 : Int.tdiv c 64 = c / 64 := Int.tdiv_eq_ediv_of_nonneg h0
  have t2 : Int.tmod c 64 = c % 64 := Int.tmod_eq_emod_of_nonneg h0
  have t3 : Int.tdiv c 4096 = c / 4096 := Int.tdiv_eq_ediv_of_nonneg h0
  have t5 : Int.tmod (c / 64) 64 = c / 64 % 64 := Int.tmod_eq_emod_of_nonneg (by omega)
  have HE := Lib.hid he
  have HN := Lib.hid hn
  clear he hn hl
  go_enter Tryd.func107, Tryd.ntmps107
  go_wp2
  go_ret
  refine ⟨_, rfl, ?_, (Below.refl _ _).alloc (Nat.le_refl _) _⟩
  rw [HE.out, HN.out]
  exact own_new _ #[.int .u8 (224 + c / 4096), .int .u8 (128 + c / 64 % 64), .int .u8 (128 + c % 64)] _ 1 3 rfl (by decide)

set_option maxHeartbeats 1000000 in
theorem rencode_4 (c : Int) (w : World) (h0 : 0 ≤ c) (hm : c ≤ 1114111) (hc : 65536 ≤ c) : Calls Tryd.prog 107 #[.int .i64 c] w (Gives w 5 1 (enc c).length (bcells (enc c))) := by
  have hl : enc c = [u8 (240 + c / 262144), u8 (128 + c / 4096 % 64), u8 (128 + c / 64 % 64), u8 (128 + c % 64)] := by unfold enc; rw [if_neg (by omega)]; rw [if_neg (by omega)]; rw [if_neg (by omega)]
  have he : bcells (enc c) = [.int .u8 (240 + c / 262144), .int .u8 (128 + c / 4096 % 64), .int .u8 (128 + c / 64 % 64), .int .u8 (128 + c % 64)] := by
    rw [hl]; simp only [bcells, List.map_cons, List.map_nil]
    rw [ch_u8 (240 + c / 262144) (by omega) (by omega), ch_u8 (128 + c / 4096 % 64) (by omega) (by omega), ch_u8 (128 + c / 64 % 64) (by omega) (by omega), ch_u8 (128 + c % 64) (by omega) (by omega)]
  have hn : (enc c).length = 4 := by rw [hl]; rfl
  have e0 : IntKind.u8.wrap (240 + c / 262144) = 240 + c / 262144 := wrap_u8_in _ (by omega) (by omega)
  have e1 : IntKind.u8.wrap (128 + c / 4096 % 64) = 128 + c / 4096 % 64 := wrap_u8_in _ (by omega) (by omega)
  have e2 : IntKind.u8.wrap (128 + c / 64 % 64) = 128 + c / 64 % 64 := wrap_u8_in _ (by omega) (by omega)
  have e3 : IntKind.u8.wrap (128 + c % 64) = 128 + c % 64 := wrap_u8_in _ (by omega) (by omega)
  have n0 : ¬ c < 128 := by omega
  have n1 : ¬ c < 2048 := by omega
  have n2 : ¬ c < 65536 := by omega
  have t1 : Int.tdiv c 64 = c / 64 := Int.tdiv_eq_ediv_of_nonneg h0
  have t2 : Int.tmod c 64 = c % 64 := Int.tmod_eq_emod_of_nonneg h0
  have t3 : Int.tdiv c 4096 = c / 4096 := Int.tdiv_eq_ediv_of_nonneg h0
  have t5 : Int.tmod (c / 64) 64 = c / 64 % 64 := Int.tmod_eq_emod_of_nonneg (by omega)
  have t4 : Int.tdiv c 262144 = c / 262144 := Int.tdiv_eq_ediv_of_nonneg h0
  have t6 : Int.tmod (c / 4096) 64 = c / 4096 % 64 := Int.tmod_eq_emod_of_nonneg (by omega)
  have HE := Lib.hid he
  have HN := Lib.hid hn
  clear he hn hl
  go_enter Tryd.func107, Tryd.ntmps107
  go_wp2
  go_ret
  refine ⟨_, rfl, ?_, (Below.refl _ _).alloc (Nat.le_refl _) _⟩
  rw [HE.out, HN.out]
  exact own_new _ #[.int .u8 (240 + c / 262144), .int .u8 (128 + c / 4096 % 64), .int .u8 (128 + c / 64 % 64), .int .u8 (128 + c % 64)] _ 1 4 rfl (by decide)

theorem rencode_any (c : Int) (w : World) (h0 : 0 ≤ c) (hm : c ≤ 1114111) : Calls Tryd.prog 107 #[.int .i64 c] w (Gives w 5 1 (enc c).length (bcells (enc c))) := by
  by_cases h1 : c < 128
  · exact rencode_1 c w h0 hm h1
  · by_cases h2 : c < 2048
    · exact rencode_2 c w h0 hm ⟨by omega, h2⟩
    · by_cases h3 : c < 65536
      · exact rencode_3 c w h0 hm ⟨by omega, h3⟩
      · exact rencode_4 c w h0 hm (by omega)
end Go.Proofs.YteegbjjpjdlcmaaDoor

/- rubrickref04.begins, Decode; rubrickref05.Right. -/
set_option linter.unusedVariables false
namespace Go.Proofs.YteegbjjpjdlcmaaDoor
open Go.RowKit

theorem beg_bd (l : List UInt8) (n : Nat) : -250 ≤ beg l n 0 ∧ beg l n 0 ≤ 256 ∧ -20000 ≤ beg l n 1 ∧ beg l n 1 ≤ 20000 ∧ -1300000 ≤ beg l n 2 ∧ beg l n 2 ≤ 1300000 ∧ -90000000 ≤ beg l n 3 ∧ beg l n 3 ≤ 90000000 := by
  have h0 := chBd (l.getD 0 0)
  have h1 := chBd (l.getD 1 0)
  have h2 := chBd (l.getD 2 0)
  have h3 := chBd (l.getD 3 0)
  have hl : 0 ≤ lead n ∧ lead n ≤ 240 := by unfold lead; repeat' split
                                            all_goals decide
  simp only [beg]
  simp only [Nat.zero_add, Nat.reduceAdd]
  omega

theorem begins_bd (l : List UInt8) (n : Nat) (hn : n ≤ 4) : -90000000 ≤ begins l n ∧ begins l n ≤ 90000000 := by
  unfold begins
  split
  · decide
  · have := beg_bd l n
    have hc : n - 1 = 0 ∨ n - 1 = 1 ∨ n - 1 = 2 ∨ n - 1 = 3 := by omega
    rcases hc with h | h | h | h <;> rw [h] <;> omega

set_option maxHeartbeats 1000000 in
theorem begins_any (v : Value) (l : List UInt8) (n : Nat) (w : World) (h : Rd w v l.length 1 (bcells l)) (hl : 0 < l.length) (hn : 1 ≤ n) (hn4 : n ≤ 4) :
    Calls Tryd.prog 105 #[v, .int .i64 n] w fun e w' => e = .returned (.int .i64 (begins l n)) ∧ Below w.heap.size w w' := by
  obtain ⟨b, off, c, rfl, h1, h2, h3⟩ := bytes_cells h hl
  have HC := Lib.hid h3
  by_cases hlt : l.length < n
  · have hr : begins l n = -1 := by unfold begins; rw [if_pos hlt]
    rw [hr]
    have hlti : (l.length : Int) < (n : Int) := by omega
    clear h h3 HC hr
    go_enter Tryd.func105, Tryd.ntmps105
    go_wp2
    go_ret
    exact ⟨rfl, Below.refl _ _⟩
  · have hlti : ¬ (l.length : Int) < (n : Int) := by omega
    have hr : Hid (begins l n = beg l n (n - 1)) := by show _ = _; unfold begins; rw [if_neg hlt]
    have c0 := h3 0 hl
    rw [show off + 0 = off from rfl] at c0
    have hle : Hid (lead n = (if n = 2 then 192 else if n = 3 then 224 else if n = 4 then 240 else 0)) := rfl
    have hcc : n = 1 ∨ n = 2 ∨ n = 3 ∨ n = 4 := by omega
    have hb := beg_bd l n
    have HB := Lib.hid hb
    have hbeg0 : Hid (beg l n 0 = ch l[0] - lead n) := by
      show _ = _
      simp only [beg, List.getD, List.getElem?_eq_getElem hl, Option.getD_some]
    have h0i : (0 : Int) < (l.length : Int) := by omega
    have hlb := chBd l[0]
    generalize hx : l[0] = x0 at *
    clear h h3 hb
    have hWb : Below w.heap.size w (w.alloc (.cells #[.int .i64 0, .int .i64 0, .int .i64 192, .int .i64 224, .int .i64 240] 3)) := (Below.refl _ _).alloc (Nat.le_refl _) _
    have c0W := (hWb.cell (World.block_lt_of_cell? w _ c0)).trans c0
    have clW : ∀ j u, (#[.int .i64 0, .int .i64 0, .int .i64 192, .int .i64 224, .int .i64 240] : Array Value)[j]? = some u → (w.alloc (.cells #[.int .i64 0, .int .i64 0, .int .i64 192, .int .i64 224, .int .i64 240] 3)).cell? ⟨w.heap.size, j, none⟩ = some u := by
      intro j u hj
      rw [cell_of_row _ w.heap.size j _ _ _ (heap_alloc_new w _)]
      exact hj
    rcases hcc with rfl | rfl | rfl | rfl
    · have c1W := clW 1 (.int .i64 0) rfl
      have hl0 : lead 1 = 0 := rfl
      rw [hl0, Int.sub_zero] at hbeg0
      go_enter Tryd.func105, Tryd.ntmps105
      go_wp2_with fail
      generalize (w.alloc (.cells #[.int .i64 0, .int .i64 0, .int .i64 192, .int .i64 224, .int .i64 240] 3)) = W at *
      have r1 := cell_regrown c0W
      have r2 := cell_regrown c1W
      refine wp_region_quiet_below (by kernel_rfl) (by kernel_rfl) ?_
      repeat (go_big_quiet_step (fail))
      refine wpQuiet_nil ?_
      intro W2 hw'
      obtain ⟨⟨dq, osq⟩, hw''⟩ := hw'
      have hbq := hWb.trans ((below_regrown W dq osq).mono hWb.size)
      rw [← hw''] at hbq
      clear hw'' r1 r2 c0W c1W clW hWb c0
      rw [← hbeg0.out]
      go_wp2
      go_loopw [6, 7] (fun x i wr => ∃ (k : Nat), k + 1 ≤ 1 ∧ i = .int .i64 ((k + 1 : Nat) : Int) ∧ x = .int .i64 (beg l 1 k) ∧ Below w.heap.size w wr) (fun _ i _ => 1 - (intOf i).toNat)
      case atStart => exact ⟨0, by omega, rfl, rfl, hbq⟩
      case round =>
        obtain ⟨k, hk, rfl, rfl, hbel⟩ := hrel
        by_cases hkk : k + 1 < 1
        · exact absurd hkk (by omega)
        · have hk1 : k = 0 := by omega
          subst hk1
          go_wp2
          go_ret
          exact ⟨by rw [hr.out]; rfl, hbel⟩
    · have c1W := clW 2 (.int .i64 192) rfl
      have hl0 : lead 2 = 192 := rfl
      rw [hl0] at hbeg0
      go_enter Tryd.func105, Tryd.ntmps105
      go_wp2_with fail
      generalize (w.alloc (.cells #[.int .i64 0, .int .i64 0, .int .i64 192, .int .i64 224, .int .i64 240] 3)) = W at *
      have r1 := cell_regrown c0W
      have r2 := cell_regrown c1W
      refine wp_region_quiet_below (by kernel_rfl) (by kernel_rfl) ?_
      repeat (go_big_quiet_step (fail))
      refine wpQuiet_nil ?_
      intro W2 hw'
      obtain ⟨⟨dq, osq⟩, hw''⟩ := hw'
      have hbq := hWb.trans ((below_regrown W dq osq).mono hWb.size)
      rw [← hw''] at hbq
      clear hw'' r1 r2 c0W c1W clW hWb c0
      rw [← hbeg0.out]
      go_wp2
      go_loopw [6, 7] (fun x i wr => ∃ (k : Nat), k + 1 ≤ 2 ∧ i = .int .i64 ((k + 1 : Nat) : Int) ∧ x = .int .i64 (beg l 2 k) ∧ Below w.heap.size w wr) (fun _ i _ => 2 - (intOf i).toNat)
      case atStart => exact ⟨0, by omega, rfl, rfl, hbq⟩
      case round =>
        obtain ⟨k, hk, rfl, rfl, hbel⟩ := hrel
        by_cases hkk : k + 1 < 2
        · have hlk : k + 1 < l.length := by omega
          have ck0 := HC.out (k + 1) hlk
          have ck := (hbel.cell (World.block_lt_of_cell? w _ ck0)).trans ck0
          have hs : Hid (beg l 2 (k + 1) = beg l 2 k * 64 + ch l[k + 1] - 128) := by
            show _ = _
            simp only [beg, List.getD, List.getElem?_eq_getElem hlk, Option.getD_some]
          have hcb := chBd l[k + 1]
          have hbk : -1300000 ≤ beg l 2 k ∧ beg l 2 k ≤ 1300000 := by
            have := HB.out
            have hc : k = 0 ∨ k = 1 ∨ k = 2 := by omega
            rcases hc with h | h | h <;> rw [h] <;> omega
          have i1 : ((k + 1 : Nat) : Int) < 2 := by omega
          have i2 : ((k + 1 : Nat) : Int) < (l.length : Int) := by omega
          have i3 : (0 : Int) ≤ ((k + 1 : Nat) : Int) := by omega
          generalize l[k + 1] = y at *
          generalize beg l 2 k = g at *
          clear ck0
          go_wp2
          go_roundw
          case rel => exact ⟨k + 1, by omega, by go_num, by rw [hs.out], hbel⟩
          case measure => simp [intOf]; omega
        · have hk1 : k = 1 := by omega
          subst hk1
          go_wp2
          go_ret
          exact ⟨by rw [hr.out]; rfl, hbel⟩
    · have c1W := clW 3 (.int .i64 224) rfl
      have hl0 : lead 3 = 224 := rfl
      rw [hl0] at hbeg0
      go_enter Tryd.func105, Tryd.ntmps105
      go_wp2_with fail
      generalize (w.alloc (.cells #[.int .i64 0, .int .i64 0, .int .i64 192, .int .i64 224, .int .i64 240] 3)) = W at *
      have r1 := cell_regrown c0W
      have r2 := cell_regrown c1W
      refine wp_region_quiet_below (by kernel_rfl) (by kernel_rfl) ?_
      repeat (go_big_quiet_step (fail))
      refine wpQuiet_nil ?_
      intro W2 hw'
      obtain ⟨⟨dq, osq⟩, hw''⟩ := hw'
      have hbq := hWb.trans ((below_regrown W dq osq).mono hWb.size)
      rw [← hw''] at hbq
      clear hw'' r1 r2 c0W c1W clW hWb c0
      rw [← hbeg0.out]
      go_wp2
      go_loopw [6, 7] (fun x i wr => ∃ (k : Nat), k + 1 ≤ 3 ∧ i = .int .i64 ((k + 1 : Nat) : Int) ∧ x = .int .i64 (beg l 3 k) ∧ Below w.heap.size w wr) (fun _ i _ => 3 - (intOf i).toNat)
      case atStart => exact ⟨0, by omega, rfl, rfl, hbq⟩
      case round =>
        obtain ⟨k, hk, rfl, rfl, hbel⟩ := hrel
        by_cases hkk : k + 1 < 3
        · have hlk : k + 1 < l.length := by omega
          have ck0 := HC.out (k + 1) hlk
          have ck := (hbel.cell (World.block_lt_of_cell? w _ ck0)).trans ck0
          have hs : Hid (beg l 3 (k + 1) = beg l 3 k * 64 + ch l[k + 1] - 128) := by
            show _ = _
            simp only [beg, List.getD, List.getElem?_eq_getElem hlk, Option.getD_some]
          have hcb := chBd l[k + 1]
          have hbk : -1300000 ≤ beg l 3 k ∧ beg l 3 k ≤ 1300000 := by
            have := HB.out
            have hc : k = 0 ∨ k = 1 ∨ k = 2 := by omega
            rcases hc with h | h | h <;> rw [h] <;> omega
          have i1 : ((k + 1 : Nat) : Int) < 3 := by omega
          have i2 : ((k + 1 : Nat) : Int) < (l.length : Int) := by omega
          have i3 : (0 : Int) ≤ ((k + 1 : Nat) : Int) := by omega
          generalize l[k + 1] = y at *
          generalize beg l 3 k = g at *
          clear ck0
          go_wp2
          go_roundw
          case rel => exact ⟨k + 1, by omega, by go_num, by rw [hs.out], hbel⟩
          case measure => simp [intOf]; omega
        · have hk1 : k = 2 := by omega
          subst hk1
          go_wp2
          go_ret
          exact ⟨by rw [hr.out]; rfl, hbel⟩
    · have c1W := clW 4 (.int .i64 240) rfl
      have hl0 : lead 4 = 240 := rfl
      rw [hl0] at hbeg0
      go_enter Tryd.func105, Tryd.ntmps105
      go_wp2_with fail
      generalize (w.alloc (.cells #[.int .i64 0, .int .i64 0, .int .i64 192, .int .i64 224, .int .i64 240] 3)) = W at *
      have r1 := cell_regrown c0W
      have r2 := cell_regrown c1W
      refine wp_region_quiet_below (by kernel_rfl) (by kernel_rfl) ?_
      repeat (go_big_quiet_step (fail))
      refine wpQuiet_nil ?_
      intro W2 hw'
      obtain ⟨⟨dq, osq⟩, hw''⟩ := hw'
      have hbq := hWb.trans ((below_regrown W dq osq).mono hWb.size)
      rw [← hw''] at hbq
      clear hw'' r1 r2 c0W c1W clW hWb c0
      rw [← hbeg0.out]
      go_wp2
      go_loopw [6, 7] (fun x i wr => ∃ (k : Nat), k + 1 ≤ 4 ∧ i = .int .i64 ((k + 1 : Nat) : Int) ∧ x = .int .i64 (beg l 4 k) ∧ Below w.heap.size w wr) (fun _ i _ => 4 - (intOf i).toNat)
      case atStart => exact ⟨0, by omega, rfl, rfl, hbq⟩
      case round =>
        obtain ⟨k, hk, rfl, rfl, hbel⟩ := hrel
        by_cases hkk : k + 1 < 4
        · have hlk : k + 1 < l.length := by omega
          have ck0 := HC.out (k + 1) hlk
          have ck := (hbel.cell (World.block_lt_of_cell? w _ ck0)).trans ck0
          have hs : Hid (beg l 4 (k + 1) = beg l 4 k * 64 + ch l[k + 1] - 128) := by
            show _ = _
            simp only [beg, List.getD, List.getElem?_eq_getElem hlk, Option.getD_some]
          have hcb := chBd l[k + 1]
          have hbk : -1300000 ≤ beg l 4 k ∧ beg l 4 k ≤ 1300000 := by
            have := HB.out
            have hc : k = 0 ∨ k = 1 ∨ k = 2 := by omega
            rcases hc with h | h | h <;> rw [h] <;> omega
          have i1 : ((k + 1 : Nat) : Int) < 4 := by omega
          have i2 : ((k + 1 : Nat) : Int) < (l.length : Int) := by omega
          have i3 : (0 : Int) ≤ ((k + 1 : Nat) : Int) := by omega
          generalize l[k + 1] = y at *
          generalize beg l 4 k = g at *
          clear ck0
          go_wp2
          go_roundw
          case rel => exact ⟨k + 1, by omega, by go_num, by rw [hs.out], hbel⟩
          case measure => simp [intOf]; omega
        · have hk1 : k = 3 := by omega
          subst hk1
          go_wp2
          go_ret
          exact ⟨by rw [hr.out]; rfl, hbel⟩
end Go.Proofs.YteegbjjpjdlcmaaDoor

/- rubrickref04.Decode. -/
set_option linter.unusedVariables false
namespace Go.Proofs.YteegbjjpjdlcmaaDoor
open Go.RowKit Go.Sort

section
variable {P : Program} {ops : Array Oper} {Q : Exit → Act → World → Prop} {md : Region.Mode}
/-- more may be held from here on. -/
theorem anyL_mono {S S' : World → Prop} (hS : ∀ w, S' w → S w) {last : Nat} : ∀ (fuel : Nat) (listed : Array Bool) (a : Act) (w : World), anyL P md ops Q S' last fuel listed a w → anyL P md ops Q S last fuel listed a w := by
  intro fuel
  induction fuel with
  | zero => intro listed a w h; exact h
  | succ fuel ih =>
    intro listed a w h
    exact ⟨h.1, fun i hi => wpOp_mono (fun a' w' h' => ⟨fun hl => hS _ (h'.1 hl), ih _ _ _ h'.2⟩) (h.2 i hi)⟩
/-- two operations that may come up now. -/
theorem L_two {S : World → Prop} {last : Nat} (i j : Nat) {oi oj : Oper} {fuel : Nat} {listed : Array Bool} {a : Act} {w : World} (hr : Region.ready md ops listed = [i, j]) (hi : ops[i]? = some oi) (hj : ops[j]? = some oj)
    (h1 : ∀ K : Act → World → Prop, (∀ a' w', S w' → anyL P md ops Q S last fuel (listed.setIfInBounds i true) a' w' → K a' w') → if Region.wanted oi (yielded ops a.tmps) = true then Oper.wp P oi a w K Q else K (a.put oi.dst undef) w)
    (h2 : ∀ K : Act → World → Prop, (∀ a' w', S w' → anyL P md ops Q S last fuel (listed.setIfInBounds j true) a' w' → K a' w') → if Region.wanted oj (yielded ops a.tmps) = true then Oper.wp P oj a w K Q else K (a.put oj.dst undef) w) :
    anyL P md ops Q S last (fuel + 1) listed a w := by
  refine ⟨fun h0 => ?_, fun k hk => ?_⟩
  · rw [h0] at hr; cases hr
  · rw [hr] at hk
    rcases List.mem_cons.1 hk with rfl | hk
    · exact wpOp_step hi (fun K' hK => h1 K' (fun a' w' g1 g2 => hK a' w' ⟨fun _ => g1, g2⟩))
    · obtain rfl := List.mem_singleton.1 hk
      exact wpOp_step hj (fun K' hK => h2 K' (fun a' w' g1 g2 => hK a' w' ⟨fun _ => g1, g2⟩))
end

/-- a part of bytes. -/
theorem rd_cut {W : World} {b off c : Nat} {l : List UInt8} (hcell : ∀ i (hi : i < l.length), W.cell? ⟨b, off + i, none⟩ = some (.int .u8 (ch l[i]))) (hc : l.length ≤ c) (hcm : c ≤ maxLen) (p m : Nat) (h0 : 0 < m) (hm : p + m ≤ l.length) :
    Rd W (.slice (some ⟨b, off + p, none⟩) m (c - p)) ((l.drop p).take m).length 1 (bcells ((l.drop p).take m)) := by
  have hlen : ((l.drop p).take m).length = m := by rw [List.length_take, List.length_drop]; omega
  rw [hlen]
  refine ⟨by rw [bcells_len, hlen]; omega, by omega, .inr ⟨b, off + p, c - p, rfl, h0, by omega, by omega, fun i u hu => ?_⟩⟩
  have hi : i < m := by
    have := (List.getElem?_eq_some_iff.1 hu).1
    rw [bcells_len, hlen] at this
    exact this
  have h1 := hcell (p + i) (by omega)
  rw [show off + p + i = off + (p + i) from by omega, h1, ← hu]
  simp only [bcells, List.getElem?_map, List.getElem?_take, List.getElem?_drop]
  rw [if_pos hi, List.getElem?_eq_getElem (by omega)]
  rfl

set_option maxRecDepth 100000 in
set_option maxHeartbeats 8000000 in
theorem rdecode_any (v : Value) (l : List UInt8) (w : World) (h : Rd w v l.length 1 (bcells l)) (hn : l.length ≤ 100000) :
    Calls Tryd.prog 84 #[v] w (Gives w 3 1 (decode l).length (icells (decode l))) := by
  obtain ⟨i0, hi, hz0, hz1, hz2⟩ := info_parts infoInt
  rcases Nat.eq_zero_or_pos l.length with h0 | h0
  · have hx : l = [] := List.length_eq_zero_iff.1 h0
    subst hx
    obtain ⟨-, -, ⟨ao, c, rfl, -⟩ | ⟨b, off, c, -, h1, -⟩⟩ := h
    · go_enter Tryd.func84, Tryd.ntmps84
      go_wp2
      refine wp_loop_rounds 1 ?_; rw [rounds_succ]
      go_wp2
      go_ret
      exact ⟨_, rfl, World.ownsRow_nil _ _ _ _, Below.refl _ _⟩
    · simp at h1
  · obtain ⟨b, off, c, rfl, hnc, hcm, hcell⟩ := bytes_cells h h0
    have HC := Lib.hid hcell; clear hcell h
    unfold maxLen at hcm
    go_enter Tryd.func84, Tryd.ntmps84
    go_wp2
    go_loopw [3, 4] (fun o i wr => ∃ (p : Nat) (cs : List Int), p ≤ l.length ∧ i = .int .i64 p ∧ Hid (decode l = cs ++ decode (l.drop p)) ∧ cs.length ≤ p ∧ wr.ownsRow w.heap.size 3 1 o cs.length (icells cs) ∧ Below w.heap.size w wr) (fun _ i _ => l.length - (intOf i).toNat)
    case atStart => exact ⟨0, [], Nat.zero_le _, rfl, rfl, Nat.le_refl _, World.ownsRow_nil _ _ _ _, Below.refl _ _⟩
    case round =>
      obtain ⟨p, cs, hp, rfl, HD, hcs, hown, hbel⟩ := hrel
      have hsz := hbel.size
      by_cases hlt : p < l.length
      · have HF : Hid ((first (l.drop p)) = refFirst (l.drop p) 4) := (refFirst_is (l.drop p) (by intro e; have := congrArg List.length e; simp at this; omega)).symm
        have hlti : (p : Int) < (l.length : Int) := by omega
        obtain ⟨oa, oc, rfl⟩ := own_shape hown
        have hne : l.drop p ≠ [] := by intro e; have := congrArg List.length e; simp at this; omega
        have hdl : (l.drop p).length = l.length - p := List.length_drop
        go_wp2
        go_loopw [5, 6, 7] (fun cv nv kv W => ∃ k : Nat, k ≤ 4 ∧ kv = .int .i64 ((k + 1 : Nat) : Int) ∧ cv = .int .i64 (refFirst (l.drop p) k).1 ∧ nv = .int .i64 ((refFirst (l.drop p) k).2 : Nat) ∧ W.ownsRow w.heap.size 3 1 (.slice oa cs.length oc) cs.length (icells cs) ∧ Below w.heap.size w W) (fun _ _ kv _ => 6 - (intOf kv).toNat)
        case atStart => exact ⟨0, by omega, rfl, rfl, rfl, hown, hbel⟩
        case round =>
          clear hown hbel hsz
          obtain ⟨k, hk, rfl, rfl, rfl, hown, hbel⟩ := hrel
          have hsz := hbel.size
          by_cases hk4 : k < 4
          · have hki : ((k + 1 : Nat) : Int) ≤ 4 := by omega
            have hcW : ∀ W, Below w.heap.size w W → ∀ i (hi : i < l.length), W.cell? ⟨b, off + i, none⟩ = some (.int .u8 (ch l[i])) := fun W hb i hi => by
              have h1 := HC.out i hi
              exact (hb.cell (World.block_lt_of_cell? w _ h1)).trans h1
            have hrd0 := rd_cut (hcW wr hbel) hnc (by unfold maxLen; omega) p (l.length - p) (by omega) (by omega)
            rw [show (l.drop p).take (l.length - p) = l.drop p from List.take_of_length_le (by omega)] at hrd0
            have hbeg := begins_any _ (l.drop p) (k + 1) wr hrd0 (by omega) (by omega) (by omega)
            have HB := Lib.hid hbeg
            have hRD := Lib.hid (fun W hb m h0 hm => rd_cut (hcW W hb) hnc (by unfold maxLen; omega) p m h0 hm)
            clear hbeg hrd0 hcW
            have g0 : (0 : Int) ≤ (p : Int) := by omega
            have g1 : (p : Int) ≤ (l.length : Int) := by omega
            have hbd := begins_bd (l.drop p) (k + 1) (by omega)
            have hfit : Hid (fitsN (l.drop p) (k + 1) = (isChar (begins (l.drop p) (k + 1)) && enc (begins (l.drop p) (k + 1)) == (l.drop p).take (k + 1))) := rfl
            have href : Hid (refFirst (l.drop p) (k + 1) = if fitsN (l.drop p) (k + 1) then (begins (l.drop p) (k + 1), k + 1) else refFirst (l.drop p) k) := rfl
            generalize begins (l.drop p) (k + 1) = x at *
            by_cases hch : isChar x = true
            · have hx0 := isChar_bd hch
              obtain ⟨m, hm1, hm2, hm3, hmt⟩ : ∃ m : Nat, 0 < m ∧ p + m ≤ l.length ∧ (if (p : Int) + ((k + 1 : Nat) : Int) < (l.length : Int) then (p : Int) + ((k + 1 : Nat) : Int) else (l.length : Int)) = ((p + m : Nat) : Int) ∧ (l.drop p).take (k + 1) = (l.drop p).take m := by
                by_cases hx : p + (k + 1) < l.length
                · exact ⟨k + 1, by omega, by omega, by rw [if_pos (by omega)]; omega, rfl⟩
                · exact ⟨l.length - p, by omega, by omega, by rw [if_neg (by omega)]; omega, by rw [List.take_of_length_le (by omega), List.take_of_length_le (by omega)]⟩
              rw [hch, Bool.true_and, hmt] at hfit
              have T0 : Hid (∀ W, Calls Tryd.prog 106 #[.int .i64 x] W fun e w' => e = .returned (.bool true) ∧ W = w') := fun W => by have := rright_any x W; rw [hch] at this; exact this
              have T1 : Hid (∀ W, Calls Tryd.prog 107 #[.int .i64 x] W (Gives W 5 1 (enc x).length (bcells (enc x)))) := fun W => rencode_any x W hx0.1 hx0.2
              have T2 : Hid (∀ W, Calls Tryd.prog 108 #[.int .i64 ((p : Int) + ((k + 1 : Nat) : Int)), .int .i64 l.length] W fun e w' => e = .returned (.int .i64 ((p + m : Nat) : Int)) ∧ W = w') := fun W => by have := rleast_any ((p : Int) + ((k + 1 : Nat) : Int)) l.length W; rw [hm3] at this; exact this
              have g2 : (p : Int) ≤ ((p + m : Nat) : Int) := by omega
              have g3 : ((p + m : Nat) : Int) ≤ (c : Int) := by omega
              have g4 : ((p + m : Nat) : Int) - (p : Int) = (m : Int) := by omega
              have hw : IntKind.i64.wrap ((p : Int) + ((k + 1 : Nat) : Int)) = (p : Int) + ((k + 1 : Nat) : Int) := by rw [IntKind.wrap_i64]; omega
              have hst : Hid (∀ (W : World) (v4 : Value), W.ownsRow w.heap.size 5 1 v4 (enc x).length (bcells (enc x)) → (convert 72 9 v4).run Tryd.prog W = .ok (.string (bstr (enc x))) W) := fun W v4 h4 => run_to_string W 72 9 5 Tryd.underlying72 Tryd.underlying5 Tryd.underlying9 _ (enc x) (Rd.of_own h4)
              have hst2 : Hid (∀ (W : World), Below w.heap.size w W → (convert 72 9 (.slice (some ⟨b, off + p, none⟩) m (c - p))).run Tryd.prog W = .ok (.string (bstr ((l.drop p).take m))) W) := fun W hb => run_to_string W 72 9 5 Tryd.underlying72 Tryd.underlying5 Tryd.underlying9 _ ((l.drop p).take m) (hRD.out W hb m hm1 hm2)
              generalize (l.drop p).take m = y at *
              generalize enc x = ex at *
              clear hch hbd hm3 hRD
              generalize hkq : ((k + 1 : Nat) : Int) = kq at *
              generalize hpm : ((p + m : Nat) : Int) = pm at *
              go_wp2_with (go_at_call 105; refine HB.out.mono ?_; rintro e w1 ⟨rfl, hb1⟩)
              have hbw1 := hbel.trans (hb1.mono hsz)
              have hfin : Hid (∀ W, Below w1.heap.size w1 W → W.ownsRow w.heap.size 3 1 (.slice oa cs.length oc) cs.length (icells cs) ∧ Below w.heap.size w W) := fun W hW => ⟨own_below' (own_below' hown hb1) hW, hbw1.trans (hW.mono hbw1.size)⟩
              refine L_begin (fun W => Below w1.heap.size w1 W) 16 (by kernel_rfl) ?_
              have hs0 : Below w1.heap.size w1 w1.drew := (Below.refl _ _).drew
              generalize w1.drew = wd at *
              refine L_free (fuel := 17) 0 (.int .i64 x) rfl (by kernel_rfl) (by kernel_rfl) (by kernel_rfl) (by kernel_rfl) (fun _ _ _ h => h) (by kernel_rfl) ?_ (hs0) ?_
              · intro W
                go_simp
              refine L_one (fuel := 16) 1 (by kernel_rfl) rfl ?_
              intro K hK
              go_simp
              refine (T0.out _).mono ?_
              rintro e w' ⟨rfl, rfl⟩
              go_simp
              refine hK _ _ hs0 ?_
              clear hK K
              refine L_free (fuel := 15) 2 (.bool true) rfl (by kernel_rfl) (by kernel_rfl) (by kernel_rfl) (by kernel_rfl) (fun _ _ _ h => h) (by kernel_rfl) ?_ (hs0) ?_
              · intro W
                go_simp
              refine L_free (fuel := 14) 3 (.int .i64 x) rfl (by kernel_rfl) (by kernel_rfl) (by kernel_rfl) (by kernel_rfl) (fun _ _ _ h => h) (by kernel_rfl) ?_ (hs0) ?_
              · intro W
                go_simp
              refine L_free (fuel := 13) 6 (.slice (some ⟨b, off, none⟩) l.length c) rfl (by kernel_rfl) (by kernel_rfl) (by kernel_rfl) (by kernel_rfl) (fun _ _ _ h => h) (by kernel_rfl) ?_ (hs0) ?_
              · intro W
                go_simp
              refine L_free (fuel := 12) 7 (.int .i64 p) rfl (by kernel_rfl) (by kernel_rfl) (by kernel_rfl) (by kernel_rfl) (fun _ _ _ h => h) (by kernel_rfl) ?_ (hs0) ?_
              · intro W
                go_simp
              refine L_free (fuel := 11) 8 (.int .i64 p) rfl (by kernel_rfl) (by kernel_rfl) (by kernel_rfl) (by kernel_rfl) (fun _ _ _ h => h) (by kernel_rfl) ?_ (hs0) ?_
              · intro W
                go_simp
              refine L_free (fuel := 10) 9 (.int .i64 kq) rfl (by kernel_rfl) (by kernel_rfl) (by kernel_rfl) (by kernel_rfl) (fun _ _ _ h => h) (by kernel_rfl) ?_ (hs0) ?_
              · intro W
                go_simp
              refine L_free (fuel := 9) 10 (.int .i64 ((p : Int) + kq)) rfl (by kernel_rfl) (by kernel_rfl) (by kernel_rfl) (by kernel_rfl) (fun _ _ _ h => h) (by kernel_rfl) ?_ (hs0) ?_
              · intro W
                go_simp
              refine L_free (fuel := 8) 11 (.slice (some ⟨b, off, none⟩) l.length c) rfl (by kernel_rfl) (by kernel_rfl) (by kernel_rfl) (by kernel_rfl) (fun _ _ _ h => h) (by kernel_rfl) ?_ (hs0) ?_
              · intro W
                go_simp
              refine L_free (fuel := 7) 12 (.int .i64 l.length) rfl (by kernel_rfl) (by kernel_rfl) (by kernel_rfl) (by kernel_rfl) (fun _ _ _ h => h) (by kernel_rfl) ?_ (hs0) ?_
              · intro W
                go_simp
              refine L_one (fuel := 6) 4 (by kernel_rfl) rfl ?_
              intro K hK
              go_simp
              refine (T1.out _).mono ?_
              rintro e w4 ⟨v4, rfl, hown4, hb4⟩
              have hs4 : Below w1.heap.size w1 w4 := hs0.trans (hb4.mono hs0.size)
              have hown4' := own_mono hown4 (Nat.le_trans hbw1.size hs0.size)
              obtain ⟨a4, c4, rfl⟩ := own_shape hown4
              go_simp
              refine hK _ _ hs4 ?_
              clear hK K
              refine anyL_mono (S' := fun W => Below w4.heap.size w4 W) (fun W hW => hs4.trans (hW.mono hs4.size)) _ _ _ _ ?_
              have hz4 : Below w4.heap.size w4 w4 := Below.refl _ _
              refine L_take (fuel := 5) 5 (.string (bstr ex)) rfl (by kernel_rfl) (by kernel_rfl) (by kernel_rfl) (by kernel_rfl) (fun _ _ _ h => h) (by kernel_rfl) ?_ hz4 ?_
              · intro W hW
                have hq := hst.out W _ (own_below' hown4' hW)
                go_simp
              refine L_one (fuel := 4) 13 (by kernel_rfl) rfl ?_
              intro K hK
              go_simp
              refine (T2.out _).mono ?_
              rintro e w' ⟨rfl, rfl⟩
              go_simp
              refine hK _ _ hz4 ?_
              clear hK K
              refine L_free (fuel := 3) 14 (.slice (some ⟨b, off + p, none⟩) m (c - p)) rfl (by kernel_rfl) (by kernel_rfl) (by kernel_rfl) (by kernel_rfl) (fun _ _ _ h => h) (by kernel_rfl) ?_ hz4 ?_
              · intro W
                go_simp
                exact ⟨fun h => by omega, by omega⟩
              refine L_take (fuel := 2) 15 (.string (bstr y)) rfl (by kernel_rfl) (by kernel_rfl) (by kernel_rfl) (by kernel_rfl) (fun _ _ _ h => h) (by kernel_rfl) ?_ hz4 ?_
              · intro W hW
                have hq := hst2.out W ((hfin.out _ hs4).2.trans (hW.mono (hfin.out _ hs4).2.size))
                go_simp
              refine L_one (fuel := 1) 16 (by kernel_rfl) rfl ?_
              intro K hK
              go_simp
              rw [btoList, btoList]
              have hF := hfin.out _ hs4
              by_cases heq : ex = y
              · have hbt : (ex == y) = true := by simp [heq]
                have hbd : decide (ex = y) = true := by simp [heq]
                first | rw [hbt] | rw [hbd]
                go_simp
                refine hK _ _ hz4 ?_
                clear hK K
                refine L_one (fuel := 0) 17 (by kernel_rfl) rfl ?_
                intro K hK
                go_simp
                refine hK _ _ hz4 ?_
                clear hK K
                refine L_done (by kernel_rfl) ?_ 0
                subst hkq
                have hnf : Hid (refFirst (l.drop p) (k + 1) = (x, k + 1)) := by
                  show _ = _
                  rw [href.out, hfit.out]
                  rw [if_pos (by simpa using heq)]
                go_wp2
                go_roundw
                case rel => exact ⟨k + 1, by omega, by go_num, by rw [hnf.out], by rw [hnf.out], hF.1, hF.2⟩
                case measure => simp [intOf]; omega
              · have hbt : (ex == y) = false := by simp [heq]
                have hbd : decide (ex = y) = false := by simp [heq]
                first | rw [hbt] | rw [hbd]
                go_simp
                refine hK _ _ hz4 ?_
                clear hK K
                refine L_one (fuel := 0) 17 (by kernel_rfl) rfl ?_
                intro K hK
                go_simp
                refine hK _ _ hz4 ?_
                clear hK K
                refine L_done (by kernel_rfl) ?_ 0
                subst hkq
                have hnf : Hid (refFirst (l.drop p) (k + 1) = refFirst (l.drop p) k) := by
                  show _ = _
                  rw [href.out, hfit.out]
                  rw [if_neg (by simpa using heq)]
                go_wp2
                go_roundw
                case rel => exact ⟨k + 1, by omega, by go_num, by rw [hnf.out], by rw [hnf.out], hF.1, hF.2⟩
                case measure => simp [intOf]; omega
            · have hch' : isChar x = false := by simpa using hch
              have hnf : refFirst (l.drop p) (k + 1) = refFirst (l.drop p) k := by rw [href.out, hfit.out, hch']; rfl
              have HNF := Lib.hid hnf
              have T0 := fun W => rright_any x W
              rw [hch'] at T0
              clear hch hch' hnf hfit href
              go_wp2_with (go_at_call 105; refine HB.out.mono ?_; rintro e w1 ⟨rfl, hb1⟩)
              have T1 := fun d os => Calls.regrown_of ((T0 (grow (redrawn w1 d) os)).mono fun e w' ⟨h1, h2⟩ => ⟨h1, by rw [← h2]; exact Below.refl _ _⟩)
              refine wp_region_quiet_below (by kernel_rfl) (by kernel_rfl) ?_
              repeat (go_big_quiet_step (first | (go_at_call 106; with_reducible exact T1 _ _)))
              refine wpQuiet_nil ?_
              intro W2 hw'
              obtain ⟨⟨dq, osq⟩, hw''⟩ := hw'
              have hb2 := hb1.trans ((below_regrown w1 dq osq).mono hb1.size)
              rw [← hw''] at hb2
              clear hw'' T1
              go_wp2
              go_roundw
              case rel => exact ⟨k + 1, by omega, by go_num, by rw [HNF.out], by rw [HNF.out], own_below' hown hb2, hbel.trans (hb2.mono hsz)⟩
              case measure => simp [intOf]; omega
          · have hk4' : k = 4 := by omega
            subst hk4'
            have hki : ¬ ((4 + 1 : Nat) : Int) ≤ 4 := by omega
            rw [← HF.out]
            have hfl := first_len (l.drop p) hne
            have hds := decode_step (l.drop p) hne
            rw [List.drop_drop] at hds
            have HDS := Lib.hid hds
            generalize first (l.drop p) = fr at *
            obtain ⟨cc, m⟩ := fr
            simp only at hfl HDS
            rw [hdl] at hfl
            clear hds
            have hcl : cs.length < 100001 := by omega
            have hnews : ∀ u ∈ [Value.int .i64 cc], u.oneCell' = true := by intro u hu; simp at hu; subst hu; rfl
            have HN := Lib.hid hnews; clear hnews
            go_wp2_with (at_builtin; refine wpList_app rfl _ _ _ _ rfl w.heap.size 3 i0 _ 1 8 Tryd.underlying41 hi hz0 hz1 hz2 rfl (.slice oa cs.length oc) cs.length _ rfl (hown.alloc _) _ 1 [.int .i64 cc] rfl (src_new Tryd.underlying41 wr _ 1 1 1 rfl HN.out) (by unfold maxLen; omega) (by omega) (by simp; omega) ?_; intro v' w1 hown1 hgr _ _; have hbf : Below w.heap.size w w1 := (hbel.alloc hsz _).grown hgr (by simp; omega) (fun j hj => (hown.lt j hj).1); obtain ⟨na, nc, rfl⟩ := own_shape hown1)
            go_roundw
            case rel => exact ⟨p + m, cs ++ [cc], by omega, by go_num, by show _ = _; rw [HD.out, HDS.out]; simp, by simp; omega, by simpa [icells] using hown1, hbf⟩
            case measure => simp [intOf]; omega
      · have hp0 : p = l.length := by omega
        subst hp0
        have hlti : ¬ (l.length : Int) < (l.length : Int) := by omega
        go_wp2
        go_ret
        have hd := HD.out
        rw [List.drop_length, decode_nil, List.append_nil] at hd
        rw [hd]
        exact ⟨_, rfl, hown, hbel⟩
end Go.Proofs.YteegbjjpjdlcmaaDoor

/- rubrickref05.Right. -/
set_option linter.unusedVariables false
namespace Go.Proofs.YteegbjjpjdlcmaaDoor
open Go.RowKit Go.Sort

def goodC (c : Int) : Bool := inWord c && small c == c

set_option maxRecDepth 100000 in
set_option maxHeartbeats 4000000 in
theorem rtok05_any (s : List UInt8) (w : World) (hn : s.length ≤ 100000) :
    Calls Tryd.prog 51 #[.string (bstr s)] w fun e w' => e = .returned (.bool (rightTok s)) ∧ Below w.heap.size w w' := by
  have hconv := run_bytes_of_string (P := Tryd.prog) w 9 72 5 (bstr s) Tryd.underlying9 Tryd.underlying72 Tryd.underlying5
  have hrd := rd_bytes w s 5 (by unfold maxLen; omega)
  generalize hW : (w.drew.alloc (.cells (bytesRow (bstr s) (grownCap w (bstr s).size 0 5)) 5 ((bytesRow (bstr s) (grownCap w (bstr s).size 0 5)).size, (bytesRow (bstr s) (grownCap w (bstr s).size 0 5)).size + 1))) = W at *
  have hbW : Below w.heap.size w W := by rw [← hW]; exact ((Below.refl _ _).drew).alloc (Nat.le_refl _) _
  clear hW
  generalize (Value.slice (some ⟨w.heap.size, 0, none⟩) (bstr s).size (grownCap w (bstr s).size 0 5)) = v at *
  have hD := rdecode_any v s W hrd hn
  have hbd := decode_bd s
  have hlen := decode_len s
  have hr : rightTok s = ((decode s).all goodC && decide (0 < (decode s).length) && decide (s.length ≤ 64)) := by rw [← refTok_is]; rfl
  have hsz := size_bstr s
  generalize decode s = cs at *
  have HD := Lib.hid hD
  have HR := Lib.hid hr
  have HBD := Lib.hid hbd
  clear hD hrd hr hbd
  go_enter Tryd.func51, Tryd.ntmps51
  go_wp2_with (go_at_call 84; refine HD.out.mono ?_; rintro e w1 ⟨v1, rfl, hown1, hb1⟩; have hB1 : Below w.heap.size w w1 := hbW.trans (hb1.mono hbW.size))
  rcases Nat.eq_zero_or_pos cs.length with h0 | h0
  · have hx : cs = [] := List.length_eq_zero_iff.1 h0
    subst hx
    obtain ⟨a1, c1, rfl⟩ := own_shape hown1
    refine wp_loop_rounds 1 ?_; rw [rounds_succ]
    go_wp2
    go_ret
    exact ⟨by rw [HR.out]; rfl, hB1⟩
  · obtain ⟨g, c1, rfl⟩ := own_form hown1 h0
    go_loopw [4] (fun i wr => ∃ k : Nat, k ≤ cs.length ∧ i = .int .i64 k ∧ Hid ((cs.take k).all goodC = true) ∧ Below w1.heap.size w1 wr) (fun i _ => cs.length - (intOf i).toNat)
    case atStart => exact ⟨0, Nat.zero_le _, rfl, rfl, Below.refl _ _⟩
    case round =>
      obtain ⟨k, hk, rfl, HT, hbel⟩ := hrel
      have hbB := hB1.trans (hbel.mono hB1.size)
      by_cases hlt : k < cs.length
      · have hc0 := (own_below' hown1 hbel).cellAt k (by omega)
        rw [show (icells cs)[k]? = some (.int .i64 cs[k]) from by simp [icells, hlt]] at hc0
        have r1 := cell_regrown hc0
        have hcb := HBD.out cs[k] (List.getElem_mem hlt)
        have hin : (cs[k]) ∈ cs := List.getElem_mem hlt
        have hgood : Hid (∀ h : goodC cs[k] = true, (cs.take (k + 1)).all goodC = true) := fun h => by
          rw [List.take_succ_eq_append_getElem hlt, List.all_append, HT.out]
          simp [h]
        have hbad : Hid (goodC cs[k] = false → cs.all goodC = false) := fun h => by
          rw [List.all_eq_false]
          exact ⟨_, hin, by simp [h]⟩
        have hgd : Hid (goodC cs[k] = (inWord cs[k] && small cs[k] == cs[k])) := rfl
        generalize cs[k] = x at *
        have i1 : (k : Int) < (cs.length : Int) := by omega
        have i2 : (0 : Int) ≤ (k : Int) := by omega
        clear hc0 hin
        cases hiw : inWord x with
        | false =>
          have hgf : goodC x = false := by rw [hgd.out, hiw]; rfl
          have T1 := fun d os => Calls.regrown_of ((rin_any x (grow (redrawn wr d) os)).mono fun e w' ⟨h1, h2⟩ => ⟨h1, by rw [← h2]; exact Below.refl _ _⟩)
          rw [hiw] at T1
          have HX := Lib.hid (hbad.out hgf)
          clear hgood hbad hgd hiw hgf
          go_wp2_with fail
          refine wp_region_quiet_below (by kernel_rfl) (by kernel_rfl) ?_
          repeat (go_big_quiet_step (first | (go_at_call 85; with_reducible exact T1 _ _)))
          refine wpQuiet_nil ?_
          intro W2 hw'
          obtain ⟨⟨dq, osq⟩, hw''⟩ := hw'
          have hbq := hbB.trans ((below_regrown wr dq osq).mono hbB.size)
          rw [← hw''] at hbq
          clear hw'' T1 r1
          go_wp2
          go_ret
          exact ⟨by rw [HR.out, HX.out]; rfl, hbq⟩
        | true =>
          have T1 := fun d os => Calls.regrown_of ((rin_any x (grow (redrawn wr d) os)).mono fun e w' ⟨h1, h2⟩ => ⟨h1, by rw [← h2]; exact Below.refl _ _⟩)
          rw [hiw] at T1
          have T2 := fun d os => Calls.regrown_of ((rsmall_any x (grow (redrawn wr d) os) (by omega) (by omega)).mono fun e w' ⟨h1, h2⟩ => ⟨h1, by rw [← h2]; exact Below.refl _ _⟩)
          by_cases hsm : small x = x
          · have hgf : goodC x = true := by rw [hgd.out, hiw, hsm]; simp
            rw [hsm] at T2
            have HX := Lib.hid (hgood.out hgf)
            have n1 : (x != x) = false := by simp
            clear hgood hbad hgd hiw hgf hsm
            go_wp2_with fail
            refine wp_region_quiet_below (by kernel_rfl) (by kernel_rfl) ?_
            repeat (go_big_quiet_step (first | (go_at_call 85; with_reducible exact T1 _ _) | (go_at_call 86; with_reducible exact T2 _ _)))
            refine wpQuiet_nil ?_
            intro W2 hw'
            obtain ⟨⟨dq, osq⟩, hw''⟩ := hw'
            have hbq := hbel.trans ((below_regrown wr dq osq).mono hbel.size)
            rw [← hw''] at hbq
            clear hw'' T1 T2 r1
            go_wp2
            go_roundw
            case rel => exact ⟨k + 1, by omega, by go_num, HX.out, hbq⟩
            case measure => simp [intOf]; omega
          · have hgf : goodC x = false := by rw [hgd.out]; simp [hsm]
            have HX := Lib.hid (hbad.out hgf)
            have n1 : (small x != x) = true := by rw [bne_iff_ne]; exact hsm
            generalize small x = y at *
            clear hgood hbad hgd hiw hgf hsm
            go_wp2_with fail
            refine wp_region_quiet_below (by kernel_rfl) (by kernel_rfl) ?_
            repeat (go_big_quiet_step (first | (go_at_call 85; with_reducible exact T1 _ _) | (go_at_call 86; with_reducible exact T2 _ _)))
            refine wpQuiet_nil ?_
            intro W2 hw'
            obtain ⟨⟨dq, osq⟩, hw''⟩ := hw'
            have hbq := hbB.trans ((below_regrown wr dq osq).mono hbB.size)
            rw [← hw''] at hbq
            clear hw'' T1 T2 r1
            go_wp2
            go_ret
            exact ⟨by rw [HR.out, HX.out]; rfl, hbq⟩
      · have hke : k = cs.length := by omega
        subst hke
        have i0 : (0 : Int) < (cs.length : Int) := by omega
        have hall : cs.all goodC = true := by have := HT.out; rw [List.take_length] at this; exact this
        by_cases h64 : s.length ≤ 64
        · have i1 : (((bstr s).size : Nat) : Int) ≤ 64 := by omega
          have hrt : rightTok s = true := by rw [HR.out, hall]; simp; omega
          have HRT := Lib.hid hrt
          clear hrt hall HR
          go_wp2
          go_ret
          exact ⟨by rw [HRT.out]; first | rfl | (simp; omega), hbB⟩
        · have i1 : ¬ (((bstr s).size : Nat) : Int) ≤ 64 := by omega
          have hrt : rightTok s = false := by rw [HR.out]; simp [h64]
          have HRT := Lib.hid hrt
          clear hrt hall HR
          go_wp2
          go_ret
          exact ⟨by rw [HRT.out]; first | rfl | (simp; omega), hbB⟩
end Go.Proofs.YteegbjjpjdlcmaaDoor
