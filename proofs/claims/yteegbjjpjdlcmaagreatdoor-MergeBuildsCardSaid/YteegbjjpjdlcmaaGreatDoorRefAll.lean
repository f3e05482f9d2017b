/- Ref04a, Ref04b, Ref04c, Ref05a, Ref05t: in one text. -/
import Derived.Test.YteegbjjpjdlcmaaGreatDoorEncode
import Derived.Test.YteegbjjpjdlcmaaGreatDoorRefLaw
import Derived.BigQuiet
import Derived.Lib.QuietBelow
import Derived.Test.YteegbjjpjdlcmaaGreatDoorHeld
import Derived.Test.YteegbjjpjdlcmaaGreatDoorTerm
import Derived.Test.YteegbjjpjdlcmaaGreatDoorTerms
/- rubrickref04: in, Letter, Small, Right, least, Encode; rubrickref05.In. -/
set_option linter.unusedVariables false
namespace Go.Proofs.YteegbjjpjdlcmaaGreatDoor
open Go.RowKit

theorem in_yes (c x y : Int) (w : World) (h1 : x ≤ c) (h2 : c ≤ y) : Calls Tryz.prog 83 #[.int .i64 c, .int .i64 x, .int .i64 y] w fun e w' => e = .returned (.bool true) ∧ w = w' := by
  go_enter Tryz.func83, Tryz.ntmps83
  go_wp2
  go_ret
  exact ⟨by first | rfl | exact ret_bool (decide_eq_true h2), rfl⟩
theorem in_low (c x y : Int) (w : World) (h1 : c < x) : Calls Tryz.prog 83 #[.int .i64 c, .int .i64 x, .int .i64 y] w fun e w' => e = .returned (.bool false) ∧ w = w' := by
  have h2 : ¬ x ≤ c := by omega
  go_enter Tryz.func83, Tryz.ntmps83
  go_wp2
  go_ret
  exact ⟨rfl, rfl⟩
theorem in_high (c x y : Int) (w : World) (h0 : x ≤ c) (h1 : y < c) : Calls Tryz.prog 83 #[.int .i64 c, .int .i64 x, .int .i64 y] w fun e w' => e = .returned (.bool false) ∧ w = w' := by
  have h2 : ¬ c ≤ y := by omega
  go_enter Tryz.func83, Tryz.ntmps83
  go_wp2
  go_ret
  exact ⟨by first | rfl | exact ret_bool (decide_eq_false h2), rfl⟩
theorem in_not (c x y : Int) (w : World) (h : c < x ∨ y < c) : Calls Tryz.prog 83 #[.int .i64 c, .int .i64 x, .int .i64 y] w fun e w' => e = .returned (.bool false) ∧ w = w' := by
  by_cases h1 : c < x
  · exact in_low c x y w h1
  · exact in_high c x y w (by omega) (by omega)

theorem isLetter_iff (c : Int) : isLetter c = true ↔ (65 ≤ c ∧ c ≤ 90) ∨ (97 ≤ c ∧ c ≤ 122) ∨ (192 ≤ c ∧ c ≤ 214) ∨ (216 ≤ c ∧ c ≤ 246) ∨ (248 ≤ c ∧ c ≤ 255) ∨ (913 ≤ c ∧ c ≤ 929) ∨ (931 ≤ c ∧ c ≤ 937) ∨ (945 ≤ c ∧ c ≤ 969) ∨ (1024 ≤ c ∧ c ≤ 1119) := by
  simp [isLetter, spans]
set_option maxHeartbeats 1000000 in
theorem rletter_any (c : Int) (w : World) : Calls Tryz.prog 66 #[.int .i64 c] w fun e w' => e = .returned (.bool (isLetter c)) ∧ w = w' := by
  have hiff := isLetter_iff c
  by_cases g0 : 65 ≤ c ∧ c ≤ 90
  · have hr : isLetter c = true := hiff.2 (by omega)
    rw [hr]
    have H0 := Lib.hid (in_yes c 65 90 w g0.1 g0.2)
    clear hiff hr g0
    go_enter Tryz.func66, Tryz.ntmps66
    go_wp2_with (first | (go_at_call 83; with_reducible refine H0.out.mono ?_; rintro e w' ⟨rfl, rfl⟩))
    go_ret
    exact ⟨rfl, rfl⟩
  by_cases g1 : 97 ≤ c ∧ c ≤ 122
  · have hr : isLetter c = true := hiff.2 (by omega)
    rw [hr]
    have H0 := Lib.hid (in_not c 65 90 w (by omega))
    have H1 := Lib.hid (in_yes c 97 122 w g1.1 g1.2)
    clear hiff hr g0 g1
    go_enter Tryz.func66, Tryz.ntmps66
    go_wp2_with (first | (go_at_call 83; with_reducible refine H0.out.mono ?_; rintro e w' ⟨rfl, rfl⟩) | (go_at_call 83; with_reducible refine H1.out.mono ?_; rintro e w' ⟨rfl, rfl⟩))
    go_ret
    exact ⟨rfl, rfl⟩
  by_cases g2 : 192 ≤ c ∧ c ≤ 214
  · have hr : isLetter c = true := hiff.2 (by omega)
    rw [hr]
    have H0 := Lib.hid (in_not c 65 90 w (by omega))
    have H1 := Lib.hid (in_not c 97 122 w (by omega))
    have H2 := Lib.hid (in_yes c 192 214 w g2.1 g2.2)
    clear hiff hr g0 g1 g2
    go_enter Tryz.func66, Tryz.ntmps66
    go_wp2_with (first | (go_at_call 83; with_reducible refine H0.out.mono ?_; rintro e w' ⟨rfl, rfl⟩) | (go_at_call 83; with_reducible refine H1.out.mono ?_; rintro e w' ⟨rfl, rfl⟩) | (go_at_call 83; with_reducible refine H2.out.mono ?_; rintro e w' ⟨rfl, rfl⟩))
    go_ret
    exact ⟨rfl, rfl⟩
  by_cases g3 : 216 ≤ c ∧ c ≤ 246
  · have hr : isLetter c = true := hiff.2 (by omega)
    rw [hr]
    have H0 := Lib.hid (in_not c 65 90 w (by omega))
    have H1 := Lib.hid (in_not c 97 122 w (by omega))
    have H2 := Lib.hid (in_not c 192 214 w (by omega))
    have H3 := Lib.hid (in_yes c 216 246 w g3.1 g3.2)
    clear hiff hr g0 g1 g2 g3
    go_enter Tryz.func66, Tryz.ntmps66
    go_wp2_with (first | (go_at_call 83; with_reducible refine H0.out.mono ?_; rintro e w' ⟨rfl, rfl⟩) | (go_at_call 83; with_reducible refine H1.out.mono ?_; rintro e w' ⟨rfl, rfl⟩) | (go_at_call 83; with_reducible refine H2.out.mono ?_; rintro e w' ⟨rfl, rfl⟩) | (go_at_call 83; with_reducible refine H3.out.mono ?_; rintro e w' ⟨rfl, rfl⟩))
    go_ret
    exact ⟨rfl, rfl⟩
  by_cases g4 : 248 ≤ c ∧ c ≤ 255
  · have hr : isLetter c = true := hiff.2 (by omega)
    rw [hr]
    have H0 := Lib.hid (in_not c 65 90 w (by omega))
    have H1 := Lib.hid (in_not c 97 122 w (by omega))
    have H2 := Lib.hid (in_not c 192 214 w (by omega))
    have H3 := Lib.hid (in_not c 216 246 w (by omega))
    have H4 := Lib.hid (in_yes c 248 255 w g4.1 g4.2)
    clear hiff hr g0 g1 g2 g3 g4
    go_enter Tryz.func66, Tryz.ntmps66
    go_wp2_with (first | (go_at_call 83; with_reducible refine H0.out.mono ?_; rintro e w' ⟨rfl, rfl⟩) | (go_at_call 83; with_reducible refine H1.out.mono ?_; rintro e w' ⟨rfl, rfl⟩) | (go_at_call 83; with_reducible refine H2.out.mono ?_; rintro e w' ⟨rfl, rfl⟩) | (go_at_call 83; with_reducible refine H3.out.mono ?_; rintro e w' ⟨rfl, rfl⟩) | (go_at_call 83; with_reducible refine H4.out.mono ?_; rintro e w' ⟨rfl, rfl⟩))
    go_ret
    exact ⟨rfl, rfl⟩
  by_cases g5 : 913 ≤ c ∧ c ≤ 929
  · have hr : isLetter c = true := hiff.2 (by omega)
    rw [hr]
    have H0 := Lib.hid (in_not c 65 90 w (by omega))
    have H1 := Lib.hid (in_not c 97 122 w (by omega))
    have H2 := Lib.hid (in_not c 192 214 w (by omega))
    have H3 := Lib.hid (in_not c 216 246 w (by omega))
    have H4 := Lib.hid (in_not c 248 255 w (by omega))
    have H5 := Lib.hid (in_yes c 913 929 w g5.1 g5.2)
    clear hiff hr g0 g1 g2 g3 g4 g5
    go_enter Tryz.func66, Tryz.ntmps66
    go_wp2_with (first | (go_at_call 83; with_reducible refine H0.out.mono ?_; rintro e w' ⟨rfl, rfl⟩) | (go_at_call 83; with_reducible refine H1.out.mono ?_; rintro e w' ⟨rfl, rfl⟩) | (go_at_call 83; with_reducible refine H2.out.mono ?_; rintro e w' ⟨rfl, rfl⟩) | (go_at_call 83; with_reducible refine H3.out.mono ?_; rintro e w' ⟨rfl, rfl⟩) | (go_at_call 83; with_reducible refine H4.out.mono ?_; rintro e w' ⟨rfl, rfl⟩) | (go_at_call 83; with_reducible refine H5.out.mono ?_; rintro e w' ⟨rfl, rfl⟩))
    go_ret
    exact ⟨rfl, rfl⟩
  by_cases g6 : 931 ≤ c ∧ c ≤ 937
  · have hr : isLetter c = true := hiff.2 (by omega)
    rw [hr]
    have H0 := Lib.hid (in_not c 65 90 w (by omega))
    have H1 := Lib.hid (in_not c 97 122 w (by omega))
    have H2 := Lib.hid (in_not c 192 214 w (by omega))
    have H3 := Lib.hid (in_not c 216 246 w (by omega))
    have H4 := Lib.hid (in_not c 248 255 w (by omega))
    have H5 := Lib.hid (in_not c 913 929 w (by omega))
    have H6 := Lib.hid (in_yes c 931 937 w g6.1 g6.2)
    clear hiff hr g0 g1 g2 g3 g4 g5 g6
    go_enter Tryz.func66, Tryz.ntmps66
    go_wp2_with (first | (go_at_call 83; with_reducible refine H0.out.mono ?_; rintro e w' ⟨rfl, rfl⟩) | (go_at_call 83; with_reducible refine H1.out.mono ?_; rintro e w' ⟨rfl, rfl⟩) | (go_at_call 83; with_reducible refine H2.out.mono ?_; rintro e w' ⟨rfl, rfl⟩) | (go_at_call 83; with_reducible refine H3.out.mono ?_; rintro e w' ⟨rfl, rfl⟩) | (go_at_call 83; with_reducible refine H4.out.mono ?_; rintro e w' ⟨rfl, rfl⟩) | (go_at_call 83; with_reducible refine H5.out.mono ?_; rintro e w' ⟨rfl, rfl⟩) | (go_at_call 83; with_reducible refine H6.out.mono ?_; rintro e w' ⟨rfl, rfl⟩))
    go_ret
    exact ⟨rfl, rfl⟩
  by_cases g7 : 945 ≤ c ∧ c ≤ 969
  · have hr : isLetter c = true := hiff.2 (by omega)
    rw [hr]
    have H0 := Lib.hid (in_not c 65 90 w (by omega))
    have H1 := Lib.hid (in_not c 97 122 w (by omega))
    have H2 := Lib.hid (in_not c 192 214 w (by omega))
    have H3 := Lib.hid (in_not c 216 246 w (by omega))
    have H4 := Lib.hid (in_not c 248 255 w (by omega))
    have H5 := Lib.hid (in_not c 913 929 w (by omega))
    have H6 := Lib.hid (in_not c 931 937 w (by omega))
    have H7 := Lib.hid (in_yes c 945 969 w g7.1 g7.2)
    clear hiff hr g0 g1 g2 g3 g4 g5 g6 g7
    go_enter Tryz.func66, Tryz.ntmps66
    go_wp2_with (first | (go_at_call 83; with_reducible refine H0.out.mono ?_; rintro e w' ⟨rfl, rfl⟩) | (go_at_call 83; with_reducible refine H1.out.mono ?_; rintro e w' ⟨rfl, rfl⟩) | (go_at_call 83; with_reducible refine H2.out.mono ?_; rintro e w' ⟨rfl, rfl⟩) | (go_at_call 83; with_reducible refine H3.out.mono ?_; rintro e w' ⟨rfl, rfl⟩) | (go_at_call 83; with_reducible refine H4.out.mono ?_; rintro e w' ⟨rfl, rfl⟩) | (go_at_call 83; with_reducible refine H5.out.mono ?_; rintro e w' ⟨rfl, rfl⟩) | (go_at_call 83; with_reducible refine H6.out.mono ?_; rintro e w' ⟨rfl, rfl⟩) | (go_at_call 83; with_reducible refine H7.out.mono ?_; rintro e w' ⟨rfl, rfl⟩))
    go_ret
    exact ⟨rfl, rfl⟩
  by_cases g8 : 1024 ≤ c ∧ c ≤ 1119
  · have hr : isLetter c = true := hiff.2 (by omega)
    rw [hr]
    have H0 := Lib.hid (in_not c 65 90 w (by omega))
    have H1 := Lib.hid (in_not c 97 122 w (by omega))
    have H2 := Lib.hid (in_not c 192 214 w (by omega))
    have H3 := Lib.hid (in_not c 216 246 w (by omega))
    have H4 := Lib.hid (in_not c 248 255 w (by omega))
    have H5 := Lib.hid (in_not c 913 929 w (by omega))
    have H6 := Lib.hid (in_not c 931 937 w (by omega))
    have H7 := Lib.hid (in_not c 945 969 w (by omega))
    have H8 := Lib.hid (in_yes c 1024 1119 w g8.1 g8.2)
    clear hiff hr g0 g1 g2 g3 g4 g5 g6 g7 g8
    go_enter Tryz.func66, Tryz.ntmps66
    go_wp2_with (first | (go_at_call 83; with_reducible refine H0.out.mono ?_; rintro e w' ⟨rfl, rfl⟩) | (go_at_call 83; with_reducible refine H1.out.mono ?_; rintro e w' ⟨rfl, rfl⟩) | (go_at_call 83; with_reducible refine H2.out.mono ?_; rintro e w' ⟨rfl, rfl⟩) | (go_at_call 83; with_reducible refine H3.out.mono ?_; rintro e w' ⟨rfl, rfl⟩) | (go_at_call 83; with_reducible refine H4.out.mono ?_; rintro e w' ⟨rfl, rfl⟩) | (go_at_call 83; with_reducible refine H5.out.mono ?_; rintro e w' ⟨rfl, rfl⟩) | (go_at_call 83; with_reducible refine H6.out.mono ?_; rintro e w' ⟨rfl, rfl⟩) | (go_at_call 83; with_reducible refine H7.out.mono ?_; rintro e w' ⟨rfl, rfl⟩) | (go_at_call 83; with_reducible refine H8.out.mono ?_; rintro e w' ⟨rfl, rfl⟩))
    go_ret
    exact ⟨rfl, rfl⟩
  have hr : isLetter c = false := by rw [Bool.eq_false_iff]; intro e; have := hiff.1 e; omega
  rw [hr]
  have H0 := Lib.hid (in_not c 65 90 w (by omega))
  have H1 := Lib.hid (in_not c 97 122 w (by omega))
  have H2 := Lib.hid (in_not c 192 214 w (by omega))
  have H3 := Lib.hid (in_not c 216 246 w (by omega))
  have H4 := Lib.hid (in_not c 248 255 w (by omega))
  have H5 := Lib.hid (in_not c 913 929 w (by omega))
  have H6 := Lib.hid (in_not c 931 937 w (by omega))
  have H7 := Lib.hid (in_not c 945 969 w (by omega))
  have H8 := Lib.hid (in_not c 1024 1119 w (by omega))
  clear hiff hr g0 g1 g2 g3 g4 g5 g6 g7 g8
  go_enter Tryz.func66, Tryz.ntmps66
  go_wp2_with (first | (go_at_call 83; with_reducible refine H0.out.mono ?_; rintro e w' ⟨rfl, rfl⟩) | (go_at_call 83; with_reducible refine H1.out.mono ?_; rintro e w' ⟨rfl, rfl⟩) | (go_at_call 83; with_reducible refine H2.out.mono ?_; rintro e w' ⟨rfl, rfl⟩) | (go_at_call 83; with_reducible refine H3.out.mono ?_; rintro e w' ⟨rfl, rfl⟩) | (go_at_call 83; with_reducible refine H4.out.mono ?_; rintro e w' ⟨rfl, rfl⟩) | (go_at_call 83; with_reducible refine H5.out.mono ?_; rintro e w' ⟨rfl, rfl⟩) | (go_at_call 83; with_reducible refine H6.out.mono ?_; rintro e w' ⟨rfl, rfl⟩) | (go_at_call 83; with_reducible refine H7.out.mono ?_; rintro e w' ⟨rfl, rfl⟩) | (go_at_call 83; with_reducible refine H8.out.mono ?_; rintro e w' ⟨rfl, rfl⟩))
  go_ret
  exact ⟨rfl, rfl⟩

theorem small_eq (c : Int) : small c = if 65 ≤ c ∧ c ≤ 90 then c + 32 else if 192 ≤ c ∧ c ≤ 214 then c + 32 else if 216 ≤ c ∧ c ≤ 222 then c + 32 else if 913 ≤ c ∧ c ≤ 929 then c + 32 else if 931 ≤ c ∧ c ≤ 937 then c + 32 else if 1024 ≤ c ∧ c ≤ 1039 then c + 80 else if 1040 ≤ c ∧ c ≤ 1071 then c + 32 else c := by
  unfold small
  simp only [shifts, List.find?_cons, List.find?_nil]
  by_cases g0 : 65 ≤ c ∧ c ≤ 90
  · rw [if_pos g0]; simp [g0.1, g0.2]
  rw [if_neg g0, show (decide (65 ≤ c) && decide (c ≤ 90)) = false from by simp; omega]
  simp only
  by_cases g1 : 192 ≤ c ∧ c ≤ 214
  · rw [if_pos g1]; simp [g1.1, g1.2]
  rw [if_neg g1, show (decide (192 ≤ c) && decide (c ≤ 214)) = false from by simp; omega]
  simp only
  by_cases g2 : 216 ≤ c ∧ c ≤ 222
  · rw [if_pos g2]; simp [g2.1, g2.2]
  rw [if_neg g2, show (decide (216 ≤ c) && decide (c ≤ 222)) = false from by simp; omega]
  simp only
  by_cases g3 : 913 ≤ c ∧ c ≤ 929
  · rw [if_pos g3]; simp [g3.1, g3.2]
  rw [if_neg g3, show (decide (913 ≤ c) && decide (c ≤ 929)) = false from by simp; omega]
  simp only
  by_cases g4 : 931 ≤ c ∧ c ≤ 937
  · rw [if_pos g4]; simp [g4.1, g4.2]
  rw [if_neg g4, show (decide (931 ≤ c) && decide (c ≤ 937)) = false from by simp; omega]
  simp only
  by_cases g5 : 1024 ≤ c ∧ c ≤ 1039
  · rw [if_pos g5]; simp [g5.1, g5.2]
  rw [if_neg g5, show (decide (1024 ≤ c) && decide (c ≤ 1039)) = false from by simp; omega]
  simp only
  by_cases g6 : 1040 ≤ c ∧ c ≤ 1071
  · rw [if_pos g6]; simp [g6.1, g6.2]
  rw [if_neg g6, show (decide (1040 ≤ c) && decide (c ≤ 1071)) = false from by simp; omega]

set_option maxHeartbeats 1000000 in
theorem rsmall_any (c : Int) (w : World) (h0 : -1000000000 ≤ c) (h1 : c ≤ 1000000000) : Calls Tryz.prog 67 #[.int .i64 c] w fun e w' => e = .returned (.int .i64 (small c)) ∧ w = w' := by
  have hsm := small_eq c
  by_cases g0 : 1024 ≤ c ∧ c ≤ 1039
  · have hr : small c = c + 80 := by rw [hsm]; repeat' split; all_goals omega
    rw [hr]
    have H0 := Lib.hid (in_yes c 1024 1039 w g0.1 g0.2)
    clear hsm hr g0
    go_enter Tryz.func67, Tryz.ntmps67
    go_wp2_with (first | (go_at_call 83; with_reducible refine H0.out.mono ?_; rintro e w' ⟨rfl, rfl⟩))
    go_ret
    exact ⟨rfl, rfl⟩
  by_cases g1 : 65 ≤ c ∧ c ≤ 90
  · have hr : small c = c + 32 := by rw [hsm]; repeat' split; all_goals omega
    rw [hr]
    have H0 := Lib.hid (in_not c 1024 1039 w (by omega))
    have H1 := Lib.hid (in_yes c 65 90 w g1.1 g1.2)
    clear hsm hr g0 g1
    go_enter Tryz.func67, Tryz.ntmps67
    go_wp2_with (first | (go_at_call 83; with_reducible refine H0.out.mono ?_; rintro e w' ⟨rfl, rfl⟩) | (go_at_call 83; with_reducible refine H1.out.mono ?_; rintro e w' ⟨rfl, rfl⟩))
    go_ret
    exact ⟨rfl, rfl⟩
  by_cases g2 : 192 ≤ c ∧ c ≤ 214
  · have hr : small c = c + 32 := by rw [hsm]; repeat' split; all_goals omega
    rw [hr]
    have H0 := Lib.hid (in_not c 1024 1039 w (by omega))
    have H1 := Lib.hid (in_not c 65 90 w (by omega))
    have H2 := Lib.hid (in_yes c 192 214 w g2.1 g2.2)
    clear hsm hr g0 g1 g2
    go_enter Tryz.func67, Tryz.ntmps67
    go_wp2_with (first | (go_at_call 83; with_reducible refine H0.out.mono ?_; rintro e w' ⟨rfl, rfl⟩) | (go_at_call 83; with_reducible refine H1.out.mono ?_; rintro e w' ⟨rfl, rfl⟩) | (go_at_call 83; with_reducible refine H2.out.mono ?_; rintro e w' ⟨rfl, rfl⟩))
    go_ret
    exact ⟨rfl, rfl⟩
  by_cases g3 : 216 ≤ c ∧ c ≤ 222
  · have hr : small c = c + 32 := by rw [hsm]; repeat' split; all_goals omega
    rw [hr]
    have H0 := Lib.hid (in_not c 1024 1039 w (by omega))
    have H1 := Lib.hid (in_not c 65 90 w (by omega))
    have H2 := Lib.hid (in_not c 192 214 w (by omega))
    have H3 := Lib.hid (in_yes c 216 222 w g3.1 g3.2)
    clear hsm hr g0 g1 g2 g3
    go_enter Tryz.func67, Tryz.ntmps67
    go_wp2_with (first | (go_at_call 83; with_reducible refine H0.out.mono ?_; rintro e w' ⟨rfl, rfl⟩) | (go_at_call 83; with_reducible refine H1.out.mono ?_; rintro e w' ⟨rfl, rfl⟩) | (go_at_call 83; with_reducible refine H2.out.mono ?_; rintro e w' ⟨rfl, rfl⟩) | (go_at_call 83; with_reducible refine H3.out.mono ?_; rintro e w' ⟨rfl, rfl⟩))
    go_ret
    exact ⟨rfl, rfl⟩
  by_cases g4 : 913 ≤ c ∧ c ≤ 929
  · have hr : small c = c + 32 := by rw [hsm]; repeat' split; all_goals omega
    rw [hr]
    have H0 := Lib.hid (in_not c 1024 1039 w (by omega))
    have H1 := Lib.hid (in_not c 65 90 w (by omega))
    have H2 := Lib.hid (in_not c 192 214 w (by omega))
    have H3 := Lib.hid (in_not c 216 222 w (by omega))
    have H4 := Lib.hid (in_yes c 913 929 w g4.1 g4.2)
    clear hsm hr g0 g1 g2 g3 g4
    go_enter Tryz.func67, Tryz.ntmps67
    go_wp2_with (first | (go_at_call 83; with_reducible refine H0.out.mono ?_; rintro e w' ⟨rfl, rfl⟩) | (go_at_call 83; with_reducible refine H1.out.mono ?_; rintro e w' ⟨rfl, rfl⟩) | (go_at_call 83; with_reducible refine H2.out.mono ?_; rintro e w' ⟨rfl, rfl⟩) | (go_at_call 83; with_reducible refine H3.out.mono ?_; rintro e w' ⟨rfl, rfl⟩) | (go_at_call 83; with_reducible refine H4.out.mono ?_; rintro e w' ⟨rfl, rfl⟩))
    go_ret
    exact ⟨rfl, rfl⟩
  by_cases g5 : 931 ≤ c ∧ c ≤ 937
  · have hr : small c = c + 32 := by rw [hsm]; repeat' split; all_goals omega
    rw [hr]
    have H0 := Lib.hid (in_not c 1024 1039 w (by omega))
    have H1 := Lib.hid (in_not c 65 90 w (by omega))
    have H2 := Lib.hid (in_not c 192 214 w (by omega))
    have H3 := Lib.hid (in_not c 216 222 w (by omega))
    have H4 := Lib.hid (in_not c 913 929 w (by omega))
    have H5 := Lib.hid (in_yes c 931 937 w g5.1 g5.2)
    clear hsm hr g0 g1 g2 g3 g4 g5
    go_enter Tryz.func67, Tryz.ntmps67
    go_wp2_with (first | (go_at_call 83; with_reducible refine H0.out.mono ?_; rintro e w' ⟨rfl, rfl⟩) | (go_at_call 83; with_reducible refine H1.out.mono ?_; rintro e w' ⟨rfl, rfl⟩) | (go_at_call 83; with_reducible refine H2.out.mono ?_; rintro e w' ⟨rfl, rfl⟩) | (go_at_call 83; with_reducible refine H3.out.mono ?_; rintro e w' ⟨rfl, rfl⟩) | (go_at_call 83; with_reducible refine H4.out.mono ?_; rintro e w' ⟨rfl, rfl⟩) | (go_at_call 83; with_reducible refine H5.out.mono ?_; rintro e w' ⟨rfl, rfl⟩))
    go_ret
    exact ⟨rfl, rfl⟩
  by_cases g6 : 1040 ≤ c ∧ c ≤ 1071
  · have hr : small c = c + 32 := by rw [hsm]; repeat' split; all_goals omega
    rw [hr]
    have H0 := Lib.hid (in_not c 1024 1039 w (by omega))
    have H1 := Lib.hid (in_not c 65 90 w (by omega))
    have H2 := Lib.hid (in_not c 192 214 w (by omega))
    have H3 := Lib.hid (in_not c 216 222 w (by omega))
    have H4 := Lib.hid (in_not c 913 929 w (by omega))
    have H5 := Lib.hid (in_not c 931 937 w (by omega))
    have H6 := Lib.hid (in_yes c 1040 1071 w g6.1 g6.2)
    clear hsm hr g0 g1 g2 g3 g4 g5 g6
    go_enter Tryz.func67, Tryz.ntmps67
    go_wp2_with (first | (go_at_call 83; with_reducible refine H0.out.mono ?_; rintro e w' ⟨rfl, rfl⟩) | (go_at_call 83; with_reducible refine H1.out.mono ?_; rintro e w' ⟨rfl, rfl⟩) | (go_at_call 83; with_reducible refine H2.out.mono ?_; rintro e w' ⟨rfl, rfl⟩) | (go_at_call 83; with_reducible refine H3.out.mono ?_; rintro e w' ⟨rfl, rfl⟩) | (go_at_call 83; with_reducible refine H4.out.mono ?_; rintro e w' ⟨rfl, rfl⟩) | (go_at_call 83; with_reducible refine H5.out.mono ?_; rintro e w' ⟨rfl, rfl⟩) | (go_at_call 83; with_reducible refine H6.out.mono ?_; rintro e w' ⟨rfl, rfl⟩))
    go_ret
    exact ⟨rfl, rfl⟩
  have hr : small c = c := by rw [hsm]; repeat' split; all_goals omega
  rw [hr]
  have H0 := Lib.hid (in_not c 1024 1039 w (by omega))
  have H1 := Lib.hid (in_not c 65 90 w (by omega))
  have H2 := Lib.hid (in_not c 192 214 w (by omega))
  have H3 := Lib.hid (in_not c 216 222 w (by omega))
  have H4 := Lib.hid (in_not c 913 929 w (by omega))
  have H5 := Lib.hid (in_not c 931 937 w (by omega))
  have H6 := Lib.hid (in_not c 1040 1071 w (by omega))
  clear hsm hr g0 g1 g2 g3 g4 g5 g6
  go_enter Tryz.func67, Tryz.ntmps67
  go_wp2_with (first | (go_at_call 83; with_reducible refine H0.out.mono ?_; rintro e w' ⟨rfl, rfl⟩) | (go_at_call 83; with_reducible refine H1.out.mono ?_; rintro e w' ⟨rfl, rfl⟩) | (go_at_call 83; with_reducible refine H2.out.mono ?_; rintro e w' ⟨rfl, rfl⟩) | (go_at_call 83; with_reducible refine H3.out.mono ?_; rintro e w' ⟨rfl, rfl⟩) | (go_at_call 83; with_reducible refine H4.out.mono ?_; rintro e w' ⟨rfl, rfl⟩) | (go_at_call 83; with_reducible refine H5.out.mono ?_; rintro e w' ⟨rfl, rfl⟩) | (go_at_call 83; with_reducible refine H6.out.mono ?_; rintro e w' ⟨rfl, rfl⟩))
  go_ret
  exact ⟨rfl, rfl⟩

theorem rright_any (c : Int) (w : World) : Calls Tryz.prog 63 #[.int .i64 c] w fun e w' => e = .returned (.bool (isChar c)) ∧ w = w' := by
  have cases' : (¬ 0 ≤ c ∧ ¬ 57343 < c ∧ isChar c = false) ∨ (0 ≤ c ∧ c < 55296 ∧ isChar c = true) ∨ (0 ≤ c ∧ ¬ c < 55296 ∧ ¬ 57343 < c ∧ isChar c = false) ∨ (0 ≤ c ∧ ¬ c < 55296 ∧ 57343 < c ∧ c < 1114112 ∧ isChar c = true) ∨ (0 ≤ c ∧ ¬ c < 55296 ∧ 57343 < c ∧ ¬ c < 1114112 ∧ isChar c = false) := by
    simp only [isChar, Bool.and_eq_true, Bool.or_eq_true, decide_eq_true_eq, Bool.and_eq_false_iff, Bool.or_eq_false_iff, decide_eq_false_iff_not]
    omega
  rcases cases' with ⟨h1, h3, h2⟩ | ⟨h0, h1, h2⟩ | ⟨h0, h1, h3, h2⟩ | ⟨h0, h1, h3, h4, h2⟩ | ⟨h0, h1, h3, h4, h2⟩
  all_goals
    rw [h2]
    clear h2
    go_enter Tryz.func63, Tryz.ntmps63
    go_wp2
    go_ret
    refine ⟨ret_bool ?_, rfl⟩
    first | rfl | (simp; omega) | (simp; done)

theorem rleast_any (x y : Int) (w : World) : Calls Tryz.prog 65 #[.int .i64 x, .int .i64 y] w fun e w' => e = .returned (.int .i64 (if x < y then x else y)) ∧ w = w' := by
  by_cases h : x < y
  · rw [if_pos h]
    go_enter Tryz.func65, Tryz.ntmps65
    go_wp2
    go_ret
    exact ⟨rfl, rfl⟩
  · rw [if_neg h]
    go_enter Tryz.func65, Tryz.ntmps65
    go_wp2
    go_ret
    exact ⟨rfl, rfl⟩

theorem rin_any (c : Int) (w : World) : Calls Tryz.prog 48 #[.int .i64 c] w fun e w' => e = .returned (.bool (inWord c)) ∧ w = w' := by
  have hL := rletter_any c w
  cases hl : isLetter c with
  | true =>
    rw [hl] at hL
    have HL := Lib.hid hL
    have hr : inWord c = true := by unfold inWord; rw [hl]; rfl
    rw [hr]
    clear hL hl hr
    go_enter Tryz.func48, Tryz.ntmps48
    go_wp2_with (go_at_call 66; with_reducible refine HL.out.mono ?_; rintro e w' ⟨rfl, rfl⟩)
    go_ret
    exact ⟨rfl, rfl⟩
  | false =>
    rw [hl] at hL
    have HL := Lib.hid hL
    have cases' : (¬ 48 ≤ c ∧ inWord c = false) ∨ (48 ≤ c ∧ ¬ c ≤ 57 ∧ inWord c = false) ∨ (48 ≤ c ∧ c ≤ 57 ∧ inWord c = true) := by
      unfold inWord
      rw [hl]
      simp only [isDigit, Bool.false_or, Bool.and_eq_true, decide_eq_true_eq, Bool.and_eq_false_iff, decide_eq_false_iff_not]
      omega
    clear hL hl
    rcases cases' with ⟨h1, h2⟩ | ⟨h0, h1, h2⟩ | ⟨h0, h1, h2⟩
    all_goals
      rw [h2]
      clear h2
      go_enter Tryz.func48, Tryz.ntmps48
      go_wp2_with (go_at_call 66; with_reducible refine HL.out.mono ?_; rintro e w' ⟨rfl, rfl⟩)
      go_ret
      first | exact ⟨rfl, rfl⟩ | exact ⟨ret_bool (decide_eq_false (by omega)), rfl⟩ | exact ⟨ret_bool (decide_eq_true (by omega)), rfl⟩

set_option maxHeartbeats 1000000 in
theorem rencode_1 (c : Int) (w : World) (h0 : 0 ≤ c) (hm : c ≤ 1114111) (hc : c < 128) : Calls Tryz.prog 64 #[.int .i64 c] w (Gives w 5 1 (enc c).length (bcells (enc c))) := by
  have hl : enc c = [u8 (c)] := by unfold enc; rw [if_pos (by omega)]
  have he : bcells (enc c) = [.int .u8 (c)] := by
    rw [hl]; simp only [bcells, List.map_cons, List.map_nil]
    rw [ch_u8 (c) (by omega) (by omega)]
  have hn : (enc c).length = 1 := by rw [hl]; rfl
  have e0 : IntKind.u8.wrap (c) = c := wrap_u8_in _ (by omega) (by omega)
  have n0 : c < 128 := by omega
  have HE := Lib.hid he
  have HN := Lib.hid hn
  clear he hn hl
  go_enter Tryz.func64, Tryz.ntmps64
  go_wp2
  go_ret
  refine ⟨_, rfl, ?_, (Below.refl _ _).alloc (Nat.le_refl _) _⟩
  rw [HE.out, HN.out]
  exact own_new _ #[.int .u8 (c)] _ 1 1 rfl (by decide)

set_option maxHeartbeats 1000000 in
theorem rencode_2 (c : Int) (w : World) (h0 : 0 ≤ c) (hm : c ≤ 1114111) (hc : 128 ≤ c ∧ c < 2048) : Calls Tryz.prog 64 #[.int .i64 c] w (Gives w 5 1 (enc c).length (bcells (enc c))) := by
  have hl : enc c = [u8 (192 + c / 64), u8 (128 + c % 64)] := by unfold enc; rw [if_neg (by omega)]; rw [if_pos (by omega)]
  have he : bcells (enc c) = [.int .u8 (192 + c / 64), .int .u8 (128 + c % 64)] := by
    rw [hl]; simp only [bcells, List.map_cons, List.map_nil]
    rw [ch_u8 (192 + c / 64) (by omega) (by omega), ch_u8 (128 + c % 64) (by omega) (by omega)]
  have hn : (enc c).length = 2 := by rw [hl]; rfl
  have e0 : IntKind.u8.wrap (192 + c / 64) = 192 + c / 64 := wrap_u8_in _ (by omega) (by omega)
  have e1 : IntKind.u8.wrap (128 + c % 64) = 128 + c % 64 := wrap_u8_in _ (by omega) (by omega)
  have n0 : ¬ c < 128 := by omega
  have n1 : c < 2048 := by omega
  have t1 : Int.tdiv c 64 = c / 64 := Int.tdiv_eq_ediv_of_nonneg h0
  have t2 : Int.tmod c 64 = c % 64 := Int.tmod_eq_emod_of_nonneg h0
  have HE := Lib.hid he
  have HN := Lib.hid hn
  clear he hn hl
  go_enter Tryz.func64, Tryz.ntmps64
  go_wp2
  go_ret
  refine ⟨_, rfl, ?_, (Below.refl _ _).alloc (Nat.le_refl _) _⟩
  rw [HE.out, HN.out]
  exact own_new _ #[.int .u8 (192 + c / 64), .int .u8 (128 + c % 64)] _ 1 2 rfl (by decide)

set_option maxHeartbeats 1000000 in
theorem rencode_3 (c : Int) (w : World) (h0 : 0 ≤ c) (hm : c ≤ 1114111) (hc : 2048 ≤ c ∧ c < 65536) : Calls Tryz.prog 64 #[.int .i64 c] w (Gives w 5 1 (enc c).length (bcells (enc c))) := by
  have hl : enc c = [u8 (224 + c / 4096), u8 (128 + c / 64 % 64), u8 (128 + c % 64)] := by unfold enc; rw [if_neg (by omega)]; rw [if_neg (by omega)]; rw [if_pos (by omega)]
  have he : bcells (enc c) = [.int .u8 (224 + c / 4096), .int .u8 (128 + c / 64 % 64), .int .u8 (128 + c % 64)] := by
    rw [hl]; simp only [bcells, List.map_cons, List.map_nil]
    rw [ch_u8 (224 + c / 4096) (by omega) (by omega), ch_u8 (128 + c / 64 % 64) (by omega) (by omega), ch_u8 (128 + c % 64) (by omega) (by omega)]
  have hn : (enc c).length = 3 := by rw [hl]; rfl
  have e0 : IntKind.u8.wrap (224 + c / 4096) = 224 + c / 4096 := wrap_u8_in _ (by omega) (by omega)
  have e1 : IntKind.u8.wrap (128 + c / 64 % 64) = 128 + c / 64 % 64 := wrap_u8_in _ (by omega) (by omega)
  have e2 : IntKind.u8.wrap (128 + c % 64) = 128 + c % 64 := wrap_u8_in _ (by omega) (by omega)
  have n0 : ¬ c < 128 := by omega
  have n1 : ¬ c < 2048 := by omega
  have n2 : c < 65536 := by omega
  have t1 : Int.tdiv c 64 = c / 64 := Int.tdiv_eq_ediv_of_nonneg h0
  have t2 : Int.tmod c 64 = c % 64 := Int.tmod_eq_emod_of_nonneg h0
  have t3 : Int.tdiv c 4096 = c / 4096 := Int.tdiv_eq_ediv_of_nonneg h0
  have t5 : Int.tmod (c / 64) 64 = c / 64 % 64 := Int.tmod_eq_emod_of_nonneg (by omega)
  have HE := Lib.hid he
  have HN := Lib.hid hn
  clear he hn hl
  go_enter Tryz.func64, Tryz.ntmps64
  go_wp2
  go_ret
  refine ⟨_, rfl, ?_, (Below.refl _ _).alloc (Nat.le_refl _) _⟩
  rw [HE.out, HN.out]
  exact own_new _ #[.int .u8 (224 + c / 4096), .int .u8 (128 + c / 64 % 64), .int .u8 (128 + c % 64)] _ 1 3 rfl (by decide)

set_option maxHeartbeats 1000000 in
theorem rencode_4 (c : Int) (w : World) (h0 : 0 ≤ c) (hm : c ≤ 1114111) (hc : 65536 ≤ c) : Calls Tryz.prog 64 #[.int .i64 c] w (Gives w 5 1 (enc c).length (bcells (enc c))) := by
  have hl : enc c = [u8 (240 + c / 262144), u8 (128 + c / 4096 % 64), u8 (128 + c / 64 % 64), u8 (128 + c % 64)] := by unfold enc; rw [if_neg (by omega)]; rw [if_neg (by omega)]; rw [if_neg (by omega)]
  have he : bcells (enc c) = [.int .u8 (240 + c / 262144), .int .u8 (128 + c / 4096 % 64), .int .u8 (128 + c / 64 % 64), .int .u8 (128 + c % 64)] := by
    rw [hl]; simp only [bcells, List.map_cons, List.map_nil]
    rw [ch_u8 (240 + c / 262144) (by omega) (by omega), ch_u8 (128 + c / 4096 % 64) (by omega) (by omega), ch_u8 (128 + c / 64 % 64) (by omega) (by omega), ch_u8 (128 + c % 64) (by omega) (by omega)]
  have hn : (enc c).length = 4 := by rw [hl]; rfl
  have e0 : IntKind.u8.wrap (240 + c / 262144) = 240 + c / 262144 := wrap_u8_in _ (by omega) (by omega)
  have e1 : IntKind.u8.wrap (128 + c / 4096 % 64) = 128 + c / 4096 % 64 := wrap_u8_in _ (by omega) (by omega)
  have e2 : IntKind.u8.wrap (128 + c / 64 % 64) = 128 + c / 64 % 64 := wrap_u8_in _ (by omega) (by omega)
  have e3 : IntKind.u8.wrap (128 + c % 64) = 128 + c % 64 := wrap_u8_in _ (by omega) (by omega)
  have n0 : ¬ c < 128 := by omega
  have n1 : ¬ c < 2048 := by omega
  have n2 : ¬ c < 65536 := by omega
  have t1 : Int.tdiv c 64 = c / 64 := Int.tdiv_eq_ediv_of_nonneg h0
  have t2 : Int.tmod c 64 = c % 64 := Int.tmod_eq_emod_of_nonneg h0
  have t3 : Int.tdiv c 4096 = c / 4096 := Int.tdiv_eq_ediv_of_nonneg h0
  have t5 : Int.tmod (c / 64) 64 = c / 64 % 64 := Int.tmod_eq_emod_of_nonneg (by omega)
  have t4 : Int.tdiv c 262144 = c / 262144 := Int.tdiv_eq_ediv_of_nonneg h0
  have t6 : Int.tmod (c / 4096) 64 = c / 4096 % 64 := Int.tmod_eq_emod_of_nonneg (by omega)
  have HE := Lib.hid he
  have HN := Lib.hid hn
  clear he hn hl
  go_enter Tryz.func64, Tryz.ntmps64
  go_wp2
  go_ret
  refine ⟨_, rfl, ?_, (Below.refl _ _).alloc (Nat.le_refl _) _⟩
  rw [HE.out, HN.out]
  exact own_new _ #[.int .u8 (240 + c / 262144), .int .u8 (128 + c / 4096 % 64), .int .u8 (128 + c / 64 % 64), .int .u8 (128 + c % 64)] _ 1 4 rfl (by decide)

theorem rencode_any (c : Int) (w : World) (h0 : 0 ≤ c) (hm : c ≤ 1114111) : Calls Tryz.prog 64 #[.int .i64 c] w (Gives w 5 1 (enc c).length (bcells (enc c))) := by
  by_cases h1 : c < 128
  · exact rencode_1 c w h0 hm h1
  · by_cases h2 : c < 2048
    · exact rencode_2 c w h0 hm ⟨by omega, h2⟩
    · by_cases h3 : c < 65536
      · exact rencode_3 c w h0 hm ⟨by omega, h3⟩
      · exact rencode_4 c w h0 hm (by omega)
end Go.Proofs.YteegbjjpjdlcmaaGreatDoor

/- rubrickref04.begins, Decode; rubrickref05.Right. -/
set_option linter.unusedVariables false
namespace Go.Proofs.YteegbjjpjdlcmaaGreatDoor
open Go.RowKit

theorem beg_bd (l : List UInt8) (n : Nat) : -250 ≤ beg l n 0 ∧ beg l n 0 ≤ 256 ∧ -20000 ≤ beg l n 1 ∧ beg l n 1 ≤ 20000 ∧ -1300000 ≤ beg l n 2 ∧ beg l n 2 ≤ 1300000 ∧ -90000000 ≤ beg l n 3 ∧ beg l n 3 ≤ 90000000 := by
  have h0 := chBd (l.getD 0 0)
  have h1 := chBd (l.getD 1 0)
  have h2 := chBd (l.getD 2 0)
  have h3 := chBd (l.getD 3 0)
  have hl : 0 ≤ lead n ∧ lead n ≤ 240 := by unfold lead; repeat' split
                                            all_goals decide
  simp only [beg]
  simp only [Nat.zero_add, Nat.reduceAdd]
  omega

theorem begins_bd (l : List UInt8) (n : Nat) (hn : n ≤ 4) : -90000000 ≤ begins l n ∧ begins l n ≤ 90000000 := by
  unfold begins
  split
  · decide
  · have := beg_bd l n
    have hc : n - 1 = 0 ∨ n - 1 = 1 ∨ n - 1 = 2 ∨ n - 1 = 3 := by omega
    rcases hc with h | h | h | h <;> rw [h] <;> omega

set_option maxHeartbeats 1000000 in
theorem begins_any (v : Value) (l : List UInt8) (n : Nat) (w : World) (h : Rd w v l.length 1 (bcells l)) (hl : 0 < l.length) (hn : 1 ≤ n) (hn4 : n ≤ 4) :
    Calls Tryz.prog 62 #[v, .int .i64 n] w fun e w' => e = .returned (.int .i64 (begins l n)) ∧ Below w.heap.size w w' := by
  obtain ⟨b, off, c, rfl, h1, h2, h3⟩ := bytes_cells h hl
  have HC := Lib.hid h3
  by_cases hlt : l.length < n
  · have hr : begins l n = -1 := by unfold begins; rw [if_pos hlt]
    rw [hr]
    have hlti : (l.length : Int) < (n : Int) := by omega
    clear h h3 HC hr
    go_enter Tryz.func62, Tryz.ntmps62
    go_wp2
    go_ret
    exact ⟨rfl, Below.refl _ _⟩
  · have hlti : ¬ (l.length : Int) < (n : Int) := by omega
    have hr : Hid (begins l n = beg l n (n - 1)) := by show _ = _; unfold begins; rw [if_neg hlt]
    have c0 := h3 0 hl
    rw [show off + 0 = off from rfl] at c0
    have hle : Hid (lead n = (if n = 2 then 192 else if n = 3 then 224 else if n = 4 then 240 else 0)) := rfl
    have hcc : n = 1 ∨ n = 2 ∨ n = 3 ∨ n = 4 := by omega
    have hb := beg_bd l n
    have HB := Lib.hid hb
    have hbeg0 : Hid (beg l n 0 = ch l[0] - lead n) := by
      show _ = _
      simp only [beg, List.getD, List.getElem?_eq_getElem hl, Option.getD_some]
    have h0i : (0 : Int) < (l.length : Int) := by omega
    have hlb := chBd l[0]
    generalize hx : l[0] = x0 at *
    clear h h3 hb
    have hWb : Below w.heap.size w (w.alloc (.cells #[.int .i64 0, .int .i64 0, .int .i64 192, .int .i64 224, .int .i64 240] 3)) := (Below.refl _ _).alloc (Nat.le_refl _) _
    have c0W := (hWb.cell (World.block_lt_of_cell? w _ c0)).trans c0
    have clW : ∀ j u, (#[.int .i64 0, .int .i64 0, .int .i64 192, .int .i64 224, .int .i64 240] : Array Value)[j]? = some u → (w.alloc (.cells #[.int .i64 0, .int .i64 0, .int .i64 192, .int .i64 224, .int .i64 240] 3)).cell? ⟨w.heap.size, j, none⟩ = some u := by
      intro j u hj
      rw [cell_of_row _ w.heap.size j _ _ _ (heap_alloc_new w _)]
      exact hj
    rcases hcc with rfl | rfl | rfl | rfl
    · have c1W := clW 1 (.int .i64 0) rfl
      have hl0 : lead 1 = 0 := rfl
      rw [hl0, Int.sub_zero] at hbeg0
      go_enter Tryz.func62, Tryz.ntmps62
      go_wp2_with fail
      generalize (w.alloc (.cells #[.int .i64 0, .int .i64 0, .int .i64 192, .int .i64 224, .int .i64 240] 3)) = W at *
      have r1 := cell_regrown c0W
      have r2 := cell_regrown c1W
      refine wp_region_quiet_below (by kernel_rfl) (by kernel_rfl) ?_
      repeat (go_big_quiet_step (fail))
      refine wpQuiet_nil ?_
      intro W2 hw'
      obtain ⟨⟨dq, osq⟩, hw''⟩ := hw'
      have hbq := hWb.trans ((below_regrown W dq osq).mono hWb.size)
      rw [← hw''] at hbq
      clear hw'' r1 r2 c0W c1W clW hWb c0
      rw [← hbeg0.out]
      go_wp2
      go_loopw [6, 7] (fun x i wr => ∃ (k : Nat), k + 1 ≤ 1 ∧ i = .int .i64 ((k + 1 : Nat) : Int) ∧ x = .int .i64 (beg l 1 k) ∧ Below w.heap.size w wr) (fun _ i _ => 1 - (intOf i).toNat)
      case atStart => exact ⟨0, by omega, rfl, rfl, hbq⟩
      case round =>
        obtain ⟨k, hk, rfl, rfl, hbel⟩ := hrel
        by_cases hkk : k + 1 < 1
        · exact absurd hkk (by omega)
        · have hk1 : k = 0 := by omega
          subst hk1
          go_wp2
          go_ret
          exact ⟨by rw [hr.out]; rfl, hbel⟩
    · have c1W := clW 2 (.int .i64 192) rfl
      have hl0 : lead 2 = 192 := rfl
      rw [hl0] at hbeg0
      go_enter Tryz.func62, Tryz.ntmps62
      go_wp2_with fail
      generalize (w.alloc (.cells #[.int .i64 0, .int .i64 0, .int .i64 192, .int .i64 224, .int .i64 240] 3)) = W at *
      have r1 := cell_regrown c0W
      have r2 := cell_regrown c1W
      refine wp_region_quiet_below (by kernel_rfl) (by kernel_rfl) ?_
      repeat (go_big_quiet_step (fail))
      refine wpQuiet_nil ?_
      intro W2 hw'
      obtain ⟨⟨dq, osq⟩, hw''⟩ := hw'
      have hbq := hWb.trans ((below_regrown W dq osq).mono hWb.size)
      rw [← hw''] at hbq
      clear hw'' r1 r2 c0W c1W clW hWb c0
      rw [← hbeg0.out]
      go_wp2
      go_loopw [6, 7] (fun x i wr => ∃ (k : Nat), k + 1 ≤ 2 ∧ i = .int .i64 ((k + 1 : Nat) : Int) ∧ x = .int .i64 (beg l 2 k) ∧ Below w.heap.size w wr) (fun _ i _ => 2 - (intOf i).toNat)
      case atStart => exact ⟨0, by omega, rfl, rfl, hbq⟩
      case round =>
        obtain ⟨k, hk, rfl, rfl, hbel⟩ := hrel
        by_cases hkk : k + 1 < 2
        · have hlk : k + 1 < l.length := by omega
          have ck0 := HC.out (k + 1) hlk
          have ck := (hbel.cell (World.block_lt_of_cell? w _ ck0)).trans ck0
          have hs : Hid (beg l 2 (k + 1) = beg l 2 k * 64 + ch l[k + 1] - 128) := by
            show _ = _
            simp only [beg, List.getD, List.getElem?_eq_getElem hlk, Option.getD_some]
          have hcb := chBd l[k + 1]
          have hbk : -1300000 ≤ beg l 2 k ∧ beg l 2 k ≤ 1300000 := by
            have := HB.out
            have hc : k = 0 ∨ k = 1 ∨ k = 2 := by omega
            rcases hc with h | h | h <;> rw [h] <;> omega
          have i1 : ((k + 1 : Nat) : Int) < 2 := by omega
          have i2 : ((k + 1 : Nat) : Int) < (l.length : Int) := by omega
          have i3 : (0 : Int) ≤ ((k + 1 : Nat) : Int) := by omega
          generalize l[k + 1] = y at *
          generalize beg l 2 k = g at *
          clear ck0
          go_wp2
          go_roundw
          case rel => exact ⟨k + 1, by omega, by go_num, by rw [hs.out], hbel⟩
          case measure => simp [intOf]; omega
        · have hk1 : k = 1 := by omega
          subst hk1
          go_wp2
          go_ret
          exact ⟨by rw [hr.out]; rfl, hbel⟩
    · have c1W := clW 3 (.int .i64 224) rfl
      have hl0 : lead 3 = 224 := rfl
      rw [hl0] at hbeg0
      go_enter Tryz.func62, Tryz.ntmps62
      go_wp2_with fail
      generalize (w.alloc (.cells #[.int .i64 0, .int .i64 0, .int .i64 192, .int .i64 224, .int .i64 240] 3)) = W at *
      have r1 := cell_regrown c0W
      have r2 := cell_regrown c1W
      refine wp_region_quiet_below (by kernel_rfl) (by kernel_rfl) ?_
      repeat (go_big_quiet_step (fail))
      refine wpQuiet_nil ?_
      intro W2 hw'
      obtain ⟨⟨dq, osq⟩, hw''⟩ := hw'
      have hbq := hWb.trans ((below_regrown W dq osq).mono hWb.size)
      rw [← hw''] at hbq
      clear hw'' r1 r2 c0W c1W clW hWb c0
      rw [← hbeg0.out]
      go_wp2
      go_loopw [6, 7] (fun x i wr => ∃ (k : Nat), k + 1 ≤ 3 ∧ i = .int .i64 ((k + 1 : Nat) : Int) ∧ x = .int .i64 (beg l 3 k) ∧ Below w.heap.size w wr) (fun _ i _ => 3 - (intOf i).toNat)
      case atStart => exact ⟨0, by omega, rfl, rfl, hbq⟩
      case round =>
        obtain ⟨k, hk, rfl, rfl, hbel⟩ := hrel
        by_cases hkk : k + 1 < 3
        · have hlk : k + 1 < l.length := by omega
          have ck0 := HC.out (k + 1) hlk
          have ck := (hbel.cell (World.block_lt_of_cell? w _ ck0)).trans ck0
          have hs : Hid (beg l 3 (k + 1) = beg l 3 k * 64 + ch l[k + 1] - 128) := by
            show _ = _
            simp only [beg, List.getD, List.getElem?_eq_getElem hlk, Option.getD_some]
          have hcb := chBd l[k + 1]
          have hbk : -1300000 ≤ beg l 3 k ∧ beg l 3 k ≤ 1300000 := by
            have := HB.out
            have hc : k = 0 ∨ k = 1 ∨ k = 2 := by omega
            rcases hc with h | h | h <;> rw [h] <;> omega
          have i1 : ((k + 1 : Nat) : Int) < 3 := by omega
          have i2 : ((k + 1 : Nat) : Int) < (l.length : Int) := by omega
          have i3 : (0 : Int) ≤ ((k + 1 : Nat) : Int) := by omega
          generalize l[k + 1] = y at *
          generalize beg l 3 k = g at *
          clear ck0
          go_wp2
          go_roundw
          case rel => exact ⟨k + 1, by omega, by go_num, by rw [hs.out], hbel⟩
          case measure => simp [intOf]; omega
        · have hk1 : k = 2 := by omega
          subst hk1
          go_wp2
          go_ret
          exact ⟨by rw [hr.out]; rfl, hbel⟩
    · have c1W := clW 4 (.int .i64 240) rfl
      have hl0 : lead 4 = 240 := rfl
      rw [hl0] at hbeg0
      go_enter Tryz.func62, Tryz.ntmps62
      go_wp2_with fail
      generalize (w.alloc (.cells #[.int .i64 0, .int .i64 0, .int .i64 192, .int .i64 224, .int .i64 240] 3)) = W at *
      have r1 := cell_regrown c0W
      have r2 := cell_regrown c1W
      refine wp_region_quiet_below (by kernel_rfl) (by kernel_rfl) ?_
      repeat (go_big_quiet_step (fail))
      refine wpQuiet_nil ?_
      intro W2 hw'
      obtain ⟨⟨dq, osq⟩, hw''⟩ := hw'
      have hbq := hWb.trans ((below_regrown W dq osq).mono hWb.size)
      rw [← hw''] at hbq
      clear hw'' r1 r2 c0W c1W clW hWb c0
      rw [← hbeg0.out]
      go_wp2
      go_loopw [6, 7] (fun x i wr => ∃ (k : Nat), k + 1 ≤ 4 ∧ i = .int .i64 ((k + 1 : Nat) : Int) ∧ x = .int .i64 (beg l 4 k) ∧ Below w.heap.size w wr) (fun _ i _ => 4 - (intOf i).toNat)
      case atStart => exact ⟨0, by omega, rfl, rfl, hbq⟩
      case round =>
        obtain ⟨k, hk, rfl, rfl, hbel⟩ := hrel
        by_cases hkk : k + 1 < 4
        · have hlk : k + 1 < l.length := by omega
          have ck0 := HC.out (k + 1) hlk
          have ck := (hbel.cell (World.block_lt_of_cell? w _ ck0)).trans ck0
          have hs : Hid (beg l 4 (k + 1) = beg l 4 k * 64 + ch l[k + 1] - 128) := by
            show _ = _
            simp only [beg, List.getD, List.getElem?_eq_getElem hlk, Option.getD_some]
          have hcb := chBd l[k + 1]
          have hbk : -1300000 ≤ beg l 4 k ∧ beg l 4 k ≤ 1300000 := by
            have := HB.out
            have hc : k = 0 ∨ k = 1 ∨ k = 2 := by omega
            rcases hc with h | h | h <;> rw [h] <;> omega
          have i1 : ((k + 1 : Nat) : Int) < 4 := by omega
          have i2 : ((k + 1 : Nat) : Int) < (l.length : Int) := by omega
          have i3 : (0 : Int) ≤ ((k + 1 : Nat) : Int) := by omega
          generalize l[k + 1] = y at *
          generalize beg l 4 k = g at *
          clear ck0
          go_wp2
          go_roundw
          case rel => exact ⟨k + 1, by omega, by go_num, by rw [hs.out], hbel⟩
          case measure => simp [intOf]; omega
        · have hk1 : k = 3 := by omega
          subst hk1
          go_wp2
          go_ret
          exact ⟨by rw [hr.out]; rfl, hbel⟩
end Go.Proofs.YteegbjjpjdlcmaaGreatDoor

/- rubrickref04.Decode. -/
set_option linter.unusedVariables false
namespace Go.Proofs.YteegbjjpjdlcmaaGreatDoor
open Go.RowKit Go.Sort

section
variable {P : Program} {ops : Array Oper} {Q : Exit → Act → World → Prop} {md : Region.Mode}
/-- more may be held from here on. -/
theorem anyL_mono {S S' : World → Prop} (hS : ∀ w, S' w → S w) {last : Nat} : ∀ (fuel : Nat) (listed : Array Bool) (a : Act) (w : World), anyL P md ops Q S' last fuel listed a w → anyL P md ops Q S last fuel listed a w := by
  intro fuel
  induction fuel with
  | zero => intro listed a w h; exact h
  | succ fuel ih =>
    intro listed a w h
    exact ⟨h.1, fun i hi => wpOp_mono (fun a' w' h' => ⟨fun hl => hS _ (h'.1 hl), ih _ _ _ h'.2⟩) (h.2 i hi)⟩
/-- two operations that may come up now. -/
theorem L_two {S : World → Prop} {last : Nat} (i j : Nat) {oi oj : Oper} {fuel : Nat} {listed : Array Bool} {a : Act} {w : World} (hr : Region.ready md ops listed = [i, j]) (hi : ops[i]? = some oi) (hj : ops[j]? = some oj)
    (h1 : ∀ K : Act → World → Prop, (∀ a' w', S w' → anyL P md ops Q S last fuel (listed.setIfInBounds i true) a' w' → K a' w') → if Region.wanted oi (yielded ops a.tmps) = true then Oper.wp P oi a w K Q else K (a.put oi.dst undef) w)
    (h2 : ∀ K : Act → World → Prop, (∀ a' w', S w' → anyL P md ops Q S last fuel (listed.setIfInBounds j true) a' w' → K a' w') → if Region.wanted oj (yielded ops a.tmps) = true then Oper.wp P oj a w K Q else K (a.put oj.dst undef) w) :
    anyL P md ops Q S last (fuel + 1) listed a w := by
  refine ⟨fun h0 => ?_, fun k hk => ?_⟩
  · rw [h0] at hr; cases hr
  · rw [hr] at hk
    rcases List.mem_cons.1 hk with rfl | hk
    · exact wpOp_step hi (fun K' hK => h1 K' (fun a' w' g1 g2 => hK a' w' ⟨fun _ => g1, g2⟩))
    · obtain rfl := List.mem_singleton.1 hk
      exact wpOp_step hj (fun K' hK => h2 K' (fun a' w' g1 g2 => hK a' w' ⟨fun _ => g1, g2⟩))
end

/-- a part of bytes. -/
theorem rd_cut {W : World} {b off c : Nat} {l : List UInt8} (hcell : ∀ i (hi : i < l.length), W.cell? ⟨b, off + i, none⟩ = some (.int .u8 (ch l[i]))) (hc : l.length ≤ c) (hcm : c ≤ maxLen) (p m : Nat) (h0 : 0 < m) (hm : p + m ≤ l.length) :
    Rd W (.slice (some ⟨b, off + p, none⟩) m (c - p)) ((l.drop p).take m).length 1 (bcells ((l.drop p).take m)) := by
  have hlen : ((l.drop p).take m).length = m := by rw [List.length_take, List.length_drop]; omega
  rw [hlen]
  refine ⟨by rw [bcells_len, hlen]; omega, by omega, .inr ⟨b, off + p, c - p, rfl, h0, by omega, by omega, fun i u hu => ?_⟩⟩
  have hi : i < m := by
    have := (List.getElem?_eq_some_iff.1 hu).1
    rw [bcells_len, hlen] at this
    exact this
  have h1 := hcell (p + i) (by omega)
  rw [show off + p + i = off + (p + i) from by omega, h1, ← hu]
  simp only [bcells, List.getElem?_map, List.getElem?_take, List.getElem?_drop]
  rw [if_pos hi, List.getElem?_eq_getElem (by omega)]
  rfl

set_option maxRecDepth 100000 in
set_option maxHeartbeats 8000000 in
theorem rdecode_any (v : Value) (l : List UInt8) (w : World) (h : Rd w v l.length 1 (bcells l)) (hn : l.length ≤ 100000) :
    Calls Tryz.prog 47 #[v] w (Gives w 3 1 (decode l).length (icells (decode l))) := by
  obtain ⟨i0, hi, hz0, hz1, hz2⟩ := info_parts infoInt
  rcases Nat.eq_zero_or_pos l.length with h0 | h0
  · have hx : l = [] := List.length_eq_zero_iff.1 h0
    subst hx
    obtain ⟨-, -, ⟨ao, c, rfl, -⟩ | ⟨b, off, c, -, h1, -⟩⟩ := h
    · go_enter Tryz.func47, Tryz.ntmps47
      go_wp2
      refine wp_loop_rounds 1 ?_; rw [rounds_succ]
      go_wp2
      go_ret
      exact ⟨_, rfl, World.ownsRow_nil _ _ _ _, Below.refl _ _⟩
    · simp at h1
  · obtain ⟨b, off, c, rfl, hnc, hcm, hcell⟩ := bytes_cells h h0
    have HC := Lib.hid hcell; clear hcell h
    unfold maxLen at hcm
    go_enter Tryz.func47, Tryz.ntmps47
    go_wp2
    go_loopw [3, 4] (fun o i wr => ∃ (p : Nat) (cs : List Int), p ≤ l.length ∧ i = .int .i64 p ∧ Hid (decode l = cs ++ decode (l.drop p)) ∧ cs.length ≤ p ∧ wr.ownsRow w.heap.size 3 1 o cs.length (icells cs) ∧ Below w.heap.size w wr) (fun _ i _ => l.length - (intOf i).toNat)
    case atStart => exact ⟨0, [], Nat.zero_le _, rfl, rfl, Nat.le_refl _, World.ownsRow_nil _ _ _ _, Below.refl _ _⟩
    case round =>
      obtain ⟨p, cs, hp, rfl, HD, hcs, hown, hbel⟩ := hrel
      have hsz := hbel.size
      by_cases hlt : p < l.length
      · have HF : Hid ((first (l.drop p)) = refFirst (l.drop p) 4) := (refFirst_is (l.drop p) (by intro e; have := congrArg List.length e; simp at this; omega)).symm
        have hlti : (p : Int) < (l.length : Int) := by omega
        obtain ⟨oa, oc, rfl⟩ := own_shape hown
        have hne : l.drop p ≠ [] := by intro e; have := congrArg List.length e; simp at this; omega
        have hdl : (l.drop p).length = l.length - p := List.length_drop
        go_wp2
        go_loopw [5, 6, 7] (fun cv nv kv W => ∃ k : Nat, k ≤ 4 ∧ kv = .int .i64 ((k + 1 : Nat) : Int) ∧ cv = .int .i64 (refFirst (l.drop p) k).1 ∧ nv = .int .i64 ((refFirst (l.drop p) k).2 : Nat) ∧ W.ownsRow w.heap.size 3 1 (.slice oa cs.length oc) cs.length (icells cs) ∧ Below w.heap.size w W) (fun _ _ kv _ => 6 - (intOf kv).toNat)
        case atStart => exact ⟨0, by omega, rfl, rfl, rfl, hown, hbel⟩
        case round =>
          clear hown hbel hsz
          obtain ⟨k, hk, rfl, rfl, rfl, hown, hbel⟩ := hrel
          have hsz := hbel.size
          by_cases hk4 : k < 4
          · have hki : ((k + 1 : Nat) : Int) ≤ 4 := by omega
            have hcW : ∀ W, Below w.heap.size w W → ∀ i (hi : i < l.length), W.cell? ⟨b, off + i, none⟩ = some (.int .u8 (ch l[i])) := fun W hb i hi => by
              have h1 := HC.out i hi
              exact (hb.cell (World.block_lt_of_cell? w _ h1)).trans h1
            have hrd0 := rd_cut (hcW wr hbel) hnc (by unfold maxLen; omega) p (l.length - p) (by omega) (by omega)
            rw [show (l.drop p).take (l.length - p) = l.drop p from List.take_of_length_le (by omega)] at hrd0
            have hbeg := begins_any _ (l.drop p) (k + 1) wr hrd0 (by omega) (by omega) (by omega)
            have HB := Lib.hid hbeg
            have hRD := Lib.hid (fun W hb m h0 hm => rd_cut (hcW W hb) hnc (by unfold maxLen; omega) p m h0 hm)
            clear hbeg hrd0 hcW
            have g0 : (0 : Int) ≤ (p : Int) := by omega
            have g1 : (p : Int) ≤ (l.length : Int) := by omega
            have hbd := begins_bd (l.drop p) (k + 1) (by omega)
            have hfit : Hid (fitsN (l.drop p) (k + 1) = (isChar (begins (l.drop p) (k + 1)) && enc (begins (l.drop p) (k + 1)) == (l.drop p).take (k + 1))) := rfl
            have href : Hid (refFirst (l.drop p) (k + 1) = if fitsN (l.drop p) (k + 1) then (begins (l.drop p) (k + 1), k + 1) else refFirst (l.drop p) k) := rfl
            generalize begins (l.drop p) (k + 1) = x at *
            by_cases hch : isChar x = true
            · have hx0 := isChar_bd hch
              obtain ⟨m, hm1, hm2, hm3, hmt⟩ : ∃ m : Nat, 0 < m ∧ p + m ≤ l.length ∧ (if (p : Int) + ((k + 1 : Nat) : Int) < (l.length : Int) then (p : Int) + ((k + 1 : Nat) : Int) else (l.length : Int)) = ((p + m : Nat) : Int) ∧ (l.drop p).take (k + 1) = (l.drop p).take m := by
                by_cases hx : p + (k + 1) < l.length
                · exact ⟨k + 1, by omega, by omega, by rw [if_pos (by omega)]; omega, rfl⟩
                · exact ⟨l.length - p, by omega, by omega, by rw [if_neg (by omega)]; omega, by rw [List.take_of_length_le (by omega), List.take_of_length_le (by omega)]⟩
              rw [hch, Bool.true_and, hmt] at hfit
              have T0 : Hid (∀ W, Calls Tryz.prog 63 #[.int .i64 x] W fun e w' => e = .returned (.bool true) ∧ W = w') := fun W => by have := rright_any x W; rw [hch] at this; exact this
              have T1 : Hid (∀ W, Calls Tryz.prog 64 #[.int .i64 x] W (Gives W 5 1 (enc x).length (bcells (enc x)))) := fun W => rencode_any x W hx0.1 hx0.2
              have T2 : Hid (∀ W, Calls Tryz.prog 65 #[.int .i64 ((p : Int) + ((k + 1 : Nat) : Int)), .int .i64 l.length] W fun e w' => e = .returned (.int .i64 ((p + m : Nat) : Int)) ∧ W = w') := fun W => by have := rleast_any ((p : Int) + ((k + 1 : Nat) : Int)) l.length W; rw [hm3] at this; exact this
              have g2 : (p : Int) ≤ ((p + m : Nat) : Int) := by omega
              have g3 : ((p + m : Nat) : Int) ≤ (c : Int) := by omega
              have g4 : ((p + m : Nat) : Int) - (p : Int) = (m : Int) := by omega
              have hw : IntKind.i64.wrap ((p : Int) + ((k + 1 : Nat) : Int)) = (p : Int) + ((k + 1 : Nat) : Int) := by rw [IntKind.wrap_i64]; omega
              have hst : Hid (∀ (W : World) (v4 : Value), W.ownsRow w.heap.size 5 1 v4 (enc x).length (bcells (enc x)) → (convert 42 9 v4).run Tryz.prog W = .ok (.string (bstr (enc x))) W) := fun W v4 h4 => run_to_string W 42 9 5 Tryz.underlying42 Tryz.underlying5 Tryz.underlying9 _ (enc x) (Rd.of_own h4)
              have hst2 : Hid (∀ (W : World), Below w.heap.size w W → (convert 42 9 (.slice (some ⟨b, off + p, none⟩) m (c - p))).run Tryz.prog W = .ok (.string (bstr ((l.drop p).take m))) W) := fun W hb => run_to_string W 42 9 5 Tryz.underlying42 Tryz.underlying5 Tryz.underlying9 _ ((l.drop p).take m) (hRD.out W hb m hm1 hm2)
              generalize (l.drop p).take m = y at *
              generalize enc x = ex at *
              clear hch hbd hm3 hRD
              generalize hkq : ((k + 1 : Nat) : Int) = kq at *
              generalize hpm : ((p + m : Nat) : Int) = pm at *
              go_wp2_with (go_at_call 62; refine HB.out.mono ?_; rintro e w1 ⟨rfl, hb1⟩)
              have hbw1 := hbel.trans (hb1.mono hsz)
              have hfin : Hid (∀ W, Below w1.heap.size w1 W → W.ownsRow w.heap.size 3 1 (.slice oa cs.length oc) cs.length (icells cs) ∧ Below w.heap.size w W) := fun W hW => ⟨own_below' (own_below' hown hb1) hW, hbw1.trans (hW.mono hbw1.size)⟩
              refine L_begin (fun W => Below w1.heap.size w1 W) 16 (by kernel_rfl) ?_
              have hs0 : Below w1.heap.size w1 w1.drew := (Below.refl _ _).drew
              generalize w1.drew = wd at *
              refine L_free (fuel := 17) 0 (.int .i64 x) rfl (by kernel_rfl) (by kernel_rfl) (by kernel_rfl) (by kernel_rfl) (fun _ _ _ h => h) (by kernel_rfl) ?_ (hs0) ?_
              · intro W
                go_simp
              refine L_one (fuel := 16) 1 (by kernel_rfl) rfl ?_
              intro K hK
              go_simp
              refine (T0.out _).mono ?_
              rintro e w' ⟨rfl, rfl⟩
              go_simp
              refine hK _ _ hs0 ?_
              clear hK K
              refine L_free (fuel := 15) 2 (.bool true) rfl (by kernel_rfl) (by kernel_rfl) (by kernel_rfl) (by kernel_rfl) (fun _ _ _ h => h) (by kernel_rfl) ?_ (hs0) ?_
              · intro W
                go_simp
              refine L_free (fuel := 14) 3 (.int .i64 x) rfl (by kernel_rfl) (by kernel_rfl) (by kernel_rfl) (by kernel_rfl) (fun _ _ _ h => h) (by kernel_rfl) ?_ (hs0) ?_
              · intro W
                go_simp
              refine L_free (fuel := 13) 6 (.slice (some ⟨b, off, none⟩) l.length c) rfl (by kernel_rfl) (by kernel_rfl) (by kernel_rfl) (by kernel_rfl) (fun _ _ _ h => h) (by kernel_rfl) ?_ (hs0) ?_
              · intro W
                go_simp
              refine L_free (fuel := 12) 7 (.int .i64 p) rfl (by kernel_rfl) (by kernel_rfl) (by kernel_rfl) (by kernel_rfl) (fun _ _ _ h => h) (by kernel_rfl) ?_ (hs0) ?_
              · intro W
                go_simp
              refine L_free (fuel := 11) 8 (.int .i64 p) rfl (by kernel_rfl) (by kernel_rfl) (by kernel_rfl) (by kernel_rfl) (fun _ _ _ h => h) (by kernel_rfl) ?_ (hs0) ?_
              · intro W
                go_simp
              refine L_free (fuel := 10) 9 (.int .i64 kq) rfl (by kernel_rfl) (by kernel_rfl) (by kernel_rfl) (by kernel_rfl) (fun _ _ _ h => h) (by kernel_rfl) ?_ (hs0) ?_
              · intro W
                go_simp
              refine L_free (fuel := 9) 10 (.int .i64 ((p : Int) + kq)) rfl (by kernel_rfl) (by kernel_rfl) (by kernel_rfl) (by kernel_rfl) (fun _ _ _ h => h) (by kernel_rfl) ?_ (hs0) ?_
              · intro W
                go_simp
              refine L_free (fuel := 8) 11 (.slice (some ⟨b, off, none⟩) l.length c) rfl (by kernel_rfl) (by kernel_rfl) (by kernel_rfl) (by kernel_rfl) (fun _ _ _ h => h) (by kernel_rfl) ?_ (hs0) ?_
              · intro W
                go_simp
              refine L_free (fuel := 7) 12 (.int .i64 l.length) rfl (by kernel_rfl) (by kernel_rfl) (by kernel_rfl) (by kernel_rfl) (fun _ _ _ h => h) (by kernel_rfl) ?_ (hs0) ?_
              · intro W
                go_simp
              refine L_one (fuel := 6) 4 (by kernel_rfl) rfl ?_
              intro K hK
              go_simp
              refine (T1.out _).mono ?_
              rintro e w4 ⟨v4, rfl, hown4, hb4⟩
              have hs4 : Below w1.heap.size w1 w4 := hs0.trans (hb4.mono hs0.size)
              have hown4' := own_mono hown4 (Nat.le_trans hbw1.size hs0.size)
              obtain ⟨a4, c4, rfl⟩ := own_shape hown4
              go_simp
              refine hK _ _ hs4 ?_
              clear hK K
              refine anyL_mono (S' := fun W => Below w4.heap.size w4 W) (fun W hW => hs4.trans (hW.mono hs4.size)) _ _ _ _ ?_
              have hz4 : Below w4.heap.size w4 w4 := Below.refl _ _
              refine L_take (fuel := 5) 5 (.string (bstr ex)) rfl (by kernel_rfl) (by kernel_rfl) (by kernel_rfl) (by kernel_rfl) (fun _ _ _ h => h) (by kernel_rfl) ?_ hz4 ?_
              · intro W hW
                have hq := hst.out W _ (own_below' hown4' hW)
                go_simp
              refine L_one (fuel := 4) 13 (by kernel_rfl) rfl ?_
              intro K hK
              go_simp
              refine (T2.out _).mono ?_
              rintro e w' ⟨rfl, rfl⟩
              go_simp
              refine hK _ _ hz4 ?_
              clear hK K
              refine L_free (fuel := 3) 14 (.slice (some ⟨b, off + p, none⟩) m (c - p)) rfl (by kernel_rfl) (by kernel_rfl) (by kernel_rfl) (by kernel_rfl) (fun _ _ _ h => h) (by kernel_rfl) ?_ hz4 ?_
              · intro W
                go_simp
                exact ⟨fun h => by omega, by omega⟩
              refine L_take (fuel := 2) 15 (.string (bstr y)) rfl (by kernel_rfl) (by kernel_rfl) (by kernel_rfl) (by kernel_rfl) (fun _ _ _ h => h) (by kernel_rfl) ?_ hz4 ?_
              · intro W hW
                have hq := hst2.out W ((hfin.out _ hs4).2.trans (hW.mono (hfin.out _ hs4).2.size))
                go_simp
              refine L_one (fuel := 1) 16 (by kernel_rfl) rfl ?_
              intro K hK
              go_simp
              rw [btoList, btoList]
              have hF := hfin.out _ hs4
              by_cases heq : ex = y
              · have hbt : (ex == y) = true := by simp [heq]
                have hbd : decide (ex = y) = true := by simp [heq]
                first | rw [hbt] | rw [hbd]
                go_simp
                refine hK _ _ hz4 ?_
                clear hK K
                refine L_one (fuel := 0) 17 (by kernel_rfl) rfl ?_
                intro K hK
                go_simp
                refine hK _ _ hz4 ?_
                clear hK K
                refine L_done (by kernel_rfl) ?_ 0
                subst hkq
                have hnf : Hid (refFirst (l.drop p) (k + 1) = (x, k + 1)) := by
                  show _ = _
                  rw [href.out, hfit.out]
                  rw [if_pos (by simpa using heq)]
                go_wp2
                go_roundw
                case rel => exact ⟨k + 1, by omega, by go_num, by rw [hnf.out], by rw [hnf.out], hF.1, hF.2⟩
                case measure => simp [intOf]; omega
              · have hbt : (ex == y) = false := by simp [heq]
                have hbd : decide (ex = y) = false := by simp [heq]
                first | rw [hbt] | rw [hbd]
                go_simp
                refine hK _ _ hz4 ?_
                clear hK K
                refine L_one (fuel := 0) 17 (by kernel_rfl) rfl ?_
                intro K hK
                go_simp
                refine hK _ _ hz4 ?_
                clear hK K
                refine L_done (by kernel_rfl) ?_ 0
                subst hkq
                have hnf : Hid (refFirst (l.drop p) (k + 1) = refFirst (l.drop p) k) := by
                  show _ = _
                  rw [href.out, hfit.out]
                  rw [if_neg (by simpa using heq)]
                go_wp2
                go_roundw
                case rel => exact ⟨k + 1, by omega, by go_num, by rw [hnf.out], by rw [hnf.out], hF.1, hF.2⟩
                case measure => simp [intOf]; omega
            · have hch' : isChar x = false := by simpa using hch
              have hnf : refFirst (l.drop p) (k + 1) = refFirst (l.drop p) k := by rw [href.out, hfit.out, hch']; rfl
              have HNF := Lib.hid hnf
              have T0 := fun W => rright_any x W
              rw [hch'] at T0
              clear hch hch' hnf hfit href
              go_wp2_with (go_at_call 62; refine HB.out.mono ?_; rintro e w1 ⟨rfl, hb1⟩)
              have T1 := fun d os => Calls.regrown_of ((T0 (grow (redrawn w1 d) os)).mono fun e w' ⟨h1, h2⟩ => ⟨h1, by rw [← h2]; exact Below.refl _ _⟩)
              refine wp_region_quiet_below (by kernel_rfl) (by kernel_rfl) ?_
              repeat (go_big_quiet_step (first | (go_at_call 63; with_reducible exact T1 _ _)))
              refine wpQuiet_nil ?_
              intro W2 hw'
              obtain ⟨⟨dq, osq⟩, hw''⟩ := hw'
              have hb2 := hb1.trans ((below_regrown w1 dq osq).mono hb1.size)
              rw [← hw''] at hb2
              clear hw'' T1
              go_wp2
              go_roundw
              case rel => exact ⟨k + 1, by omega, by go_num, by rw [HNF.out], by rw [HNF.out], own_below' hown hb2, hbel.trans (hb2.mono hsz)⟩
              case measure => simp [intOf]; omega
          · have hk4' : k = 4 := by omega
            subst hk4'
            have hki : ¬ ((4 + 1 : Nat) : Int) ≤ 4 := by omega
            rw [← HF.out]
            have hfl := first_len (l.drop p) hne
            have hds := decode_step (l.drop p) hne
            rw [List.drop_drop] at hds
            have HDS := Lib.hid hds
            generalize first (l.drop p) = fr at *
            obtain ⟨cc, m⟩ := fr
            simp only at hfl HDS
            rw [hdl] at hfl
            clear hds
            have hcl : cs.length < 100001 := by omega
            have hnews : ∀ u ∈ [Value.int .i64 cc], u.oneCell' = true := by intro u hu; simp at hu; subst hu; rfl
            have HN := Lib.hid hnews; clear hnews
            go_wp2_with (at_builtin; refine wpList_app rfl _ _ _ _ rfl w.heap.size 3 i0 _ 1 8 Tryz.underlying46 hi hz0 hz1 hz2 rfl (.slice oa cs.length oc) cs.length _ rfl (hown.alloc _) _ 1 [.int .i64 cc] rfl (src_new Tryz.underlying46 wr _ 1 1 1 rfl HN.out) (by unfold maxLen; omega) (by omega) (by simp; omega) ?_; intro v' w1 hown1 hgr _ _; have hbf : Below w.heap.size w w1 := (hbel.alloc hsz _).grown hgr (by simp; omega) (fun j hj => (hown.lt j hj).1); obtain ⟨na, nc, rfl⟩ := own_shape hown1)
            go_roundw
            case rel => exact ⟨p + m, cs ++ [cc], by omega, by go_num, by show _ = _; rw [HD.out, HDS.out]; simp, by simp; omega, by simpa [icells] using hown1, hbf⟩
            case measure => simp [intOf]; omega
      · have hp0 : p = l.length := by omega
        subst hp0
        have hlti : ¬ (l.length : Int) < (l.length : Int) := by omega
        go_wp2
        go_ret
        have hd := HD.out
        rw [List.drop_length, decode_nil, List.append_nil] at hd
        rw [hd]
        exact ⟨_, rfl, hown, hbel⟩
end Go.Proofs.YteegbjjpjdlcmaaGreatDoor

/- rubrickref05.Term, Terms. -/
set_option linter.unusedVariables false
namespace Go.Proofs.YteegbjjpjdlcmaaGreatDoor
open Go.RowKit Go.Sort

set_option maxRecDepth 100000 in
set_option maxHeartbeats 4000000 in
theorem rterm_any (v : Value) (n : Nat) (l : List Int) (w : World) (hln : l.length = n) (h : Rd w v n 1 (icells l)) (hch : ∀ c ∈ l, isChar c = true) (hn : n ≤ 100000) :
    Calls Tryz.prog 49 #[v] w (StrIs (term l) w) := by
  obtain ⟨ao, c, rfl, hnc, hcell⟩ : ∃ ao c, v = .slice ao n c ∧ (n ≤ 9223372036854775807) ∧ Hid (∀ i (hi : i < l.length), ∃ b off, ao = some ⟨b, off, none⟩ ∧ w.cell? ⟨b, off + i, none⟩ = some (.int .i64 l[i])) := by
    obtain ⟨-, -, ⟨ao, c, rfl, h0⟩ | ⟨b, off, c, rfl, -, -, -, h3⟩⟩ := h
    · exact ⟨ao, c, by rw [h0], by omega, fun i hi => by omega⟩
    · exact ⟨_, c, rfl, by omega, fun i hi => ⟨b, off, rfl, h3 i _ (by simp [icells, hi])⟩⟩
  have HCH := Lib.hid hch
  have HLN := Lib.hid hln
  clear h hch hln
  go_enter Tryz.func49, Tryz.ntmps49
  go_wp2
  go_loopw [3, 4] (fun o i wr => ∃ (k : Nat) (tb : List UInt8), k ≤ n ∧ o = .string (bstr tb) ∧ i = .int .i64 k ∧ tb.length ≤ 64 ∧ Hid (term l = termGo tb (l.drop k)) ∧ Below w.heap.size w wr) (fun _ i _ => n - (intOf i).toNat)
  case atStart => exact ⟨0, [], Nat.zero_le _, rfl, rfl, by simp, rfl, Below.refl _ _⟩
  case round =>
    obtain ⟨k, tb, hk, rfl, rfl, htb, HT, hbel⟩ := hrel
    have hsz := hbel.size
    by_cases hlt : k < n
    · have hltl : k < l.length := by have := HLN.out; omega
      obtain ⟨b, off, rfl, hc0⟩ := hcell.out k hltl
      have hcur := (hbel.cell (World.block_lt_of_cell? w _ hc0)).trans hc0
      have hcc : isChar l[k] = true := HCH.out _ (List.getElem_mem _)
      have hcb := isChar_bd hcc
      have hdrop : l.drop k = l[k] :: l.drop (k + 1) := List.drop_eq_getElem_cons hltl
      have hsc := isChar_bd (small_char hcc)
      have HS := Lib.hid (rsmall_any l[k] wr (by omega) (by omega))
      have HE := Lib.hid (fun (w1 : World) => rencode_any (small l[k]) w1 hsc.1 hsc.2)
      have hel := enc_len (small l[k])
      have hstep : Hid (termGo tb (l.drop k) = if 64 < tb.length + (enc (small l[k])).length then tb else termGo (tb ++ enc (small l[k])) (l.drop (k + 1))) := by
        show _ = _
        rw [hdrop]; rfl
      generalize enc (small l[k]) = ee at *
      generalize small l[k] = sc at *
      have hconv := fun (w2 : World) (v2 : Value) (h2 : Rd w2 v2 ee.length 1 (bcells ee)) => run_to_string (P := Tryz.prog) w2 42 9 5 Tryz.underlying42 Tryz.underlying5 Tryz.underlying9 _ ee h2
      have HCV := Lib.hid hconv
      have s1 := size_bstr tb
      have s2 := size_bstr ee
      have HAP := Lib.hid (bstr_append tb ee)
      clear hdrop hcell hc0 hsc hcc hconv
      have hb4 : tb.length + ee.length ≤ 68 := by omega
      by_cases hov : 64 < tb.length + ee.length
      · have hovi : (64 : Int) < (tb.length : Int) + (ee.length : Int) := by omega
        have hter : Hid (term l = tb) := by
          show _ = _
          rw [HT.out, hstep.out, if_pos hov]
        clear hov hstep
        go_wp2_with (first | (go_at_call 67; refine HS.out.mono ?_; rintro e w1 ⟨rfl, rfl⟩) | (go_at_call 64; refine (HE.out _).mono ?_; rintro e w2 ⟨v2, rfl, hown2, hb2⟩; obtain ⟨a2, c2, rfl⟩ := own_shape hown2; have hB := hbel.trans (hb2.mono hsz); have hconv := HCV.out w2 _ (Rd.of_own hown2)))
        go_ret
        exact ⟨by rw [hter.out]; rfl, hB⟩
      · have hovi : ¬ (64 : Int) < (tb.length : Int) + (ee.length : Int) := by omega
        have hbl : (tb ++ ee).length ≤ 64 := by simp; omega
        have hter : Hid (term l = termGo (tb ++ ee) (l.drop (k + 1))) := by
          show _ = _
          rw [HT.out, hstep.out, if_neg hov]
        clear hov hstep
        go_wp2_with (first | (go_at_call 67; refine HS.out.mono ?_; rintro e w1 ⟨rfl, rfl⟩) | (go_at_call 64; refine (HE.out _).mono ?_; rintro e w2 ⟨v2, rfl, hown2, hb2⟩; obtain ⟨a2, c2, rfl⟩ := own_shape hown2; have hB := hbel.trans (hb2.mono hsz); have hconv := HCV.out w2 _ (Rd.of_own hown2)))
        go_roundw
        case rel => exact ⟨k + 1, tb ++ ee, by omega, by rw [HAP.out], by go_num, hbl, hter, hB⟩
        case measure => simp [intOf]; omega
    · have hter : Hid (term l = tb) := by
        show _ = _
        rw [HT.out, List.drop_of_length_le (by have := HLN.out; omega)]
        rfl
      go_wp2
      go_ret
      exact ⟨by rw [hter.out]; rfl, hbel⟩

/-- a part of a slice of one cell an element. -/
theorem Rd.cut {w : World} {b off n c : Nat} {cells : List Value} (h : Rd w (.slice (some ⟨b, off, none⟩) n c) n 1 cells) (p m : Nat) (h0 : 0 < m) (hm : p + m ≤ n) :
    Rd w (.slice (some ⟨b, off + p, none⟩) m (c - p)) m 1 ((cells.drop p).take m) := by
  obtain ⟨hl, hmx, ⟨ao, c', hv, h0'⟩ | ⟨b', off', c', hv, hn0, hnc, hcm, hcell⟩⟩ := h
  · omega
  · simp only [Value.slice.injEq, Option.some.injEq, Addr.mk.injEq, and_true, true_and] at hv
    obtain ⟨⟨rfl, rfl⟩, rfl⟩ := hv
    refine ⟨by rw [List.length_take, List.length_drop]; omega, by omega, .inr ⟨b, off + p, c - p, rfl, h0, by omega, by omega, fun i u hu => ?_⟩⟩
    have hi : i < m := by
      have := (List.getElem?_eq_some_iff.1 hu).1
      rw [List.length_take] at this; omega
    rw [List.getElem?_take_of_lt hi, List.getElem?_drop] at hu
    rw [show off + p + i = off + (p + i) from by omega]
    exact hcell _ _ hu

/-- one step of the reference: the word that begins at i. -/
theorem words_part (cs : List Int) (i k : Nat) (hik : i ≤ k) (hk : k ≤ cs.length) (h : ∀ j (hj : j < cs.length), i ≤ j → j < k → inWord cs[j] = true) :
    wordsGo [] (cs.drop i) = wordsGo ((cs.drop i).take (k - i)) (cs.drop k) := by
  obtain ⟨d, rfl⟩ : ∃ d, k = i + d := ⟨k - i, by omega⟩
  induction d with
  | zero => simp
  | succ d ih =>
    rw [ih (by omega) (by omega) (fun j hj h1 h2 => h j hj h1 (by omega))]
    have hlt : i + d < cs.length := by omega
    rw [List.drop_eq_getElem_cons hlt, words_in _ _ _ (h (i + d) hlt (by omega) (by omega))]
    congr 1
    rw [show i + (d + 1) - i = d + 1 from by omega, show i + d - i = d from by omega]
    have hd : d < (cs.drop i).length := by rw [List.length_drop]; omega
    rw [List.take_succ_eq_append_getElem hd, List.getElem_drop]

theorem words_next (cs : List Int) (i k : Nat) (hik : i ≤ k) (hk : k ≤ cs.length) (h : ∀ j (hj : j < cs.length), i ≤ j → j < k → inWord cs[j] = true) (he : ∀ hj : k < cs.length, inWord cs[k] = false) :
    wordsGo [] (cs.drop i) = (if i < k then [(cs.drop i).take (k - i)] else []) ++ wordsGo [] (cs.drop (k + 1)) := by
  rw [words_part cs i k hik hk h]
  have hne : i < k → (cs.drop i).take (k - i) ≠ [] := fun h1 e => by
    have := congrArg List.length e
    rw [List.length_take, List.length_drop] at this
    simp at this; omega
  by_cases hkl : k < cs.length
  · rw [List.drop_eq_getElem_cons hkl]
    by_cases h1 : i < k
    · rw [if_pos h1, words_cut _ _ _ (he hkl) (hne h1)]; rfl
    · have : i = k := by omega
      subst this
      rw [if_neg h1, Nat.sub_self, List.take_zero, words_out _ _ (he hkl)]; rfl
  · have e1 : cs.drop k = [] := List.drop_of_length_le (by omega)
    have e2 : cs.drop (k + 1) = [] := List.drop_of_length_le (by omega)
    rw [e1, e2, words_end, words_end]
    by_cases h1 : i < k
    · rw [if_pos h1, if_neg (hne h1)]; simp
    · have : i = k := by omega
      subst this
      rw [if_neg h1]; simp
end Go.Proofs.YteegbjjpjdlcmaaGreatDoor

/- rubrickref05.Terms: the walk. -/
set_option linter.unusedVariables false
namespace Go.Proofs.YteegbjjpjdlcmaaGreatDoor
open Go.RowKit Go.Sort

set_option maxRecDepth 100000 in
set_option maxHeartbeats 8000000 in
theorem rterms_any (v : Value) (l : List UInt8) (w : World) (h : Rd w v l.length 1 (bcells l)) (hn : l.length ≤ 100000) :
    Calls Tryz.prog 38 #[v] w (Gives w 9 1 (terms l).length (scells (terms l))) := by
  obtain ⟨j0, hj, hy0, hy1, hy2⟩ := info_parts infoStr
  have hdec := rdecode_any v l w h hn
  have hch := decode_char l
  have hlen := decode_len l
  have hterms : terms l = (words (decode l)).map term := rfl
  generalize decode l = cs at *
  have HT := Lib.hid hterms; clear hterms
  have HCH := Lib.hid hch; clear hch
  have HD := Lib.hid hdec; clear hdec
  clear h
  go_enter Tryz.func38, Tryz.ntmps38
  go_wp2_with (go_at_call 47; refine HD.out.mono ?_; rintro e w1 ⟨v1, rfl, hown1, hb1⟩)
  rcases Nat.eq_zero_or_pos cs.length with h0 | h0
  · have hx : cs = [] := List.length_eq_zero_iff.1 h0
    subst hx
    obtain ⟨a1, c1, rfl⟩ := own_shape hown1
    refine wp_loop_rounds 1 ?_; rw [rounds_succ]
    go_wp2
    go_ret
    rw [HT.out]
    exact ⟨_, rfl, World.ownsRow_nil _ _ _ _, hb1⟩
  · obtain ⟨g, c1, rfl⟩ := own_form hown1 h0
    have hpt := own_parts hown1
    have hcap := hpt.1
    have hcm := hpt.2.1
    unfold maxLen at hcm
    clear hpt
    have HO := Lib.hid hown1
    clear hown1
    have hsz1 := hb1.size
    go_loopw [4, 5] (fun o i wr => ∃ (k : Nat) (done : List (List Int)), k ≤ cs.length + 1 ∧ i = .int .i64 k ∧ Hid (words cs = done ++ wordsGo [] (cs.drop k)) ∧ done.length ≤ k ∧ wr.ownsRow w1.heap.size 9 1 o done.length (scells (done.map term)) ∧ Below w1.heap.size w1 wr) (fun _ i _ => cs.length + 1 - (intOf i).toNat)
    case atStart => exact ⟨0, [], Nat.zero_le _, rfl, rfl, Nat.le_refl _, World.ownsRow_nil _ _ _ _, Below.refl _ _⟩
    case round =>
      obtain ⟨i, done, hi1, rfl, HW, hdk, hown3, hbel⟩ := hrel
      have hsz := hbel.size
      by_cases hlt : i < cs.length
      · have ii : (i : Int) < (cs.length : Int) := by omega
        go_wp2
        go_loopw [6] (fun kv W => ∃ k : Nat, i ≤ k ∧ k ≤ cs.length ∧ kv = .int .i64 k ∧ Hid (∀ j (hj : j < cs.length), i ≤ j → j < k → inWord cs[j] = true) ∧ W = wr) (fun kv _ => cs.length - (intOf kv).toNat)
        case atStart => exact ⟨i, Nat.le_refl _, by omega, rfl, fun j hj h1 h2 => by omega, rfl⟩
        case round =>
          obtain ⟨k, hik, hk, rfl, HIN, rfl⟩ := hrel
          by_cases hkl : k < cs.length
          · have c0 := (own_below' HO.out hbel).cellAt k (by omega)
            rw [show (icells cs)[k]? = some (.int .i64 cs[k]) from by simp [icells, hkl]] at c0
            have ki : (k : Int) < (cs.length : Int) := by omega
            have HI := Lib.hid (fun W => rin_any cs[k] W)
            have HN : Hid (inWord cs[k] = true → ∀ j (hj : j < cs.length), i ≤ j → j < k + 1 → inWord cs[j] = true) := fun h j hj h1 h2 => by
              by_cases e : j = k
              · subst e; exact h
              · exact HIN.out j hj h1 (by omega)
            generalize hxq : cs[k] = x at *
            have HXQ := Lib.hid hxq
            clear hxq
            cases hin : inWord x with
            | true =>
              have HN2 := Lib.hid (HN.out hin)
              have HI2 : Hid (∀ W, Calls Tryz.prog 48 #[.int .i64 x] W fun e w' => e = .returned (.bool true) ∧ W = w') := fun W => by have := HI.out W; rw [hin] at this; exact this
              clear hin
              go_wp2_with (go_at_call 48; refine (HI2.out _).mono ?_; rintro e w' ⟨rfl, rfl⟩)
              go_roundw
              case rel => exact ⟨k + 1, by omega, by omega, by go_num, HN2.out, by first | rfl | trivial⟩
              case measure => simp [intOf]; omega
            | false =>
              have HI2 : Hid (∀ W, Calls Tryz.prog 48 #[.int .i64 x] W fun e w' => e = .returned (.bool false) ∧ W = w') := fun W => by have := HI.out W; rw [hin] at this; exact this
              have hnx : words cs = done ++ ((if i < k then [(cs.drop i).take (k - i)] else []) ++ wordsGo [] (cs.drop (k + 1))) := by
                rw [HW.out, words_next cs i k hik hk HIN.out (fun hj => by rw [HXQ.out]; exact hin)]
              clear hin HN HI
              by_cases hik2 : i < k
              · rw [if_pos hik2] at hnx
                have HNX := Lib.hid hnx
                clear hnx
                have g1 : (i : Int) < (k : Int) := by omega
                have g2 : (i : Int) ≤ (k : Int) := by omega
                have g3 : (k : Int) ≤ (c1 : Int) := by omega
                have g4 : (k : Int) - (i : Int) = ((k - i : Nat) : Int) := by omega
                have hrd := (Rd.of_own (own_below' HO.out hbel)).cut i (k - i) (by omega) (by omega)
                have hml : ((cs.drop i).take (k - i)).length = k - i := by rw [List.length_take, List.length_drop]; omega
                rw [show ((icells cs).drop i).take (k - i) = icells ((cs.drop i).take (k - i)) from by simp [icells, List.map_take, List.map_drop], Nat.zero_add] at hrd
                have hmc : ∀ c ∈ (cs.drop i).take (k - i), isChar c = true := fun c hc => HCH.out c (List.mem_of_mem_drop (List.mem_of_mem_take hc))
                have HTM := Lib.hid (rterm_any _ (k - i) _ wr hml hrd hmc (by omega))
                generalize (cs.drop i).take (k - i) = m at *
                have hN2 : ∀ u ∈ [Value.string (bstr (term m))], u.oneCell' = true := by intro u hu; simp at hu; subst hu; rfl
                have HN2 := Lib.hid hN2
                clear hrd hml hmc hN2
                go_wp2_with (first | (go_at_call 48; refine (HI2.out _).mono ?_; rintro e w' ⟨rfl, rfl⟩) | (go_at_call 49; refine HTM.out.mono ?_; rintro e w3 ⟨rfl, hb3⟩) | (at_builtin; refine wpList_app rfl _ _ _ _ rfl w1.heap.size 9 j0 _ 1 16 Tryz.underlying64 hj hy0 hy1 hy2 rfl _ done.length _ rfl ((own_below' hown3 hb3).alloc _) _ 1 [Value.string (bstr (term m))] rfl (src_new Tryz.underlying64 w3 _ 1 1 1 rfl HN2.out) (by unfold maxLen; omega) (by omega) (by have := hb3.size; simp; omega) ?_; intro v4 w4 hown4' hgr _ _))
                have hB3 : Below w1.heap.size w1 w4 := ((hbel.trans (hb3.mono hsz)).alloc (by have := hb3.size; omega) _).grown hgr (by have := hb3.size; simp; omega) (fun j hj => (hown3.lt j hj).1)
                clear hgr
                go_wp2
                go_roundw
                case rel =>
                  refine ⟨k + 1, done ++ [m], by omega, by go_num, by show _ = _; rw [HNX.out]; simp, by simp; omega, ?_, hB3⟩
                  rw [List.length_append, List.map_append, scells_append]
                  exact hown4'
                case measure => simp [intOf]; omega
              · rw [if_neg hik2] at hnx
                have HNX := Lib.hid hnx
                clear hnx
                have g1 : ¬ (i : Int) < (k : Int) := by omega
                go_wp2_with (go_at_call 48; refine (HI2.out _).mono ?_; rintro e w' ⟨rfl, rfl⟩)
                go_roundw
                case rel => exact ⟨k + 1, done, by omega, by go_num, by show _ = _; rw [HNX.out]; rfl, by omega, hown3, hbel⟩
                case measure => simp [intOf]; omega
          · have ki : ¬ (k : Int) < (cs.length : Int) := by omega
            have hnx : words cs = done ++ ((if i < k then [(cs.drop i).take (k - i)] else []) ++ wordsGo [] (cs.drop (k + 1))) := by
              rw [HW.out, words_next cs i k hik hk HIN.out (fun hj => absurd hj hkl)]
            by_cases hik2 : i < k
            · rw [if_pos hik2] at hnx
              have HNX := Lib.hid hnx
              clear hnx
              have g1 : (i : Int) < (k : Int) := by omega
              have g2 : (i : Int) ≤ (k : Int) := by omega
              have g3 : (k : Int) ≤ (c1 : Int) := by omega
              have g4 : (k : Int) - (i : Int) = ((k - i : Nat) : Int) := by omega
              have hrd := (Rd.of_own (own_below' HO.out hbel)).cut i (k - i) (by omega) (by omega)
              have hml : ((cs.drop i).take (k - i)).length = k - i := by rw [List.length_take, List.length_drop]; omega
              rw [show ((icells cs).drop i).take (k - i) = icells ((cs.drop i).take (k - i)) from by simp [icells, List.map_take, List.map_drop], Nat.zero_add] at hrd
              have hmc : ∀ c ∈ (cs.drop i).take (k - i), isChar c = true := fun c hc => HCH.out c (List.mem_of_mem_drop (List.mem_of_mem_take hc))
              have HTM := Lib.hid (rterm_any _ (k - i) _ wr hml hrd hmc (by omega))
              generalize (cs.drop i).take (k - i) = m at *
              have hN2 : ∀ u ∈ [Value.string (bstr (term m))], u.oneCell' = true := by intro u hu; simp at hu; subst hu; rfl
              have HN2 := Lib.hid hN2
              clear hrd hml hmc hN2
              go_wp2_with (first | (go_at_call 49; refine HTM.out.mono ?_; rintro e w3 ⟨rfl, hb3⟩) | (at_builtin; refine wpList_app rfl _ _ _ _ rfl w1.heap.size 9 j0 _ 1 16 Tryz.underlying64 hj hy0 hy1 hy2 rfl _ done.length _ rfl ((own_below' hown3 hb3).alloc _) _ 1 [Value.string (bstr (term m))] rfl (src_new Tryz.underlying64 w3 _ 1 1 1 rfl HN2.out) (by unfold maxLen; omega) (by omega) (by have := hb3.size; simp; omega) ?_; intro v4 w4 hown4' hgr _ _))
              have hB3 : Below w1.heap.size w1 w4 := ((hbel.trans (hb3.mono hsz)).alloc (by have := hb3.size; omega) _).grown hgr (by have := hb3.size; simp; omega) (fun j hj => (hown3.lt j hj).1)
              clear hgr
              go_wp2
              go_roundw
              case rel =>
                refine ⟨k + 1, done ++ [m], by omega, by go_num, by show _ = _; rw [HNX.out]; simp, by simp; omega, ?_, hB3⟩
                rw [List.length_append, List.map_append, scells_append]
                exact hown4'
              case measure => simp [intOf]; omega
            · rw [if_neg hik2] at hnx
              have HNX := Lib.hid hnx
              clear hnx
              have g1 : ¬ (i : Int) < (k : Int) := by omega
              go_wp2
              go_roundw
              case rel => exact ⟨k + 1, done, by omega, by go_num, by show _ = _; rw [HNX.out]; rfl, by omega, hown3, hbel⟩
              case measure => simp [intOf]; omega
      · have hke : cs.drop i = [] := List.drop_of_length_le (by omega)
        have ii : ¬ (i : Int) < (cs.length : Int) := by omega
        have hfin : Hid (terms l = done.map term) := by
          show _ = _
          rw [HT.out, HW.out, hke, words_end]; simp
        clear hke
        go_wp2
        go_ret
        rw [hfin.out]
        exact ⟨_, rfl, by rw [List.length_map]; exact own_mono hown3 hsz1, hb1.trans (hbel.mono hsz1)⟩
end Go.Proofs.YteegbjjpjdlcmaaGreatDoor
