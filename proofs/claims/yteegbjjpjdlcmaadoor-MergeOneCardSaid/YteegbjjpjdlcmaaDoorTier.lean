/- The tier of a span: merge.Tier computes it. -/
import Derived.Test.YteegbjjpjdlcmaaDoorProg
import Derived.WalkKit
import Derived.WalkSpells
import Derived.WalkLawsBesides
import Derived.Lib.Hide
namespace Go.Proofs.YteegbjjpjdlcmaaDoor
open Go.RowKit

def halve : Nat → Int → Int
  | 0, _ => 0
  | f + 1, n => if 1 < n then 1 + halve f (n / 2) else 0

def tierOf (a b : Int) : Int := if a < 0 ∨ b < 0 ∨ b ≤ a then -1 else halve 64 (b - a)

theorem halve_le (f : Nat) : ∀ n : Int, 0 ≤ halve f n ∧ halve f n ≤ f := by
  induction f with
  | zero => intro n; simp [halve]
  | succ f ih => intro n; have := ih (n / 2); simp only [halve]; split <;> omega

theorem halve_stop (f : Nat) (n : Int) (h : n ≤ 1) : halve f n = 0 := by
  cases f with
  | zero => rfl
  | succ f => simp only [halve]; rw [if_neg (by omega)]

theorem tier_int {k : IntKind} {a b : Int} (h : a = b) : Ending.returned (.int k a) = .returned (.int k b) := by rw [h]

set_option maxHeartbeats 400000 in
theorem tier_neg (a b : Int) (w : World) (h : a < 0 ∨ b < 0 ∨ b ≤ a) :
    Calls Tryd.prog 30 #[.agg #[.int .i64 a, .int .i64 b]] w fun e w' => e = .returned (.int .i64 (tierOf a b)) ∧ Below w.heap.size w w' := by
  have ht : tierOf a b = -1 := by unfold tierOf; rw [if_pos h]
  have HT := Lib.hid ht; clear ht
  by_cases ha : a < 0
  · go_enter Tryd.func30, Tryd.ntmps30
    go_wp2
    go_ret
    exact ⟨tier_int HT.out.symm, (Below.refl _ _).alloc (Nat.le_refl _) _⟩
  · by_cases hb : b < 0
    · go_enter Tryd.func30, Tryd.ntmps30
      go_wp2
      go_ret
      exact ⟨tier_int HT.out.symm, (Below.refl _ _).alloc (Nat.le_refl _) _⟩
    · have hc : b ≤ a := by omega
      go_enter Tryd.func30, Tryd.ntmps30
      go_wp2
      go_ret
      exact ⟨tier_int HT.out.symm, (Below.refl _ _).alloc (Nat.le_refl _) _⟩

set_option maxHeartbeats 400000 in
theorem tier_pos (a b : Int) (w : World) (ha : 0 ≤ a) (hb : 0 ≤ b) (hab : a < b) (hm : b ≤ 9223372036854775807) :
    Calls Tryd.prog 30 #[.agg #[.int .i64 a, .int .i64 b]] w fun e w' => e = .returned (.int .i64 (tierOf a b)) ∧ Below w.heap.size w w' := by
  have ht : tierOf a b = halve 64 (b - a) := by unfold tierOf; rw [if_neg (by omega)]
  have HT := Lib.hid ht; clear ht
  have hpow : b - a < 2 ^ 63 := by omega
  go_enter Tryd.func30, Tryd.ntmps30
  go_wp2
  go_loop [3, 4] (fun t i => ∃ (f : Nat) (q n : Int), f ≤ 64 ∧ 0 ≤ q ∧ q + f ≤ 64 ∧ 1 ≤ n ∧ n ≤ 9223372036854775807 ∧ n < 2 ^ f ∧ halve 64 (b - a) = q + halve f n ∧ t = .int .i64 q ∧ i = .int .i64 n) (fun _ i => (intOf i).toNat)
  case atStart => exact ⟨64, 0, b - a, by omega, by omega, by omega, by omega, by omega, by omega, by omega, rfl, rfl⟩
  case round =>
    obtain ⟨f, q, n, hf, hq, hqf, hn1, hnm, hn2, hh, rfl, rfl⟩ := hrel
    by_cases h1 : 1 < n
    · have step : ∃ g : Nat, f = g + 1 ∧ n / 2 < 2 ^ g ∧ halve f n = 1 + halve g (n / 2) := by
        cases f with
        | zero => simp at hn2; omega
        | succ g => exact ⟨g, rfl, by rw [Int.pow_succ] at hn2; omega, by simp only [halve]; rw [if_pos h1]⟩
      obtain ⟨g, hfg, hg2, hg3⟩ := step
      subst hfg
      have HG := Lib.hid hg3; clear hg3
      have HH := Lib.hid hh; clear hh
      have H2 := Lib.hid hn2; clear hn2
      have H3 := Lib.hid hg2; clear hg2
      go_wp2
      go_round
      case rel => exact ⟨g, q + 1, n / 2, by omega, by omega, by omega, by omega, by omega, H3.out, by rw [HH.out, HG.out]; omega, rfl, rfl⟩
      case measure => simp [intOf]; omega
    · have HH := Lib.hid hh; clear hh
      have H2 := Lib.hid hn2; clear hn2
      go_wp2
      go_ret
      exact ⟨tier_int (by rw [HT.out, HH.out, halve_stop _ _ (by omega)]; simp), (Below.refl _ _).alloc (Nat.le_refl _) _⟩

theorem tier_any (a b : Int) (w : World) (hm : b ≤ 9223372036854775807) :
    Calls Tryd.prog 30 #[.agg #[.int .i64 a, .int .i64 b]] w fun e w' => e = .returned (.int .i64 (tierOf a b)) ∧ Below w.heap.size w w' := by
  by_cases h : a < 0 ∨ b < 0 ∨ b ≤ a
  · exact tier_neg a b w h
  · exact tier_pos a b w (by omega) (by omega) (by omega) hm
end Go.Proofs.YteegbjjpjdlcmaaDoor
