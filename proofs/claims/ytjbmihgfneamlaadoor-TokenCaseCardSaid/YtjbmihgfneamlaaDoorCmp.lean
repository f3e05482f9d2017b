/- cmp.Compare at strings; cmp.Or of two; the order of texts with the places of their words. -/
import Derived.Test.YtjbmihgfneamlaaDoorSetLaw
import Derived.Test.YtjbmihgfneamlaaDoorTerms
import Derived.Test.YtjbmihgfneamlaaDoorTokRight
import Derived.Test.YtjbmihgfneamlaaDoorShelfT
import Derived.Test.YtjbmihgfneamlaaDoorRef05s
import Derived.Sort.Walk0
import Derived.Deep.RegionHeld3
import Derived.WalkLawsBesides
set_option linter.unusedVariables false
namespace Go.Proofs.YtjbmihgfneamlaaDoor
open Go.RowKit Go.Sort

def cmpS (x y : List UInt8) : Int := if ltStr x y then -1 else if ltStr y x then 1 else 0

theorem isNaN_any (x : List UInt8) (w : World) : Calls Tryd.prog 72 #[str x] w fun e w' => e = .returned (.bool false) ∧ w = w' := by
  have h1 : ((bstr x).toList == (bstr x).toList) = true := beq_self_eq_true _
  unfold str
  go_enter Tryd.func72, Tryd.ntmps72
  go_wp2
  go_ret
  exact ⟨by first | rfl | simp, rfl⟩

set_option maxRecDepth 100000 in
set_option maxHeartbeats 1000000 in
theorem cmpS_any (x y : List UInt8) (w : World) : Calls Tryd.prog 48 #[str x, str y] w fun e w' => e = .returned (.int .i64 (cmpS x y)) ∧ w = w' := by
  have hx := fun W => isNaN_any x W
  have hy := fun W => isNaN_any y W
  unfold str at *
  have l1 := less_is x y
  have e1 := btoList x
  have e2 := btoList y
  cases h1 : ltStr x y with
  | true =>
    rw [h1] at l1
    have hr : Hid (cmpS x y = -1) := by show _ = _; unfold cmpS; rw [if_pos h1]
    clear e1 e2 h1
    go_enter Tryd.func48, Tryd.ntmps48
    go_wp2_with (first | (go_at_call 72; refine (hx _).mono ?_; rintro e w' ⟨rfl, rfl⟩) | (go_at_call 72; refine (hy _).mono ?_; rintro e w' ⟨rfl, rfl⟩))
    go_ret
    exact ⟨by rw [hr.out]; rfl, rfl⟩
  | false =>
    rw [h1] at l1
    by_cases he : x = y
    · subst he
      have hr : Hid (cmpS x x = 0) := by show _ = _; unfold cmpS; rw [if_neg (by simp [h1]), if_neg (by simp [h1])]
      have h2 : ((bstr x).toList == (bstr x).toList) = true := beq_self_eq_true _
      clear e1 e2 h1
      go_enter Tryd.func48, Tryd.ntmps48
      go_wp2_with (first | (go_at_call 72; refine (hx _).mono ?_; rintro e w' ⟨rfl, rfl⟩))
      go_ret
      exact ⟨by rw [hr.out]; rfl, rfl⟩
    · have h3 : ltStr y x = true := by
        cases h : ltStr y x with
        | true => rfl
        | false => exact absurd (totStr x y h1 h) he
      have hr : Hid (cmpS x y = 1) := by show _ = _; unfold cmpS; rw [if_neg (by simp [h1]), if_pos h3]
      have h2 : ((bstr x).toList == (bstr y).toList) = false := by rw [e1, e2]; simpa using he
      clear e1 e2 h1 h3 he
      go_enter Tryd.func48, Tryd.ntmps48
      go_wp2_with (first | (go_at_call 72; refine (hx _).mono ?_; rintro e w' ⟨rfl, rfl⟩) | (go_at_call 72; refine (hy _).mono ?_; rintro e w' ⟨rfl, rfl⟩))
      go_ret
      exact ⟨by rw [hr.out]; rfl, rfl⟩

theorem cmpS_zero (x y : List UInt8) : (cmpS x y == 0) = decide (x = y) := by
  unfold cmpS
  cases h1 : ltStr x y with
  | true =>
    have : x ≠ y := by rintro rfl; rw [swo_ltStr.irrefl] at h1; cases h1
    simp [this]
  | false =>
    cases h2 : ltStr y x with
    | true =>
      have : x ≠ y := by rintro rfl; rw [swo_ltStr.irrefl] at h2; cases h2
      simp [this]
    | false => simp [totStr x y h1 h2]

theorem ltOf_cmpS : ltOf cmpS = ltStr := by
  funext x y
  unfold ltOf cmpS
  cases h1 : ltStr x y with
  | true => simp
  | false => cases h2 : ltStr y x <;> simp

/-- cmp.Or of two. -/
def orInt (a b : Int) : Int := if a = 0 then b else a

set_option maxRecDepth 100000 in
set_option maxHeartbeats 1000000 in
theorem or_any (v : Value) (a b : Int) (w : World) (h : Rd w v 2 1 [.int .i64 a, .int .i64 b]) : Calls Tryd.prog 52 #[v] w fun e w' => e = .returned (.int .i64 (orInt a b)) ∧ w = w' := by
  obtain ⟨blk, off, c, rfl, hc, h0, h1⟩ : ∃ blk off c, v = .slice (some ⟨blk, off, none⟩) 2 c ∧ 2 ≤ c ∧ w.cell? ⟨blk, off, none⟩ = some (.int .i64 a) ∧ w.cell? ⟨blk, off + 1, none⟩ = some (.int .i64 b) := by
    obtain ⟨-, -, ⟨ao, c, -, h0⟩ | ⟨blk, off, c, rfl, -, h2, -, h3⟩⟩ := h
    · cases h0
    · exact ⟨blk, off, c, rfl, h2, h3 0 _ rfl, h3 1 _ rfl⟩
  clear h
  go_enter Tryd.func52, Tryd.ntmps52
  go_wp2
  go_loopw [8] (fun i wr => ∃ k : Nat, k ≤ 2 ∧ i = .int .i64 k ∧ (1 ≤ k → a = 0) ∧ (2 ≤ k → b = 0) ∧ wr = w) (fun i _ => 2 - (intOf i).toNat)
  case atStart => exact ⟨0, by omega, rfl, fun h => by omega, fun h => by omega, by first | rfl | trivial⟩
  case round =>
    obtain ⟨k, hk, rfl, hA, hB, rfl⟩ := hrel
    match k, hk with
    | 0, _ =>
      by_cases ha : a = 0
      · have HA := Lib.hid ha
        have n1 : (a != 0) = false := by simp [ha]
        clear hA hB ha
        go_wp2
        go_roundw
        case rel => exact ⟨1, by omega, by go_num, fun _ => HA.out, fun h => by omega, by first | rfl | trivial⟩
        case measure => simp [intOf]
      · have HA := Lib.hid ha
        have n1 : (a != 0) = true := by simp [ha]
        clear hA hB ha
        go_wp2
        go_ret
        exact ⟨by unfold orInt; rw [if_neg HA.out]; rfl, rfl⟩
    | 1, _ =>
      have HA := Lib.hid (hA (by omega))
      by_cases hb : b = 0
      · have HB := Lib.hid hb
        have n1 : (b != 0) = false := by simp [hb]
        clear hA hB hb
        go_wp2
        go_roundw
        case rel => exact ⟨2, by omega, by go_num, fun _ => HA.out, fun _ => HB.out, by first | rfl | trivial⟩
        case measure => simp [intOf]
      · have n1 : (b != 0) = true := by simp [hb]
        clear hA hB hb
        go_wp2
        go_ret
        exact ⟨by unfold orInt; rw [if_pos HA.out]; rfl, rfl⟩
    | 2, _ =>
      have HA := Lib.hid (hA (by omega))
      have HB := Lib.hid (hB (by omega))
      clear hA hB
      go_wp2
      go_ret
      exact ⟨by unfold orInt; rw [if_pos HA.out, HB.out]; rfl, rfl⟩

def acells (l : List (List UInt8 × Int)) : List Value := l.flatMap fun s => [str s.1, .int .i64 s.2]
def cmpAt (x y : List UInt8 × Int) : Int := if cmpS x.1 y.1 = 0 then Lib.compareInt x.2 y.2 else cmpS x.1 y.1

theorem ltOf_cmpAt : ltOf cmpAt = ltAt := by
  funext x y
  unfold ltOf cmpAt ltAt
  have hz := cmpS_zero x.1 y.1
  have hl := congrFun (congrFun ltOf_cmpS x.1) y.1
  unfold ltOf at hl
  by_cases h : x.1 = y.1
  · have h0 : cmpS x.1 y.1 = 0 := by simpa [h] using hz
    rw [if_pos h0]
    have h1 : ltStr x.1 y.1 = false := by rw [h]; exact swo_ltStr.irrefl _
    rw [h1, decide_eq_true h]
    unfold Lib.compareInt
    by_cases h2 : x.2 < y.2
    · simp [h2]
    · by_cases h3 : y.2 < x.2 <;> simp [h2, h3]
  · have h0 : cmpS x.1 y.1 ≠ 0 := by simpa [h] using hz
    rw [if_neg h0, hl, decide_eq_false h]
    simp

theorem cmpAt_zero (x y : List UInt8 × Int) : (cmpAt x y == 0) = decide (x = y) := by
  have hl := congrFun (congrFun ltOf_cmpAt x) y
  have hg := congrFun (congrFun ltOf_cmpAt y) x
  by_cases h : x = y
  · subst h
    have : cmpAt x x = 0 := by
      unfold cmpAt
      have h0 : cmpS x.1 x.1 = 0 := by have := cmpS_zero x.1 x.1; simpa using this
      rw [if_pos h0]
      simp [Lib.compareInt]
    simp [this]
  · have hne : cmpAt x y ≠ 0 := by
      unfold cmpAt
      by_cases h1 : cmpS x.1 y.1 = 0
      · rw [if_pos h1]
        have e1 : x.1 = y.1 := by have := cmpS_zero x.1 y.1; rw [h1] at this; simpa using this
        intro h2
        apply h
        refine Prod.ext e1 ?_
        unfold Lib.compareInt at h2
        by_cases h3 : x.2 < y.2
        · rw [if_pos h3] at h2; omega
        · rw [if_neg h3] at h2
          by_cases h4 : y.2 < x.2
          · first | (rw [if_pos h4] at h2; omega) | omega
          · omega
      · rw [if_neg h1]; exact h1
    simp [h, hne]
end Go.Proofs.YtjbmihgfneamlaaDoor
