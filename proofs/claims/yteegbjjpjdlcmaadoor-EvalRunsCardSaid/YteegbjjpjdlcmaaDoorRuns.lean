/- rubricklaw17.EvalRuns: the walk. -/
import Derived.Test.YteegbjjpjdlcmaaDoorRunsAll
import Derived.Test.YteegbjjpjdlcmaaDoorKnows17
set_option linter.unusedVariables false
namespace Go.Proofs.YteegbjjpjdlcmaaDoor
open Go.RowKit Go.Sort

set_option maxRecDepth 100000 in
set_option maxHeartbeats 2000000 in
theorem runs_great (lv : Value) (l : List QOp) (fv : Value) (found : List (List Int)) (w : World) (ht : Tabs w) (hl : Rd w lv l.length 2 (ocells l)) (hkl : ∀ s ∈ l, -9223372036854775808 ≤ s.1 ∧ s.1 ≤ 9223372036854775807) (hf : IntsRd w fv found) (g1 : great l = true) :
    Calls Tryd.prog 4 #[lv, fv] w fun e w' => e = .returned (.bool true) ∧ Below w.heap.size w w' := by
  have HK := Lib.hid (fun W (hW : Below w.heap.size w W) => knows17_any W (ht.below hW))
  have HGL := great_any lv l w hl
  rw [g1] at HGL
  have H3 := Lib.hid HGL
  obtain ⟨al, cl, rfl, -⟩ := ops_cells hl
  obtain ⟨af, cf, rfl, -, -⟩ := ints2_cells hf
  clear HGL ht hl hkl g1 hf
  go_enter Tryd.func4, Tryd.ntmps4
  go_wp2_with (first
    | (go_at_call 15; (with_reducible refine H3.out.mono ?_); rintro e w' ⟨rfl, rfl⟩)
    | (go_at_call 16; refine (HK.out _ (Below.refl _ _)).mono ?_; rintro e w99 ⟨rfl, hb99⟩))
  go_ret
  exact ⟨rfl, hb99⟩

set_option maxRecDepth 100000 in
set_option maxHeartbeats 2000000 in
theorem runs_many (lv : Value) (l : List QOp) (fv : Value) (found : List (List Int)) (w : World) (ht : Tabs w) (hl : Rd w lv l.length 2 (ocells l)) (hkl : ∀ s ∈ l, -9223372036854775808 ≤ s.1 ∧ s.1 ≤ 9223372036854775807) (hf : IntsRd w fv found) (g1 : great l = false) (g2 : 30 < found.length) :
    Calls Tryd.prog 4 #[lv, fv] w fun e w' => e = .returned (.bool true) ∧ Below w.heap.size w w' := by
  have HK := Lib.hid (fun W (hW : Below w.heap.size w W) => knows17_any W (ht.below hW))
  have HGL := great_any lv l w hl
  rw [g1] at HGL
  have H3 := Lib.hid HGL
  obtain ⟨al, cl, rfl, -⟩ := ops_cells hl
  obtain ⟨af, cf, rfl, -, -⟩ := ints2_cells hf
  have n1 : (30 : Int) < (found.length : Int) := by omega
  clear HGL ht hl hkl g1 hf g2
  go_enter Tryd.func4, Tryd.ntmps4
  go_wp2_with (first
    | (go_at_call 15; (with_reducible refine H3.out.mono ?_); rintro e w' ⟨rfl, rfl⟩)
    | (go_at_call 16; refine (HK.out _ (Below.refl _ _)).mono ?_; rintro e w99 ⟨rfl, hb99⟩))
  go_ret
  exact ⟨rfl, hb99⟩

set_option maxRecDepth 100000 in
set_option maxHeartbeats 8000000 in
theorem runs_good (lv : Value) (l : List QOp) (fv : Value) (found : List (List Int)) (w : World) (ht : Tabs w) (hl : Rd w lv l.length 2 (ocells l)) (hkl : ∀ s ∈ l, -9223372036854775808 ≤ s.1 ∧ s.1 ≤ 9223372036854775807) (hf : IntsRd w fv found) (g1 : great l = false) (g2 : ¬ 30 < found.length) :
    Calls Tryd.prog 4 #[lv, fv] w fun e w' => e = .returned (.bool true) ∧ Below w.heap.size w w' := by
  have HK := Lib.hid (fun W (hW : Below w.heap.size w W) => knows17_any W (ht.below hW))
  have HGL := great_any lv l w hl
  rw [g1] at HGL
  have H3 := Lib.hid HGL
  obtain ⟨hll, hlt⟩ := great_no g1
  have hts : ∀ s ∈ l, s.2.length ≤ 100000 := fun s hs => by have := hlt s hs; omega
  have HRE := run_er lv fv l found w ht hf hl (by omega) hts hkl
  have HAS := Lib.hid (fun W (hW : Below w.heap.size w W) => as_any lv l W (hl.below hW) (by omega))
  have HFA := Lib.hid (fun kv W (hW : Below w.heap.size w W) (hk : Rd W kv l.length 2 (ocells l)) => fair17_any kv fv l found W (hf.below hW) hk (by omega) hts hkl)
  have HRN := fun kv W (hW : Below w.heap.size w W) (hk : Rd W kv l.length 2 (ocells l)) => run17all_any kv fv l found W (hf.below hW) hk (by omega)
  obtain ⟨al, cl, rfl, -⟩ := ops_cells hl
  obtain ⟨af, cf, rfl, hmf, HC⟩ := ints2_cells hf
  have n1 : ¬ (30 : Int) < (found.length : Int) := by omega
  have HRE2 := Lib.hid HRE
  have HRN2 := Lib.hid HRN
  clear HGL ht hl hkl g1 hf g2 hts hlt HRE HRN
  go_enter Tryd.func4, Tryd.ntmps4
  go_wp2_with (go_at_call 15; (with_reducible refine H3.out.mono ?_); rintro e w' ⟨rfl, rfl⟩)
  go_loopw [5] (fun i wr => ∃ (k : Nat), k ≤ found.length ∧ i = .int .i64 k ∧ w = wr) (fun i _ => found.length - (intOf i).toNat)
  case atStart => exact ⟨0, Nat.zero_le _, rfl, by first | rfl | trivial⟩
  case round =>
    obtain ⟨k, hk, rfl, rfl⟩ := hrel
    by_cases hlt : k < found.length
    · obtain ⟨b, off, da, dc, rfl, c1, -⟩ := HC.out k hlt
      have ki : (k : Int) < (found.length : Int) := by omega
      have k0 : (0 : Int) ≤ (k : Int) := by omega
      by_cases hgt : 100 < found[k].length
      · have m1 : (100 : Int) < (found[k].length : Int) := by omega
        generalize found[k].length = fl at *
        go_wp2_with (go_at_call 16; refine (HK.out _ (Below.refl _ _)).mono ?_; rintro e w99 ⟨rfl, hb99⟩)
        go_ret
        exact ⟨rfl, hb99⟩
      · have m1 : ¬ (100 : Int) < (found[k].length : Int) := by omega
        generalize found[k].length = fl at *
        go_wp2
        go_roundw
        case rel => exact ⟨k + 1, by omega, by go_num, by first | rfl | trivial⟩
        case measure => simp [intOf]; omega
    · have ki : ¬ (k : Int) < (found.length : Int) := by omega
      clear hlt hk HC
      cases hok : runOK l found with
      | false =>
        have hre := HRE2.out
        rw [hok] at HFA hre
        simp only [Bool.false_eq_true, if_false] at hre
        have HR1 := Lib.hid hre
        clear HRE2 hre HRN2 hok
        go_wp2_with (first
          | (go_at_call 17; (with_reducible refine HR1.out.mono ?_); rintro e w1 ⟨v1, rfl, o1, b1⟩; obtain ⟨a1, c1, rfl⟩ := own_shape o1; clear o1)
          | (go_at_call 18; (with_reducible refine (HAS.out w1 b1).mono ?_); rintro e w2 ⟨v2, rfl, o2, b2⟩; obtain ⟨a2, c2, rfl⟩ := own_shape o2; have R2 := Rd.of_own o2; have B2 := b1.trans (b2.mono b1.size); clear o2)
          | (go_at_call 19; (with_reducible refine (HFA.out _ w2 B2 R2).mono ?_); rintro e w3 ⟨rfl, b3⟩; have B3 := B2.trans (b3.mono B2.size))
          | (go_at_call 16; refine (HK.out _ B3).mono ?_; rintro e w99 ⟨rfl, hb99⟩))
        go_ret
        exact ⟨rfl, B3.trans (hb99.mono B3.size)⟩
      | true =>
        have hre := HRE2.out
        have hrn := fun kv W hW hk => HRN2.out kv W hW hk hok
        rw [hok] at HFA hre
        rw [if_pos rfl, if_pos rfl] at hre
        generalize runF l found = R at *
        have HR1 := Lib.hid hre
        have HRN := Lib.hid hrn
        have HSM := Lib.hid (fun (x y : Value) (W : World) (hx : Rd W x R.length 1 (icells R)) (hy : Rd W y R.length 1 (icells R)) => same09_any x y R.length R.length R R W rfl rfl hx hy)
        rw [show (R == R) = true from beq_self_eq_true _] at HSM
        clear HRE2 hre HRN2 hrn hok
        go_wp2_with (first
          | (go_at_call 17; (with_reducible refine HR1.out.mono ?_); rintro e w1 ⟨v1, rfl, o1, b1⟩; obtain ⟨a1, c1, rfl⟩ := own_shape o1; have R1 := Rd.of_own o1; clear o1)
          | (go_at_call 18; (with_reducible refine (HAS.out w1 b1).mono ?_); rintro e w2 ⟨v2, rfl, o2, b2⟩; obtain ⟨a2, c2, rfl⟩ := own_shape o2; have R2 := Rd.of_own o2; have B2 := b1.trans (b2.mono b1.size); have R12 := R1.below b2; clear o2)
          | (go_at_call 19; (with_reducible refine (HFA.out _ w2 B2 R2).mono ?_); rintro e w3 ⟨rfl, b3⟩; have B3 := B2.trans (b3.mono B2.size); have R23 := R2.below b3; have R13 := R12.below b3)
          | (go_at_call 21; (with_reducible refine (HRN.out _ w3 B3 R23).mono ?_); rintro e w4 ⟨v4, rfl, r4, b4⟩; obtain ⟨a4, c4, rfl, -, -⟩ := ints_cells rfl r4; have B4 := B3.trans (b4.mono B3.size); have R14 := R13.below b4)
          | (go_at_call 20; (with_reducible refine (HSM.out _ _ w4 R14 r4).mono ?_); rintro e w5 ⟨rfl, b5⟩; have B5 := B4.trans (b5.mono B4.size))
          | (go_at_call 16; refine (HK.out _ B5).mono ?_; rintro e w99 ⟨rfl, hb99⟩))
        go_ret
        exact ⟨rfl, B5.trans (hb99.mono B5.size)⟩

theorem runs_call (lv : Value) (l : List QOp) (fv : Value) (found : List (List Int)) (w : World) (ht : Tabs w) (hl : Rd w lv l.length 2 (ocells l)) (hkl : ∀ s ∈ l, -9223372036854775808 ≤ s.1 ∧ s.1 ≤ 9223372036854775807) (hf : IntsRd w fv found) :
    Calls Tryd.prog 4 #[lv, fv] w fun e w' => e = .returned (.bool true) ∧ Below w.heap.size w w' := by
  cases g1 : great l with
  | true => exact runs_great lv l fv found w ht hl hkl hf g1
  | false =>
    by_cases g2 : 30 < found.length
    · exact runs_many lv l fv found w ht hl hkl hf g1 g2
    · exact runs_good lv l fv found w ht hl hkl hf g1 g2
end Go.Proofs.YteegbjjpjdlcmaaDoor
