/- Tier, Next, Clone, Delete, Settle, Row, Knows13: in one text. -/
import Derived.Test.YteegbjjpjdlcmaaGreatDoorProg
import Derived.WalkKit
import Derived.WalkSpells
import Derived.WalkLawsBesides
import Derived.Lib.Hide
import Derived.Test.YteegbjjpjdlcmaaGreatDoorMem
import Derived.BigQuiet
import Derived.Test.YteegbjjpjdlcmaaGreatDoorInPlace
/- The tier of a span: merge.Tier computes it. -/
namespace Go.Proofs.YteegbjjpjdlcmaaGreatDoor
open Go.RowKit

def halve : Nat → Int → Int
  | 0, _ => 0
  | f + 1, n => if 1 < n then 1 + halve f (n / 2) else 0

def tierOf (a b : Int) : Int := if a < 0 ∨ b < 0 ∨ b ≤ a then -1 else halve 64 (b - a)

theorem halve_le (f : Nat) : ∀ n : Int, 0 ≤ halve f n ∧ halve f n ≤ f := by
  induction f with
  | zero => intro n; simp [halve]
  | succ f ih => intro n; have := ih (n / 2); simp only [halve]; split <;> omega

theorem halve_stop (f : Nat) (n : Int) (h : n ≤ 1) : halve f n = 0 := by
  cases f with
  | zero => rfl
  | succ f => simp only [halve]; rw [if_neg (by omega)]

theorem tier_int {k : IntKind} {a b : Int} (h : a = b) : Ending.returned (.int k a) = .returned (.int k b) := by rw [h]

set_option maxHeartbeats 400000 in
theorem tier_neg (a b : Int) (w : World) (h : a < 0 ∨ b < 0 ∨ b ≤ a) :
    Calls Tryz.prog 14 #[.agg #[.int .i64 a, .int .i64 b]] w fun e w' => e = .returned (.int .i64 (tierOf a b)) ∧ Below w.heap.size w w' := by
  have ht : tierOf a b = -1 := by unfold tierOf; rw [if_pos h]
  have HT := Lib.hid ht; clear ht
  by_cases ha : a < 0
  · go_enter Tryz.func14, Tryz.ntmps14
    go_wp2
    go_ret
    exact ⟨tier_int HT.out.symm, (Below.refl _ _).alloc (Nat.le_refl _) _⟩
  · by_cases hb : b < 0
    · go_enter Tryz.func14, Tryz.ntmps14
      go_wp2
      go_ret
      exact ⟨tier_int HT.out.symm, (Below.refl _ _).alloc (Nat.le_refl _) _⟩
    · have hc : b ≤ a := by omega
      go_enter Tryz.func14, Tryz.ntmps14
      go_wp2
      go_ret
      exact ⟨tier_int HT.out.symm, (Below.refl _ _).alloc (Nat.le_refl _) _⟩

set_option maxHeartbeats 400000 in
theorem tier_pos (a b : Int) (w : World) (ha : 0 ≤ a) (hb : 0 ≤ b) (hab : a < b) (hm : b ≤ 9223372036854775807) :
    Calls Tryz.prog 14 #[.agg #[.int .i64 a, .int .i64 b]] w fun e w' => e = .returned (.int .i64 (tierOf a b)) ∧ Below w.heap.size w w' := by
  have ht : tierOf a b = halve 64 (b - a) := by unfold tierOf; rw [if_neg (by omega)]
  have HT := Lib.hid ht; clear ht
  have hpow : b - a < 2 ^ 63 := by omega
  go_enter Tryz.func14, Tryz.ntmps14
  go_wp2
  go_loop [3, 4] (fun t i => ∃ (f : Nat) (q n : Int), f ≤ 64 ∧ 0 ≤ q ∧ q + f ≤ 64 ∧ 1 ≤ n ∧ n ≤ 9223372036854775807 ∧ n < 2 ^ f ∧ halve 64 (b - a) = q + halve f n ∧ t = .int .i64 q ∧ i = .int .i64 n) (fun _ i => (intOf i).toNat)
  case atStart => exact ⟨64, 0, b - a, by omega, by omega, by omega, by omega, by omega, by omega, by omega, rfl, rfl⟩
  case round =>
    obtain ⟨f, q, n, hf, hq, hqf, hn1, hnm, hn2, hh, rfl, rfl⟩ := hrel
    by_cases h1 : 1 < n
    · have step : ∃ g : Nat, f = g + 1 ∧ n / 2 < 2 ^ g ∧ halve f n = 1 + halve g (n / 2) := by
        cases f with
        | zero => simp at hn2; omega
        | succ g => exact ⟨g, rfl, by rw [Int.pow_succ] at hn2; omega, by simp only [halve]; rw [if_pos h1]⟩
      obtain ⟨g, hfg, hg2, hg3⟩ := step
      subst hfg
      have HG := Lib.hid hg3; clear hg3
      have HH := Lib.hid hh; clear hh
      have H2 := Lib.hid hn2; clear hn2
      have H3 := Lib.hid hg2; clear hg2
      go_wp2
      go_round
      case rel => exact ⟨g, q + 1, n / 2, by omega, by omega, by omega, by omega, by omega, H3.out, by rw [HH.out, HG.out]; omega, rfl, rfl⟩
      case measure => simp [intOf]; omega
    · have HH := Lib.hid hh; clear hh
      have H2 := Lib.hid hn2; clear hn2
      go_wp2
      go_ret
      exact ⟨tier_int (by rw [HT.out, HH.out, halve_stop _ _ (by omega)]; simp), (Below.refl _ _).alloc (Nat.le_refl _) _⟩

theorem tier_any (a b : Int) (w : World) (hm : b ≤ 9223372036854775807) :
    Calls Tryz.prog 14 #[.agg #[.int .i64 a, .int .i64 b]] w fun e w' => e = .returned (.int .i64 (tierOf a b)) ∧ Below w.heap.size w w' := by
  by_cases h : a < 0 ∨ b < 0 ∨ b ≤ a
  · exact tier_neg a b w h
  · exact tier_pos a b w (by omega) (by omega) (by omega) hm
end Go.Proofs.YteegbjjpjdlcmaaGreatDoor

/- merge.Next: the first of two spans to merge. -/
namespace Go.Proofs.YteegbjjpjdlcmaaGreatDoor
open Go.RowKit Go.Sort

def spanCells (xs : List (Int × Int)) : List Value := xs.flatMap fun s => [.int .i64 s.1, .int .i64 s.2]

theorem spanCells_len (xs : List (Int × Int)) : (spanCells xs).length = xs.length * 2 := by
  induction xs with
  | nil => rfl
  | cons x xs ih => simp [spanCells] at ih ⊢; omega

theorem spanCells_from (xs : List (Int × Int)) (k : Nat) (h : k < xs.length) : (spanCells xs)[k * 2]? = some (.int .i64 xs[k].1) ∧ (spanCells xs)[k * 2 + 1]? = some (.int .i64 xs[k].2) := by
  induction xs generalizing k with
  | nil => simp at h
  | cons x xs ih =>
    cases k with
    | zero => simp [spanCells]
    | succ k =>
      have := ih k (by simpa using h)
      simp only [List.getElem_cons_succ]
      rw [← this.1, ← this.2]
      simp only [spanCells, List.flatMap_cons]
      constructor
      · rw [show (k + 1) * 2 = k * 2 + 2 from by omega]; simp
      · rw [show (k + 1) * 2 + 1 = (k * 2 + 1) + 2 from by omega]; simp

theorem spanCells_at {w : World} {xs : List (Int × Int)} {b off : Nat} (hcell : ∀ i u, (spanCells xs)[i]? = some u → w.cell? ⟨b, off + i, none⟩ = some u) (k : Nat) (hk : k < xs.length) :
    w.cell? ⟨b, off + k * 2, none⟩ = some (.int .i64 xs[k].1) ∧ w.cell? ⟨b, off + k * 2 + 1, none⟩ = some (.int .i64 xs[k].2) :=
  ⟨hcell _ _ (spanCells_from xs k hk).1, hcell _ _ (spanCells_from xs k hk).2⟩

def tierAt (xs : List (Int × Int)) (k : Nat) : Int := match xs[k]? with | some s => tierOf s.1 s.2 | none => 0

def nextFrom (xs : List (Int × Int)) : Nat → Int × Bool
  | 0 => (0, false)
  | k + 1 => if tierAt xs k ≤ tierAt xs (k + 1) then (k, true) else nextFrom xs k

def nextOf (xs : List (Int × Int)) : Int × Bool := nextFrom xs (xs.length - 1)

theorem tierAt_of (xs : List (Int × Int)) (k : Nat) (h : k < xs.length) : tierAt xs k = tierOf xs[k].1 xs[k].2 := by
  unfold tierAt; rw [List.getElem?_eq_getElem h]

theorem tierOf_bd (a b : Int) : -1 ≤ tierOf a b ∧ tierOf a b ≤ 64 := by
  unfold tierOf; have := halve_le 64 (b - a); split <;> omega

set_option maxHeartbeats 400000 in
theorem next_any (v : Value) (xs : List (Int × Int)) (w : World) (h : Rd w v xs.length 2 (spanCells xs)) (hb : ∀ s ∈ xs, s.2 ≤ 9223372036854775807) :
    Calls Tryz.prog 21 #[v] w fun e w' => e = .returned (.tuple #[.int .i64 (nextOf xs).1, .bool (nextOf xs).2]) ∧ Below w.heap.size w w' := by
  obtain ⟨-, hm, ⟨ao, c, rfl, hn⟩ | ⟨b, off, c, rfl, h0, hnc, hcm, hcell⟩⟩ := h
  · have hx : xs = [] := List.length_eq_zero_iff.1 hn
    subst hx
    go_enter Tryz.func21, Tryz.ntmps21
    go_wp2
    refine wp_loop_rounds 1 ?_; rw [rounds_succ]
    go_wp2
    go_ret2
    exact ⟨rfl, Below.refl _ _⟩
  · unfold maxLen at hm hcm
    go_enter Tryz.func21, Tryz.ntmps21
    go_wp2
    go_loopw [4] (fun i wr => ∃ q : Int, -2 ≤ q ∧ q ≤ (xs.length : Int) - 2 ∧ nextOf xs = nextFrom xs (q + 1).toNat ∧ i = .int .i64 q ∧ Below w.heap.size w wr) (fun i _ => (intOf i + 2).toNat)
    case atStart => exact ⟨(xs.length : Int) - 2, by omega, by omega, by unfold nextOf; congr 1; omega, rfl, Below.refl _ _⟩
    case round =>
      obtain ⟨q, hq1, hq2, hn, rfl, hbel⟩ := hrel
      have HN := Lib.hid hn; clear hn
      by_cases hq0 : 0 ≤ q
      · obtain ⟨k, rfl⟩ := Int.eq_ofNat_of_zero_le hq0
        have hk : k + 1 < xs.length := by omega
        have cells := fun i (hi : i < xs.length) => spanCells_at hcell i hi
        have r1 := cell_regrown ((hbel.cell (World.block_lt_of_cell? w _ (cells k (by omega)).1)).trans (cells k (by omega)).1)
        have r2 := cell_regrown ((hbel.cell (World.block_lt_of_cell? w _ (cells k (by omega)).2)).trans (cells k (by omega)).2)
        have r3 := cell_regrown ((hbel.cell (World.block_lt_of_cell? w _ (cells (k + 1) hk).1)).trans (cells (k + 1) hk).1)
        have r4 := cell_regrown ((hbel.cell (World.block_lt_of_cell? w _ (cells (k + 1) hk).2)).trans (cells (k + 1) hk).2)
        have b1 := hb xs[k] (List.getElem_mem _)
        have b2 := hb xs[k + 1] (List.getElem_mem _)
        have t1 := tierAt_of xs k (by omega)
        have t2 := tierAt_of xs (k + 1) (by omega)
        have T1 := fun d os => Calls.regrown_of (tier_any xs[k].1 xs[k].2 (grow (redrawn wr d) os) b1)
        have T2 := fun d os => Calls.regrown_of (tier_any xs[k + 1].1 xs[k + 1].2 (grow (redrawn wr d) os) b2)
        have i1 : (0 : Int) ≤ (k : Int) := by omega
        have i2 : (k : Int) < (xs.length : Int) := by omega
        have i3 : (0 : Int) ≤ (k : Int) + 1 := by omega
        have i4 : (k : Int) + 1 < (xs.length : Int) := by omega
        clear cells
        have TT1 := Lib.hid t1; have TT2 := Lib.hid t2
        clear t1 t2 hcell hb
        go_wp2_with fail
        refine wp_region_quiet_below (by kernel_rfl) (by kernel_rfl) ?_
        repeat (go_big_quiet_step (first | (go_at_call 14; with_reducible exact T1 _ _) | (go_at_call 14; with_reducible exact T2 _ _)))
        refine wpQuiet_nil ?_
        intro _ hw'
        obtain ⟨⟨dq, osq⟩, hw''⟩ := hw'
        have hbq : Below w.heap.size w (grow (redrawn wr dq) osq) := hbel.trans ((below_regrown wr dq osq).mono hbel.size)
        rw [← hw''] at hbq
        clear hw'' r1 r2 r3 r4 T1 T2
        go_wp2
        · go_ret2
          have hle : tierOf xs[k].1 xs[k].2 ≤ tierOf xs[k + 1].1 xs[k + 1].2 := by assumption
          refine ⟨?_, hbq⟩
          rw [HN.out, show ((k : Int) + 1).toNat = k + 1 from by omega]
          simp only [nextFrom]
          rw [TT1.out, TT2.out, if_pos hle]
          rfl
        · go_roundw
          case rel =>
            have hle : tierOf xs[k + 1].1 xs[k + 1].2 < tierOf xs[k].1 xs[k].2 := by assumption
            refine ⟨(k : Int) - 1, by omega, by omega, ?_, rfl, hbq⟩
            rw [HN.out, show ((k : Int) + 1).toNat = k + 1 from by omega, show ((k : Int) - 1 + 1).toNat = k from by omega]
            simp only [nextFrom]
            rw [TT1.out, TT2.out, if_neg (by omega)]
          case measure => simp [intOf]; omega
      · go_wp2
        go_ret2
        refine ⟨?_, hbel⟩
        rw [HN.out, show (q + 1).toNat = 0 from by omega]
        rfl
end Go.Proofs.YteegbjjpjdlcmaaGreatDoor

/- slices.Clone at spans: a new slice with the same spans. -/
namespace Go.Proofs.YteegbjjpjdlcmaaGreatDoor
open Go.RowKit

theorem infoSpan : (Tryz.prog.info? 26).map (fun i => (i.zero, i.size, i.bytes)) = some (some (.agg #[.int .i64 0, .int .i64 0]), 2, 16) := by kernel_rfl

set_option maxHeartbeats 400000 in
theorem clone_any (v : Value) (n : Nat) (cells : List Value) (w : World) (h : Rd w v n 2 cells) (h1 : ∀ u ∈ cells, u.oneCell' = true) (hn : n * 16 ≤ 140737488355328) :
    Calls Tryz.prog 20 #[v] w (Gives w 26 2 n cells) := by
  obtain ⟨i0, hi, hz0, hz1, hz2⟩ := info_parts infoSpan
  have hsrc := fun (w' : World) (hb : Below w.heap.size w w') => (h.below hb).src (P := Tryz.prog) (tx := 43) Tryz.underlying43 h1
  have hH := Lib.hid hsrc; clear hsrc
  obtain ⟨ao, m, c, hv, hm, hnil⟩ : ∃ ao m c, v = .slice ao m c ∧ n = m ∧ (ao = none → n = 0 ∧ cells = []) := by
    obtain ⟨hl, -, ⟨ao, c, rfl, rfl⟩ | ⟨b, off, c, rfl, h0, -, -, -⟩⟩ := h
    · exact ⟨ao, 0, c, rfl, rfl, fun _ => ⟨rfl, List.eq_nil_of_length_eq_zero (by simpa using hl)⟩⟩
    · exact ⟨_, n, c, rfl, rfl, fun h => by cases h⟩
  subst hv hm
  have heq := fun (w' : World) => Lib.run_eql_slice_nil (P := Tryz.prog) w' 43 26 ao n c 0 0 Tryz.underlying43
  have hm := h.2.1
  have HM := Lib.hid hm; clear hm
  cases ao with
  | none =>
    obtain ⟨rfl, rfl⟩ := hnil rfl
    clear h h1 hH HM
    go_enter Tryz.func20, Tryz.ntmps20
    go_wp2
    go_ret
    exact ⟨_, rfl, World.ownsRow_nil _ _ _ _, Below.refl _ _⟩
  | some a =>
    clear h hnil
    go_enter Tryz.func20, Tryz.ntmps20
    go_wp2_with (at_builtin; refine wpList_app rfl _ _ _ _ rfl w.heap.size 26 i0 _ 2 16 Tryz.underlying43 hi hz0 hz1 hz2 rfl _ 0 [] rfl (World.ownsRow_made w #[] 0 (Nat.le_refl _) (Nat.zero_le _) rfl) _ n cells rfl (hH.out _ ((Below.refl _ _).alloc (Nat.le_refl _) _)) (by have := HM.out; omega) (by omega) (by simp) ?_)
    intro v' w1 hown hgr _ _
    have hb : Below w.heap.size w w1 := ((Below.refl _ _).alloc (Nat.le_refl _) _).grown hgr (by simp) (by intro k hk; simp [Value.ownBlock] at hk; omega)
    clear hgr
    go_wp2
    go_ret
    exact ⟨v', rfl, hown, hb⟩
end Go.Proofs.YteegbjjpjdlcmaaGreatDoor

/- slices.Delete of one span out of a row of the call's own. -/
namespace Go.Proofs.YteegbjjpjdlcmaaGreatDoor
open Go.RowKit

theorem spanCells_one (xs : List (Int × Int)) : ∀ u ∈ spanCells xs, u.oneCell' = true := by
  intro u hu
  simp only [spanCells, List.mem_flatMap] at hu
  obtain ⟨s, _, hs⟩ := hu
  simp at hs
  rcases hs with rfl | rfl <;> rfl

theorem spanCells_append (xs ys : List (Int × Int)) : spanCells (xs ++ ys) = spanCells xs ++ spanCells ys := by simp [spanCells]

theorem spanCells_take (xs : List (Int × Int)) (p : Nat) (h : p ≤ xs.length) : (spanCells xs).take (p * 2) = spanCells (xs.take p) := by
  have h1 : spanCells xs = spanCells (xs.take p) ++ spanCells (xs.drop p) := by rw [← spanCells_append, List.take_append_drop]
  rw [h1, List.take_append_of_le_length (by rw [spanCells_len, List.length_take]; omega), List.take_of_length_le (by rw [spanCells_len, List.length_take]; omega)]

theorem spanCells_drop (xs : List (Int × Int)) (p : Nat) (h : p ≤ xs.length) : (spanCells xs).drop (p * 2) = spanCells (xs.drop p) := by
  have h1 : spanCells xs = spanCells (xs.take p) ++ spanCells (xs.drop p) := by rw [← spanCells_append, List.take_append_drop]
  rw [h1, List.drop_append_of_le_length (by rw [spanCells_len, List.length_take]; omega), List.drop_of_length_le (by rw [spanCells_len, List.length_take]; omega)]
  rfl

theorem zeroSpan (w : World) : (zeroValue 26).run Tryz.prog w = .ok (.agg #[.int .i64 0, .int .i64 0]) w := by kernel_rfl

theorem zeroSpan_one : ∀ u ∈ (Value.agg #[.int .i64 0, .int .i64 0]).cells.toList, u.oneCell' = true := by
  intro u hu
  simp [Value.cells] at hu
  subst hu; rfl

def DelPost (base g cap : Nat) (xs : List (Int × Int)) (p : Nat) (w : World) (e : Ending) (w' : World) : Prop :=
  e = .returned (.slice (some ⟨g, 0, none⟩) (xs.length - 1) cap) ∧ w'.ownsRow base 26 2 (.slice (some ⟨g, 0, none⟩) (xs.length - 1) cap) (xs.length - 1) (spanCells (xs.take p ++ xs.drop (p + 1))) ∧ Below g w w'

set_option maxHeartbeats 400000 in
theorem delete_any (base g cap p : Nat) (xs : List (Int × Int)) (w : World) (hown : w.ownsRow base 26 2 (.slice (some ⟨g, 0, none⟩) xs.length cap) xs.length (spanCells xs)) (hp : p < xs.length) :
    Calls Tryz.prog 22 #[.slice (some ⟨g, 0, none⟩) xs.length cap, .int .i64 p, .int .i64 (p + 1)] w (DelPost base g cap xs p w) := by
  obtain ⟨i0, hi, hz0, hz1, hz2⟩ := info_parts infoSpan
  obtain ⟨hnc, hcm, hbg, hgs⟩ := own_parts hown
  unfold maxLen at hcm
  have htk := own_take hown (Nat.le_of_lt hp)
  obtain ⟨A, hA, hsrc⟩ : ∃ A : Addr, (if cap = p + 1 then (⟨g, 0, none⟩ : Addr) else ⟨g, (p + 1) * 2, none⟩) = A ∧ Hid (∀ t u, (spanCells (xs.drop (p + 1)))[t]? = some u → w.drew.cell? (A.add t) = some u) := by
    refine ⟨_, rfl, ?_⟩
    intro t u hu
    by_cases h : cap = p + 1
    · rw [List.drop_of_length_le (by omega)] at hu
      simp [spanCells] at hu
    · rw [if_neg h, Addr.add_lit]
      rw [← spanCells_drop xs (p + 1) (by omega), List.getElem?_drop] at hu
      have hlt : (p + 1) * 2 + t < xs.length * 2 := by rw [← spanCells_len]; exact (List.getElem?_eq_some_iff.1 hu).1
      have := hown.cellAt ((p + 1) * 2 + t) hlt
      exact this.trans hu
  have s1 : Hid ((spanCells (xs.drop (p + 1))).length = (xs.length - (p + 1)) * 2) := by show _ = _; rw [spanCells_len, List.length_drop]
  have s2 := Lib.hid (spanCells_one (xs.drop (p + 1)))
  have s3 := Lib.hid hown
  have s4 := Lib.hid htk.drew
  have hne : ((p : Int) == (p : Int) + 1) = false := by simp; omega
  have H6 : Hid (xs.length = (p + (xs.length - (p + 1))) + 1) := by show _ = _; omega
  have HF : Hid (spanCells (xs.take p ++ xs.drop (p + 1)) = (spanCells xs).take (p * 2) ++ spanCells (xs.drop (p + 1))) := by
    show _ = _
    rw [spanCells_append, spanCells_take xs p (by omega)]
  clear hown htk
  have hpc : p ≤ cap := by omega
  have hpx : p + 1 ≤ xs.length := by omega
  have hpcc : p + 1 ≤ cap := by omega
  have hp0i : (0 : Int) ≤ (p : Int) + 1 := by omega
  have hp1i : (p : Int) + 1 ≤ (xs.length : Int) := by omega
  by_cases hcp : cap = p + 1
  · rw [if_pos hcp] at hA
    subst hA
    subst hcp
    have hl : xs.length = p + 1 := by omega
    have HL := Lib.hid hl; clear hl
    have HD : Hid (xs.drop (p + 1) = []) := List.drop_of_length_le hnc
    have hpi : (p : Int) ≤ (p : Int) + 1 := by omega
    have hpj : ¬ (p : Int) + 1 = (p : Int) := by omega
    clear hsrc s1 s2
    go_enter Tryz.func22, Tryz.ntmps22
    go_wp2_with fail
    go_region_law (refine step_app_fits rfl (.tmp 22) (.tmp 25) 43 rfl base 26 i0 2 Tryz.underlying43 hi hz1 g p (p + 1) _ (by simp [Act.eval, Act.put]) s4.out ⟨g, 0, none⟩ 0 0 [] (by simp [Act.eval, Act.put]) rfl (by simp) (by simp) (by omega) ?_; intro w1 hown1 hgr1)
    have q1 : (0 : Int) ≤ (p : Int) := by omega
    have q2 : p ≤ xs.length := by omega
    go_wp2_with (refine wpList_clear_own (o := ⟨none, _, _, _, _, _⟩) (by rfl) (.tmp 31) 43 (by rfl) base 26 (.agg #[.int .i64 0, .int .i64 0]) 2 Tryz.underlying43 zeroSpan rfl zeroSpan_one (by omega) g p (p + 1) _ hown1 p (xs.length - p) 1 (by rfl) (Nat.le_refl _) (by omega) (by omega) ?_; intro w2 hown2 hgr2)
    go_ret
    have hb : Below g w w2 := ((Below.refl _ _).drew.grown hgr1 (Nat.le_of_lt hgs) (by intro k hk; simp at hk; omega)).grown hgr2 (Nat.le_trans (Nat.le_of_lt hgs) hgr1.size) (by intro k hk; simp at hk; omega)
    have hx : p = xs.length - 1 := by have := HL.out; omega
    refine ⟨?_, ?_, hb⟩
    · rw [← hx]; rfl
    · rw [HF.out, HD.out, ← hx]; exact hown2
  · rw [if_neg hcp] at hA
    subst hA
    go_enter Tryz.func22, Tryz.ntmps22
    go_wp2_with fail
    go_region_law (refine step_app_fits rfl (.tmp 22) (.tmp 25) 43 rfl base 26 i0 2 Tryz.underlying43 hi hz1 g p cap _ (by simp [Act.eval, Act.put]) s4.out _ (xs.length - (p + 1)) (cap - (p + 1)) (spanCells (xs.drop (p + 1))) (by simp [Act.eval, Act.put]) s1.out hsrc.out s2.out (by omega) ?_; intro w1 hown1 hgr1)
    have q1 : (0 : Int) ≤ (p : Int) + ((xs.length - (p + 1) : Nat) : Int) := by omega
    have q2 : p + (xs.length - (p + 1)) ≤ xs.length := by omega
    have q3 : xs.length ≤ cap := hnc
    have q4 : ¬ cap = p + (xs.length - (p + 1)) := by omega
    go_wp2_with (refine wpList_clear_own (o := ⟨none, _, _, _, _, _⟩) (by rfl) (.tmp 31) 43 (by rfl) base 26 (.agg #[.int .i64 0, .int .i64 0]) 2 Tryz.underlying43 zeroSpan rfl zeroSpan_one (by omega) g (p + (xs.length - (p + 1))) cap _ hown1 (p + (xs.length - (p + 1))) (xs.length - (p + (xs.length - (p + 1)))) (cap - (p + (xs.length - (p + 1)))) (by rfl) (Nat.le_refl _) (by omega) (by omega) ?_; intro w2 hown2 hgr2)
    go_ret
    have hb : Below g w w2 := ((Below.refl _ _).drew.grown hgr1 (Nat.le_of_lt hgs) (by intro k hk; simp at hk; omega)).grown hgr2 (Nat.le_trans (Nat.le_of_lt hgs) hgr1.size) (by intro k hk; simp at hk; omega)
    have hx : p + (xs.length - (p + 1)) = xs.length - 1 := by have := H6.out; omega
    rw [hx] at hown2
    refine ⟨?_, ?_, hb⟩
    · rw [← hx]; rfl
    · rw [HF.out]; exact hown2
end Go.Proofs.YteegbjjpjdlcmaaGreatDoor

/- merge.Settle. -/
namespace Go.Proofs.YteegbjjpjdlcmaaGreatDoor
open Go.RowKit

/-- the two spans from i on become one. -/
def mergeAt (xs : List (Int × Int)) (i : Nat) : List (Int × Int) :=
  match xs[i]?, xs[i + 1]? with
  | some a, some b => xs.take i ++ (a.1, b.2) :: xs.drop (i + 2)
  | _, _ => xs

def settleF : Nat → List (Int × Int) → List (Int × Int)
  | 0, xs => xs
  | f + 1, xs => if (nextOf xs).2 = true then settleF f (mergeAt xs (nextOf xs).1.toNat) else xs

theorem nextFrom_true (xs : List (Int × Int)) (k : Nat) (h : (nextFrom xs k).2 = true) : ∃ i : Nat, (nextFrom xs k).1 = i ∧ i < k ∧ tierAt xs i ≤ tierAt xs (i + 1) := by
  induction k with
  | zero => simp [nextFrom] at h
  | succ k ih =>
    unfold nextFrom at h ⊢
    by_cases hc : tierAt xs k ≤ tierAt xs (k + 1)
    · rw [if_pos hc]; exact ⟨k, rfl, by omega, hc⟩
    · rw [if_neg hc] at h ⊢
      obtain ⟨i, h1, h2, h3⟩ := ih h
      exact ⟨i, h1, by omega, h3⟩

theorem nextOf_true (xs : List (Int × Int)) (h : (nextOf xs).2 = true) : ∃ i : Nat, (nextOf xs).1 = i ∧ i + 1 < xs.length ∧ tierAt xs i ≤ tierAt xs (i + 1) := by
  obtain ⟨i, h1, h2, h3⟩ := nextFrom_true xs _ h
  exact ⟨i, h1, by omega, h3⟩

theorem nextFrom_false (xs : List (Int × Int)) (k : Nat) (h : (nextFrom xs k).2 = false) : (nextFrom xs k).1 = 0 ∧ ∀ i, i < k → tierAt xs (i + 1) < tierAt xs i := by
  induction k with
  | zero => exact ⟨rfl, fun i h => by omega⟩
  | succ k ih =>
    unfold nextFrom at h ⊢
    by_cases hc : tierAt xs k ≤ tierAt xs (k + 1)
    · rw [if_pos hc] at h; simp at h
    · rw [if_neg hc] at h ⊢
      obtain ⟨h1, h2⟩ := ih h
      refine ⟨h1, fun i hi => ?_⟩
      by_cases e : i = k
      · subst e; omega
      · exact h2 i (by omega)

theorem mergeAt_eq (xs : List (Int × Int)) (i : Nat) (h : i + 1 < xs.length) : mergeAt xs i = xs.take i ++ (xs[i].1, xs[i + 1].2) :: xs.drop (i + 2) := by
  unfold mergeAt
  rw [List.getElem?_eq_getElem (by omega), List.getElem?_eq_getElem h]

theorem mergeAt_len (xs : List (Int × Int)) (i : Nat) (h : i + 1 < xs.length) : (mergeAt xs i).length = xs.length - 1 := by
  rw [mergeAt_eq xs i h]; simp; omega

theorem mergeAt_set (xs : List (Int × Int)) (i : Nat) (h : i + 1 < xs.length) :
    mergeAt xs i = (xs.set i (xs[i].1, xs[i + 1].2)).take (i + 1) ++ (xs.set i (xs[i].1, xs[i + 1].2)).drop (i + 1 + 1) := by
  rw [mergeAt_eq xs i h]
  have h1 : (xs.set i (xs[i].1, xs[i + 1].2)).take (i + 1) = xs.take i ++ [(xs[i].1, xs[i + 1].2)] := by
    rw [List.take_succ_eq_append_getElem (by simp; omega), List.take_set_of_le (by omega)]
    simp
  have h2 : (xs.set i (xs[i].1, xs[i + 1].2)).drop (i + 1 + 1) = xs.drop (i + 2) := by
    rw [List.drop_set_of_lt (by omega)]
  rw [h1, h2]; simp

theorem spanCells_set (xs : List (Int × Int)) (i : Nat) (h : i < xs.length) (b : Int) : (spanCells xs).set (i * 2 + 1) (.int .i64 b) = spanCells (xs.set i (xs[i].1, b)) := by
  induction xs generalizing i with
  | nil => simp at h
  | cons x xs ih =>
    cases i with
    | zero => simp [spanCells]
    | succ i =>
      have := ih i (by simpa using h)
      simp only [spanCells] at this
      simp only [spanCells, List.flatMap_cons, List.set_cons_succ, List.getElem_cons_succ]
      rw [← this]
      rw [show (i + 1) * 2 + 1 = (i * 2 + 1) + 2 from by omega]
      simp

theorem settle_cells {w : World} {base g cap : Nat} {ys : List (Int × Int)} (h : w.ownsRow base 26 2 (.slice (some ⟨g, 0, none⟩) ys.length cap) ys.length (spanCells ys)) (k : Nat) (hk : k < ys.length) :
    w.cell? ⟨g, k * 2, none⟩ = some (.int .i64 ys[k].1) ∧ w.cell? ⟨g, k * 2 + 1, none⟩ = some (.int .i64 ys[k].2) := by
  have h1 := spanCells_from ys k hk
  exact ⟨(h.cellAt _ (by omega)).trans h1.1, (h.cellAt _ (by omega)).trans h1.2⟩

set_option maxHeartbeats 400000 in
theorem settle_any (v : Value) (xs : List (Int × Int)) (w : World) (h : Rd w v xs.length 2 (spanCells xs)) (hb : ∀ s ∈ xs, s.2 ≤ 9223372036854775807) (hn : xs.length * 16 ≤ 140737488355328) :
    Calls Tryz.prog 12 #[v] w (Gives w 26 2 (settleF xs.length xs).length (spanCells (settleF xs.length xs))) := by
  go_enter Tryz.func12, Tryz.ntmps12
  go_wp2_with (go_at_call 20; refine (clone_any v xs.length (spanCells xs) _ h (spanCells_one xs) hn).mono ?_; rintro e w1 ⟨v1, rfl, hown, hbel⟩)
  go_loopw [3] (fun u wr => ∃ ys : List (Int × Int), wr.ownsRow w.heap.size 26 2 u ys.length (spanCells ys) ∧ (∀ s ∈ ys, s.2 ≤ 9223372036854775807) ∧ settleF xs.length xs = settleF ys.length ys ∧ Below w.heap.size w wr) (fun u _ => lenOf u)
  case atStart => exact ⟨xs, hown, hb, rfl, hbel⟩
  case round =>
    clear hown hbel hb h
    obtain ⟨ys, hown, hb, hs, hbel⟩ := hrel
    have HS := Lib.hid hs; clear hs
    have hlen := lenOf_own hown
    have HL := Lib.hid hlen; clear hlen
    by_cases hmore : (nextOf ys).2 = true
    · obtain ⟨i, hi1, hi2, -⟩ := nextOf_true ys hmore
      obtain ⟨g, cap, rfl⟩ := own_form hown (by omega)
      obtain ⟨hnc, hcm, hbg, hgs⟩ := own_parts hown
      unfold maxLen at hcm
      have hcalls := next_any _ ys wr (Rd.of_own hown) hb
      rw [hi1, hmore] at hcalls
      have HC := Lib.hid hcalls; clear hcalls
      have HM := Lib.hid hmore; clear hmore
      have HI := Lib.hid hi1; clear hi1
      have HB := Lib.hid hb; clear hb
      have hx1 : ys.length ≤ 9223372036854775807 := by omega
      have j1 : (0 : Int) ≤ (i : Int) + 1 := by omega
      have j2 : (i : Int) + 1 < (ys.length : Int) := by omega
      have j3 : (i : Int) < (ys.length : Int) := by omega
      go_wp2_with (go_at_call 21; refine HC.out.mono ?_; rintro e w2 ⟨rfl, hb2⟩; have hown2 := own_below hown hb2; have k1 := settle_cells hown2 (i + 1) hi2; have k2 := settle_cells hown2 i (by omega); have k3 := hown2.frozenAt (i * 2 + 1); have HO := Lib.hid hown2; clear hown2)
      have hst := HO.out.stored (i * 2 + 1) (.int .i64 ys[i + 1].2)
      rw [spanCells_set ys i (by omega)] at hst
      have hd := delete_any w.heap.size g cap (i + 1) (ys.set i (ys[i].1, ys[i + 1].2)) (w2.setCell ⟨g, i * 2 + 1, none⟩ (.int .i64 ys[i + 1].2)) (by rw [List.length_set]; exact hst.1) (by rw [List.length_set]; exact hi2)
      rw [List.length_set, show (((i + 1 : Nat) : Int)) = (i : Int) + 1 from by omega, show (i : Int) + 1 + 1 = (i : Int) + 2 from by omega] at hd
      refine hd.mono ?_
      rintro e w3 ⟨rfl, hown3, hb3⟩
      rw [← mergeAt_set ys i hi2] at hown3
      have hbel3 : Below w.heap.size w w3 := ((hbel.trans (hb2.mono hbel.size)).setCell hbg _).trans (hb3.mono hbg)
      have hlm := mergeAt_len ys i hi2
      have hle : (ys.set i (ys[i].1, ys[i + 1].2)).length = ys.length := List.length_set ..
      have HLE := Lib.hid hle
      have HLM := Lib.hid hlm
      clear hd hst hle hlm hb2 hbel hb3 k1 k2 k3
      go_wp2
      go_roundw
      case rel =>
        refine ⟨mergeAt ys i, ?_, ?_, ?_, hbel3⟩
        · rw [HLM.out]; rw [HLE.out] at hown3; exact hown3
        · intro s hs
          rw [mergeAt_eq ys i hi2] at hs
          simp only [List.mem_append, List.mem_cons] at hs
          rcases hs with hs | rfl | hs
          · exact HB.out s (List.mem_of_mem_take hs)
          · exact HB.out ys[i + 1] (List.getElem_mem _)
          · exact HB.out s (List.mem_of_mem_drop hs)
        · rw [HS.out, HLM.out]
          obtain ⟨n, hn⟩ : ∃ n, ys.length = n + 1 := ⟨ys.length - 1, by omega⟩
          rw [hn]
          simp only [settleF]
          rw [if_pos HM.out, HI.out]
          rfl
      case measure =>
        have := HLE.out
        simp [lenOf]; omega
    · have hc := next_any _ ys wr (Rd.of_own hown) hb
      have hf : (nextOf ys).2 = false := by simpa using hmore
      have h0 := (nextFrom_false ys _ hf).1
      rw [show (nextOf ys).1 = 0 from h0, hf] at hc
      have HC := Lib.hid hc; clear hc h0 hmore
      have HF := Lib.hid hf; clear hf
      have HO := Lib.hid hown; clear hown
      go_wp2_with (go_at_call 21; refine HC.out.mono ?_; rintro e w2 ⟨rfl, hb2⟩)
      go_ret
      have he : settleF xs.length xs = ys := by
        rw [HS.out]
        cases hl : ys.length with
        | zero => rfl
        | succ n => simp only [settleF]; rw [HF.out]; rfl
      refine ⟨_, rfl, ?_, hbel.trans (hb2.mono hbel.size)⟩
      rw [he]
      exact own_below HO.out hb2
end Go.Proofs.YteegbjjpjdlcmaaGreatDoor

/- rubricklaw13.row: spans in a row. -/
namespace Go.Proofs.YteegbjjpjdlcmaaGreatDoor
open Go.RowKit

def rowOf : Int → List Int → List (Int × Int)
  | _, [] => []
  | a, x :: r => (a, a + x) :: rowOf (a + x) r

def sumOf : List Int → Int
  | [] => 0
  | x :: r => x + sumOf r

theorem sumOf_append (l m : List Int) : sumOf (l ++ m) = sumOf l + sumOf m := by
  induction l with
  | nil => simp [sumOf]
  | cons x l ih => simp only [List.cons_append, sumOf, ih]; omega

theorem rowOf_append (l : List Int) : ∀ (a x : Int), rowOf a (l ++ [x]) = rowOf a l ++ [(a + sumOf l, a + sumOf l + x)] := by
  induction l with
  | nil => intro a x; simp [rowOf, sumOf]
  | cons y l ih => intro a x; simp only [List.cons_append, rowOf, ih, sumOf]; rw [show a + y + sumOf l = a + (y + sumOf l) from by omega]

theorem rowOf_len (l : List Int) : ∀ a, (rowOf a l).length = l.length := by
  induction l with
  | nil => intro a; rfl
  | cons y l ih => intro a; simp [rowOf, ih]

theorem sumOf_bd (l : List Int) (h : ∀ x ∈ l, 0 ≤ x ∧ x ≤ 1000) : 0 ≤ sumOf l ∧ sumOf l ≤ 1000 * l.length := by
  induction l with
  | nil => simp [sumOf]
  | cons y l ih =>
    have h1 := h y (by simp)
    have h2 := ih (fun x hx => h x (by simp [hx]))
    simp only [sumOf, List.length_cons]; omega

theorem take_snoc' {α : Type} (l : List α) (k : Nat) (h : k < l.length) : l.take (k + 1) = l.take k ++ [l[k]] := List.take_succ_eq_append_getElem h

set_option maxHeartbeats 400000 in
theorem row_any (v : Value) (ks : List Int) (w : World) (h : Rd w v ks.length 1 (ks.map (Value.int .i64))) (hk : ∀ x ∈ ks, 0 ≤ x ∧ x ≤ 1000) (hn : ks.length ≤ 100000) :
    Calls Tryz.prog 13 #[v] w (Gives w 26 2 ks.length (spanCells (rowOf 0 ks))) := by
  obtain ⟨i0, hi, hz0, hz1, hz2⟩ := info_parts infoSpan
  obtain ⟨-, hm, ⟨ao, c, rfl, hn0⟩ | ⟨b, off, c, rfl, h0, hnc, hcm, hcell⟩⟩ := h
  · have hx : ks = [] := List.length_eq_zero_iff.1 hn0
    subst hx
    go_enter Tryz.func13, Tryz.ntmps13
    go_wp2
    refine wp_loop_rounds 1 ?_; rw [rounds_succ]
    go_wp2
    go_ret
    exact ⟨_, rfl, World.ownsRow_nil _ _ _ _, Below.refl _ _⟩
  · have hcells : ∀ i (hi : i < ks.length), w.cell? ⟨b, off + i, none⟩ = some (.int .i64 ks[i]) := fun i hi => hcell i _ (by simp [hi])
    have HC := Lib.hid hcells; clear hcells hcell
    unfold maxLen at hcm hm
    go_enter Tryz.func13, Tryz.ntmps13
    go_wp2
    go_loopw [3, 4, 5] (fun o a i wr => ∃ k : Nat, k ≤ ks.length ∧ i = .int .i64 k ∧ a = .int .i64 (sumOf (ks.take k)) ∧ wr.ownsRow w.heap.size 26 2 o k (spanCells (rowOf 0 (ks.take k))) ∧ Below w.heap.size w wr) (fun _ _ i _ => ks.length - (intOf i).toNat)
    case atStart => exact ⟨0, Nat.zero_le _, rfl, rfl, World.ownsRow_nil _ _ _ _, Below.refl _ _⟩
    case round =>
      obtain ⟨k, hkn, rfl, rfl, hown, hbel⟩ := hrel
      by_cases hlt : k < ks.length
      · have hcur := (hbel.cell (World.block_lt_of_cell? w _ (HC.out k hlt))).trans (HC.out k hlt)
        have hb1 := sumOf_bd (ks.take k) (fun x hx => hk x (List.mem_of_mem_take hx))
        have hb2 := hk ks[k] (List.getElem_mem _)
        have hl : (ks.take k).length ≤ 100000 := by simp; omega
        have hsz := hbel.size
        go_wp2_with (at_builtin; refine wpList_app rfl _ _ _ _ rfl w.heap.size 26 i0 _ 2 16 Tryz.underlying43 hi hz0 hz1 hz2 rfl _ k _ rfl (hown.alloc _) _ 1 [.int .i64 (sumOf (ks.take k)), .int .i64 (sumOf (ks.take k) + ks[k])] rfl (src_new Tryz.underlying43 wr _ 2 1 1 rfl (by intro u hu; simp at hu; rcases hu with rfl | rfl <;> rfl)) (by unfold maxLen; omega) (by omega) (by simp; omega) ?_)
        intro v' w1 hown1 hgr _ _
        have hbel1 : Below w.heap.size w w1 := (hbel.alloc hbel.size _).grown hgr (by simp; omega) (fun j hj => (hown.lt j hj).1)
        have hcur1 := (hbel1.cell (World.block_lt_of_cell? w _ (HC.out k hlt))).trans (HC.out k hlt)
        have HO : Hid (w1.ownsRow w.heap.size 26 2 v' (k + 1) (spanCells (rowOf 0 (ks.take (k + 1))))) := by
          rw [take_snoc' ks k hlt, rowOf_append, spanCells_append, show (0 : Int) + sumOf (ks.take k) = sumOf (ks.take k) from by omega]
          exact hown1
        have hs : sumOf (ks.take (k + 1)) = sumOf (ks.take k) + ks[k] := by rw [take_snoc' ks k hlt, sumOf_append]; simp [sumOf]
        have HSM := Lib.hid hs
        clear hs hown1 hgr hown hbel hcur
        go_wp2
        go_roundw
        case rel => exact ⟨k + 1, hlt, by go_num, by rw [HSM.out], HO.out, hbel1⟩
        case measure => simp [intOf]; omega
      · have hk' : k = ks.length := by omega
        subst hk'
        go_wp2
        go_ret
        refine ⟨_, rfl, ?_, hbel⟩
        rw [List.take_length] at hown
        exact hown
end Go.Proofs.YteegbjjpjdlcmaaGreatDoor

/- rubricklaw13.knows: the document's examples hold. -/
namespace Go.Proofs.YteegbjjpjdlcmaaGreatDoor
open Go.RowKit

theorem settle_ex1 : settleF 2 (rowOf 0 [1, 1]) = [(0, 2)] := by decide +kernel
theorem settle_ex2 : settleF 3 (rowOf 0 [4, 2, 1]) = [(0, 4), (4, 6), (6, 7)] := by decide +kernel
theorem settle_ex3 : settleF 4 (rowOf 0 [4, 2, 1, 1]) = [(0, 8)] := by decide +kernel
theorem tier_ex : tierOf 1 4 = 1 := by decide +kernel

/-- a row of small numbers, settled. -/
theorem rowsettle (ks : List Int) (zs : List (Int × Int)) (hz : settleF ks.length (rowOf 0 ks) = zs) (hn : ks.length ≤ 100000) (v : Value) (w w' : World) (h : w'.ownsRow w.heap.size 26 2 v ks.length (spanCells (rowOf 0 ks))) (hrow : (∀ s ∈ rowOf 0 ks, s.2 ≤ 9223372036854775807)) :
    Calls Tryz.prog 12 #[v] w' (Gives w' 26 2 zs.length (spanCells zs)) := by
  have hl := rowOf_len ks 0
  have := settle_any v (rowOf 0 ks) w' (by rw [hl]; exact Rd.of_own h) hrow (by omega)
  rw [hl, hz] at this
  exact this

set_option maxHeartbeats 400000 in
theorem knows_any (w : World) : Calls Tryz.prog 6 #[] w fun e w' => e = .returned (.bool true) ∧ Below w.heap.size w w' := by
  go_enter Tryz.func6, Tryz.ntmps6
  go_wp2_with fail
  refine (row_any _ [1, 1] _ (rd_new w #[.int .i64 1, .int .i64 1] _ 1 2 rfl (by decide) (by omega)) (by simp) (by simp)).mono ?_
  rintro e w1 ⟨v1, rfl, hown1, hb1⟩
  go_wp2_with fail
  refine (rowsettle [1, 1] [(0, 2)] settle_ex1 (by simp) v1 _ w1 hown1 (by simp [rowOf])).mono ?_
  rintro e w2 ⟨v2, rfl, hown2, hb2⟩
  have B2 : Below w.heap.size w w2 := (((Below.refl _ _).alloc (Nat.le_refl _) _).trans (hb1.mono (by simp))).trans (hb2.mono (by have := hb1.size; simp at this; omega))
  clear hown1 hb1 hb2
  go_wp2_with fail
  refine (row_any _ [4, 2, 1] _ (rd_new w2 #[.int .i64 4, .int .i64 2, .int .i64 1] _ 1 3 rfl (by decide) (by omega)) (by simp) (by simp)).mono ?_
  rintro e w3 ⟨v3, rfl, hown3, hb3⟩
  go_wp2_with fail
  refine (rowsettle [4, 2, 1] [(0, 4), (4, 6), (6, 7)] settle_ex2 (by simp) v3 _ w3 hown3 (by simp [rowOf])).mono ?_
  rintro e w4 ⟨v4, rfl, hown4, hb4⟩
  have C4 : Below w2.heap.size w2 w4 := (((Below.refl _ _).alloc (Nat.le_refl _) _).trans (hb3.mono (by simp))).trans (hb4.mono (by have := hb3.size; simp at this; omega))
  clear hown3 hb3 hb4
  go_wp2_with fail
  refine (row_any _ [4, 2, 1, 1] _ (rd_new w4 #[.int .i64 4, .int .i64 2, .int .i64 1, .int .i64 1] _ 1 4 rfl (by decide) (by omega)) (by simp) (by simp)).mono ?_
  rintro e w5 ⟨v5, rfl, hown5, hb5⟩
  go_wp2_with fail
  refine (rowsettle [4, 2, 1, 1] [(0, 8)] settle_ex3 (by simp) v5 _ w5 hown5 (by simp [rowOf])).mono ?_
  rintro e w6 ⟨v6, rfl, hown6, hb6⟩
  have C6 : Below w4.heap.size w4 w6 := (((Below.refl _ _).alloc (Nat.le_refl _) _).trans (hb5.mono (by simp))).trans (hb6.mono (by have := hb5.size; simp at this; omega))
  clear hown5 hb5 hb6
  have o4 := own_below hown4 C6
  have o2 := own_below (own_below hown2 C4) C6
  have B6 := (B2.trans (C4.mono B2.size)).trans (C6.mono (Nat.le_trans B2.size C4.size))
  clear hown2 hown4 C4 C6 B2
  obtain ⟨g2, c2, rfl⟩ := own_form o2 (by simp)
  obtain ⟨g4, c4, rfl⟩ := own_form o4 (by simp)
  obtain ⟨g6, c6, rfl⟩ := own_form hown6 (by simp)
  have k2 := settle_cells o2 0 (by simp)
  have k6 := settle_cells hown6 0 (by simp)
  clear o2 o4 hown6
  have ht := tier_any 1 4 w6 (by omega)
  rw [tier_ex] at ht
  have HT := Lib.hid ht; clear ht
  go_wp2_with (go_at_call 14; refine HT.out.mono ?_; rintro e w7 ⟨rfl, hb7⟩)
  go_ret
  exact ⟨rfl, B6.trans (hb7.mono B6.size)⟩
end Go.Proofs.YteegbjjpjdlcmaaGreatDoor
