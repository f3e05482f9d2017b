/- merge.Settle. -/
import Derived.Test.YteegbjjpjdlcmaaDoorDelete
namespace Go.Proofs.YteegbjjpjdlcmaaDoor
open Go.RowKit

/-- the two spans from i on become one. -/
def mergeAt (xs : List (Int × Int)) (i : Nat) : List (Int × Int) :=
  match xs[i]?, xs[i + 1]? with
  | some a, some b => xs.take i ++ (a.1, b.2) :: xs.drop (i + 2)
  | _, _ => xs

def settleF : Nat → List (Int × Int) → List (Int × Int)
  | 0, xs => xs
  | f + 1, xs => if (nextOf xs).2 = true then settleF f (mergeAt xs (nextOf xs).1.toNat) else xs

theorem nextFrom_true (xs : List (Int × Int)) (k : Nat) (h : (nextFrom xs k).2 = true) : ∃ i : Nat, (nextFrom xs k).1 = i ∧ i < k ∧ tierAt xs i ≤ tierAt xs (i + 1) := by
  induction k with
  | zero => simp [nextFrom] at h
  | succ k ih =>
    unfold nextFrom at h ⊢
    by_cases hc : tierAt xs k ≤ tierAt xs (k + 1)
    · rw [if_pos hc]; exact ⟨k, rfl, by omega, hc⟩
    · rw [if_neg hc] at h ⊢
      obtain ⟨i, h1, h2, h3⟩ := ih h
      exact ⟨i, h1, by omega, h3⟩

theorem nextOf_true (xs : List (Int × Int)) (h : (nextOf xs).2 = true) : ∃ i : Nat, (nextOf xs).1 = i ∧ i + 1 < xs.length ∧ tierAt xs i ≤ tierAt xs (i + 1) := by
  obtain ⟨i, h1, h2, h3⟩ := nextFrom_true xs _ h
  exact ⟨i, h1, by omega, h3⟩

theorem nextFrom_false (xs : List (Int × Int)) (k : Nat) (h : (nextFrom xs k).2 = false) : (nextFrom xs k).1 = 0 ∧ ∀ i, i < k → tierAt xs (i + 1) < tierAt xs i := by
  induction k with
  | zero => exact ⟨rfl, fun i h => by omega⟩
  | succ k ih =>
    unfold nextFrom at h ⊢
    by_cases hc : tierAt xs k ≤ tierAt xs (k + 1)
    · rw [if_pos hc] at h; simp at h
    · rw [if_neg hc] at h ⊢
      obtain ⟨h1, h2⟩ := ih h
      refine ⟨h1, fun i hi => ?_⟩
      by_cases e : i = k
      · subst e; omega
      · exact h2 i (by omega)

theorem mergeAt_eq (xs : List (Int × Int)) (i : Nat) (h : i + 1 < xs.length) : mergeAt xs i = xs.take i ++ (xs[i].1, xs[i + 1].2) :: xs.drop (i + 2) := by
  unfold mergeAt
  rw [List.getElem?_eq_getElem (by omega), List.getElem?_eq_getElem h]

theorem mergeAt_len (xs : List (Int × Int)) (i : Nat) (h : i + 1 < xs.length) : (mergeAt xs i).length = xs.length - 1 := by
  rw [mergeAt_eq xs i h]; simp; omega

theorem mergeAt_set (xs : List (Int × Int)) (i : Nat) (h : i + 1 < xs.length) :
    mergeAt xs i = (xs.set i (xs[i].1, xs[i + 1].2)).take (i + 1) ++ (xs.set i (xs[i].1, xs[i + 1].2)).drop (i + 1 + 1) := by
  rw [mergeAt_eq xs i h]
  have h1 : (xs.set i (xs[i].1, xs[i + 1].2)).take (i + 1) = xs.take i ++ [(xs[i].1, xs[i + 1].2)] := by
    rw [List.take_succ_eq_append_getElem (by simp; omega), List.take_set_of_le (by omega)]
    simp
  have h2 : (xs.set i (xs[i].1, xs[i + 1].2)).drop (i + 1 + 1) = xs.drop (i + 2) := by
    rw [List.drop_set_of_lt (by omega)]
  rw [h1, h2]; simp

theorem spanCells_set (xs : List (Int × Int)) (i : Nat) (h : i < xs.length) (b : Int) : (spanCells xs).set (i * 2 + 1) (.int .i64 b) = spanCells (xs.set i (xs[i].1, b)) := by
  induction xs generalizing i with
  | nil => simp at h
  | cons x xs ih =>
    cases i with
    | zero => simp [spanCells]
    | succ i =>
      have := ih i (by simpa using h)
      simp only [spanCells] at this
      simp only [spanCells, List.flatMap_cons, List.set_cons_succ, List.getElem_cons_succ]
      rw [← this]
      rw [show (i + 1) * 2 + 1 = (i * 2 + 1) + 2 from by omega]
      simp

theorem settle_cells {w : World} {base g cap : Nat} {ys : List (Int × Int)} (h : w.ownsRow base 23 2 (.slice (some ⟨g, 0, none⟩) ys.length cap) ys.length (spanCells ys)) (k : Nat) (hk : k < ys.length) :
    w.cell? ⟨g, k * 2, none⟩ = some (.int .i64 ys[k].1) ∧ w.cell? ⟨g, k * 2 + 1, none⟩ = some (.int .i64 ys[k].2) := by
  have h1 := spanCells_from ys k hk
  exact ⟨(h.cellAt _ (by omega)).trans h1.1, (h.cellAt _ (by omega)).trans h1.2⟩

set_option maxHeartbeats 400000 in
theorem settle_any (v : Value) (xs : List (Int × Int)) (w : World) (h : Rd w v xs.length 2 (spanCells xs)) (hb : ∀ s ∈ xs, s.2 ≤ 9223372036854775807) (hn : xs.length * 16 ≤ 140737488355328) :
    Calls Tryd.prog 28 #[v] w (Gives w 23 2 (settleF xs.length xs).length (spanCells (settleF xs.length xs))) := by
  go_enter Tryd.func28, Tryd.ntmps28
  go_wp2_with (go_at_call 53; refine (clone_any v xs.length (spanCells xs) _ h (spanCells_one xs) hn).mono ?_; rintro e w1 ⟨v1, rfl, hown, hbel⟩)
  go_loopw [3] (fun u wr => ∃ ys : List (Int × Int), wr.ownsRow w.heap.size 23 2 u ys.length (spanCells ys) ∧ (∀ s ∈ ys, s.2 ≤ 9223372036854775807) ∧ settleF xs.length xs = settleF ys.length ys ∧ Below w.heap.size w wr) (fun u _ => lenOf u)
  case atStart => exact ⟨xs, hown, hb, rfl, hbel⟩
  case round =>
    clear hown hbel hb h
    obtain ⟨ys, hown, hb, hs, hbel⟩ := hrel
    have HS := Lib.hid hs; clear hs
    have hlen := lenOf_own hown
    have HL := Lib.hid hlen; clear hlen
    by_cases hmore : (nextOf ys).2 = true
    · obtain ⟨i, hi1, hi2, -⟩ := nextOf_true ys hmore
      obtain ⟨g, cap, rfl⟩ := own_form hown (by omega)
      obtain ⟨hnc, hcm, hbg, hgs⟩ := own_parts hown
      unfold maxLen at hcm
      have hcalls := next_any _ ys wr (Rd.of_own hown) hb
      rw [hi1, hmore] at hcalls
      have HC := Lib.hid hcalls; clear hcalls
      have HM := Lib.hid hmore; clear hmore
      have HI := Lib.hid hi1; clear hi1
      have HB := Lib.hid hb; clear hb
      have hx1 : ys.length ≤ 9223372036854775807 := by omega
      have j1 : (0 : Int) ≤ (i : Int) + 1 := by omega
      have j2 : (i : Int) + 1 < (ys.length : Int) := by omega
      have j3 : (i : Int) < (ys.length : Int) := by omega
      go_wp2_with (go_at_call 54; refine HC.out.mono ?_; rintro e w2 ⟨rfl, hb2⟩; have hown2 := own_below hown hb2; have k1 := settle_cells hown2 (i + 1) hi2; have k2 := settle_cells hown2 i (by omega); have k3 := hown2.frozenAt (i * 2 + 1); have HO := Lib.hid hown2; clear hown2)
      have hst := HO.out.stored (i * 2 + 1) (.int .i64 ys[i + 1].2)
      rw [spanCells_set ys i (by omega)] at hst
      have hd := delete_any w.heap.size g cap (i + 1) (ys.set i (ys[i].1, ys[i + 1].2)) (w2.setCell ⟨g, i * 2 + 1, none⟩ (.int .i64 ys[i + 1].2)) (by rw [List.length_set]; exact hst.1) (by rw [List.length_set]; exact hi2)
      rw [List.length_set, show (((i + 1 : Nat) : Int)) = (i : Int) + 1 from by omega, show (i : Int) + 1 + 1 = (i : Int) + 2 from by omega] at hd
      refine hd.mono ?_
      rintro e w3 ⟨rfl, hown3, hb3⟩
      rw [← mergeAt_set ys i hi2] at hown3
      have hbel3 : Below w.heap.size w w3 := ((hbel.trans (hb2.mono hbel.size)).setCell hbg _).trans (hb3.mono hbg)
      have hlm := mergeAt_len ys i hi2
      have hle : (ys.set i (ys[i].1, ys[i + 1].2)).length = ys.length := List.length_set ..
      have HLE := Lib.hid hle
      have HLM := Lib.hid hlm
      clear hd hst hle hlm hb2 hbel hb3 k1 k2 k3
      go_wp2
      go_roundw
      case rel =>
        refine ⟨mergeAt ys i, ?_, ?_, ?_, hbel3⟩
        · rw [HLM.out]; rw [HLE.out] at hown3; exact hown3
        · intro s hs
          rw [mergeAt_eq ys i hi2] at hs
          simp only [List.mem_append, List.mem_cons] at hs
          rcases hs with hs | rfl | hs
          · exact HB.out s (List.mem_of_mem_take hs)
          · exact HB.out ys[i + 1] (List.getElem_mem _)
          · exact HB.out s (List.mem_of_mem_drop hs)
        · rw [HS.out, HLM.out]
          obtain ⟨n, hn⟩ : ∃ n, ys.length = n + 1 := ⟨ys.length - 1, by omega⟩
          rw [hn]
          simp only [settleF]
          rw [if_pos HM.out, HI.out]
          rfl
      case measure =>
        have := HLE.out
        simp [lenOf]; omega
    · have hc := next_any _ ys wr (Rd.of_own hown) hb
      have hf : (nextOf ys).2 = false := by simpa using hmore
      have h0 := (nextFrom_false ys _ hf).1
      rw [show (nextOf ys).1 = 0 from h0, hf] at hc
      have HC := Lib.hid hc; clear hc h0 hmore
      have HF := Lib.hid hf; clear hf
      have HO := Lib.hid hown; clear hown
      go_wp2_with (go_at_call 54; refine HC.out.mono ?_; rintro e w2 ⟨rfl, hb2⟩)
      go_ret
      have he : settleF xs.length xs = ys := by
        rw [HS.out]
        cases hl : ys.length with
        | zero => rfl
        | succ n => simp only [settleF]; rw [HF.out]; rfl
      refine ⟨_, rfl, ?_, hbel.trans (hb2.mono hbel.size)⟩
      rw [he]
      exact own_below HO.out hb2
end Go.Proofs.YteegbjjpjdlcmaaDoor
