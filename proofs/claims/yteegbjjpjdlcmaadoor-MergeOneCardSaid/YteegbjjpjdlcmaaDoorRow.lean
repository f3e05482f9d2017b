/- rubricklaw13.row: spans in a row. -/
import Derived.Test.YteegbjjpjdlcmaaDoorSettle
namespace Go.Proofs.YteegbjjpjdlcmaaDoor
open Go.RowKit

def rowOf : Int → List Int → List (Int × Int)
  | _, [] => []
  | a, x :: r => (a, a + x) :: rowOf (a + x) r

def sumOf : List Int → Int
  | [] => 0
  | x :: r => x + sumOf r

theorem sumOf_append (l m : List Int) : sumOf (l ++ m) = sumOf l + sumOf m := by
  induction l with
  | nil => simp [sumOf]
  | cons x l ih => simp only [List.cons_append, sumOf, ih]; omega

theorem rowOf_append (l : List Int) : ∀ (a x : Int), rowOf a (l ++ [x]) = rowOf a l ++ [(a + sumOf l, a + sumOf l + x)] := by
  induction l with
  | nil => intro a x; simp [rowOf, sumOf]
  | cons y l ih => intro a x; simp only [List.cons_append, rowOf, ih, sumOf]; rw [show a + y + sumOf l = a + (y + sumOf l) from by omega]

theorem rowOf_len (l : List Int) : ∀ a, (rowOf a l).length = l.length := by
  induction l with
  | nil => intro a; rfl
  | cons y l ih => intro a; simp [rowOf, ih]

theorem sumOf_bd (l : List Int) (h : ∀ x ∈ l, 0 ≤ x ∧ x ≤ 1000) : 0 ≤ sumOf l ∧ sumOf l ≤ 1000 * l.length := by
  induction l with
  | nil => simp [sumOf]
  | cons y l ih =>
    have h1 := h y (by simp)
    have h2 := ih (fun x hx => h x (by simp [hx]))
    simp only [sumOf, List.length_cons]; omega

theorem take_snoc' {α : Type} (l : List α) (k : Nat) (h : k < l.length) : l.take (k + 1) = l.take k ++ [l[k]] := List.take_succ_eq_append_getElem h

set_option maxHeartbeats 400000 in
theorem row_any (v : Value) (ks : List Int) (w : World) (h : Rd w v ks.length 1 (ks.map (Value.int .i64))) (hk : ∀ x ∈ ks, 0 ≤ x ∧ x ≤ 1000) (hn : ks.length ≤ 100000) :
    Calls Tryd.prog 29 #[v] w (Gives w 23 2 ks.length (spanCells (rowOf 0 ks))) := by
  obtain ⟨i0, hi, hz0, hz1, hz2⟩ := info_parts infoSpan
  obtain ⟨-, hm, ⟨ao, c, rfl, hn0⟩ | ⟨b, off, c, rfl, h0, hnc, hcm, hcell⟩⟩ := h
  · have hx : ks = [] := List.length_eq_zero_iff.1 hn0
    subst hx
    go_enter Tryd.func29, Tryd.ntmps29
    go_wp2
    refine wp_loop_rounds 1 ?_; rw [rounds_succ]
    go_wp2
    go_ret
    exact ⟨_, rfl, World.ownsRow_nil _ _ _ _, Below.refl _ _⟩
  · have hcells : ∀ i (hi : i < ks.length), w.cell? ⟨b, off + i, none⟩ = some (.int .i64 ks[i]) := fun i hi => hcell i _ (by simp [hi])
    have HC := Lib.hid hcells; clear hcells hcell
    unfold maxLen at hcm hm
    go_enter Tryd.func29, Tryd.ntmps29
    go_wp2
    go_loopw [3, 4, 5] (fun o a i wr => ∃ k : Nat, k ≤ ks.length ∧ i = .int .i64 k ∧ a = .int .i64 (sumOf (ks.take k)) ∧ wr.ownsRow w.heap.size 23 2 o k (spanCells (rowOf 0 (ks.take k))) ∧ Below w.heap.size w wr) (fun _ _ i _ => ks.length - (intOf i).toNat)
    case atStart => exact ⟨0, Nat.zero_le _, rfl, rfl, World.ownsRow_nil _ _ _ _, Below.refl _ _⟩
    case round =>
      obtain ⟨k, hkn, rfl, rfl, hown, hbel⟩ := hrel
      by_cases hlt : k < ks.length
      · have hcur := (hbel.cell (World.block_lt_of_cell? w _ (HC.out k hlt))).trans (HC.out k hlt)
        have hb1 := sumOf_bd (ks.take k) (fun x hx => hk x (List.mem_of_mem_take hx))
        have hb2 := hk ks[k] (List.getElem_mem _)
        have hl : (ks.take k).length ≤ 100000 := by simp; omega
        have hsz := hbel.size
        go_wp2_with (at_builtin; refine wpList_app rfl _ _ _ _ rfl w.heap.size 23 i0 _ 2 16 Tryd.underlying65 hi hz0 hz1 hz2 rfl _ k _ rfl (hown.alloc _) _ 1 [.int .i64 (sumOf (ks.take k)), .int .i64 (sumOf (ks.take k) + ks[k])] rfl (src_new Tryd.underlying65 wr _ 2 1 1 rfl (by intro u hu; simp at hu; rcases hu with rfl | rfl <;> rfl)) (by unfold maxLen; omega) (by omega) (by simp; omega) ?_)
        intro v' w1 hown1 hgr _ _
        have hbel1 : Below w.heap.size w w1 := (hbel.alloc hbel.size _).grown hgr (by simp; omega) (fun j hj => (hown.lt j hj).1)
        have hcur1 := (hbel1.cell (World.block_lt_of_cell? w _ (HC.out k hlt))).trans (HC.out k hlt)
        have HO : Hid (w1.ownsRow w.heap.size 23 2 v' (k + 1) (spanCells (rowOf 0 (ks.take (k + 1))))) := by
          rw [take_snoc' ks k hlt, rowOf_append, spanCells_append, show (0 : Int) + sumOf (ks.take k) = sumOf (ks.take k) from by omega]
          exact hown1
        have hs : sumOf (ks.take (k + 1)) = sumOf (ks.take k) + ks[k] := by rw [take_snoc' ks k hlt, sumOf_append]; simp [sumOf]
        have HSM := Lib.hid hs
        clear hs hown1 hgr hown hbel hcur
        go_wp2
        go_roundw
        case rel => exact ⟨k + 1, hlt, by go_num, by rw [HSM.out], HO.out, hbel1⟩
        case measure => simp [intOf]; omega
      · have hk' : k = ks.length := by omega
        subst hk'
        go_wp2
        go_ret
        refine ⟨_, rfl, ?_, hbel⟩
        rw [List.take_length] at hown
        exact hown
end Go.Proofs.YteegbjjpjdlcmaaDoor
