/- token.Positions' order of two; token.rising's test of two at token.At. -/
import Derived.Test.YtjbmihgfneamlaaDoorCmp
import Derived.Test.YtjbmihgfneamlaaDoorRef04c
set_option linter.unusedVariables false
namespace Go.Proofs.YtjbmihgfneamlaaDoor
open Go.RowKit Go.Sort

def aval (s : List UInt8 × Int) : Value := .agg #[str s.1, .int .i64 s.2]

theorem below_drawnN {B : Nat} (w : World) (q : Nat) (os : Array Obj) (hB : B ≤ w.heap.size) : Below B w (grow (w.drewN q) os) :=
  ⟨rfl, rfl, rfl, by show w.heap.size ≤ (w.heap ++ os).size; simp, fun k hk => heap_grow_old (w.drewN q) os (by show k < w.heap.size; omega)⟩

def LaysInt (r : Int) (w : World) (e : Ending) (w' : World) : Prop := e = .returned (.int .i64 r) ∧ ∃ q os, w' = grow (w.drewN q) os

set_option maxRecDepth 100000 in
set_option maxHeartbeats 4000000 in
theorem pos1_any (x y : List UInt8 × Int) (w : World) :
    Calls Tryd.prog 51 #[aval x, aval y] w (LaysInt (cmpAt x y) w) := by
  obtain ⟨xs, xi⟩ := x
  obtain ⟨ys, yi⟩ := y
  have hcm := fun W => cmpS_any xs ys W
  have hci := fun W => Tryd.cmp_Compare_int xi yi W
  have hr : Hid (cmpAt (xs, xi) (ys, yi) = orInt (cmpS xs ys) (Lib.compareInt xi yi)) := rfl
  generalize cmpAt (xs, xi) (ys, yi) = r at *
  generalize cmpS xs ys = r1 at *
  generalize Lib.compareInt xi yi = r2 at *
  unfold aval
  simp only
  unfold str at *
  have T1 := Lib.hid hcm
  have T2 := Lib.hid hci
  clear hcm hci
  go_enter Tryd.func51, Tryd.ntmps51
  go_wp2_with fail
  have hW : ((w.alloc (.cells #[.string (bstr xs), .int .i64 xi] 50)).alloc (.cells #[.string (bstr ys), .int .i64 yi] 50)).drew = grow (w.drewN 1) #[.cells #[.string (bstr xs), .int .i64 xi] 50, .cells #[.string (bstr ys), .int .i64 yi] 50] := by
    rw [alloc_eq_grow, alloc_eq_grow, grow_grow]; rfl
  have b1 : ((w.alloc (.cells #[.string (bstr xs), .int .i64 xi] 50)).alloc (.cells #[.string (bstr ys), .int .i64 yi] 50)).drew.heap[w.heap.size]? = some (.cells #[.string (bstr xs), .int .i64 xi] 50 (0, 0)) := by
    show ((w.alloc _).alloc _).heap[w.heap.size]? = _
    rw [Below.heap_alloc _ _ _ (by simp)]
    exact heap_alloc_new w _
  have b2 : ((w.alloc (.cells #[.string (bstr xs), .int .i64 xi] 50)).alloc (.cells #[.string (bstr ys), .int .i64 yi] 50)).drew.heap[w.heap.size + 1]? = some (.cells #[.string (bstr ys), .int .i64 yi] 50 (0, 0)) := by
    have := heap_alloc_new (w.alloc (.cells #[.string (bstr xs), .int .i64 xi] 50)) (.cells #[.string (bstr ys), .int .i64 yi] 50)
    show ((w.alloc _).alloc _).heap[w.heap.size + 1]? = _
    simpa using this
  refine L_begin (fun W => W.cell? ⟨w.heap.size, 0, none⟩ = some (.string (bstr xs)) ∧ W.cell? ⟨w.heap.size, 1, none⟩ = some (.int .i64 xi) ∧ W.cell? ⟨w.heap.size + 1, 0, none⟩ = some (.string (bstr ys)) ∧ W.cell? ⟨w.heap.size + 1, 1, none⟩ = some (.int .i64 yi)) 12 (by kernel_rfl) ?_
  generalize ((w.alloc (.cells #[.string (bstr xs), .int .i64 xi] 50)).alloc (.cells #[.string (bstr ys), .int .i64 yi] 50)).drew = wd at *
  have hS : wd.cell? ⟨w.heap.size, 0, none⟩ = some (.string (bstr xs)) ∧ wd.cell? ⟨w.heap.size, 1, none⟩ = some (.int .i64 xi) ∧ wd.cell? ⟨w.heap.size + 1, 0, none⟩ = some (.string (bstr ys)) ∧ wd.cell? ⟨w.heap.size + 1, 1, none⟩ = some (.int .i64 yi) :=
    ⟨by rw [cell_of_row _ _ _ _ _ _ b1]; rfl, by rw [cell_of_row _ _ _ _ _ _ b1]; rfl, by rw [cell_of_row _ _ _ _ _ _ b2]; rfl, by rw [cell_of_row _ _ _ _ _ _ b2]; rfl⟩
  have HW := Lib.hid hW
  clear b1 b2 hW
  refine L_free (fuel := 12) 0 (.pointer (some ⟨w.heap.size, 0, none⟩)) rfl (by kernel_rfl) (by kernel_rfl) (by kernel_rfl) (by kernel_rfl) (fun _ _ _ h => h) (by kernel_rfl) ?_ hS ?_
  · intro W
    go_simp
  refine L_take (fuel := 11) 1 (.string (bstr xs)) rfl (by kernel_rfl) (by kernel_rfl) (by kernel_rfl) (by kernel_rfl) (fun _ _ _ h => h) (by kernel_rfl) ?_ hS ?_
  · intro W hW
    obtain ⟨q1, q2, q3, q4⟩ := hW
    go_simp
  refine L_free (fuel := 10) 2 (.pointer (some ⟨w.heap.size + 1, 0, none⟩)) rfl (by kernel_rfl) (by kernel_rfl) (by kernel_rfl) (by kernel_rfl) (fun _ _ _ h => h) (by kernel_rfl) ?_ hS ?_
  · intro W
    go_simp
  refine L_take (fuel := 9) 3 (.string (bstr ys)) rfl (by kernel_rfl) (by kernel_rfl) (by kernel_rfl) (by kernel_rfl) (fun _ _ _ h => h) (by kernel_rfl) ?_ hS ?_
  · intro W hW
    obtain ⟨q1, q2, q3, q4⟩ := hW
    go_simp
  refine L_free (fuel := 8) 5 (.pointer (some ⟨w.heap.size, 1, none⟩)) rfl (by kernel_rfl) (by kernel_rfl) (by kernel_rfl) (by kernel_rfl) (fun _ _ _ h => h) (by kernel_rfl) ?_ hS ?_
  · intro W
    go_simp
  refine L_take (fuel := 7) 6 (.int .i64 xi) rfl (by kernel_rfl) (by kernel_rfl) (by kernel_rfl) (by kernel_rfl) (fun _ _ _ h => h) (by kernel_rfl) ?_ hS ?_
  · intro W hW
    obtain ⟨q1, q2, q3, q4⟩ := hW
    go_simp
  refine L_free (fuel := 6) 7 (.pointer (some ⟨w.heap.size + 1, 1, none⟩)) rfl (by kernel_rfl) (by kernel_rfl) (by kernel_rfl) (by kernel_rfl) (fun _ _ _ h => h) (by kernel_rfl) ?_ hS ?_
  · intro W
    go_simp
  refine L_take (fuel := 5) 8 (.int .i64 yi) rfl (by kernel_rfl) (by kernel_rfl) (by kernel_rfl) (by kernel_rfl) (fun _ _ _ h => h) (by kernel_rfl) ?_ hS ?_
  · intro W hW
    obtain ⟨q1, q2, q3, q4⟩ := hW
    go_simp
  refine L_one (fuel := 4) 4 (by kernel_rfl) rfl ?_
  intro K hK
  go_simp
  refine (T1.out _).mono ?_
  rintro e w' ⟨rfl, rfl⟩
  go_simp
  refine hK _ _ hS ?_
  clear hK K
  refine L_one (fuel := 3) 9 (by kernel_rfl) rfl ?_
  intro K hK
  go_simp
  refine (T2.out _).mono ?_
  rintro e w' ⟨rfl, rfl⟩
  go_simp
  refine hK _ _ hS ?_
  clear hK K
  rename_i wq
  have hS2 : (w'.alloc (.cells #[.int .i64 r1, .int .i64 r2] 3)).cell? ⟨w.heap.size, 0, none⟩ = some (.string (bstr xs)) ∧ (w'.alloc (.cells #[.int .i64 r1, .int .i64 r2] 3)).cell? ⟨w.heap.size, 1, none⟩ = some (.int .i64 xi) ∧ (w'.alloc (.cells #[.int .i64 r1, .int .i64 r2] 3)).cell? ⟨w.heap.size + 1, 0, none⟩ = some (.string (bstr ys)) ∧ (w'.alloc (.cells #[.int .i64 r1, .int .i64 r2] 3)).cell? ⟨w.heap.size + 1, 1, none⟩ = some (.int .i64 yi) := by
    have hb : Below w'.heap.size w' (w'.alloc (.cells #[.int .i64 r1, .int .i64 r2] 3)) := (Below.refl _ _).alloc (Nat.le_refl _) _
    obtain ⟨q1, q2, q3, q4⟩ := hS
    exact ⟨cell_later hb q1, cell_later hb q2, cell_later hb q3, cell_later hb q4⟩
  have hrd := rd_new w' #[.int .i64 r1, .int .i64 r2] 3 1 2 rfl (by decide) (by decide)
  have T3 := Lib.hid (or_any _ r1 r2 _ hrd)
  clear hrd
  refine L_one (fuel := 2) 10 (by kernel_rfl) rfl ?_
  intro K hK
  go_simp
  refine hK _ _ hS2 ?_
  clear hK K
  refine L_one (fuel := 1) 11 (by kernel_rfl) rfl ?_
  intro K hK
  go_simp
  refine T3.out.mono ?_
  rintro e w3 ⟨rfl, rfl⟩
  go_simp
  refine hK _ _ hS2 ?_
  clear hK K
  refine L_one (fuel := 0) 12 (by kernel_rfl) rfl ?_
  intro K hK
  go_simp
  refine hK _ _ hS2 ?_
  clear hK K
  refine L_done (by kernel_rfl) ?_ 0
  go_wp2
  go_ret
  refine ⟨by rw [hr.out]; rfl, 1, #[.cells #[.string (bstr xs), .int .i64 xi] 50, .cells #[.string (bstr ys), .int .i64 yi] 50, .cells #[.int .i64 r1, .int .i64 r2] 3], ?_⟩
  rw [HW.out, alloc_eq_grow, grow_grow]
  rfl

set_option maxRecDepth 100000 in
set_option maxHeartbeats 4000000 in
theorem risA_any (x y : List UInt8 × Int) (bx : Nat) (w : World) (hb : w.cell? ⟨bx, 0, none⟩ = some (.func (.func 51) #[] #[])) :
    Calls Tryd.prog 77 #[aval x, aval y, .pointer (some ⟨bx, 0, none⟩)] w fun e w' => e = .returned (.bool (decide (x = y))) ∧ Below w.heap.size w w' := by
  have eg : ∀ args w, (callFunc 51 args).run Tryd.prog w = .ok (.enter 51 args) w := enters_of Tryd.func51 (by kernel_rfl) rfl
  have hc := fun W => pos1_any x y W
  have hz := cmpAt_zero x y
  generalize cmpAt x y = r at *
  obtain ⟨xs, xi⟩ := x
  obtain ⟨ys, yi⟩ := y
  unfold aval at *
  simp only at *
  unfold str at *
  have HZ := Lib.hid hz
  have HC := Lib.hid hc
  clear hz hc
  have hb' : Below w.heap.size w ((w.alloc (.cells #[.string (bstr xs), .int .i64 xi] 50)).alloc (.cells #[.string (bstr ys), .int .i64 yi] 50)) := ((Below.refl _ _).alloc (Nat.le_refl _) _).alloc (by simp) _
  have cb := cell_later hb' hb
  have HB := Lib.hid hb'
  clear hb' hb
  go_enter Tryd.func77, Tryd.ntmps77
  go_wp2_with (go_at_fn 51; refine (HC.out _).mono ?_; rintro e w' ⟨rfl, q, os, rfl⟩)
  go_ret
  refine ⟨ret_bool HZ.out, HB.out.trans ?_⟩
  exact below_drawnN _ q os (by simp; omega)
end Go.Proofs.YtjbmihgfneamlaaDoor
