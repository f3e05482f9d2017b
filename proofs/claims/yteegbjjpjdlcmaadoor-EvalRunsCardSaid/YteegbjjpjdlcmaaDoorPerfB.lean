/- PerfB1, PerfB2, PerfB3: in one text. -/
import Derived.Test.YteegbjjpjdlcmaaDoorEvalLaw
import Derived.Test.YteegbjjpjdlcmaaDoorHeld3
import Derived.Test.YteegbjjpjdlcmaaDoorFnAll
import Derived.Test.YteegbjjpjdlcmaaDoorOwn
import Derived.Shelf.Abstract
import Derived.Laws.EntriesVeiled
import Derived.Test.YteegbjjpjdlcmaaDoorElem
import Derived.Deep.Cut
/- eval.perform at bool: its closures. -/
set_option linter.unusedVariables false
namespace Go.Proofs.YteegbjjpjdlcmaaDoor
open Go.RowKit Go.Sort

theorem fand_any (x y : Bool) (W : World) : Calls Tryd.prog 81 #[.bool x, .bool y] W fun e w' => e = .returned (.bool (opB 1 x y)) ∧ W = w' := by
  cases x <;> cases y
  all_goals
    go_enter Tryd.func81, Tryd.ntmps81
    go_wp2
    go_ret
    exact ⟨rfl, rfl⟩
theorem for_any (x y : Bool) (W : World) : Calls Tryd.prog 82 #[.bool x, .bool y] W fun e w' => e = .returned (.bool (opB 2 x y)) ∧ W = w' := by
  cases x <;> cases y
  all_goals
    go_enter Tryd.func82, Tryd.ntmps82
    go_wp2
    go_ret
    exact ⟨rfl, rfl⟩
theorem fbut_any (x y : Bool) (W : World) : Calls Tryd.prog 83 #[.bool x, .bool y] W fun e w' => e = .returned (.bool (opB 3 x y)) ∧ W = w' := by
  cases x <;> cases y
  all_goals
    go_enter Tryd.func83, Tryd.ntmps83
    go_wp2
    go_ret
    exact ⟨rfl, rfl⟩

theorem twoB_any (g sb : Nat) (W : World) : Calls Tryd.prog 102 #[.func (.func g) #[] #[], .pointer (some ⟨sb, 0, none⟩)] W fun e w' =>
    e = .returned (.func (.func 103) #[] #[.pointer (some ⟨sb, 0, none⟩), .pointer (some ⟨W.heap.size, 0, none⟩)]) ∧ w' = W.alloc (.cells #[.func (.func g) #[] #[]] 117) := by
  have hmf : ∀ (fn : Fn) (first cap : Array Value) (w : World), (Instr.makeFunc fn first cap).run Tryd.prog w = .ok (.func fn first cap) w := fun _ _ _ _ => rfl
  go_enter Tryd.func102, Tryd.ntmps102
  go_wp2
  go_ret
  exact ⟨rfl, rfl⟩

def tcellsB (st : List Bool) : List Value := st.reverse.map Value.bool

/-- the stack: its variable, its row, the rest as it was. -/
structure StkB (W1 W : World) (sb : Nat) (sv : Value) (n : Nat) (st : List Bool) : Prop where
  var : W.heap[sb]? = some (.cells #[sv] 133 (0, 0))
  own : W.ownsRow W1.heap.size 4 1 sv n (tcellsB st)
  len : st.length = n
  keep : ∀ b, b < W1.heap.size → b ≠ sb → W.heap[b]? = W1.heap[b]?
  size : W1.heap.size ≤ W.heap.size
  lt : sb < W1.heap.size
  bel : Below sb W1 W

theorem StkB.cell_keep {W1 W : World} {sb : Nat} {sv : Value} {n : Nat} {st : List Bool} (h : StkB W1 W sb sv n st) (b o : Nat) (h1 : b < W1.heap.size) (h2 : b ≠ sb) : W.cell? ⟨b, o, none⟩ = W1.cell? ⟨b, o, none⟩ := by
  have := h.keep b h1 h2
  simp only [World.cell?, this]
theorem StkB.start {W : World} {sb : Nat} (hv : W.heap[sb]? = some (.cells #[.slice none 0 0] 133 (0, 0))) : StkB W W sb (.slice none 0 0) 0 [] :=
  ⟨hv, World.ownsRow_nil _ _ _ _, rfl, fun _ _ _ => rfl, Nat.le_refl _, lt_of_block hv, Below.refl _ _⟩

theorem infoBool' : (Tryd.prog.info? 4).map (fun i => (i.zero, i.size, i.bytes)) = some (some (.bool false), 1, 1) := by kernel_rfl

/-- later: blocks that were there are as they were. -/
theorem StkB.below {W1 W W' : World} {sb : Nat} {sv : Value} {n : Nat} {st : List Bool} (h : StkB W1 W sb sv n st) (hb : Below W.heap.size W W') : StkB W1 W' sb sv n st :=
  ⟨by rw [hb.block _ (by have := h.size; have := h.lt; omega)]; exact h.var, own_below h.own hb, h.len, fun b h1 h2 => by rw [hb.block b (by have := h.size; omega)]; exact h.keep b h1 h2, by have := h.size; have := hb.size; omega, h.lt, h.bel.trans (hb.mono (by have := h.size; have := h.lt; omega))⟩

/-- behind an append and the store of what it gave. -/
theorem StkB.next {W1 W Wc Wa : World} {sb : Nat} {sv sv' : Value} {n n' : Nat} {st st' : List Bool} (h : StkB W1 W sb sv n st) (hc : Below W.heap.size W Wc) {rv : Value} (hrv : rv.ownBlock = sv.ownBlock) (hg : Wc.grownBy Wa rv.ownBlock) (hown : Wa.ownsRow W1.heap.size 4 1 sv' n' (tcellsB st')) (hn : st'.length = n') :
    StkB W1 (Wa.setCell ⟨sb, 0, none⟩ sv') sb sv' n' st' := by
  have hsz := hc.size
  have hs1 := h.size
  have hlt := h.lt
  have hga := hg.size
  have hsvb : ∀ g, sv.ownBlock = some g → W1.heap.size ≤ g := fun g hg => (h.own.lt g hg).1
  have hvar : Wa.heap[sb]? = some (.cells #[sv] 133 (0, 0)) := by
    rw [hg.block sb (by omega) (by rw [hrv]; intro e; have := hsvb sb e.symm; omega), hc.block sb (by omega)]
    exact h.var
  have hset := heap_setCell_same Wa sb 0 _ _ sv' hvar
  refine ⟨by rw [hset]; rfl, own_keep hown fun g hg' => ?_, hn, fun b h1 h2 => ?_, ?_, hlt, ?_⟩
  · exact heap_setCell_other _ _ _ _ (by have := (hown.lt g hg').1; simp; omega)
  · rw [heap_setCell_other _ _ _ _ (by simpa using h2), hg.block b (by omega) (by rw [hrv]; intro e; have := hsvb b e.symm; omega), hc.block b (by omega)]
    exact h.keep b h1 h2
  · rw [setCell_nblk]; omega
  · exact ((h.bel.trans (hc.mono (by omega))).grown hg (by omega) (fun j hj => by rw [hrv] at hj; have := hsvb j hj; omega)).setCell (Nat.le_refl _) _
end Go.Proofs.YteegbjjpjdlcmaaDoor

/- eval.perform at bool: what its closures do to the stack. -/
set_option linter.unusedVariables false
namespace Go.Proofs.YteegbjjpjdlcmaaDoor
open Go.RowKit Go.Sort

/-- a closure has been called: the stack is this one now. -/
def TurnsB (W1 W : World) (sb : Nat) (n : Nat) (st : List Bool) (e : Ending) (W' : World) : Prop := e = .returned (.tuple #[]) ∧ ∃ sv, StkB W1 W' sb sv n st ∧ Below sb W W'

theorem tcellsB_len (st : List Bool) : (tcellsB st).length = st.length := by simp [tcellsB]
theorem tcellsB_cons (x : Bool) (st : List Bool) : tcellsB (x :: st) = tcellsB st ++ [.bool x] := by simp [tcellsB]


/-- the stack's variable behind an append. -/
theorem StkB.var7 {W1 W Wc Wa : World} {sb : Nat} {sv : Value} {n : Nat} {st : List Bool} (h : StkB W1 W sb sv n st) (hc : Below W.heap.size W Wc) (hg : Wc.grownBy Wa sv.ownBlock) : Wa.heap[sb]? = some (.cells #[sv] 133 (0, 0)) := by
  have := hc.size
  have := h.size
  have := h.lt
  rw [hg.block sb (by omega) (by intro e; have := (h.own.lt sb e.symm).1; omega), hc.block sb (by omega)]
  exact h.var
theorem StkB.turned {W1 W Wc Wa : World} {sb : Nat} {sv : Value} {n : Nat} {st : List Bool} (h : StkB W1 W sb sv n st) (hc : Below W.heap.size W Wc) (hg : Wc.grownBy Wa sv.ownBlock) (v : Value) : Below sb W (Wa.setCell ⟨sb, 0, none⟩ v) := by
  have := hc.size
  have := h.size
  have := h.lt
  have h1 : Below sb W Wc := hc.mono (by omega)
  have h2 : Below sb W Wa := h1.grown hg (by omega) (fun j hj => by have := (h.own.lt j hj).1; omega)
  exact h2.setCell (Nat.le_refl _) _

set_option maxRecDepth 100000 in
set_option maxHeartbeats 4000000 in
theorem pushB_any (W1 W : World) (sb rb p : Nat) (sv : Value) (n : Nat) (st : List Bool) (t : List UInt8) (r : Bool) (h : StkB W1 W sb sv n st) (hn : n ≤ 100000)
    (c1 : W.cell? ⟨rb, 0, none⟩ = some (.func (.func 79) #[] #[.pointer (some ⟨p, 0, none⟩)]))
    (hf : ∀ W', Below W.heap.size W W' → Calls Tryd.prog 79 #[.string (bstr t), .pointer (some ⟨p, 0, none⟩)] W' fun e w' => e = .returned (.bool r) ∧ Below W'.heap.size W' w') :
    Calls Tryd.prog 104 #[.string (bstr t), .pointer (some ⟨sb, 0, none⟩), .pointer (some ⟨rb, 0, none⟩)] W (TurnsB W1 W sb (n + 1) (r :: st)) := by
  obtain ⟨i0, hi, hz0, hz1, hz2⟩ := info_parts infoBool'
  obtain ⟨sa, sc, rfl⟩ := own_shape h.own
  have c0 : W.cell? ⟨sb, 0, none⟩ = some (.slice sa n sc) := by rw [cell_of_row _ _ _ _ _ _ h.var]; rfl
  have HST := Lib.hid h
  have HF := Lib.hid hf
  have c2 := World.block_lt_of_cell? W _ c1
  clear h hf
  go_enter Tryd.func104, Tryd.ntmps104
  go_wp2_with fail
  refine L_begin (fun W' => Below W.heap.size W W') 6 (by kernel_rfl) ?_
  have hS : Below W.heap.size W W.drew := (Below.refl _ _).drew
  clear c2
  refine L_takeB (fuel := 7) 0 [6] (.slice sa n sc) rfl (by kernel_rfl) (by kernel_rfl) (by kernel_rfl) (by kernel_rfl) (fun _ _ _ h => h) (by first | rfl | kernel_rfl) ?_ hS ?_
  · intro W hW
    have q0 := cell_later hW c0; have q1 := cell_later hW c1
    go_simp
  refine L_free (fuel := 6) 1 (.pointer (some ⟨rb, 0, none⟩)) rfl (by kernel_rfl) (by kernel_rfl) (by kernel_rfl) (by kernel_rfl) (fun _ _ _ h => h) (by first | rfl | kernel_rfl) ?_ hS ?_
  · intro W
    go_simp
  refine L_takeB (fuel := 5) 2 [6, 4] (.func (.func 79) #[] #[.pointer (some ⟨p, 0, none⟩)]) rfl (by kernel_rfl) (by kernel_rfl) (by kernel_rfl) (by kernel_rfl) (fun _ _ _ h => h) (by first | rfl | kernel_rfl) ?_ hS ?_
  · intro W hW
    have q0 := cell_later hW c0; have q1 := cell_later hW c1
    go_simp
  refine L_free (fuel := 4) 3 (.string (bstr t)) rfl (by kernel_rfl) (by kernel_rfl) (by kernel_rfl) (by kernel_rfl) (fun _ _ _ h => h) (by first | rfl | kernel_rfl) ?_ hS ?_
  · intro W
    go_simp
  refine L_one (fuel := 3) 4 (by kernel_rfl) rfl ?_
  intro K hK
  go_simp
  refine (HF.out _ hS).mono ?_
  rintro e w5 ⟨rfl, hb5⟩
  have hS5 : Below W.heap.size W w5 := hS.trans (hb5.mono hS.size)
  go_simp
  refine hK _ _ hS5 ?_
  clear hK K
  have hS6 : Below W.heap.size W (w5.alloc (.cells #[.bool r] 4)) := hS5.alloc hS5.size _
  refine L_one (fuel := 2) 5 (by kernel_rfl) rfl ?_
  intro K hK
  go_simp
  refine hK _ _ hS6 ?_
  clear hK K
  have hown6 := own_below HST.out.own hS6
  refine L_end (fuel := 1) 6 (by kernel_rfl) rfl (by kernel_rfl) ?_
  intro K hK
  refine step_app (by rfl) (.tmp 4) (.tmp 9) _ _ (by rfl) W1.heap.size 4 i0 _ 1 1 Tryd.underlying133 hi hz0 hz1 hz2 rfl (.slice sa n sc) n _ (by rfl) hown6 _ 1 [.bool r] (by rfl) (src_new Tryd.underlying133 w5 _ 1 1 1 rfl (by intro u hu; simp at hu; subst hu; rfl)) (by unfold maxLen; omega) (by omega) (Nat.le_trans HST.out.size hS6.size) ?_
  intro v7 w7 hown7 hgr7 _
  obtain ⟨a7, c7, rfl⟩ := own_shape hown7
  have hN := Lib.hid (HST.out.next hS6 rfl hgr7 (by rw [← tcellsB_cons] at hown7; exact hown7) (by simp [HST.out.len]))
  have hvar7 : w7.heap[sb]? = some (.cells #[.slice sa n sc] 133 (0, 0)) := HST.out.var7 hS6 hgr7
  have hb7 : Below sb W (w7.setCell ⟨sb, 0, none⟩ (.slice a7 (n + 1) c7)) := HST.out.turned hS6 hgr7 _
  have d0 := cell_of_row _ _ 0 _ _ _ hvar7
  have d1 := frozen_of_row _ _ 0 _ _ hvar7
  clear hown7 hgr7 hvar7
  refine hK _ _ ?_
  clear hK K
  have HB7 := Lib.hid hb7
  clear hb7
  refine L_end (fuel := 0) 7 (by kernel_rfl) rfl (by kernel_rfl) ?_
  intro K hK
  go_simp
  refine hK _ _ ?_
  clear hK K
  refine L_done (by kernel_rfl) ?_ 0
  go_wp2
  go_end0
  exact ⟨rfl, _, hN.out, HB7.out⟩


set_option maxRecDepth 100000 in
set_option maxHeartbeats 4000000 in
theorem comb1B_any (W1 W : World) (sb cb : Nat) (sv : Value) (n : Nat) (x y : Bool) (s : List Bool) (h : StkB W1 W sb sv n (y :: x :: s)) (hn : n ≤ 100000)
    (c1 : W.cell? ⟨cb, 0, none⟩ = some (.func (.func 81) #[] #[])) :
    Calls Tryd.prog 103 #[.string (bstr []), .pointer (some ⟨sb, 0, none⟩), .pointer (some ⟨cb, 0, none⟩)] W (TurnsB W1 W sb (n - 2 + 1) (opB 1 x y :: s)) := by
  obtain ⟨i0, hi, hz0, hz1, hz2⟩ := info_parts infoBool'
  have hl := h.len
  simp only [List.length_cons] at hl
  obtain ⟨g, cap, rfl⟩ := own_form h.own (by omega)
  obtain ⟨p1, p2, p3, p4⟩ := own_parts h.own
  have c0 : W.cell? ⟨sb, 0, none⟩ = some (.slice (some ⟨g, 0, none⟩) n cap) := by rw [cell_of_row _ _ _ _ _ _ h.var]; rfl
  have htc : tcellsB (y :: x :: s) = tcellsB s ++ [.bool x] ++ [.bool y] := by rw [tcellsB_cons, tcellsB_cons]
  have hsl := tcellsB_len s
  have c2 : W.cell? ⟨g, n - 2, none⟩ = some (.bool x) := by
    have := h.own.cellAt (n - 2) (by omega)
    rw [htc, List.getElem?_append_left (by simp; omega), List.getElem?_append_right (by omega), hsl, show n - 2 - s.length = 0 from by omega] at this
    exact this
  have c3 : W.cell? ⟨g, n - 1, none⟩ = some (.bool y) := by
    have := h.own.cellAt (n - 1) (by omega)
    rw [htc, List.getElem?_append_right (by simp; omega)] at this
    simp only [List.length_append, hsl, List.length_singleton, show n - 1 - (s.length + 1) = 0 from by omega] at this
    exact this
  have htk := own_take h.own (show n - 2 ≤ n by omega)
  rw [htc, show (n - 2) * 1 = (tcellsB s).length from by rw [hsl]; omega, List.append_assoc, List.take_left] at htk
  have HTK := Lib.hid htk
  have HST := Lib.hid h
  have HM := Lib.hid hl
  have hn2 : 2 ≤ n := by omega
  have i1 : (0 : Int) ≤ (n : Int) - 1 := by omega
  have i2 : (0 : Int) ≤ (n : Int) - 1 - 1 := by omega
  have i3 : (n : Int) - 1 - 1 ≤ (cap : Int) := by omega
  have i4 : (n : Int) - 1 < (n : Int) := by omega
  have i5 : (n : Int) - 1 - 1 < (n : Int) := by omega
  have i6 : ((n : Int) - 1).toNat = n - 1 := by omega
  have i7 : ((n : Int) - 1 - 1).toNat = n - 2 := by omega
  have i8 : IntKind.i64.wrap ((n : Int) - 1) = (n : Int) - 1 := by rw [IntKind.wrap_i64]; omega
  have i9 : IntKind.i64.wrap ((n : Int) - 1 - 1) = (n : Int) - 1 - 1 := by rw [IntKind.wrap_i64]; unfold maxLen at p2; omega
  have j1 : (1 : Int) ≤ (n : Int) := by omega
  have j2 : (2 : Int) ≤ (n : Int) := by omega
  have j3 : (1 : Int) ≤ (n : Int) - 1 := by omega
  clear h htk htc hl hsl
  go_enter Tryd.func103, Tryd.ntmps103
  go_wp2_with fail
  refine L_begin (fun W' => Below W.heap.size W W') 16 (by kernel_rfl) ?_
  have hS : Below W.heap.size W W.drew := (Below.refl _ _).drew
  refine L_takeB (fuel := 17) 0 [16, 3] (.slice (some ⟨g, 0, none⟩) n cap) rfl (by kernel_rfl) (by kernel_rfl) (by kernel_rfl) (by kernel_rfl) (fun _ _ _ h => h) (by first | rfl | kernel_rfl) ?_ hS ?_
  · intro W hW
    have q0 := cell_later hW c0; have q1 := cell_later hW c1; have q2 := cell_later hW c2; have q3 := cell_later hW c3
    go_simp
  refine L_free (fuel := 16) 1 (.int .i64 ((n : Int) - 1)) rfl (by kernel_rfl) (by kernel_rfl) (by kernel_rfl) (by kernel_rfl) (fun _ _ _ h => h) (by first | rfl | kernel_rfl) ?_ hS ?_
  · intro W
    go_simp
  refine L_free (fuel := 15) 2 (.int .i64 ((n : Int) - 1 - 1)) rfl (by kernel_rfl) (by kernel_rfl) (by kernel_rfl) (by kernel_rfl) (fun _ _ _ h => h) (by first | rfl | kernel_rfl) ?_ hS ?_
  · intro W
    go_simp
  refine L_free (fuel := 14) 3 (.slice (some ⟨g, 0, none⟩) (n - 2) cap) rfl (by kernel_rfl) (by kernel_rfl) (by kernel_rfl) (by kernel_rfl) (fun _ _ _ h => h) (by first | rfl | kernel_rfl) ?_ hS ?_
  · intro W
    go_simp
  refine L_takeB (fuel := 13) 4 [16, 14] (.func (.func 81) #[] #[]) rfl (by kernel_rfl) (by kernel_rfl) (by kernel_rfl) (by kernel_rfl) (fun _ _ _ h => h) (by first | rfl | kernel_rfl) ?_ hS ?_
  · intro W hW
    have q0 := cell_later hW c0; have q1 := cell_later hW c1; have q2 := cell_later hW c2; have q3 := cell_later hW c3
    go_simp
  refine L_takeB (fuel := 12) 5 [16, 14, 9, 8] (.slice (some ⟨g, 0, none⟩) n cap) rfl (by kernel_rfl) (by kernel_rfl) (by kernel_rfl) (by kernel_rfl) (fun _ _ _ h => h) (by first | rfl | kernel_rfl) ?_ hS ?_
  · intro W hW
    have q0 := cell_later hW c0; have q1 := cell_later hW c1; have q2 := cell_later hW c2; have q3 := cell_later hW c3
    go_simp
  refine L_free (fuel := 11) 6 (.int .i64 ((n : Int) - 1)) rfl (by kernel_rfl) (by kernel_rfl) (by kernel_rfl) (by kernel_rfl) (fun _ _ _ h => h) (by first | rfl | kernel_rfl) ?_ hS ?_
  · intro W
    go_simp
  refine L_free (fuel := 10) 7 (.int .i64 ((n : Int) - 1 - 1)) rfl (by kernel_rfl) (by kernel_rfl) (by kernel_rfl) (by kernel_rfl) (fun _ _ _ h => h) (by first | rfl | kernel_rfl) ?_ hS ?_
  · intro W
    go_simp
  refine L_free (fuel := 9) 8 (.pointer (some ⟨g, n - 2, none⟩)) rfl (by kernel_rfl) (by kernel_rfl) (by kernel_rfl) (by kernel_rfl) (fun _ _ _ h => h) (by first | rfl | kernel_rfl) ?_ hS ?_
  · intro W
    go_simp
  refine L_takeB (fuel := 8) 9 [16, 14] (.bool x) rfl (by kernel_rfl) (by kernel_rfl) (by kernel_rfl) (by kernel_rfl) (fun _ _ _ h => h) (by first | rfl | kernel_rfl) ?_ hS ?_
  · intro W hW
    have q0 := cell_later hW c0; have q1 := cell_later hW c1; have q2 := cell_later hW c2; have q3 := cell_later hW c3
    go_simp
  refine L_takeB (fuel := 7) 10 [16, 14, 13, 12] (.slice (some ⟨g, 0, none⟩) n cap) rfl (by kernel_rfl) (by kernel_rfl) (by kernel_rfl) (by kernel_rfl) (fun _ _ _ h => h) (by first | rfl | kernel_rfl) ?_ hS ?_
  · intro W hW
    have q0 := cell_later hW c0; have q1 := cell_later hW c1; have q2 := cell_later hW c2; have q3 := cell_later hW c3
    go_simp
  refine L_free (fuel := 6) 11 (.int .i64 ((n : Int) - 1)) rfl (by kernel_rfl) (by kernel_rfl) (by kernel_rfl) (by kernel_rfl) (fun _ _ _ h => h) (by first | rfl | kernel_rfl) ?_ hS ?_
  · intro W
    go_simp
  refine L_free (fuel := 5) 12 (.pointer (some ⟨g, n - 1, none⟩)) rfl (by kernel_rfl) (by kernel_rfl) (by kernel_rfl) (by kernel_rfl) (fun _ _ _ h => h) (by first | rfl | kernel_rfl) ?_ hS ?_
  · intro W
    go_simp
  refine L_takeB (fuel := 4) 13 [16, 14] (.bool y) rfl (by kernel_rfl) (by kernel_rfl) (by kernel_rfl) (by kernel_rfl) (fun _ _ _ h => h) (by first | rfl | kernel_rfl) ?_ hS ?_
  · intro W hW
    have q0 := cell_later hW c0; have q1 := cell_later hW c1; have q2 := cell_later hW c2; have q3 := cell_later hW c3
    go_simp
  refine L_one (fuel := 3) 14 (by kernel_rfl) rfl ?_
  intro K hK
  go_simp
  refine (fand_any x y _).mono ?_
  rintro e w5 ⟨rfl, rfl⟩
  go_simp
  refine hK _ _ hS ?_
  clear hK K
  generalize opB 1 x y = r at *
  have hS6 : Below W.heap.size W (W.drew.alloc (.cells #[.bool r] 4)) := hS.alloc hS.size _
  refine L_one (fuel := 2) 15 (by kernel_rfl) rfl ?_
  intro K hK
  go_simp
  refine hK _ _ hS6 ?_
  clear hK K
  have hown6 := own_below HTK.out hS6
  refine L_end (fuel := 1) 16 (by kernel_rfl) rfl (by kernel_rfl) ?_
  intro K hK
  refine step_app (by rfl) (.tmp 11) (.tmp 23) _ _ (by rfl) W1.heap.size 4 i0 _ 1 1 Tryd.underlying133 hi hz0 hz1 hz2 rfl (.slice (some ⟨g, 0, none⟩) (n - 2) cap) (n - 2) _ (by rfl) hown6 _ 1 [.bool r] (by rfl) (src_new Tryd.underlying133 W.drew _ 1 1 1 rfl (by intro u hu; simp at hu; subst hu; rfl)) (by unfold maxLen; omega) (by omega) (Nat.le_trans HST.out.size hS6.size) ?_
  intro v7 w7 hown7 hgr7 _
  obtain ⟨a7, c7, rfl⟩ := own_shape hown7
  have hN := Lib.hid (HST.out.next hS6 (rv := .slice (some ⟨g, 0, none⟩) (n - 2) cap) rfl hgr7 (by rw [← tcellsB_cons] at hown7; exact hown7) (by have := HM.out; simp; omega))
  have hvar7 : w7.heap[sb]? = some (.cells #[.slice (some ⟨g, 0, none⟩) n cap] 133 (0, 0)) := HST.out.var7 hS6 hgr7
  have hb7 : Below sb W (w7.setCell ⟨sb, 0, none⟩ (.slice a7 (n - 2 + 1) c7)) := HST.out.turned hS6 hgr7 _
  have d0 := cell_of_row _ _ 0 _ _ _ hvar7
  have d1 := frozen_of_row _ _ 0 _ _ hvar7
  clear hown7 hgr7 hvar7
  refine hK _ _ ?_
  clear hK K
  have HB7 := Lib.hid hb7
  clear hb7
  refine L_end (fuel := 0) 17 (by kernel_rfl) rfl (by kernel_rfl) ?_
  intro K hK
  go_simp
  refine hK _ _ ?_
  clear hK K
  refine L_done (by kernel_rfl) ?_ 0
  go_wp2
  go_end0
  exact ⟨rfl, _, hN.out, HB7.out⟩


set_option maxRecDepth 100000 in
set_option maxHeartbeats 4000000 in
theorem comb2B_any (W1 W : World) (sb cb : Nat) (sv : Value) (n : Nat) (x y : Bool) (s : List Bool) (h : StkB W1 W sb sv n (y :: x :: s)) (hn : n ≤ 100000)
    (c1 : W.cell? ⟨cb, 0, none⟩ = some (.func (.func 82) #[] #[])) :
    Calls Tryd.prog 103 #[.string (bstr []), .pointer (some ⟨sb, 0, none⟩), .pointer (some ⟨cb, 0, none⟩)] W (TurnsB W1 W sb (n - 2 + 1) (opB 2 x y :: s)) := by
  obtain ⟨i0, hi, hz0, hz1, hz2⟩ := info_parts infoBool'
  have hl := h.len
  simp only [List.length_cons] at hl
  obtain ⟨g, cap, rfl⟩ := own_form h.own (by omega)
  obtain ⟨p1, p2, p3, p4⟩ := own_parts h.own
  have c0 : W.cell? ⟨sb, 0, none⟩ = some (.slice (some ⟨g, 0, none⟩) n cap) := by rw [cell_of_row _ _ _ _ _ _ h.var]; rfl
  have htc : tcellsB (y :: x :: s) = tcellsB s ++ [.bool x] ++ [.bool y] := by rw [tcellsB_cons, tcellsB_cons]
  have hsl := tcellsB_len s
  have c2 : W.cell? ⟨g, n - 2, none⟩ = some (.bool x) := by
    have := h.own.cellAt (n - 2) (by omega)
    rw [htc, List.getElem?_append_left (by simp; omega), List.getElem?_append_right (by omega), hsl, show n - 2 - s.length = 0 from by omega] at this
    exact this
  have c3 : W.cell? ⟨g, n - 1, none⟩ = some (.bool y) := by
    have := h.own.cellAt (n - 1) (by omega)
    rw [htc, List.getElem?_append_right (by simp; omega)] at this
    simp only [List.length_append, hsl, List.length_singleton, show n - 1 - (s.length + 1) = 0 from by omega] at this
    exact this
  have htk := own_take h.own (show n - 2 ≤ n by omega)
  rw [htc, show (n - 2) * 1 = (tcellsB s).length from by rw [hsl]; omega, List.append_assoc, List.take_left] at htk
  have HTK := Lib.hid htk
  have HST := Lib.hid h
  have HM := Lib.hid hl
  have hn2 : 2 ≤ n := by omega
  have i1 : (0 : Int) ≤ (n : Int) - 1 := by omega
  have i2 : (0 : Int) ≤ (n : Int) - 1 - 1 := by omega
  have i3 : (n : Int) - 1 - 1 ≤ (cap : Int) := by omega
  have i4 : (n : Int) - 1 < (n : Int) := by omega
  have i5 : (n : Int) - 1 - 1 < (n : Int) := by omega
  have i6 : ((n : Int) - 1).toNat = n - 1 := by omega
  have i7 : ((n : Int) - 1 - 1).toNat = n - 2 := by omega
  have i8 : IntKind.i64.wrap ((n : Int) - 1) = (n : Int) - 1 := by rw [IntKind.wrap_i64]; omega
  have i9 : IntKind.i64.wrap ((n : Int) - 1 - 1) = (n : Int) - 1 - 1 := by rw [IntKind.wrap_i64]; unfold maxLen at p2; omega
  have j1 : (1 : Int) ≤ (n : Int) := by omega
  have j2 : (2 : Int) ≤ (n : Int) := by omega
  have j3 : (1 : Int) ≤ (n : Int) - 1 := by omega
  clear h htk htc hl hsl
  go_enter Tryd.func103, Tryd.ntmps103
  go_wp2_with fail
  refine L_begin (fun W' => Below W.heap.size W W') 16 (by kernel_rfl) ?_
  have hS : Below W.heap.size W W.drew := (Below.refl _ _).drew
  refine L_takeB (fuel := 17) 0 [16, 3] (.slice (some ⟨g, 0, none⟩) n cap) rfl (by kernel_rfl) (by kernel_rfl) (by kernel_rfl) (by kernel_rfl) (fun _ _ _ h => h) (by first | rfl | kernel_rfl) ?_ hS ?_
  · intro W hW
    have q0 := cell_later hW c0; have q1 := cell_later hW c1; have q2 := cell_later hW c2; have q3 := cell_later hW c3
    go_simp
  refine L_free (fuel := 16) 1 (.int .i64 ((n : Int) - 1)) rfl (by kernel_rfl) (by kernel_rfl) (by kernel_rfl) (by kernel_rfl) (fun _ _ _ h => h) (by first | rfl | kernel_rfl) ?_ hS ?_
  · intro W
    go_simp
  refine L_free (fuel := 15) 2 (.int .i64 ((n : Int) - 1 - 1)) rfl (by kernel_rfl) (by kernel_rfl) (by kernel_rfl) (by kernel_rfl) (fun _ _ _ h => h) (by first | rfl | kernel_rfl) ?_ hS ?_
  · intro W
    go_simp
  refine L_free (fuel := 14) 3 (.slice (some ⟨g, 0, none⟩) (n - 2) cap) rfl (by kernel_rfl) (by kernel_rfl) (by kernel_rfl) (by kernel_rfl) (fun _ _ _ h => h) (by first | rfl | kernel_rfl) ?_ hS ?_
  · intro W
    go_simp
  refine L_takeB (fuel := 13) 4 [16, 14] (.func (.func 82) #[] #[]) rfl (by kernel_rfl) (by kernel_rfl) (by kernel_rfl) (by kernel_rfl) (fun _ _ _ h => h) (by first | rfl | kernel_rfl) ?_ hS ?_
  · intro W hW
    have q0 := cell_later hW c0; have q1 := cell_later hW c1; have q2 := cell_later hW c2; have q3 := cell_later hW c3
    go_simp
  refine L_takeB (fuel := 12) 5 [16, 14, 9, 8] (.slice (some ⟨g, 0, none⟩) n cap) rfl (by kernel_rfl) (by kernel_rfl) (by kernel_rfl) (by kernel_rfl) (fun _ _ _ h => h) (by first | rfl | kernel_rfl) ?_ hS ?_
  · intro W hW
    have q0 := cell_later hW c0; have q1 := cell_later hW c1; have q2 := cell_later hW c2; have q3 := cell_later hW c3
    go_simp
  refine L_free (fuel := 11) 6 (.int .i64 ((n : Int) - 1)) rfl (by kernel_rfl) (by kernel_rfl) (by kernel_rfl) (by kernel_rfl) (fun _ _ _ h => h) (by first | rfl | kernel_rfl) ?_ hS ?_
  · intro W
    go_simp
  refine L_free (fuel := 10) 7 (.int .i64 ((n : Int) - 1 - 1)) rfl (by kernel_rfl) (by kernel_rfl) (by kernel_rfl) (by kernel_rfl) (fun _ _ _ h => h) (by first | rfl | kernel_rfl) ?_ hS ?_
  · intro W
    go_simp
  refine L_free (fuel := 9) 8 (.pointer (some ⟨g, n - 2, none⟩)) rfl (by kernel_rfl) (by kernel_rfl) (by kernel_rfl) (by kernel_rfl) (fun _ _ _ h => h) (by first | rfl | kernel_rfl) ?_ hS ?_
  · intro W
    go_simp
  refine L_takeB (fuel := 8) 9 [16, 14] (.bool x) rfl (by kernel_rfl) (by kernel_rfl) (by kernel_rfl) (by kernel_rfl) (fun _ _ _ h => h) (by first | rfl | kernel_rfl) ?_ hS ?_
  · intro W hW
    have q0 := cell_later hW c0; have q1 := cell_later hW c1; have q2 := cell_later hW c2; have q3 := cell_later hW c3
    go_simp
  refine L_takeB (fuel := 7) 10 [16, 14, 13, 12] (.slice (some ⟨g, 0, none⟩) n cap) rfl (by kernel_rfl) (by kernel_rfl) (by kernel_rfl) (by kernel_rfl) (fun _ _ _ h => h) (by first | rfl | kernel_rfl) ?_ hS ?_
  · intro W hW
    have q0 := cell_later hW c0; have q1 := cell_later hW c1; have q2 := cell_later hW c2; have q3 := cell_later hW c3
    go_simp
  refine L_free (fuel := 6) 11 (.int .i64 ((n : Int) - 1)) rfl (by kernel_rfl) (by kernel_rfl) (by kernel_rfl) (by kernel_rfl) (fun _ _ _ h => h) (by first | rfl | kernel_rfl) ?_ hS ?_
  · intro W
    go_simp
  refine L_free (fuel := 5) 12 (.pointer (some ⟨g, n - 1, none⟩)) rfl (by kernel_rfl) (by kernel_rfl) (by kernel_rfl) (by kernel_rfl) (fun _ _ _ h => h) (by first | rfl | kernel_rfl) ?_ hS ?_
  · intro W
    go_simp
  refine L_takeB (fuel := 4) 13 [16, 14] (.bool y) rfl (by kernel_rfl) (by kernel_rfl) (by kernel_rfl) (by kernel_rfl) (fun _ _ _ h => h) (by first | rfl | kernel_rfl) ?_ hS ?_
  · intro W hW
    have q0 := cell_later hW c0; have q1 := cell_later hW c1; have q2 := cell_later hW c2; have q3 := cell_later hW c3
    go_simp
  refine L_one (fuel := 3) 14 (by kernel_rfl) rfl ?_
  intro K hK
  go_simp
  refine (for_any x y _).mono ?_
  rintro e w5 ⟨rfl, rfl⟩
  go_simp
  refine hK _ _ hS ?_
  clear hK K
  generalize opB 2 x y = r at *
  have hS6 : Below W.heap.size W (W.drew.alloc (.cells #[.bool r] 4)) := hS.alloc hS.size _
  refine L_one (fuel := 2) 15 (by kernel_rfl) rfl ?_
  intro K hK
  go_simp
  refine hK _ _ hS6 ?_
  clear hK K
  have hown6 := own_below HTK.out hS6
  refine L_end (fuel := 1) 16 (by kernel_rfl) rfl (by kernel_rfl) ?_
  intro K hK
  refine step_app (by rfl) (.tmp 11) (.tmp 23) _ _ (by rfl) W1.heap.size 4 i0 _ 1 1 Tryd.underlying133 hi hz0 hz1 hz2 rfl (.slice (some ⟨g, 0, none⟩) (n - 2) cap) (n - 2) _ (by rfl) hown6 _ 1 [.bool r] (by rfl) (src_new Tryd.underlying133 W.drew _ 1 1 1 rfl (by intro u hu; simp at hu; subst hu; rfl)) (by unfold maxLen; omega) (by omega) (Nat.le_trans HST.out.size hS6.size) ?_
  intro v7 w7 hown7 hgr7 _
  obtain ⟨a7, c7, rfl⟩ := own_shape hown7
  have hN := Lib.hid (HST.out.next hS6 (rv := .slice (some ⟨g, 0, none⟩) (n - 2) cap) rfl hgr7 (by rw [← tcellsB_cons] at hown7; exact hown7) (by have := HM.out; simp; omega))
  have hvar7 : w7.heap[sb]? = some (.cells #[.slice (some ⟨g, 0, none⟩) n cap] 133 (0, 0)) := HST.out.var7 hS6 hgr7
  have hb7 : Below sb W (w7.setCell ⟨sb, 0, none⟩ (.slice a7 (n - 2 + 1) c7)) := HST.out.turned hS6 hgr7 _
  have d0 := cell_of_row _ _ 0 _ _ _ hvar7
  have d1 := frozen_of_row _ _ 0 _ _ hvar7
  clear hown7 hgr7 hvar7
  refine hK _ _ ?_
  clear hK K
  have HB7 := Lib.hid hb7
  clear hb7
  refine L_end (fuel := 0) 17 (by kernel_rfl) rfl (by kernel_rfl) ?_
  intro K hK
  go_simp
  refine hK _ _ ?_
  clear hK K
  refine L_done (by kernel_rfl) ?_ 0
  go_wp2
  go_end0
  exact ⟨rfl, _, hN.out, HB7.out⟩


set_option maxRecDepth 100000 in
set_option maxHeartbeats 4000000 in
theorem comb3B_any (W1 W : World) (sb cb : Nat) (sv : Value) (n : Nat) (x y : Bool) (s : List Bool) (h : StkB W1 W sb sv n (y :: x :: s)) (hn : n ≤ 100000)
    (c1 : W.cell? ⟨cb, 0, none⟩ = some (.func (.func 83) #[] #[])) :
    Calls Tryd.prog 103 #[.string (bstr []), .pointer (some ⟨sb, 0, none⟩), .pointer (some ⟨cb, 0, none⟩)] W (TurnsB W1 W sb (n - 2 + 1) (opB 3 x y :: s)) := by
  obtain ⟨i0, hi, hz0, hz1, hz2⟩ := info_parts infoBool'
  have hl := h.len
  simp only [List.length_cons] at hl
  obtain ⟨g, cap, rfl⟩ := own_form h.own (by omega)
  obtain ⟨p1, p2, p3, p4⟩ := own_parts h.own
  have c0 : W.cell? ⟨sb, 0, none⟩ = some (.slice (some ⟨g, 0, none⟩) n cap) := by rw [cell_of_row _ _ _ _ _ _ h.var]; rfl
  have htc : tcellsB (y :: x :: s) = tcellsB s ++ [.bool x] ++ [.bool y] := by rw [tcellsB_cons, tcellsB_cons]
  have hsl := tcellsB_len s
  have c2 : W.cell? ⟨g, n - 2, none⟩ = some (.bool x) := by
    have := h.own.cellAt (n - 2) (by omega)
    rw [htc, List.getElem?_append_left (by simp; omega), List.getElem?_append_right (by omega), hsl, show n - 2 - s.length = 0 from by omega] at this
    exact this
  have c3 : W.cell? ⟨g, n - 1, none⟩ = some (.bool y) := by
    have := h.own.cellAt (n - 1) (by omega)
    rw [htc, List.getElem?_append_right (by simp; omega)] at this
    simp only [List.length_append, hsl, List.length_singleton, show n - 1 - (s.length + 1) = 0 from by omega] at this
    exact this
  have htk := own_take h.own (show n - 2 ≤ n by omega)
  rw [htc, show (n - 2) * 1 = (tcellsB s).length from by rw [hsl]; omega, List.append_assoc, List.take_left] at htk
  have HTK := Lib.hid htk
  have HST := Lib.hid h
  have HM := Lib.hid hl
  have hn2 : 2 ≤ n := by omega
  have i1 : (0 : Int) ≤ (n : Int) - 1 := by omega
  have i2 : (0 : Int) ≤ (n : Int) - 1 - 1 := by omega
  have i3 : (n : Int) - 1 - 1 ≤ (cap : Int) := by omega
  have i4 : (n : Int) - 1 < (n : Int) := by omega
  have i5 : (n : Int) - 1 - 1 < (n : Int) := by omega
  have i6 : ((n : Int) - 1).toNat = n - 1 := by omega
  have i7 : ((n : Int) - 1 - 1).toNat = n - 2 := by omega
  have i8 : IntKind.i64.wrap ((n : Int) - 1) = (n : Int) - 1 := by rw [IntKind.wrap_i64]; omega
  have i9 : IntKind.i64.wrap ((n : Int) - 1 - 1) = (n : Int) - 1 - 1 := by rw [IntKind.wrap_i64]; unfold maxLen at p2; omega
  have j1 : (1 : Int) ≤ (n : Int) := by omega
  have j2 : (2 : Int) ≤ (n : Int) := by omega
  have j3 : (1 : Int) ≤ (n : Int) - 1 := by omega
  clear h htk htc hl hsl
  go_enter Tryd.func103, Tryd.ntmps103
  go_wp2_with fail
  refine L_begin (fun W' => Below W.heap.size W W') 16 (by kernel_rfl) ?_
  have hS : Below W.heap.size W W.drew := (Below.refl _ _).drew
  refine L_takeB (fuel := 17) 0 [16, 3] (.slice (some ⟨g, 0, none⟩) n cap) rfl (by kernel_rfl) (by kernel_rfl) (by kernel_rfl) (by kernel_rfl) (fun _ _ _ h => h) (by first | rfl | kernel_rfl) ?_ hS ?_
  · intro W hW
    have q0 := cell_later hW c0; have q1 := cell_later hW c1; have q2 := cell_later hW c2; have q3 := cell_later hW c3
    go_simp
  refine L_free (fuel := 16) 1 (.int .i64 ((n : Int) - 1)) rfl (by kernel_rfl) (by kernel_rfl) (by kernel_rfl) (by kernel_rfl) (fun _ _ _ h => h) (by first | rfl | kernel_rfl) ?_ hS ?_
  · intro W
    go_simp
  refine L_free (fuel := 15) 2 (.int .i64 ((n : Int) - 1 - 1)) rfl (by kernel_rfl) (by kernel_rfl) (by kernel_rfl) (by kernel_rfl) (fun _ _ _ h => h) (by first | rfl | kernel_rfl) ?_ hS ?_
  · intro W
    go_simp
  refine L_free (fuel := 14) 3 (.slice (some ⟨g, 0, none⟩) (n - 2) cap) rfl (by kernel_rfl) (by kernel_rfl) (by kernel_rfl) (by kernel_rfl) (fun _ _ _ h => h) (by first | rfl | kernel_rfl) ?_ hS ?_
  · intro W
    go_simp
  refine L_takeB (fuel := 13) 4 [16, 14] (.func (.func 83) #[] #[]) rfl (by kernel_rfl) (by kernel_rfl) (by kernel_rfl) (by kernel_rfl) (fun _ _ _ h => h) (by first | rfl | kernel_rfl) ?_ hS ?_
  · intro W hW
    have q0 := cell_later hW c0; have q1 := cell_later hW c1; have q2 := cell_later hW c2; have q3 := cell_later hW c3
    go_simp
  refine L_takeB (fuel := 12) 5 [16, 14, 9, 8] (.slice (some ⟨g, 0, none⟩) n cap) rfl (by kernel_rfl) (by kernel_rfl) (by kernel_rfl) (by kernel_rfl) (fun _ _ _ h => h) (by first | rfl | kernel_rfl) ?_ hS ?_
  · intro W hW
    have q0 := cell_later hW c0; have q1 := cell_later hW c1; have q2 := cell_later hW c2; have q3 := cell_later hW c3
    go_simp
  refine L_free (fuel := 11) 6 (.int .i64 ((n : Int) - 1)) rfl (by kernel_rfl) (by kernel_rfl) (by kernel_rfl) (by kernel_rfl) (fun _ _ _ h => h) (by first | rfl | kernel_rfl) ?_ hS ?_
  · intro W
    go_simp
  refine L_free (fuel := 10) 7 (.int .i64 ((n : Int) - 1 - 1)) rfl (by kernel_rfl) (by kernel_rfl) (by kernel_rfl) (by kernel_rfl) (fun _ _ _ h => h) (by first | rfl | kernel_rfl) ?_ hS ?_
  · intro W
    go_simp
  refine L_free (fuel := 9) 8 (.pointer (some ⟨g, n - 2, none⟩)) rfl (by kernel_rfl) (by kernel_rfl) (by kernel_rfl) (by kernel_rfl) (fun _ _ _ h => h) (by first | rfl | kernel_rfl) ?_ hS ?_
  · intro W
    go_simp
  refine L_takeB (fuel := 8) 9 [16, 14] (.bool x) rfl (by kernel_rfl) (by kernel_rfl) (by kernel_rfl) (by kernel_rfl) (fun _ _ _ h => h) (by first | rfl | kernel_rfl) ?_ hS ?_
  · intro W hW
    have q0 := cell_later hW c0; have q1 := cell_later hW c1; have q2 := cell_later hW c2; have q3 := cell_later hW c3
    go_simp
  refine L_takeB (fuel := 7) 10 [16, 14, 13, 12] (.slice (some ⟨g, 0, none⟩) n cap) rfl (by kernel_rfl) (by kernel_rfl) (by kernel_rfl) (by kernel_rfl) (fun _ _ _ h => h) (by first | rfl | kernel_rfl) ?_ hS ?_
  · intro W hW
    have q0 := cell_later hW c0; have q1 := cell_later hW c1; have q2 := cell_later hW c2; have q3 := cell_later hW c3
    go_simp
  refine L_free (fuel := 6) 11 (.int .i64 ((n : Int) - 1)) rfl (by kernel_rfl) (by kernel_rfl) (by kernel_rfl) (by kernel_rfl) (fun _ _ _ h => h) (by first | rfl | kernel_rfl) ?_ hS ?_
  · intro W
    go_simp
  refine L_free (fuel := 5) 12 (.pointer (some ⟨g, n - 1, none⟩)) rfl (by kernel_rfl) (by kernel_rfl) (by kernel_rfl) (by kernel_rfl) (fun _ _ _ h => h) (by first | rfl | kernel_rfl) ?_ hS ?_
  · intro W
    go_simp
  refine L_takeB (fuel := 4) 13 [16, 14] (.bool y) rfl (by kernel_rfl) (by kernel_rfl) (by kernel_rfl) (by kernel_rfl) (fun _ _ _ h => h) (by first | rfl | kernel_rfl) ?_ hS ?_
  · intro W hW
    have q0 := cell_later hW c0; have q1 := cell_later hW c1; have q2 := cell_later hW c2; have q3 := cell_later hW c3
    go_simp
  refine L_one (fuel := 3) 14 (by kernel_rfl) rfl ?_
  intro K hK
  go_simp
  refine (fbut_any x y _).mono ?_
  rintro e w5 ⟨rfl, rfl⟩
  go_simp
  refine hK _ _ hS ?_
  clear hK K
  generalize opB 3 x y = r at *
  have hS6 : Below W.heap.size W (W.drew.alloc (.cells #[.bool r] 4)) := hS.alloc hS.size _
  refine L_one (fuel := 2) 15 (by kernel_rfl) rfl ?_
  intro K hK
  go_simp
  refine hK _ _ hS6 ?_
  clear hK K
  have hown6 := own_below HTK.out hS6
  refine L_end (fuel := 1) 16 (by kernel_rfl) rfl (by kernel_rfl) ?_
  intro K hK
  refine step_app (by rfl) (.tmp 11) (.tmp 23) _ _ (by rfl) W1.heap.size 4 i0 _ 1 1 Tryd.underlying133 hi hz0 hz1 hz2 rfl (.slice (some ⟨g, 0, none⟩) (n - 2) cap) (n - 2) _ (by rfl) hown6 _ 1 [.bool r] (by rfl) (src_new Tryd.underlying133 W.drew _ 1 1 1 rfl (by intro u hu; simp at hu; subst hu; rfl)) (by unfold maxLen; omega) (by omega) (Nat.le_trans HST.out.size hS6.size) ?_
  intro v7 w7 hown7 hgr7 _
  obtain ⟨a7, c7, rfl⟩ := own_shape hown7
  have hN := Lib.hid (HST.out.next hS6 (rv := .slice (some ⟨g, 0, none⟩) (n - 2) cap) rfl hgr7 (by rw [← tcellsB_cons] at hown7; exact hown7) (by have := HM.out; simp; omega))
  have hvar7 : w7.heap[sb]? = some (.cells #[.slice (some ⟨g, 0, none⟩) n cap] 133 (0, 0)) := HST.out.var7 hS6 hgr7
  have hb7 : Below sb W (w7.setCell ⟨sb, 0, none⟩ (.slice a7 (n - 2 + 1) c7)) := HST.out.turned hS6 hgr7 _
  have d0 := cell_of_row _ _ 0 _ _ _ hvar7
  have d1 := frozen_of_row _ _ 0 _ _ hvar7
  clear hown7 hgr7 hvar7
  refine hK _ _ ?_
  clear hK K
  have HB7 := Lib.hid hb7
  clear hb7
  refine L_end (fuel := 0) 17 (by kernel_rfl) rfl (by kernel_rfl) ?_
  intro K hK
  go_simp
  refine hK _ _ ?_
  clear hK K
  refine L_done (by kernel_rfl) ?_ 0
  go_wp2
  go_end0
  exact ⟨rfl, _, hN.out, HB7.out⟩

end Go.Proofs.YteegbjjpjdlcmaaDoor

/- eval.perform at bool: its map of steps is made. -/
set_option linter.unusedVariables false
namespace Go.Proofs.YteegbjjpjdlcmaaDoor
open Go.RowKit Go.Sort

/-- the cells that the function's variables lie in before the map is made. -/
abbrev performBW (p : Nat) (w : World) : World := (w.alloc (.cells #[.func (.func 79) #[] #[.pointer (some ⟨p, 0, none⟩)], .func (.func 81) #[] #[], .func (.func 82) #[] #[], .func (.func 83) #[] #[]] 119)).alloc (.cells #[.slice none 0 0] 133)
/-- a closure that combines two. -/
abbrev performBV (w : World) (c : Nat) : Value := .func (.func 103) #[] #[.pointer (some ⟨w.heap.size + 1, 0, none⟩), .pointer (some ⟨c, 0, none⟩)]
abbrev performBF (w : World) : Value := .func (.func 104) #[] #[.pointer (some ⟨w.heap.size + 1, 0, none⟩), .pointer (some ⟨w.heap.size, 0, none⟩)]
abbrev performBT (p : Nat) (v : Value) (w : World) : Value → Value → Value → Value → Array Value := fun x0 x1 x2 x3 => #[v, .agg #[.func (.func 79) #[] #[.pointer (some ⟨p, 0, none⟩)], .func (.func 81) #[] #[], .func (.func 82) #[] #[], .func (.func 83) #[] #[]], undef, .pointer (some ⟨w.heap.size, 0, none⟩), .bool false, .pointer (some ⟨w.heap.size + 1, 0, none⟩), .func (.func 102) #[] #[.pointer (some ⟨w.heap.size + 1, 0, none⟩)], undef, undef, undef, .func (.func 102) #[] #[.pointer (some ⟨w.heap.size + 1, 0, none⟩)], x0, .func (.func 104) #[] #[.pointer (some ⟨w.heap.size + 1, 0, none⟩), .pointer (some ⟨w.heap.size, 0, none⟩)], .func (.func 102) #[] #[.pointer (some ⟨w.heap.size + 1, 0, none⟩)], .pointer (some ⟨w.heap.size, 1, none⟩), .func (.func 81) #[] #[], x1, .func (.func 102) #[] #[.pointer (some ⟨w.heap.size + 1, 0, none⟩)], .pointer (some ⟨w.heap.size, 2, none⟩), .func (.func 82) #[] #[], x2, .func (.func 102) #[] #[.pointer (some ⟨w.heap.size + 1, 0, none⟩)], .pointer (some ⟨w.heap.size, 3, none⟩), .func (.func 83) #[] #[], x3, undef, undef, undef, undef, undef, undef, undef, undef, undef, undef, undef, undef, undef, undef, undef, undef, undef, undef]

/-- what holds behind the map's making. -/
structure performBMap (p : Nat) (w W : World) (mb : Nat) (es : Array MapEntry) (ck c1 c2 c3 : Nat) : Prop where
  bel : Below (performBW p w).heap.size (performBW p w) W
  mbl : (performBW p w).heap.size ≤ mb
  map : W.heap[mb]? = some (.map es ck)
  is : MapIs es (litG true true true true (performBF w) (performBV w c1) (performBV w c2) (performBV w c3))
  l1 : (performBW p w).heap.size ≤ c1
  l2 : (performBW p w).heap.size ≤ c2
  l3 : (performBW p w).heap.size ≤ c3
  f1 : W.heap[c1]? = some (.cells #[.func (.func 81) #[] #[]] 117 (0, 0))
  f2 : W.heap[c2]? = some (.cells #[.func (.func 82) #[] #[]] 117 (0, 0))
  f3 : W.heap[c3]? = some (.cells #[.func (.func 83) #[] #[]] 117 (0, 0))

set_option maxRecDepth 100000 in
set_option maxHeartbeats 8000000 in
/-- perform's beginning: the map is made; what follows is walked once. -/
theorem performB_any (p : Nat) (v : Value) (l : List QOp) (f : List UInt8 → Bool) (w : World) (h : Rd w v l.length 2 (ocells l)) (hl : l.length ≤ 100000) (hr : qRight l = true)
    (hf : ∀ (t : List UInt8) (W : World), rightTok t = true → Below w.heap.size w W → Calls Tryd.prog 79 #[.string (bstr t), .pointer (some ⟨p, 0, none⟩)] W fun e w' => e = .returned (.bool (f t)) ∧ Below W.heap.size W w') :
    Calls Tryd.prog 78 #[v, .agg #[.func (.func 79) #[] #[.pointer (some ⟨p, 0, none⟩)], .func (.func 81) #[] #[], .func (.func 82) #[] #[], .func (.func 83) #[] #[]]] w fun e w' => e = .returned (.bool (evL f opB false l)) ∧ Below w.heap.size w w' := by
  obtain ⟨ao, c, rfl, hm, hcell⟩ := ops_cells h
  have HC := Lib.hid hcell
  have HF := Lib.hid hf
  have HR : Hid (rightGo 0 0 l = true) := hr
  unfold maxLen at hm
  clear h hcell hr hf
  have hmf : ∀ (fn : Fn) (first cap : Array Value) (w : World), (Instr.makeFunc fn first cap).run Tryd.prog w = .ok (.func fn first cap) w := fun _ _ _ _ => rfl
  have hmm := @run_makeMap Tryd.prog
  have hA := heap_alloc_new w (.cells #[.func (.func 79) #[] #[.pointer (some ⟨p, 0, none⟩)], .func (.func 81) #[] #[], .func (.func 82) #[] #[], .func (.func 83) #[] #[]] 119)
  have hAB : Below (w.alloc (.cells #[.func (.func 79) #[] #[.pointer (some ⟨p, 0, none⟩)], .func (.func 81) #[] #[], .func (.func 82) #[] #[], .func (.func 83) #[] #[]] 119)).heap.size (w.alloc (.cells #[.func (.func 79) #[] #[.pointer (some ⟨p, 0, none⟩)], .func (.func 81) #[] #[], .func (.func 82) #[] #[], .func (.func 83) #[] #[]] 119)) (performBW p w) := (Below.refl _ _).alloc (Nat.le_refl _) _
  have c0 : (performBW p w).cell? ⟨w.heap.size, 0, none⟩ = some (.func (.func 79) #[] #[.pointer (some ⟨p, 0, none⟩)]) := cell_later hAB (by rw [cell_of_row _ _ _ _ _ _ hA]; rfl)
  have c1 : (performBW p w).cell? ⟨w.heap.size, 1, none⟩ = some (.func (.func 81) #[] #[]) := cell_later hAB (by rw [cell_of_row _ _ _ _ _ _ hA]; rfl)
  have c2 : (performBW p w).cell? ⟨w.heap.size, 2, none⟩ = some (.func (.func 82) #[] #[]) := cell_later hAB (by rw [cell_of_row _ _ _ _ _ _ hA]; rfl)
  have c3 : (performBW p w).cell? ⟨w.heap.size, 3, none⟩ = some (.func (.func 83) #[] #[]) := cell_later hAB (by rw [cell_of_row _ _ _ _ _ _ hA]; rfl)
  clear hA hAB
  go_enter Tryd.func78, Tryd.ntmps78
  go_wp2_with fail
  go_cut [7] from 8 (fun s7 wc => ∃ (mb : Nat) (es : Array MapEntry) (ck d1 d2 d3 : Nat), s7 = .map (some mb) ∧ performBMap p w wc mb es ck d1 d2 d3)
  case first =>
    refine L_begin (fun W => Below (performBW p w).heap.size (performBW p w) W) 18 (by kernel_rfl) ?_
    have hS : Below (performBW p w).heap.size (performBW p w) (performBW p w).drew := (Below.refl _ _).drew
    refine L_free (fuel := 19) 1 (.func (.func 104) #[] #[.pointer (some ⟨w.heap.size + 1, 0, none⟩), .pointer (some ⟨w.heap.size, 0, none⟩)]) rfl (by kernel_rfl) (by kernel_rfl) (by kernel_rfl) (by kernel_rfl) (fun _ _ _ h => h) (by first | rfl | kernel_rfl) ?_ hS ?_
    · intro W
      go_simp
    refine L_free (fuel := 18) 3 (.func (.func 102) #[] #[.pointer (some ⟨w.heap.size + 1, 0, none⟩)]) rfl (by kernel_rfl) (by kernel_rfl) (by kernel_rfl) (by kernel_rfl) (fun _ _ _ h => h) (by first | rfl | kernel_rfl) ?_ hS ?_
    · intro W
      go_simp
    refine L_free (fuel := 17) 4 (.pointer (some ⟨w.heap.size, 1, none⟩)) rfl (by kernel_rfl) (by kernel_rfl) (by kernel_rfl) (by kernel_rfl) (fun _ _ _ h => h) (by first | rfl | kernel_rfl) ?_ hS ?_
    · intro W
      go_simp
    refine L_takeB (fuel := 16) 5 [18] (.func (.func 81) #[] #[]) rfl (by kernel_rfl) (by kernel_rfl) (by kernel_rfl) (by kernel_rfl) (fun _ _ _ h => h) (by first | rfl | kernel_rfl) ?_ hS ?_
    · intro W hW
      have q1 := cell_later hW c1
      have q2 := cell_later hW c2
      have q3 := cell_later hW c3
      go_simp
    refine L_free (fuel := 15) 8 (.func (.func 102) #[] #[.pointer (some ⟨w.heap.size + 1, 0, none⟩)]) rfl (by kernel_rfl) (by kernel_rfl) (by kernel_rfl) (by kernel_rfl) (fun _ _ _ h => h) (by first | rfl | kernel_rfl) ?_ hS ?_
    · intro W
      go_simp
    refine L_free (fuel := 14) 9 (.pointer (some ⟨w.heap.size, 2, none⟩)) rfl (by kernel_rfl) (by kernel_rfl) (by kernel_rfl) (by kernel_rfl) (fun _ _ _ h => h) (by first | rfl | kernel_rfl) ?_ hS ?_
    · intro W
      go_simp
    refine L_takeB (fuel := 13) 10 [18] (.func (.func 82) #[] #[]) rfl (by kernel_rfl) (by kernel_rfl) (by kernel_rfl) (by kernel_rfl) (fun _ _ _ h => h) (by first | rfl | kernel_rfl) ?_ hS ?_
    · intro W hW
      have q1 := cell_later hW c1
      have q2 := cell_later hW c2
      have q3 := cell_later hW c3
      go_simp
    refine L_free (fuel := 12) 13 (.func (.func 102) #[] #[.pointer (some ⟨w.heap.size + 1, 0, none⟩)]) rfl (by kernel_rfl) (by kernel_rfl) (by kernel_rfl) (by kernel_rfl) (fun _ _ _ h => h) (by first | rfl | kernel_rfl) ?_ hS ?_
    · intro W
      go_simp
    refine L_free (fuel := 11) 14 (.pointer (some ⟨w.heap.size, 3, none⟩)) rfl (by kernel_rfl) (by kernel_rfl) (by kernel_rfl) (by kernel_rfl) (fun _ _ _ h => h) (by first | rfl | kernel_rfl) ?_ hS ?_
    · intro W
      go_simp
    refine L_takeB (fuel := 10) 15 [18] (.func (.func 83) #[] #[]) rfl (by kernel_rfl) (by kernel_rfl) (by kernel_rfl) (by kernel_rfl) (fun _ _ _ h => h) (by first | rfl | kernel_rfl) ?_ hS ?_
    · intro W hW
      have q1 := cell_later hW c1
      have q2 := cell_later hW c2
      have q3 := cell_later hW c3
      go_simp
    refine anyL_listed (listed' := litL false 0 false false false false) (by kernel_rfl) ?_
    refine lit_region (I := LitI (performBW p w) 117 (performBF w) (performBV w) (.func (.func 81) #[] #[]) (.func (.func 82) #[] #[]) (.func (.func 83) #[] #[]) (performBT p (.slice ao l.length c) w)) ?hS ?hr ?make ?call1 ?call2 ?call3 ?put0 ?put1 ?put2 ?put3 ?fin 8 false 0 false false false false _ _ (by omega) rfl ?start
    case hS => exact fun hI => hI.bel
    case hr => decide +kernel
    case start =>
      refine LitI.start hS ?_
      kernel_rfl
    case make =>
      intro c b0 b1 b2 b3 a W hI
      obtain ⟨x1, x2, x3, rfl, hN⟩ := hI.made
      refine wpOp_step rfl (fun K hK => ?_)
      go_simp
      exact hK _ _ hN
    case call1 =>
      intro m b0 b1 b2 b3 a W hI
      have hB := hI.bel
      obtain ⟨x0, rfl, hN⟩ := hI.call1
      refine wpOp_step rfl (fun K hK => ?_)
      go_simp
      refine (twoB_any _ _ _).mono ?_
      rintro e W' ⟨rfl, rfl⟩
      go_simp
      exact hK _ _ hN
    case call2 =>
      intro m b0 b1 b2 b3 a W hI
      have hB := hI.bel
      obtain ⟨x0, x1, rfl, hN⟩ := hI.call2
      refine wpOp_step rfl (fun K hK => ?_)
      go_simp
      refine (twoB_any _ _ _).mono ?_
      rintro e W' ⟨rfl, rfl⟩
      go_simp
      exact hK _ _ hN
    case call3 =>
      intro m b0 b1 b2 b3 a W hI
      have hB := hI.bel
      obtain ⟨x0, x1, x2, rfl, hN⟩ := hI.call3
      refine wpOp_step rfl (fun K hK => ?_)
      go_simp
      refine (twoB_any _ _ _).mono ?_
      rintro e W' ⟨rfl, rfl⟩
      go_simp
      exact hK _ _ hN
    case put0 =>
      intro c b1 b2 b3 a W hI
      obtain ⟨mb, es, ck, x1, x2, x3, g, rfl, hb, hm, hg, hN⟩ := hI.put0
      have hins := fun v => run_insert_new (P := Tryd.prog) (k := 0) Tryd.underlying109 Tryd.underlying3 hb hm hg v
      refine wpOp_step rfl (fun K hK => ?_)
      go_simp
      exact hK _ _ hN
    case put1 =>
      intro c b0 b2 b3 a W hc hI
      obtain ⟨mb, es, ck, x1, x2, x3, g, rfl, hb, hm, hg, hN⟩ := hI.put1 hc
      have hins := fun v => run_insert_new (P := Tryd.prog) (k := 1) Tryd.underlying109 Tryd.underlying3 hb hm hg v
      refine wpOp_step rfl (fun K hK => ?_)
      go_simp
      exact hK _ _ hN
    case put2 =>
      intro c b0 b1 b3 a W hc hI
      obtain ⟨mb, es, ck, x1, x2, x3, g, rfl, hb, hm, hg, hN⟩ := hI.put2 hc
      have hins := fun v => run_insert_new (P := Tryd.prog) (k := 2) Tryd.underlying109 Tryd.underlying3 hb hm hg v
      refine wpOp_step rfl (fun K hK => ?_)
      go_simp
      exact hK _ _ hN
    case put3 =>
      intro c b0 b1 b2 a W hc hI
      obtain ⟨mb, es, ck, x1, x2, x3, g, rfl, hb, hm, hg, hN⟩ := hI.put3 hc
      have hins := fun v => run_insert_new (P := Tryd.prog) (k := 3) Tryd.underlying109 Tryd.underlying3 hb hm hg v
      refine wpOp_step rfl (fun K hK => ?_)
      go_simp
      exact hK _ _ hN
    case fin =>
      intro a W hI
      have hB := hI.bel
      obtain ⟨mb, es, ck, d1, d2, d3, rfl, g1, g2, g3, g4, g5, g6⟩ := hI.done
      refine wpOp_step rfl (fun K hK => ?_)
      go_simp
      refine hK _ _ ?_
      clear hK K
      refine L_end (fuel := 0) 19 (by kernel_rfl) rfl (by kernel_rfl) ?_
      intro K hK
      go_simp
      refine hK _ _ ?_
      clear hK K
      refine L_done (by kernel_rfl) ?_ 0
      have HH : Hid (performBMap p w W mb es ck d1 d2 d3) := ⟨hB, g1, g2, g3, g4.1, g5.1, g6.1, g4.2, g5.2, g6.2⟩
      clear hI hB g1 g2 g3 g4 g5 g6
      go_wp2
      go_meet
      case rel => exact ⟨mb, es, ck, d1, d2, d3, rfl, HH.out⟩
  case rest =>
    obtain ⟨mb, es, ck, d1, d2, d3, rfl, hM⟩ := hcut
    have hnb := heap_alloc_new (w.alloc (.cells #[.func (.func 79) #[] #[.pointer (some ⟨p, 0, none⟩)], .func (.func 81) #[] #[], .func (.func 82) #[] #[], .func (.func 83) #[] #[]] 119)) (.cells #[.slice none 0 0] 133)
    rw [show (w.alloc (.cells #[.func (.func 79) #[] #[.pointer (some ⟨p, 0, none⟩)], .func (.func 81) #[] #[], .func (.func 82) #[] #[], .func (.func 83) #[] #[]] 119)).heap.size = w.heap.size + 1 from by simp] at hnb
    have hsb : w.heap.size + 1 < (performBW p w).heap.size := lt_of_block hnb
    have hvar : wc.heap[w.heap.size + 1]? = some (.cells #[.slice none 0 0] 133 (0, 0)) := (hM.bel.block _ hsb).trans hnb
    have hst0 : StkB wc wc (w.heap.size + 1) (.slice none 0 0) 0 [] := StkB.start hvar
    have hbw0 : Below w.heap.size w (performBW p w) := ((Below.refl w.heap.size w).alloc (Nat.le_refl _) _).alloc (by simp) _
    have hbw : Below w.heap.size w wc := hbw0.trans (hM.bel.mono (by omega))
    have hf0 := cell_later hM.bel c0
    have HM := Lib.hid hM
    have HST0 := Lib.hid hst0
    have HB0 := Lib.hid hbw
    have HF0 := Lib.hid hf0
    have HSB := Lib.hid hsb
    clear c0 c1 c2 c3 hnb hsb hvar hst0 hbw hbw0 hf0 hM hmm
    go_wp2_with fail
    go_loopw [28] (fun i wr => ∃ (k n : Nat) (st : List (Bool)) (sv : Value) (q : Int), k ≤ l.length ∧ i = .int .i64 k ∧ n ≤ k ∧ Hid (StkB wc wr (w.heap.size + 1) sv n st) ∧ Hid (rightGo n q (l.drop k) = true) ∧ Hid (evGo f opB [] l = evGo f opB st (l.drop k)) ∧ Hid (Below w.heap.size w wr)) (fun i _ => l.length - (intOf i).toNat)
    case atStart => exact ⟨0, 0, [], _, 0, Nat.zero_le _, rfl, Nat.le_refl _, HST0.out, HR.out, rfl, HB0.out⟩
    case round =>
      obtain ⟨k, n, st, sv, q, hk, rfl, hnk, HST, HG0, HP0, HB⟩ := hrel
      by_cases hlt : k < l.length
      · obtain ⟨b, off, rfl, h1, h2⟩ := HC.out k hlt
        have e1 := cell_later HB.out h1
        have e2 := cell_later HB.out h2
        have hdrop : l.drop k = l[k] :: l.drop (k + 1) := List.drop_eq_getElem_cons hlt
        obtain ⟨⟨kk, tt⟩, hx⟩ : ∃ s, s = l[k] := ⟨_, rfl⟩
        rw [← hx] at hdrop e1 e2
        simp only at e1 e2
        have hg2 := HG0.out
        have hp2 := HP0.out
        rw [hdrop] at hg2 hp2
        have ki : (k : Int) < (l.length : Int) := by omega
        have k0 : (0 : Int) ≤ (k : Int) := by omega
        clear hdrop hx h1 h2 HG0 HP0
        simp only [rightGo, evGo] at hg2 hp2
        by_cases hk0 : kk = 0
        · subst hk0
          rw [if_pos rfl] at hg2 hp2
          have hrt : rightTok tt = true := by
            cases h : rightTok tt with
            | true => rfl
            | false => rw [if_neg (by simp [h])] at hg2; exact hg2
          rw [if_pos hrt] at hg2
          have HG := Lib.hid hg2
          have HP := Lib.hid hp2
          clear hg2 hp2
          have HLK : Hid (∀ W : World, W.heap[mb]? = some (.map es ck) → (Instr.lookup 109 (.map (some mb)) (.int .i64 0) false).run Tryd.prog W = .ok (performBF w) W) := fun W hW => run_lookup_at Tryd.underlying109 Tryd.underlying3 hW HM.out.is (by simp [litG])
          have hbA : Below wr.heap.size wr (wr.alloc (.cells #[.int .i64 0, .string (bstr tt)] 55)) := (Below.refl _ _).alloc (Nat.le_refl _) _
          have HSA := Lib.hid (HST.out.below hbA)
          have HBA := Lib.hid (HB.out.trans (hbA.mono HB.out.size))
          have HMB : Hid ((wr.alloc (.cells #[.int .i64 0, .string (bstr tt)] 55)).heap[mb]? = some (.map es ck)) := by show _ = _; rw [HSA.out.keep mb (lt_of_block HM.out.map) (by have := HM.out.mbl; have := HSB.out; omega)]; exact HM.out.map
          have HCP := Lib.hid (pushB_any wc (wr.alloc (.cells #[.int .i64 0, .string (bstr tt)] 55)) (w.heap.size + 1) w.heap.size p sv n st tt (f tt) HSA.out (by omega) (by rw [HSA.out.cell_keep w.heap.size 0 (by have := HST0.out.lt; omega) (by omega)]; exact HF0.out) (fun W' hW' => HF.out tt W' hrt (HBA.out.trans (hW'.mono HBA.out.size))))
          clear hbA hrt
          go_wp2_with (first
            | (at_lookup; refine wpList_lookup_run rfl _ _ _ rfl (.map (some mb)) (.int .i64 0) (by rfl) (by rfl) _ (HLK.out _ HMB.out) ?_)
            | (go_at_call 104; refine HCP.out.mono ?_; rintro e w3 ⟨rfl, sv3, hst3, hbt3⟩; have HS3 := Lib.hid hst3; have HT3 := Lib.hid (HBA.out.trans (hbt3.mono (show w.heap.size ≤ w.heap.size + 1 by omega))); clear hst3 hbt3))
          go_roundw
          case rel => exact ⟨k + 1, n + 1, f tt :: st, sv3, q + 1, by omega, by go_num, by omega, HS3.out, by have := HG.out; rw [show ((n + 1 : Nat) : Int) = (n : Int) + 1 from by omega]; exact this, HP.out, HT3.out⟩
          case measure => simp [intOf]; omega
        · rw [if_neg hk0] at hg2 hp2
          by_cases hk3 : kk = 1 ∨ kk = 2 ∨ kk = 3
          · rw [if_pos hk3] at hg2
            by_cases hbad : tt ≠ [] ∨ (n : Int) < 2
            · rw [if_pos hbad] at hg2; simp at hg2
            · rw [if_neg hbad] at hg2
              have htt : tt = [] := Classical.byContradiction fun e => hbad (.inl e)
              have hn2 : ¬ (n : Int) < 2 := fun e => hbad (.inr e)
              subst htt
              have hsl := HST.out.len
              match st, hsl, HST, hp2 with
              | [], hsl, _, _ => simp at hsl; omega
              | [_], hsl, _, _ => simp at hsl; omega
              | y :: x :: s, hsl, HST, hp2 =>
                have HG := Lib.hid hg2
                have HP := Lib.hid hp2
                clear hg2 hp2 hbad hsl
                rcases hk3 with rfl | rfl | rfl
                · clear hk0
                  have HLK : Hid (∀ W : World, W.heap[mb]? = some (.map es ck) → (Instr.lookup 109 (.map (some mb)) (.int .i64 1) false).run Tryd.prog W = .ok (performBV w d1) W) := fun W hW => run_lookup_at Tryd.underlying109 Tryd.underlying3 hW HM.out.is (by simp [litG])
                  have hbA : Below wr.heap.size wr (wr.alloc (.cells #[.int .i64 1, .string (bstr [])] 55)) := (Below.refl _ _).alloc (Nat.le_refl _) _
                  have HSA := Lib.hid (HST.out.below hbA)
                  have HBA := Lib.hid (HB.out.trans (hbA.mono HB.out.size))
                  have HMB : Hid ((wr.alloc (.cells #[.int .i64 1, .string (bstr [])] 55)).heap[mb]? = some (.map es ck)) := by show _ = _; rw [HSA.out.keep mb (lt_of_block HM.out.map) (by have := HM.out.mbl; have := HSB.out; omega)]; exact HM.out.map
                  have HCB := Lib.hid (comb1B_any wc (wr.alloc (.cells #[.int .i64 1, .string (bstr [])] 55)) (w.heap.size + 1) d1 sv n x y s HSA.out (by omega) (by rw [HSA.out.cell_keep d1 0 (lt_of_block HM.out.f1) (by have := HM.out.l1; have := HSB.out; omega), cell_of_row _ _ _ _ _ _ HM.out.f1]; rfl))
                  clear hbA
                  go_wp2_with (first
                    | (at_lookup; refine wpList_lookup_run rfl _ _ _ rfl (.map (some mb)) (.int .i64 1) (by rfl) (by rfl) _ (HLK.out _ HMB.out) ?_)
                    | (go_at_call 103; refine HCB.out.mono ?_; rintro e w3 ⟨rfl, sv3, hst3, hbt3⟩; have HS3 := Lib.hid hst3; have HT3 := Lib.hid (HBA.out.trans (hbt3.mono (show w.heap.size ≤ w.heap.size + 1 by omega))); clear hst3 hbt3))
                  go_roundw
                  case rel => exact ⟨k + 1, n - 2 + 1, opB 1 x y :: s, sv3, q, by omega, by go_num, by omega, HS3.out, by have := HG.out; rw [show ((n - 2 + 1 : Nat) : Int) = (n : Int) - 1 from by omega]; exact this, HP.out, HT3.out⟩
                  case measure => simp [intOf]; omega
                · clear hk0
                  have HLK : Hid (∀ W : World, W.heap[mb]? = some (.map es ck) → (Instr.lookup 109 (.map (some mb)) (.int .i64 2) false).run Tryd.prog W = .ok (performBV w d2) W) := fun W hW => run_lookup_at Tryd.underlying109 Tryd.underlying3 hW HM.out.is (by simp [litG])
                  have hbA : Below wr.heap.size wr (wr.alloc (.cells #[.int .i64 2, .string (bstr [])] 55)) := (Below.refl _ _).alloc (Nat.le_refl _) _
                  have HSA := Lib.hid (HST.out.below hbA)
                  have HBA := Lib.hid (HB.out.trans (hbA.mono HB.out.size))
                  have HMB : Hid ((wr.alloc (.cells #[.int .i64 2, .string (bstr [])] 55)).heap[mb]? = some (.map es ck)) := by show _ = _; rw [HSA.out.keep mb (lt_of_block HM.out.map) (by have := HM.out.mbl; have := HSB.out; omega)]; exact HM.out.map
                  have HCB := Lib.hid (comb2B_any wc (wr.alloc (.cells #[.int .i64 2, .string (bstr [])] 55)) (w.heap.size + 1) d2 sv n x y s HSA.out (by omega) (by rw [HSA.out.cell_keep d2 0 (lt_of_block HM.out.f2) (by have := HM.out.l2; have := HSB.out; omega), cell_of_row _ _ _ _ _ _ HM.out.f2]; rfl))
                  clear hbA
                  go_wp2_with (first
                    | (at_lookup; refine wpList_lookup_run rfl _ _ _ rfl (.map (some mb)) (.int .i64 2) (by rfl) (by rfl) _ (HLK.out _ HMB.out) ?_)
                    | (go_at_call 103; refine HCB.out.mono ?_; rintro e w3 ⟨rfl, sv3, hst3, hbt3⟩; have HS3 := Lib.hid hst3; have HT3 := Lib.hid (HBA.out.trans (hbt3.mono (show w.heap.size ≤ w.heap.size + 1 by omega))); clear hst3 hbt3))
                  go_roundw
                  case rel => exact ⟨k + 1, n - 2 + 1, opB 2 x y :: s, sv3, q, by omega, by go_num, by omega, HS3.out, by have := HG.out; rw [show ((n - 2 + 1 : Nat) : Int) = (n : Int) - 1 from by omega]; exact this, HP.out, HT3.out⟩
                  case measure => simp [intOf]; omega
                · clear hk0
                  have HLK : Hid (∀ W : World, W.heap[mb]? = some (.map es ck) → (Instr.lookup 109 (.map (some mb)) (.int .i64 3) false).run Tryd.prog W = .ok (performBV w d3) W) := fun W hW => run_lookup_at Tryd.underlying109 Tryd.underlying3 hW HM.out.is (by simp [litG])
                  have hbA : Below wr.heap.size wr (wr.alloc (.cells #[.int .i64 3, .string (bstr [])] 55)) := (Below.refl _ _).alloc (Nat.le_refl _) _
                  have HSA := Lib.hid (HST.out.below hbA)
                  have HBA := Lib.hid (HB.out.trans (hbA.mono HB.out.size))
                  have HMB : Hid ((wr.alloc (.cells #[.int .i64 3, .string (bstr [])] 55)).heap[mb]? = some (.map es ck)) := by show _ = _; rw [HSA.out.keep mb (lt_of_block HM.out.map) (by have := HM.out.mbl; have := HSB.out; omega)]; exact HM.out.map
                  have HCB := Lib.hid (comb3B_any wc (wr.alloc (.cells #[.int .i64 3, .string (bstr [])] 55)) (w.heap.size + 1) d3 sv n x y s HSA.out (by omega) (by rw [HSA.out.cell_keep d3 0 (lt_of_block HM.out.f3) (by have := HM.out.l3; have := HSB.out; omega), cell_of_row _ _ _ _ _ _ HM.out.f3]; rfl))
                  clear hbA
                  go_wp2_with (first
                    | (at_lookup; refine wpList_lookup_run rfl _ _ _ rfl (.map (some mb)) (.int .i64 3) (by rfl) (by rfl) _ (HLK.out _ HMB.out) ?_)
                    | (go_at_call 103; refine HCB.out.mono ?_; rintro e w3 ⟨rfl, sv3, hst3, hbt3⟩; have HS3 := Lib.hid hst3; have HT3 := Lib.hid (HBA.out.trans (hbt3.mono (show w.heap.size ≤ w.heap.size + 1 by omega))); clear hst3 hbt3))
                  go_roundw
                  case rel => exact ⟨k + 1, n - 2 + 1, opB 3 x y :: s, sv3, q, by omega, by go_num, by omega, HS3.out, by have := HG.out; rw [show ((n - 2 + 1 : Nat) : Int) = (n : Int) - 1 from by omega]; exact this, HP.out, HT3.out⟩
                  case measure => simp [intOf]; omega
          · rw [if_neg hk3] at hg2; simp at hg2
      · have hke : k = l.length := by omega
        subst hke
        have hg2 := HG0.out
        have hp2 := HP0.out
        rw [List.drop_length] at hg2 hp2
        simp only [rightGo, evGo, Bool.and_eq_true, decide_eq_true_eq] at hg2 hp2
        have hn1 : n = 1 := by omega
        subst hn1
        have hsl := HST.out.len
        match st, hsl, HST, hp2 with
        | [], hsl, _, _ => simp at hsl
        | _ :: _ :: _, hsl, _, _ => simp at hsl
        | [x], hsl, HST, hp2 =>
          have HE : Hid (evL f opB false l = x) := by show _ = _; unfold evL; rw [hp2]; rfl
          obtain ⟨g, cap, rfl⟩ := own_form HST.out.own (by omega)
          have e0 : wr.cell? ⟨w.heap.size + 1, 0, none⟩ = some (.slice (some ⟨g, 0, none⟩) 1 cap) := by rw [cell_of_row _ _ _ _ _ _ HST.out.var]; rfl
          have e1 : wr.cell? ⟨g, 0, none⟩ = some (.bool x) := by
            have := HST.out.own.cellAt 0 (by omega)
            exact this
          clear hg2 hp2 hsl HG0 HP0
          go_wp2
          go_ret
          exact ⟨by rw [HE.out]; rfl, HB.out⟩
end Go.Proofs.YteegbjjpjdlcmaaDoor
