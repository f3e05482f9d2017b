/- token.rising at strings and at token.At: the walks. -/
import Derived.Test.YtjbmihgfneamlaaDoorRise
set_option linter.unusedVariables false
namespace Go.Proofs.YtjbmihgfneamlaaDoor
open Go.RowKit Go.Sort

theorem own_form' {w : World} {base : Nat} {e : TypeId} {size : Nat} {v : Value} {n : Nat} {xs : List Value} (h : w.ownsRow base e size v n xs) (hv : v ≠ .slice none 0 0) : ∃ g cap, v = .slice (some ⟨g, 0, none⟩) n cap := by
  rcases h.2 with ⟨h0, _⟩ | ⟨g, cap, cur, hv', _⟩
  · exact absurd h0 hv
  · exact ⟨g, cap, hv'⟩
theorem infoAt : (Tryd.prog.info? 50).map (fun i => (i.zero, i.size, i.bytes)) = some (some (.agg #[.string ByteArray.empty, .int .i64 0]), 2, 24) := by kernel_rfl


theorem compS_n (bx g cap base n : Nat) (zs : List (List UInt8)) (w : World) (hn : zs.length = n) (hbx : w.cell? ⟨bx, 0, none⟩ = some (.func (.func 48) #[] #[])) (hbb : bx < base)
    (hown : w.ownsRow base 9 1 (.slice (some ⟨g, 0, none⟩) n cap) n (scells zs)) :
    Calls Tryd.prog 70 #[.slice (some ⟨g, 0, none⟩) n cap, .func (.func 71) #[] #[.pointer (some ⟨bx, 0, none⟩)]] w (CompPost base zs w) := by
  subst hn
  exact compS_any bx g cap base zs w hbx hbb hown
theorem compS_none (ao : Option Addr) (c : Nat) (fv : Value) (w : World) :
    Calls Tryd.prog 70 #[.slice ao 0 c, fv] w fun e w' => e = .returned (.slice ao 0 c) ∧ w = w' := by
  go_enter Tryd.func70, Tryd.ntmps70
  go_wp2
  go_ret
  exact ⟨rfl, rfl⟩

set_option maxRecDepth 100000 in
set_option maxHeartbeats 4000000 in
theorem risingS_any (v : Value) (n base : Nat) (l : List (List UInt8)) (w : World) (hln : l.length = n) (hn : n ≤ 100000) (hown : w.ownsRow base 9 1 v n (scells l)) :
    Calls Tryd.prog 47 #[v, .func (.func 48) #[] #[]] w (Gives w 9 1 (rise ltStr l).length (scells (rise ltStr l))) := by
  obtain ⟨j0, hj, hy0, hy1, hy2⟩ := info_parts infoStr
  have hbA : Below w.heap.size w (w.alloc (.cells #[.func (.func 48) #[] #[]] 73)) := (Below.refl _ _).alloc (Nat.le_refl _) _
  have hbx : (w.alloc (.cells #[.func (.func 48) #[] #[]] 73)).cell? ⟨w.heap.size, 0, none⟩ = some (.func (.func 48) #[] #[]) := by
    rw [cell_of_row _ _ _ _ _ _ (heap_alloc_new w _)]; rfl
  have hsz1 : (w.alloc (.cells #[.func (.func 48) #[] #[]] 73)).heap.size = w.heap.size + 1 := by simp
  by_cases hv : v = .slice none 0 0
  · subst hv
    have hl0 : l = [] := by
      rcases hown.2 with ⟨_, h0⟩ | ⟨g, cap, cur, hv', _⟩
      · exact List.length_eq_zero_iff.1 (hln.trans h0)
      · cases hv'
    subst hl0
    have hr : Hid (rise ltStr [] = []) := List.eq_nil_iff_forall_not_mem.2 fun x hx => by rw [mem_rise] at hx; cases hx
    have h1 := Lib.hid (fun W => Tryd.slices_Clone_nil 0 0 W)
    have h2 := Lib.hid (fun fv W => Tryd.slices_SortFunc_none (α := Nat) none 0 fv W)
    have h3 := Lib.hid (fun fv W => compS_none none 0 fv W)
    have HB := Lib.hid hbA
    clear hbA hsz1 hown
    go_enter Tryd.func47, Tryd.ntmps47
    go_wp2_with (first
      | (go_at_call 68; refine (h1.out _).mono ?_; rintro e w2 ⟨rfl, rfl⟩)
      | (go_at_call 69; refine (h2.out _ _).mono ?_; rintro e w2 ⟨rfl, rfl⟩)
      | (go_at_call 70; refine (h3.out _ _).mono ?_; rintro e w2 ⟨rfl, rfl⟩))
    go_ret
    rw [hr.out]
    exact ⟨_, rfl, World.ownsRow_nil _ _ _ _, HB.out⟩
  · obtain ⟨g0, c0, rfl⟩ := own_form' hown hv
    have hown1 := own_below' (own_mono hown (Nat.zero_le _)) (hbA.mono (Nat.le_refl _))
    obtain ⟨w1, hw1⟩ : ∃ w1, w1 = (w.alloc (.cells #[.func (.func 48) #[] #[]] 73)) := ⟨_, rfl⟩
    rw [← hw1] at hbA hbx hsz1 hown1
    have hcl := Tryd.slices_Clone j0 _ 1 16 hj hy0 hy1 hy2 rfl (by omega) Tryd.sizeOf9 g0 0 n c0 (scells l) w1 hown1.1 (by unfold maxLen; omega) (by omega) (fun j u hu => by
      have hjl : j < n * 1 := by rw [← hown1.1]; exact (List.getElem?_eq_some_iff.1 hu).1
      rw [Nat.zero_add, hown1.cellAt j hjl, hu]) (scells_one l)
    have HCL := Lib.hid hcl
    have HRS : Hid (rise ltStr l = Lib.compact (l.mergeSort fun x y => !ltStr y x)) := rfl
    have hml : (l.mergeSort fun x y => !ltStr y x).length = n := by rw [List.length_mergeSort]; exact hln
    have HSO := Lib.hid (fun (g cap : Nat) (W : World) (h : W.ownsRow w1.heap.size 9 1 (.slice (some ⟨g, 0, none⟩) n cap) n (scells l)) => sortS_any g cap n w1.heap.size l W hln hn h)
    generalize (l.mergeSort fun x y => !ltStr y x) = zs at *
    have HCO := Lib.hid (fun (g cap : Nat) (W : World) (hb : W.cell? ⟨w.heap.size, 0, none⟩ = some (.func (.func 48) #[] #[])) (h : W.ownsRow w1.heap.size 9 1 (.slice (some ⟨g, 0, none⟩) n cap) n (scells zs)) => compS_n w.heap.size g cap w1.heap.size n zs W hml hb (by omega) h)
    have hlt1 : w.heap.size < w1.heap.size := by omega
    have HB := Lib.hid hbA
    have HX := Lib.hid hbx
    have HCL2 : Hid (Calls Tryd.prog 68 #[.slice (some ⟨g0, 0, none⟩) n c0] (w.alloc (.cells #[.func (.func 48) #[] #[]] 73)) fun e w' => ∃ v', e = .returned v' ∧ w'.ownsRow w1.heap.size 9 1 v' n (scells l) ∧ v' ≠ .slice none 0 0 ∧ Below w1.heap.size w1 w') := by
      show Calls _ _ _ _ _
      rw [← hw1]; exact hcl
    clear hcl hv hown hown1 hbA hml HCL hw1 hbx hsz1
    go_enter Tryd.func47, Tryd.ntmps47
    go_wp2_with (first
      | (go_at_call 68; refine HCL2.out.mono ?_; rintro e w2 ⟨v2, rfl, hown2, hne2, hb2⟩; obtain ⟨g, cap, rfl⟩ := own_form' hown2 hne2; have hbx2 := cell_later hb2 HX.out; have HS2 := Lib.hid (HSO.out g cap w2 hown2); clear hown2 hne2)
      | (go_at_call 69; refine HS2.out.mono ?_; rintro e w3 ⟨rfl, hown3, hb3⟩; have HC3 := Lib.hid (HCO.out g cap w3 ((hb3.cell hlt1).trans hbx2) hown3); clear hown3)
      | (go_at_call 70; refine HC3.out.mono ?_; rintro e w4 ⟨v4, rfl, hown4, hb4⟩))
    go_ret
    rw [HRS.out]
    have hB := (hb2.trans hb3).trans hb4
    exact ⟨_, rfl, own_mono hown4 (Nat.le_of_lt hlt1), HB.out.trans (hB.mono (Nat.le_of_lt hlt1))⟩

theorem compA_n (bx g cap base n : Nat) (zs : List (List UInt8 × Int)) (w : World) (hn : zs.length = n) (hbx : w.cell? ⟨bx, 0, none⟩ = some (.func (.func 51) #[] #[])) (hbb : bx < base)
    (hown : w.ownsRow base 50 2 (.slice (some ⟨g, 0, none⟩) n cap) n (acells zs)) :
    Calls Tryd.prog 76 #[.slice (some ⟨g, 0, none⟩) n cap, .func (.func 77) #[] #[.pointer (some ⟨bx, 0, none⟩)]] w (CompPostA base zs w) := by
  subst hn
  exact compA_any bx g cap base zs w hbx hbb hown
theorem compA_none (ao : Option Addr) (c : Nat) (fv : Value) (w : World) :
    Calls Tryd.prog 76 #[.slice ao 0 c, fv] w fun e w' => e = .returned (.slice ao 0 c) ∧ w = w' := by
  go_enter Tryd.func76, Tryd.ntmps76
  go_wp2
  go_ret
  exact ⟨rfl, rfl⟩

set_option maxRecDepth 100000 in
set_option maxHeartbeats 4000000 in
theorem risingA_any (v : Value) (n base : Nat) (l : List (List UInt8 × Int)) (w : World) (hln : l.length = n) (hn : n ≤ 100000) (hown : w.ownsRow base 50 2 v n (acells l)) :
    Calls Tryd.prog 50 #[v, .func (.func 51) #[] #[]] w (Gives w 50 2 (rise ltAt l).length (acells (rise ltAt l))) := by
  obtain ⟨j0, hj, hy0, hy1, hy2⟩ := info_parts infoAt
  have hbA : Below w.heap.size w (w.alloc (.cells #[.func (.func 51) #[] #[]] 78)) := (Below.refl _ _).alloc (Nat.le_refl _) _
  have hbx : (w.alloc (.cells #[.func (.func 51) #[] #[]] 78)).cell? ⟨w.heap.size, 0, none⟩ = some (.func (.func 51) #[] #[]) := by
    rw [cell_of_row _ _ _ _ _ _ (heap_alloc_new w _)]; rfl
  have hsz1 : (w.alloc (.cells #[.func (.func 51) #[] #[]] 78)).heap.size = w.heap.size + 1 := by simp
  by_cases hv : v = .slice none 0 0
  · subst hv
    have hl0 : l = [] := by
      rcases hown.2 with ⟨_, h0⟩ | ⟨g, cap, cur, hv', _⟩
      · exact List.length_eq_zero_iff.1 (hln.trans h0)
      · cases hv'
    subst hl0
    have hr : Hid (rise ltAt [] = []) := List.eq_nil_iff_forall_not_mem.2 fun x hx => by rw [mem_rise] at hx; cases hx
    have h1 := Lib.hid (fun W => Tryd.slices_CloneAt_nil 0 0 W)
    have h2 := Lib.hid (fun fv W => Tryd.slices_SortAt_none (α := Nat) none 0 fv W)
    have h3 := Lib.hid (fun fv W => compA_none none 0 fv W)
    have HB := Lib.hid hbA
    clear hbA hsz1 hown
    go_enter Tryd.func50, Tryd.ntmps50
    go_wp2_with (first
      | (go_at_call 74; refine (h1.out _).mono ?_; rintro e w2 ⟨rfl, rfl⟩)
      | (go_at_call 75; refine (h2.out _ _).mono ?_; rintro e w2 ⟨rfl, rfl⟩)
      | (go_at_call 76; refine (h3.out _ _).mono ?_; rintro e w2 ⟨rfl, rfl⟩))
    go_ret
    rw [hr.out]
    exact ⟨_, rfl, World.ownsRow_nil _ _ _ _, HB.out⟩
  · obtain ⟨g0, c0, rfl⟩ := own_form' hown hv
    have hown1 := own_below' (own_mono hown (Nat.zero_le _)) (hbA.mono (Nat.le_refl _))
    obtain ⟨w1, hw1⟩ : ∃ w1, w1 = (w.alloc (.cells #[.func (.func 51) #[] #[]] 78)) := ⟨_, rfl⟩
    rw [← hw1] at hbA hbx hsz1 hown1
    have hcl := Tryd.slices_CloneAt j0 _ 2 24 hj hy0 hy1 hy2 rfl (by omega) Tryd.sizeOf50 g0 0 n c0 (acells l) w1 hown1.1 (by unfold maxLen; omega) (by omega) (fun j u hu => by
      have hjl : j < n * 2 := by rw [← hown1.1]; exact (List.getElem?_eq_some_iff.1 hu).1
      rw [Nat.zero_add, hown1.cellAt j hjl, hu]) (acells_one l)
    have HCL := Lib.hid hcl
    have HRS : Hid (rise ltAt l = Lib.compact (l.mergeSort fun x y => !ltAt y x)) := rfl
    have hml : (l.mergeSort fun x y => !ltAt y x).length = n := by rw [List.length_mergeSort]; exact hln
    have HSO := Lib.hid (fun (g cap : Nat) (W : World) (h : W.ownsRow w1.heap.size 50 2 (.slice (some ⟨g, 0, none⟩) n cap) n (acells l)) => sortA_any g cap n w1.heap.size l W hln hn h)
    generalize (l.mergeSort fun x y => !ltAt y x) = zs at *
    have HCO := Lib.hid (fun (g cap : Nat) (W : World) (hb : W.cell? ⟨w.heap.size, 0, none⟩ = some (.func (.func 51) #[] #[])) (h : W.ownsRow w1.heap.size 50 2 (.slice (some ⟨g, 0, none⟩) n cap) n (acells zs)) => compA_n w.heap.size g cap w1.heap.size n zs W hml hb (by omega) h)
    have hlt1 : w.heap.size < w1.heap.size := by omega
    have HB := Lib.hid hbA
    have HX := Lib.hid hbx
    have HCL2 : Hid (Calls Tryd.prog 74 #[.slice (some ⟨g0, 0, none⟩) n c0] (w.alloc (.cells #[.func (.func 51) #[] #[]] 78)) fun e w' => ∃ v', e = .returned v' ∧ w'.ownsRow w1.heap.size 50 2 v' n (acells l) ∧ v' ≠ .slice none 0 0 ∧ Below w1.heap.size w1 w') := by
      show Calls _ _ _ _ _
      rw [← hw1]; exact hcl
    clear hcl hv hown hown1 hbA hml HCL hw1 hbx hsz1
    go_enter Tryd.func50, Tryd.ntmps50
    go_wp2_with (first
      | (go_at_call 74; refine HCL2.out.mono ?_; rintro e w2 ⟨v2, rfl, hown2, hne2, hb2⟩; obtain ⟨g, cap, rfl⟩ := own_form' hown2 hne2; have hbx2 := cell_later hb2 HX.out; have HS2 := Lib.hid (HSO.out g cap w2 hown2); clear hown2 hne2)
      | (go_at_call 75; refine HS2.out.mono ?_; rintro e w3 ⟨rfl, hown3, hb3⟩; have HC3 := Lib.hid (HCO.out g cap w3 ((hb3.cell hlt1).trans hbx2) hown3); clear hown3)
      | (go_at_call 76; refine HC3.out.mono ?_; rintro e w4 ⟨v4, rfl, hown4, hb4⟩))
    go_ret
    rw [HRS.out]
    have hB := (hb2.trans hb3).trans hb4
    exact ⟨_, rfl, own_mono hown4 (Nat.le_of_lt hlt1), HB.out.trans (hB.mono (Nat.le_of_lt hlt1))⟩
end Go.Proofs.YtjbmihgfneamlaaDoor
