/- rubricklaw05.knows: the document's examples. -/
import Derived.Test.YtjbmihgfneamlaaDoorTokPos
import Derived.Lib.SlBytesConst
set_option linter.unusedVariables false
namespace Go.Proofs.YtjbmihgfneamlaaDoor
open Go.RowKit Go.Sort

def kb : List UInt8 := [72, 97, 121, 44, 32, 104, 97, 121, 45, 87, 65, 73, 78, 32, 55]
def kt : List (List UInt8) := [[104, 97, 121], [104, 97, 121], [119, 97, 105, 110], [55]]
def ks : List (List UInt8) := [[55], [104, 97, 121], [119, 97, 105, 110]]
theorem kb_terms : terms kb = kt := by decide +kernel
theorem kt_set : setOf kt = ks := by
  refine (setOf_unique (l := kt) (r := ks) ?_ ?_).symm
  · unfold Rises; decide +kernel
  · intro t
    simp only [kt, ks, List.mem_cons, List.not_mem_nil, or_false]
    constructor
    · rintro (h | h | h) <;> simp [h]
    · rintro (h | h | h | h) <;> simp [h]
theorem kt_places : (placesFrom 0 [104, 97, 121] kt).length = 2 := by decide +kernel
theorem kt_pos : (positions kt).length = 4 := by
  rw [← positions_flat, kt_set]
  decide +kernel
theorem kr_yes : rightTok [119, 97, 105, 110] = true := by decide +kernel
theorem kr_no : rightTok [87, 97, 105, 110] = false := by decide +kernel

/-- a literal of bytes, marked. -/
theorem rd_lit (w : World) (l : List UInt8) (cs : Array Value) (n : Nat) (fr : Nat × Nat) (hl : l.length = n) (hc : cs.toList = bcells l) (hn : n ≤ maxLen) (h0 : 0 < n) : Rd (w.alloc (.cells cs 5 fr)) (.slice (some ⟨w.heap.size, 0, none⟩) n n) n 1 (bcells l) := by
  refine ⟨by rw [bcells_len]; omega, hn, .inr ⟨w.heap.size, 0, n, rfl, h0, Nat.le_refl _, hn, fun i u hu => ?_⟩⟩
  rw [show 0 + i = i from by omega, cell_of_row _ w.heap.size i _ _ fr (heap_alloc_new w _), ← Array.getElem?_toList, hc]
  exact hu

theorem kcall1 (v : Value) (W : World) (ht : Tabs W) (h : Rd W v 15 1 (bcells kb)) : Calls Tryd.prog 24 #[v] W (Gives W 9 1 4 (scells kt)) := by
  have := terms_any v kb W ht h (by decide)
  rw [kb_terms] at this
  exact this
theorem kcall2 (v : Value) (W : World) (ht : Tabs W) (h : Rd W v 15 1 (bcells kb)) : Calls Tryd.prog 26 #[v] W (Gives W 9 1 3 (scells ks)) := by
  have := tset_any v kb W ht h (by decide)
  rw [kb_terms, kt_set] at this
  exact this
def LenIs (n : Nat) (w : World) (e : Ending) (w' : World) : Prop := ∃ ao c, e = .returned (.slice ao n c) ∧ Below w.heap.size w w'
theorem kcall3 (v : Value) (W : World) (ht : Tabs W) (h : Rd W v 15 1 (bcells kb)) : Calls Tryd.prog 28 #[v, .string { data := #[104, 97, 121] }] W (LenIs 2 W) := by
  have := tplaces_any v kb [104, 97, 121] W ht h (by decide)
  rw [kb_terms, kt_places] at this
  refine this.mono ?_
  rintro e w' ⟨v', rfl, hown, hb⟩
  obtain ⟨a, c, rfl⟩ := own_shape hown
  exact ⟨_, _, rfl, hb⟩
theorem kcall4 (v : Value) (W : World) (ht : Tabs W) (h : Rd W v 15 1 (bcells kb)) : Calls Tryd.prog 30 #[v] W (LenIs 4 W) := by
  have := tpos_any v kb W ht h (by decide)
  rw [kb_terms, kt_pos] at this
  refine this.mono ?_
  rintro e w' ⟨v', rfl, hown, hb⟩
  obtain ⟨a, c, rfl⟩ := own_shape hown
  exact ⟨_, _, rfl, hb⟩
theorem kcall5 (W : World) (ht : Tabs W) : Calls Tryd.prog 32 #[.string { data := #[119, 97, 105, 110] }] W fun e w' => e = .returned (.bool true) ∧ Below W.heap.size W w' := by
  have := tokright_any [119, 97, 105, 110] W ht (by decide)
  rw [kr_yes] at this
  exact this
theorem kcall6 (W : World) (ht : Tabs W) : Calls Tryd.prog 32 #[.string { data := #[87, 97, 105, 110] }] W fun e w' => e = .returned (.bool false) ∧ Below W.heap.size W w' := by
  have := tokright_any [87, 97, 105, 110] W ht (by decide)
  rw [kr_no] at this
  exact this
theorem ksame1 (v : Value) (B : Nat) (W : World) (h : W.ownsRow B 9 1 v 4 (scells kt)) : Calls Tryd.prog 23 #[v, .slice (some ⟨W.heap.size, 0, none⟩) 4 4] (W.alloc (.cells #[.string { data := #[104, 97, 121] }, .string { data := #[104, 97, 121] }, .string { data := #[119, 97, 105, 110] }, .string { data := #[55] }] 9)) fun e w' => e = .returned (.bool true) ∧ Below W.heap.size W w' := by
  have hb : Below W.heap.size W (W.alloc (.cells #[.string { data := #[104, 97, 121] }, .string { data := #[104, 97, 121] }, .string { data := #[119, 97, 105, 110] }, .string { data := #[55] }] 9)) := (Below.refl _ _).alloc (Nat.le_refl _) _
  have hr := rd_new W #[.string { data := #[104, 97, 121] }, .string { data := #[104, 97, 121] }, .string { data := #[119, 97, 105, 110] }, .string { data := #[55] }] 9 1 4 rfl (by decide) (by decide)
  have := same02_any v _ kt kt _ ((Rd.of_own h).below hb) hr
  simp only [beq_self_eq_true] at this
  exact this.mono fun e w' ⟨h1, h2⟩ => ⟨h1, hb.trans (h2.mono hb.size)⟩
theorem ksame2 (v : Value) (B : Nat) (W : World) (h : W.ownsRow B 9 1 v 3 (scells ks)) : Calls Tryd.prog 23 #[v, .slice (some ⟨W.heap.size, 0, none⟩) 3 3] (W.alloc (.cells #[.string { data := #[55] }, .string { data := #[104, 97, 121] }, .string { data := #[119, 97, 105, 110] }] 9)) fun e w' => e = .returned (.bool true) ∧ Below W.heap.size W w' := by
  have hb : Below W.heap.size W (W.alloc (.cells #[.string { data := #[55] }, .string { data := #[104, 97, 121] }, .string { data := #[119, 97, 105, 110] }] 9)) := (Below.refl _ _).alloc (Nat.le_refl _) _
  have hr := rd_new W #[.string { data := #[55] }, .string { data := #[104, 97, 121] }, .string { data := #[119, 97, 105, 110] }] 9 1 3 rfl (by decide) (by decide)
  have := same02_any v _ ks ks _ ((Rd.of_own h).below hb) hr
  simp only [beq_self_eq_true] at this
  exact this.mono fun e w' ⟨h1, h2⟩ => ⟨h1, hb.trans (h2.mono hb.size)⟩

set_option maxRecDepth 100000 in
set_option maxHeartbeats 4000000 in
theorem knows05_any (w : World) (ht : Tabs w) : Calls Tryd.prog 22 #[] w fun e w' => e = .returned (.bool true) ∧ Below w.heap.size w w' := by
  have hcv : ∀ W : World, Sem.run Tryd.prog (convert 30 30 (.slice (some ⟨W.heap.size, 0, none⟩) 15 15)) (W.alloc (.cells #[.int .u8 72, .int .u8 97, .int .u8 121, .int .u8 44, .int .u8 32, .int .u8 104, .int .u8 97, .int .u8 121, .int .u8 45, .int .u8 87, .int .u8 65, .int .u8 73, .int .u8 78, .int .u8 32, .int .u8 55] 5)) = .ok (.slice (some ⟨W.heap.size, 0, none⟩) 15 15) (W.alloc (.cells #[.int .u8 72, .int .u8 97, .int .u8 121, .int .u8 44, .int .u8 32, .int .u8 104, .int .u8 97, .int .u8 121, .int .u8 45, .int .u8 87, .int .u8 65, .int .u8 73, .int .u8 78, .int .u8 32, .int .u8 55] 5 (15, 15 + 1))) := fun W => Lib.run_convert_bytes_const W 30 5 _ 15 15 Tryd.underlying30 Tryd.underlying5
  have hb0 : Below w.heap.size w (w.alloc (.cells #[.int .u8 72, .int .u8 97, .int .u8 121, .int .u8 44, .int .u8 32, .int .u8 104, .int .u8 97, .int .u8 121, .int .u8 45, .int .u8 87, .int .u8 65, .int .u8 73, .int .u8 78, .int .u8 32, .int .u8 55] 5 (15, 15 + 1))) := (Below.refl _ _).alloc (Nat.le_refl _) _
  have hr0 := rd_lit w kb #[.int .u8 72, .int .u8 97, .int .u8 121, .int .u8 44, .int .u8 32, .int .u8 104, .int .u8 97, .int .u8 121, .int .u8 45, .int .u8 87, .int .u8 65, .int .u8 73, .int .u8 78, .int .u8 32, .int .u8 55] 15 (15, 15 + 1) rfl rfl (by decide) (by decide)
  have HT := Lib.hid (ht.below hb0)
  have HB := Lib.hid hb0
  have HR := Lib.hid hr0
  clear ht hb0 hr0
  go_enter Tryd.func22, Tryd.ntmps22
  have B0 := HB.out
  have T0 := HT
  have R0 := HR
  go_wp2_with (first
    | (go_at_call 30; refine (kcall4 _ w7 T7.out R7.out).mono ?_; rintro e w8 ⟨a8, c8, rfl, hb8⟩; have B8 := B7.trans (hb8.mono B7.size); have T8 := Lib.hid (T7.out.below hb8); have R8 := Lib.hid (R7.out.below hb8))
    | (go_at_call 32; refine (kcall6 w6 T6.out).mono ?_; rintro e w7 ⟨rfl, hb7⟩; have B7 := B6.trans (hb7.mono B6.size); have T7 := Lib.hid (T6.out.below hb7); have R7 := Lib.hid (R6.out.below hb7))
    | (go_at_call 32; refine (kcall5 w5 T5.out).mono ?_; rintro e w6 ⟨rfl, hb6⟩; have B6 := B5.trans (hb6.mono B5.size); have T6 := Lib.hid (T5.out.below hb6); have R6 := Lib.hid (R5.out.below hb6))
    | (go_at_call 28; refine (kcall3 _ w4 T4.out R4.out).mono ?_; rintro e w5 ⟨a5, c5, rfl, hb5⟩; have B5 := B4.trans (hb5.mono B4.size); have T5 := Lib.hid (T4.out.below hb5); have R5 := Lib.hid (R4.out.below hb5))
    | (go_at_call 23; refine (S3.out).mono ?_; rintro e w4 ⟨rfl, hb4⟩; have B4 := B3.trans (hb4.mono B3.size); have T4 := Lib.hid (T3.out.below hb4); have R4 := Lib.hid (R3.out.below hb4))
    | (go_at_call 26; refine (kcall2 _ w2 T2.out R2.out).mono ?_; rintro e w3 ⟨v3, rfl, hown3, hb3⟩; have B3 := B2.trans (hb3.mono B2.size); have T3 := Lib.hid (T2.out.below hb3); have R3 := Lib.hid (R2.out.below hb3); have S3 := Lib.hid (ksame2 v3 _ w3 hown3))
    | (go_at_call 23; refine (S1.out).mono ?_; rintro e w2 ⟨rfl, hb2⟩; have B2 := B1.trans (hb2.mono B1.size); have T2 := Lib.hid (T1.out.below hb2); have R2 := Lib.hid (R1.out.below hb2))
    | (go_at_call 24; refine (kcall1 _ _ T0.out R0.out).mono ?_; rintro e w1 ⟨v1, rfl, hown1, hb1⟩; have B1 := B0.trans (hb1.mono B0.size); have T1 := Lib.hid (T0.out.below hb1); have R1 := Lib.hid (R0.out.below hb1); have S1 := Lib.hid (ksame1 v1 _ w1 hown1)))
  go_ret
  exact ⟨by first | rfl | simp, B8⟩
end Go.Proofs.YtjbmihgfneamlaaDoor
