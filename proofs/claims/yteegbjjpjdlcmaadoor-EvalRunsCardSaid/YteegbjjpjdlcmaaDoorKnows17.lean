/- rubricklaw17.knows: the document's examples. -/
import Derived.Test.YteegbjjpjdlcmaaDoorParseAll
import Derived.Test.YteegbjjpjdlcmaaDoorRunAll
import Derived.Test.YteegbjjpjdlcmaaDoorRefDict
import Derived.Lib.SlBytesConst
import Derived.Deep.Cut
set_option linter.unusedVariables false
namespace Go.Proofs.YteegbjjpjdlcmaaDoor
open Go.RowKit Go.Sort

def e17d0 : List UInt8 := [104, 97, 121]
def e17d1 : List UInt8 := [119, 97, 105, 110, 32, 104, 97, 121]
def e17d2 : List UInt8 := [111, 120]
def e17q0 : List UInt8 := [104, 97, 121, 32, 33, 32, 119, 97, 105, 110]
def e17q1 : List UInt8 := [104, 97, 121, 32, 124, 32, 111, 120]
def e17k0 : List QOp := [(0, [104, 97, 121]), (0, [119, 97, 105, 110]), (3, [])]
def e17k1 : List QOp := [(0, [104, 97, 121]), (0, [111, 120]), (2, [])]
theorem e17q0_err : parseErr e17q0 = 0 := by decide +kernel
theorem e17q0_at : parseAt e17q0 = 0 := by decide +kernel
theorem e17q0_ops : (parsed e17q0).2.ops = e17k0 := by decide +kernel
theorem e17k0_right : qRight e17k0 = true := by decide +kernel
theorem e17q1_err : parseErr e17q1 = 0 := by decide +kernel
theorem e17q1_at : parseAt e17q1 = 0 := by decide +kernel
theorem e17q1_ops : (parsed e17q1).2.ops = e17k1 := by decide +kernel
theorem e17k1_right : qRight e17k1 = true := by decide +kernel
theorem e17m0 : matchF e17k0 [e17d0, e17d1, e17d2] = [0] := by decide +kernel
theorem e17m1 : matchF e17k1 [e17d0, e17d1, e17d2] = [0, 1, 2] := by decide +kernel
theorem e17t : setOf (wordsOf e17k0) = [[104, 97, 121], [119, 97, 105, 110]] := by
  refine (setOf_unique ?_ ?_).symm
  · unfold Rises; decide +kernel
  · intro t; simp [wordsOf, e17k0]
theorem e17r : runF e17k0 [[0, 1], [1]] = [0] := by unfold runF; rw [e17t]; decide +kernel
theorem e17lit (w : World) (l : List UInt8) (cs : Array Value) (n : Nat) (fr : Nat × Nat) (hl : l.length = n) (hc : cs.toList = bcells l) (hn : n ≤ maxLen) (h0 : 0 < n) : Rd (w.alloc (.cells cs 5 fr)) (.slice (some ⟨w.heap.size, 0, none⟩) n n) n 1 (bcells l) := by
  refine ⟨by rw [bcells_len]; omega, hn, .inr ⟨w.heap.size, 0, n, rfl, h0, Nat.le_refl _, hn, fun i u hu => ?_⟩⟩
  rw [show 0 + i = i from by omega, cell_of_row _ w.heap.size i _ _ fr (heap_alloc_new w _), ← Array.getElem?_toList, hc]
  exact hu

theorem e17p0 (W : World) (ht : Tabs W) (A : Nat) (hA : W.heap.size = A) : Calls Tryd.prog 36 #[.slice (some ⟨A, 0, none⟩) 10 10] (W.alloc (.cells #[.int .u8 104, .int .u8 97, .int .u8 121, .int .u8 32, .int .u8 33, .int .u8 32, .int .u8 119, .int .u8 97, .int .u8 105, .int .u8 110] 5 (10, 11))) fun e w' => Below W.heap.size W w' ∧ ∃ ov, e = .returned (.tuple #[ov, .int .i64 0, .int .i64 0]) ∧ w'.ownsRow W.heap.size 55 2 ov 3 (ocells e17k0) := by
  subst hA
  have hb0 : Below W.heap.size W (W.alloc (.cells #[.int .u8 104, .int .u8 97, .int .u8 121, .int .u8 32, .int .u8 33, .int .u8 32, .int .u8 119, .int .u8 97, .int .u8 105, .int .u8 110] 5 (10, 11))) := (Below.refl _ _).alloc (Nat.le_refl _) _
  have hr := e17lit W e17q0 #[.int .u8 104, .int .u8 97, .int .u8 121, .int .u8 32, .int .u8 33, .int .u8 32, .int .u8 119, .int .u8 97, .int .u8 105, .int .u8 110] 10 (10, 11) rfl rfl (by decide) (by decide)
  have hT := ht.below hb0
  generalize (W.alloc (.cells #[.int .u8 104, .int .u8 97, .int .u8 121, .int .u8 32, .int .u8 33, .int .u8 32, .int .u8 119, .int .u8 97, .int .u8 105, .int .u8 110] 5 (10, 11))) = W1 at *
  refine (parse_any _ e17q0 W1 hT hr (by decide)).mono ?_
  rintro e w' ⟨hb, ov, rfl, ⟨_, hown⟩ | ⟨hne, _⟩⟩
  · rw [e17q0_ops] at hown
    exact ⟨hb0.trans (hb.mono hb0.size), ov, by rw [e17q0_err, e17q0_at], own_mono hown hb0.size⟩
  · exact absurd e17q0_err hne

theorem e17p1 (W : World) (ht : Tabs W) (A : Nat) (hA : W.heap.size = A) : Calls Tryd.prog 36 #[.slice (some ⟨A, 0, none⟩) 8 8] (W.alloc (.cells #[.int .u8 104, .int .u8 97, .int .u8 121, .int .u8 32, .int .u8 124, .int .u8 32, .int .u8 111, .int .u8 120] 5 (8, 9))) fun e w' => Below W.heap.size W w' ∧ ∃ ov, e = .returned (.tuple #[ov, .int .i64 0, .int .i64 0]) ∧ w'.ownsRow W.heap.size 55 2 ov 3 (ocells e17k1) := by
  subst hA
  have hb0 : Below W.heap.size W (W.alloc (.cells #[.int .u8 104, .int .u8 97, .int .u8 121, .int .u8 32, .int .u8 124, .int .u8 32, .int .u8 111, .int .u8 120] 5 (8, 9))) := (Below.refl _ _).alloc (Nat.le_refl _) _
  have hr := e17lit W e17q1 #[.int .u8 104, .int .u8 97, .int .u8 121, .int .u8 32, .int .u8 124, .int .u8 32, .int .u8 111, .int .u8 120] 8 (8, 9) rfl rfl (by decide) (by decide)
  have hT := ht.below hb0
  generalize (W.alloc (.cells #[.int .u8 104, .int .u8 97, .int .u8 121, .int .u8 32, .int .u8 124, .int .u8 32, .int .u8 111, .int .u8 120] 5 (8, 9))) = W1 at *
  refine (parse_any _ e17q1 W1 hT hr (by decide)).mono ?_
  rintro e w' ⟨hb, ov, rfl, ⟨_, hown⟩ | ⟨hne, _⟩⟩
  · rw [e17q1_ops] at hown
    exact ⟨hb0.trans (hb.mono hb0.size), ov, by rw [e17q1_err, e17q1_at], own_mono hown hb0.size⟩
  · exact absurd e17q1_err hne

/-- the world that holds the documents. -/
abbrev e17W (w : World) : World := ((((w.alloc (.cells #[.int .u8 104, .int .u8 97, .int .u8 121] 5 (3, 4))).alloc (.cells #[.int .u8 119, .int .u8 97, .int .u8 105, .int .u8 110, .int .u8 32, .int .u8 104, .int .u8 97, .int .u8 121] 5 (8, 9))).alloc (.cells #[.int .u8 111, .int .u8 120] 5 (2, 3))).alloc (.cells #[.slice (some ⟨w.heap.size, 0, none⟩) 3 3, .slice (some ⟨w.heap.size + 1, 0, none⟩) 8 8, .slice (some ⟨w.heap.size + 1 + 1, 0, none⟩) 2 2] 72))
abbrev e17v (w : World) : Value := .slice (some ⟨w.heap.size + 1 + 1 + 1, 0, none⟩) 3 3

theorem e17docs (w : World) : DocsRd (e17W w) (e17v w) [e17d0, e17d1, e17d2] ∧ Below w.heap.size w (e17W w) := by
  have r0 := e17lit w e17d0 #[.int .u8 104, .int .u8 97, .int .u8 121] 3 (3, 4) rfl rfl (by decide) (by decide)
  have b0 : Below w.heap.size w (w.alloc (.cells #[.int .u8 104, .int .u8 97, .int .u8 121] 5 (3, 4))) := (Below.refl _ _).alloc (Nat.le_refl _) _
  have s0 : (w.alloc (.cells #[.int .u8 104, .int .u8 97, .int .u8 121] 5 (3, 4))).heap.size = w.heap.size + 1 := by simp
  have key : ∀ WA : World, WA = (w.alloc (.cells #[.int .u8 104, .int .u8 97, .int .u8 121] 5 (3, 4))) → DocsRd (((WA.alloc (.cells #[.int .u8 119, .int .u8 97, .int .u8 105, .int .u8 110, .int .u8 32, .int .u8 104, .int .u8 97, .int .u8 121] 5 (8, 9))).alloc (.cells #[.int .u8 111, .int .u8 120] 5 (2, 3))).alloc (.cells #[.slice (some ⟨w.heap.size, 0, none⟩) 3 3, .slice (some ⟨w.heap.size + 1, 0, none⟩) 8 8, .slice (some ⟨w.heap.size + 1 + 1, 0, none⟩) 2 2] 72)) (e17v w) [e17d0, e17d1, e17d2] ∧ Below w.heap.size w (((WA.alloc (.cells #[.int .u8 119, .int .u8 97, .int .u8 105, .int .u8 110, .int .u8 32, .int .u8 104, .int .u8 97, .int .u8 121] 5 (8, 9))).alloc (.cells #[.int .u8 111, .int .u8 120] 5 (2, 3))).alloc (.cells #[.slice (some ⟨w.heap.size, 0, none⟩) 3 3, .slice (some ⟨w.heap.size + 1, 0, none⟩) 8 8, .slice (some ⟨w.heap.size + 1 + 1, 0, none⟩) 2 2] 72)) := by
    intro WA hWA
    rw [← hWA] at r0 b0 s0
    clear hWA
    have r1 := e17lit WA e17d1 #[.int .u8 119, .int .u8 97, .int .u8 105, .int .u8 110, .int .u8 32, .int .u8 104, .int .u8 97, .int .u8 121] 8 (8, 9) rfl rfl (by decide) (by decide)
    have b1 : Below WA.heap.size WA (WA.alloc (.cells #[.int .u8 119, .int .u8 97, .int .u8 105, .int .u8 110, .int .u8 32, .int .u8 104, .int .u8 97, .int .u8 121] 5 (8, 9))) := (Below.refl _ _).alloc (Nat.le_refl _) _
    have s1 : (WA.alloc (.cells #[.int .u8 119, .int .u8 97, .int .u8 105, .int .u8 110, .int .u8 32, .int .u8 104, .int .u8 97, .int .u8 121] 5 (8, 9))).heap.size = w.heap.size + 1 + 1 := by simp [s0]
    rw [s0] at r1
    generalize (WA.alloc (.cells #[.int .u8 119, .int .u8 97, .int .u8 105, .int .u8 110, .int .u8 32, .int .u8 104, .int .u8 97, .int .u8 121] 5 (8, 9))) = WB at *
    have r2 := e17lit WB e17d2 #[.int .u8 111, .int .u8 120] 2 (2, 3) rfl rfl (by decide) (by decide)
    have b2 : Below WB.heap.size WB (WB.alloc (.cells #[.int .u8 111, .int .u8 120] 5 (2, 3))) := (Below.refl _ _).alloc (Nat.le_refl _) _
    have s2 : (WB.alloc (.cells #[.int .u8 111, .int .u8 120] 5 (2, 3))).heap.size = w.heap.size + 1 + 1 + 1 := by simp [s1]
    rw [s1] at r2
    generalize (WB.alloc (.cells #[.int .u8 111, .int .u8 120] 5 (2, 3))) = WC at *
    have r3 := rd_new WC #[.slice (some ⟨w.heap.size, 0, none⟩) 3 3, .slice (some ⟨w.heap.size + 1, 0, none⟩) 8 8, .slice (some ⟨w.heap.size + 1 + 1, 0, none⟩) 2 2] 72 1 3 rfl (by decide) (by decide)
    have b3 : Below WC.heap.size WC (WC.alloc (.cells #[.slice (some ⟨w.heap.size, 0, none⟩) 3 3, .slice (some ⟨w.heap.size + 1, 0, none⟩) 8 8, .slice (some ⟨w.heap.size + 1 + 1, 0, none⟩) 2 2] 72)) := (Below.refl _ _).alloc (Nat.le_refl _) _
    rw [s2] at r3
    have B1 := b0.trans (b1.mono b0.size)
    have B2 := B1.trans (b2.mono B1.size)
    refine ⟨⟨_, r3, fun i hi => ?_⟩, B2.trans (b3.mono B2.size)⟩
    match i, hi with
    | 0, _ => exact ⟨_, rfl, (((r0.below b1).below b2).below b3)⟩
    | 1, _ => exact ⟨_, rfl, ((r1.below b2).below b3)⟩
    | 2, _ => exact ⟨_, rfl, r2.below b3⟩
  exact key _ rfl

/-- the lists of numbers. -/
abbrev e17FW (w : World) : World := (((w.alloc (.cells #[.int .i64 0, .int .i64 1] 3)).alloc (.cells #[.int .i64 1] 3)).alloc (.cells #[.slice (some ⟨w.heap.size, 0, none⟩) 2 2, .slice (some ⟨w.heap.size + 1, 0, none⟩) 1 1] 41))
theorem e17found (w : World) : IntsRd (e17FW w) (.slice (some ⟨w.heap.size + 1 + 1, 0, none⟩) 2 2) [[0, 1], [1]] ∧ Below w.heap.size w (e17FW w) := by
  have r0 := rd_new w #[.int .i64 0, .int .i64 1] 3 1 2 rfl (by decide) (by decide)
  have b0 : Below w.heap.size w (w.alloc (.cells #[.int .i64 0, .int .i64 1] 3)) := (Below.refl _ _).alloc (Nat.le_refl _) _
  have s0 : (w.alloc (.cells #[.int .i64 0, .int .i64 1] 3)).heap.size = w.heap.size + 1 := by simp
  have key : ∀ WA : World, WA = (w.alloc (.cells #[.int .i64 0, .int .i64 1] 3)) → IntsRd ((WA.alloc (.cells #[.int .i64 1] 3)).alloc (.cells #[.slice (some ⟨w.heap.size, 0, none⟩) 2 2, .slice (some ⟨w.heap.size + 1, 0, none⟩) 1 1] 41)) (.slice (some ⟨w.heap.size + 1 + 1, 0, none⟩) 2 2) [[0, 1], [1]] ∧ Below w.heap.size w ((WA.alloc (.cells #[.int .i64 1] 3)).alloc (.cells #[.slice (some ⟨w.heap.size, 0, none⟩) 2 2, .slice (some ⟨w.heap.size + 1, 0, none⟩) 1 1] 41)) := by
    intro WA hWA
    rw [← hWA] at r0 b0 s0
    clear hWA
    have r1 := rd_new WA #[.int .i64 1] 3 1 1 rfl (by decide) (by decide)
    have b1 : Below WA.heap.size WA (WA.alloc (.cells #[.int .i64 1] 3)) := (Below.refl _ _).alloc (Nat.le_refl _) _
    have s1 : (WA.alloc (.cells #[.int .i64 1] 3)).heap.size = w.heap.size + 1 + 1 := by simp [s0]
    rw [s0] at r1
    generalize (WA.alloc (.cells #[.int .i64 1] 3)) = WB at *
    have r3 := rd_new WB #[.slice (some ⟨w.heap.size, 0, none⟩) 2 2, .slice (some ⟨w.heap.size + 1, 0, none⟩) 1 1] 41 1 2 rfl (by decide) (by decide)
    have b3 : Below WB.heap.size WB (WB.alloc (.cells #[.slice (some ⟨w.heap.size, 0, none⟩) 2 2, .slice (some ⟨w.heap.size + 1, 0, none⟩) 1 1] 41)) := (Below.refl _ _).alloc (Nat.le_refl _) _
    rw [s1] at r3
    have B1 := b0.trans (b1.mono b0.size)
    refine ⟨⟨_, r3, fun i hi => ?_⟩, B1.trans (b3.mono B1.size)⟩
    match i, hi with
    | 0, _ => exact ⟨_, rfl, ((r0.below b1).below b3)⟩
    | 1, _ => exact ⟨_, rfl, r1.below b3⟩
  exact key _ rfl
theorem e17run (lv : Value) (w W : World) (hT : Tabs W) (hW : Below w.heap.size w W) (h : Rd W lv 3 2 (ocells e17k0)) :
    Calls Tryd.prog 17 #[lv, .slice (some ⟨W.heap.size + 1 + 1, 0, none⟩) 2 2] (e17FW W) fun e w' => ∃ v, e = .returned (.tuple #[v, .int .i64 0]) ∧ w'.ownsRow W.heap.size 3 1 v 1 (icells [0]) ∧ Below W.heap.size W w' := by
  obtain ⟨hf, hb⟩ := e17found W
  refine (run_yes lv _ e17k0 [[0, 1], [1]] (e17FW W) (hT.below hb) hf (h.below hb) (by decide) (by decide) (by decide) e17k0_right (by rw [e17t]; rfl) (by decide +kernel)).mono ?_
  rintro e w' ⟨v, rfl, ho, hb'⟩
  rw [e17r] at ho
  exact ⟨v, rfl, own_mono ho hb.size, hb.trans (hb'.mono hb.size)⟩
theorem e17same (v : Value) (base : Nat) (W1 W : World) (A : Nat) (hA : W.heap.size = A) (ho : W1.ownsRow base 3 1 v 1 (icells [0])) (hW : Below W1.heap.size W1 W) :
    Calls Tryd.prog 20 #[v, .slice (some ⟨A, 0, none⟩) 1 1] (W.alloc (.cells #[.int .i64 0] 3)) fun e w' => e = .returned (.bool true) ∧ Below W.heap.size W w' := by
  subst hA
  have hb : Below W.heap.size W (W.alloc (.cells #[.int .i64 0] 3)) := (Below.refl _ _).alloc (Nat.le_refl _) _
  refine (same09_any v (.slice (some ⟨W.heap.size, 0, none⟩) 1 1) 1 1 [0] [0] (W.alloc (.cells #[.int .i64 0] 3)) rfl rfl (((Rd.of_own ho).below hW).below hb) (rd_new W #[.int .i64 0] 3 1 1 rfl (by decide) (by decide))).mono ?_
  rintro e w' ⟨rfl, hb'⟩
  exact ⟨rfl, hb.trans (hb'.mono hb.size)⟩

set_option maxRecDepth 100000 in
set_option maxHeartbeats 8000000 in
theorem knows17_any (w : World) (ht : Tabs w) : Calls Tryd.prog 16 #[] w fun e w' => e = .returned (.bool true) ∧ Below w.heap.size w w' := by
  have HT := Lib.hid ht
  obtain ⟨hd, hbd⟩ := e17docs w
  have HD := Lib.hid hd
  have HBD := Lib.hid hbd
  clear ht hd hbd

  have hcv0 : Sem.run Tryd.prog (convert 72 72 (.slice (some ⟨w.heap.size, 0, none⟩) 3 3)) (w.alloc (.cells #[.int .u8 104, .int .u8 97, .int .u8 121] 5)) = .ok (.slice (some ⟨w.heap.size, 0, none⟩) 3 3) (w.alloc (.cells #[.int .u8 104, .int .u8 97, .int .u8 121] 5 (3, 4))) := Lib.run_convert_bytes_const w 72 5 _ 3 3 Tryd.underlying72 Tryd.underlying5
  have hcv1 : Sem.run Tryd.prog (convert 72 72 (.slice (some ⟨w.heap.size + 1, 0, none⟩) 8 8)) ((w.alloc (.cells #[.int .u8 104, .int .u8 97, .int .u8 121] 5 (3, 4))).alloc (.cells #[.int .u8 119, .int .u8 97, .int .u8 105, .int .u8 110, .int .u8 32, .int .u8 104, .int .u8 97, .int .u8 121] 5)) = .ok (.slice (some ⟨w.heap.size + 1, 0, none⟩) 8 8) ((w.alloc (.cells #[.int .u8 104, .int .u8 97, .int .u8 121] 5 (3, 4))).alloc (.cells #[.int .u8 119, .int .u8 97, .int .u8 105, .int .u8 110, .int .u8 32, .int .u8 104, .int .u8 97, .int .u8 121] 5 (8, 9))) := by
    have := Lib.run_convert_bytes_const (P := Tryd.prog) (w.alloc (.cells #[.int .u8 104, .int .u8 97, .int .u8 121] 5 (3, 4))) 72 5 #[.int .u8 119, .int .u8 97, .int .u8 105, .int .u8 110, .int .u8 32, .int .u8 104, .int .u8 97, .int .u8 121] 8 8 Tryd.underlying72 Tryd.underlying5
    rw [show (w.alloc (.cells #[.int .u8 104, .int .u8 97, .int .u8 121] 5 (3, 4))).heap.size = w.heap.size + 1 from by simp] at this
    exact this
  have hcv2 : Sem.run Tryd.prog (convert 72 72 (.slice (some ⟨w.heap.size + 1 + 1, 0, none⟩) 2 2)) (((w.alloc (.cells #[.int .u8 104, .int .u8 97, .int .u8 121] 5 (3, 4))).alloc (.cells #[.int .u8 119, .int .u8 97, .int .u8 105, .int .u8 110, .int .u8 32, .int .u8 104, .int .u8 97, .int .u8 121] 5 (8, 9))).alloc (.cells #[.int .u8 111, .int .u8 120] 5)) = .ok (.slice (some ⟨w.heap.size + 1 + 1, 0, none⟩) 2 2) (((w.alloc (.cells #[.int .u8 104, .int .u8 97, .int .u8 121] 5 (3, 4))).alloc (.cells #[.int .u8 119, .int .u8 97, .int .u8 105, .int .u8 110, .int .u8 32, .int .u8 104, .int .u8 97, .int .u8 121] 5 (8, 9))).alloc (.cells #[.int .u8 111, .int .u8 120] 5 (2, 3))) := by
    have := Lib.run_convert_bytes_const (P := Tryd.prog) ((w.alloc (.cells #[.int .u8 104, .int .u8 97, .int .u8 121] 5 (3, 4))).alloc (.cells #[.int .u8 119, .int .u8 97, .int .u8 105, .int .u8 110, .int .u8 32, .int .u8 104, .int .u8 97, .int .u8 121] 5 (8, 9))) 72 5 #[.int .u8 111, .int .u8 120] 2 2 Tryd.underlying72 Tryd.underlying5
    rw [show ((w.alloc (.cells #[.int .u8 104, .int .u8 97, .int .u8 121] 5 (3, 4))).alloc (.cells #[.int .u8 119, .int .u8 97, .int .u8 105, .int .u8 110, .int .u8 32, .int .u8 104, .int .u8 97, .int .u8 121] 5 (8, 9))).heap.size = w.heap.size + 1 + 1 from by simp] at this
    exact this
  have hsz : (e17W w).heap.size = w.heap.size + 1 + 1 + 1 + 1 := by simp
  have hcvq0 : Sem.run Tryd.prog (convert 72 72 (.slice (some ⟨w.heap.size + 1 + 1 + 1 + 1, 0, none⟩) 10 10)) ((e17W w).alloc (.cells #[.int .u8 104, .int .u8 97, .int .u8 121, .int .u8 32, .int .u8 33, .int .u8 32, .int .u8 119, .int .u8 97, .int .u8 105, .int .u8 110] 5)) = .ok (.slice (some ⟨w.heap.size + 1 + 1 + 1 + 1, 0, none⟩) 10 10) ((e17W w).alloc (.cells #[.int .u8 104, .int .u8 97, .int .u8 121, .int .u8 32, .int .u8 33, .int .u8 32, .int .u8 119, .int .u8 97, .int .u8 105, .int .u8 110] 5 (10, 11))) := by
    have := Lib.run_convert_bytes_const (P := Tryd.prog) (e17W w) 72 5 #[.int .u8 104, .int .u8 97, .int .u8 121, .int .u8 32, .int .u8 33, .int .u8 32, .int .u8 119, .int .u8 97, .int .u8 105, .int .u8 110] 10 10 Tryd.underlying72 Tryd.underlying5
    rw [hsz] at this
    exact this
  have hcvq1 : ∀ W : World, Sem.run Tryd.prog (convert 72 72 (.slice (some ⟨W.heap.size, 0, none⟩) 8 8)) (W.alloc (.cells #[.int .u8 104, .int .u8 97, .int .u8 121, .int .u8 32, .int .u8 124, .int .u8 32, .int .u8 111, .int .u8 120] 5)) = .ok (.slice (some ⟨W.heap.size, 0, none⟩) 8 8) (W.alloc (.cells #[.int .u8 104, .int .u8 97, .int .u8 121, .int .u8 32, .int .u8 124, .int .u8 32, .int .u8 111, .int .u8 120] 5 (8, 9))) := fun W => Lib.run_convert_bytes_const W 72 5 _ 8 8 Tryd.underlying72 Tryd.underlying5
  have HP0 := Lib.hid (e17p0 (e17W w) (HT.out.below HBD.out) _ hsz)
  have HDW := Lib.hid (fun W (hW : Below (e17W w).heap.size (e17W w) W) => HD.out.below hW)
  have HTW := Lib.hid (fun W (hW : Below (e17W w).heap.size (e17W w) W) => HT.out.below (HBD.out.trans (hW.mono HBD.out.size)))
  have HM := Lib.hid (fun (lv : Value) (W : World) (hT : Tabs W) (hD : DocsRd W (e17v w) [e17d0, e17d1, e17d2]) (h : Rd W lv 3 2 (ocells e17k0)) => match_yes (e17v w) lv [e17d0, e17d1, e17d2] e17k0 W hT hD (by decide) (by decide) h (by decide) (by decide) (by decide) e17k0_right)
  have HM1 := Lib.hid (fun (lv : Value) (W : World) (hT : Tabs W) (hD : DocsRd W (e17v w) [e17d0, e17d1, e17d2]) (h : Rd W lv 3 2 (ocells e17k1)) => match_yes (e17v w) lv [e17d0, e17d1, e17d2] e17k1 W hT hD (by decide) (by decide) h (by decide) (by decide) (by decide) e17k1_right)
  rw [e17m0] at HM
  rw [e17m1] at HM1
  clear hsz
  go_enter Tryd.func16, Tryd.ntmps16
  go_wp2_with (first
    | (go_at_call 20; (with_reducible refine (e17same _ _ w5 w6 _ rfl hown5 hb6).mono ?_); rintro e w7 ⟨rfl, hb7⟩; have B7 := B6.trans (hb7.mono B6.size))
    | (go_at_call 20; (with_reducible refine (e17same _ _ w4 w5 _ rfl O3.out hb5).mono ?_); rintro e w6 ⟨rfl, hb6⟩; have B6 := B5.trans (hb6.mono B5.size))
    | (go_at_call 17; (with_reducible refine (e17run _ w4 w4 (HTW.out _ B4) (Below.refl _ _) R1c).mono ?_); rintro e w5 ⟨v5, rfl, hown5, hb5⟩; obtain ⟨g5, cap5, rfl⟩ := own_form hown5 (by decide); have B5 := B4.trans (hb5.mono B4.size))
    | (go_at_call 23; (with_reducible refine (HM1.out _ w3 (HTW.out _ B3) (HDW.out _ B3) R2b).mono ?_); rintro e w4 ⟨v4, rfl, hown4, hb4⟩; obtain ⟨g4, cap4, rfl⟩ := own_form hown4 (by decide); have B4 := B3.trans (hb4.mono B3.size); have O3 := Lib.hid (own_below hown3 hb4); have R1c := R1b.below hb4; clear hown3)
    | (go_at_call 23; (with_reducible refine (HM.out _ w2 (HTW.out _ B2) (HDW.out _ B2) R1).mono ?_); rintro e w3 ⟨v3, rfl, hown3, hb3⟩; obtain ⟨g3, cap3, rfl⟩ := own_form hown3 (by decide); have B3 := B2.trans (hb3.mono B2.size); have R1b := R1.below hb3; have R2b := R2.below hb3)
    | (go_at_call 36; (with_reducible refine (e17p1 w1 (HTW.out _ hb1) _ rfl).mono ?_); rintro e w2 ⟨hb2, ov2, rfl, hown2⟩; obtain ⟨g2, cap2, rfl⟩ := own_form hown2 (by decide); have B2 := hb1.trans (hb2.mono hb1.size); have R1 := (Rd.of_own hown1).below hb2; have R2 := Rd.of_own hown2; clear hown1 hown2)
    | (go_at_call 36; (with_reducible refine HP0.out.mono ?_); rintro e w1 ⟨hb1, ov1, rfl, hown1⟩; obtain ⟨g1, cap1, rfl⟩ := own_form hown1 (by decide)))
  go_ret
  exact ⟨rfl, HBD.out.trans (B7.mono HBD.out.size)⟩
end Go.Proofs.YteegbjjpjdlcmaaDoor
