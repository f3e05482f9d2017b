/- rubricklaw16.knows: the document's examples. -/
import Derived.Test.YtjbmihgfneamlaaDoorBackLaw
import Derived.Lib.SlBytesConst
set_option linter.unusedVariables false
namespace Go.Proofs.YtjbmihgfneamlaaDoor
open Go.RowKit

def q1 : List UInt8 := [104, 97, 121, 32, 38, 32, 40, 87, 97, 105, 110, 32, 124, 32, 111, 120, 41, 32, 33, 32, 55]
def q2 : List UInt8 := [33, 104, 97, 121]
def q3 : List UInt8 := [104, 97, 121, 32, 104, 97, 121]
def k1 : List QOp := [(0, [104, 97, 121]), (0, [119, 97, 105, 110]), (0, [111, 120]), (2, []), (1, []), (0, [55]), (3, [])]
def s1 : List UInt8 := [40, 40, 104, 97, 121, 38, 40, 119, 97, 105, 110, 124, 111, 120, 41, 41, 33, 55, 41]

theorem q1_err : parseErr q1 = 0 := by decide +kernel
theorem q1_at : parseAt q1 = 0 := by decide +kernel
theorem q1_ops : (parsed q1).2.ops = k1 := by decide +kernel
theorem q2_err : parseErr q2 = 9 := by decide +kernel
theorem q2_at : parseAt q2 = 0 := by decide +kernel
theorem q3_err : parseErr q3 = 2 := by decide +kernel
theorem q3_at : parseAt q3 = 4 := by decide +kernel
theorem k1_right : qRight k1 = true := by decide +kernel
theorem k1_print : qPrint k1 = s1 := by decide +kernel

theorem pk1 (v : Value) (W : World) (ht : Tabs W) (h : Rd W v 21 1 (bcells q1)) :
    Calls Tryd.prog 16 #[v] W fun e w' => Below W.heap.size W w' ∧ ∃ ov, e = .returned (.tuple #[ov, .int .i64 0, .int .i64 0]) ∧ w'.ownsRow W.heap.size 38 2 ov 7 (ocells k1) := by
  refine (parse_any v q1 W ht h (by decide)).mono ?_
  rintro e w' ⟨hb, ov, rfl, ⟨_, hown⟩ | ⟨hne, _⟩⟩
  · rw [q1_ops] at hown
    exact ⟨hb, ov, by rw [q1_err, q1_at], hown⟩
  · exact absurd q1_err hne
theorem pk2 (v : Value) (W : World) (ht : Tabs W) (h : Rd W v 4 1 (bcells q2)) :
    Calls Tryd.prog 16 #[v] W fun e w' => Below W.heap.size W w' ∧ e = .returned (.tuple #[.slice none 0 0, .int .i64 0, .int .i64 9]) := by
  refine (parse_any v q2 W ht h (by decide)).mono ?_
  rintro e w' ⟨hb, ov, rfl, ⟨h0, _⟩ | ⟨_, rfl⟩⟩
  · rw [q2_err] at h0; exact absurd h0 (by decide)
  · exact ⟨hb, by rw [q2_err, q2_at]⟩
theorem pk3 (v : Value) (W : World) (ht : Tabs W) (h : Rd W v 7 1 (bcells q3)) :
    Calls Tryd.prog 16 #[v] W fun e w' => Below W.heap.size W w' ∧ e = .returned (.tuple #[.slice none 0 0, .int .i64 4, .int .i64 2]) := by
  refine (parse_any v q3 W ht h (by decide)).mono ?_
  rintro e w' ⟨hb, ov, rfl, ⟨h0, _⟩ | ⟨_, rfl⟩⟩
  · rw [q3_err] at h0; exact absurd h0 (by decide)
  · exact ⟨hb, by rw [q3_err, q3_at]⟩
theorem pk4 (v : Value) (W : World) (ht : Tabs W) (h : Rd W v 7 2 (ocells k1)) :
    Calls Tryd.prog 15 #[v] W fun e w' => e = .returned (.tuple #[.string (bstr s1), .int .i64 0]) ∧ Below W.heap.size W w' := by
  have := print_yes v k1 W ht h (by decide) (by decide) (by decide) k1_right
  rw [k1_print] at this
  exact this
theorem pk5 (v : Value) (W : World) (ht : Tabs W) (h : Rd W v 7 2 (ocells k1)) :
    Calls Tryd.prog 34 #[v] W fun e w' => e = .returned (.bool true) ∧ Below W.heap.size W w' := by
  have := qright_any v k1 W ht h (by decide) (by decide) (by decide)
  rw [k1_right] at this
  exact this

/-- a literal of bytes. -/
theorem rd_lit (w : World) (l : List UInt8) (cs : Array Value) (n : Nat) (fr : Nat × Nat) (hl : l.length = n) (hc : cs.toList = bcells l) (hn : n ≤ maxLen) (h0 : 0 < n) : Rd (w.alloc (.cells cs 5 fr)) (.slice (some ⟨w.heap.size, 0, none⟩) n n) n 1 (bcells l) := by
  refine ⟨by rw [bcells_len]; omega, hn, .inr ⟨w.heap.size, 0, n, rfl, h0, Nat.le_refl _, hn, fun i u hu => ?_⟩⟩
  rw [show 0 + i = i from by omega, cell_of_row _ w.heap.size i _ _ fr (heap_alloc_new w _), ← Array.getElem?_toList, hc]
  exact hu

theorem lit1 (W : World) (ht : Tabs W) : Calls Tryd.prog 16 #[.slice (some ⟨W.heap.size, 0, none⟩) 21 21] (W.alloc (.cells #[.int .u8 104, .int .u8 97, .int .u8 121, .int .u8 32, .int .u8 38, .int .u8 32, .int .u8 40, .int .u8 87, .int .u8 97, .int .u8 105, .int .u8 110, .int .u8 32, .int .u8 124, .int .u8 32, .int .u8 111, .int .u8 120, .int .u8 41, .int .u8 32, .int .u8 33, .int .u8 32, .int .u8 55] 5 (21, 21 + 1))) fun e w' => Below W.heap.size W w' ∧ ∃ ov, e = .returned (.tuple #[ov, .int .i64 0, .int .i64 0]) ∧ w'.ownsRow W.heap.size 38 2 ov 7 (ocells k1) := by
  have hb0 : Below W.heap.size W (W.alloc (.cells #[.int .u8 104, .int .u8 97, .int .u8 121, .int .u8 32, .int .u8 38, .int .u8 32, .int .u8 40, .int .u8 87, .int .u8 97, .int .u8 105, .int .u8 110, .int .u8 32, .int .u8 124, .int .u8 32, .int .u8 111, .int .u8 120, .int .u8 41, .int .u8 32, .int .u8 33, .int .u8 32, .int .u8 55] 5 (21, 21 + 1))) := (Below.refl _ _).alloc (Nat.le_refl _) _
  have hr := rd_lit W q1 #[.int .u8 104, .int .u8 97, .int .u8 121, .int .u8 32, .int .u8 38, .int .u8 32, .int .u8 40, .int .u8 87, .int .u8 97, .int .u8 105, .int .u8 110, .int .u8 32, .int .u8 124, .int .u8 32, .int .u8 111, .int .u8 120, .int .u8 41, .int .u8 32, .int .u8 33, .int .u8 32, .int .u8 55] 21 (21, 21 + 1) rfl rfl (by decide) (by decide)
  have hT := ht.below hb0
  generalize (W.alloc (.cells #[.int .u8 104, .int .u8 97, .int .u8 121, .int .u8 32, .int .u8 38, .int .u8 32, .int .u8 40, .int .u8 87, .int .u8 97, .int .u8 105, .int .u8 110, .int .u8 32, .int .u8 124, .int .u8 32, .int .u8 111, .int .u8 120, .int .u8 41, .int .u8 32, .int .u8 33, .int .u8 32, .int .u8 55] 5 (21, 21 + 1))) = W1 at *
  refine (pk1 _ W1 hT hr).mono ?_
  rintro e w' ⟨hb, ov, he, hown⟩
  exact ⟨hb0.trans (hb.mono hb0.size), ov, he, own_mono hown hb0.size⟩

theorem lit2 (W : World) (ht : Tabs W) : Calls Tryd.prog 16 #[.slice (some ⟨W.heap.size, 0, none⟩) 4 4] (W.alloc (.cells #[.int .u8 33, .int .u8 104, .int .u8 97, .int .u8 121] 5 (4, 4 + 1))) fun e w' => Below W.heap.size W w' ∧ e = .returned (.tuple #[.slice none 0 0, .int .i64 0, .int .i64 9]) := by
  have hb0 : Below W.heap.size W (W.alloc (.cells #[.int .u8 33, .int .u8 104, .int .u8 97, .int .u8 121] 5 (4, 4 + 1))) := (Below.refl _ _).alloc (Nat.le_refl _) _
  have hr := rd_lit W q2 #[.int .u8 33, .int .u8 104, .int .u8 97, .int .u8 121] 4 (4, 4 + 1) rfl rfl (by decide) (by decide)
  have hT := ht.below hb0
  generalize (W.alloc (.cells #[.int .u8 33, .int .u8 104, .int .u8 97, .int .u8 121] 5 (4, 4 + 1))) = W1 at *
  refine (pk2 _ W1 hT hr).mono ?_
  rintro e w' ⟨hb, he⟩
  exact ⟨hb0.trans (hb.mono hb0.size), he⟩

theorem lit3 (W : World) (ht : Tabs W) : Calls Tryd.prog 16 #[.slice (some ⟨W.heap.size, 0, none⟩) 7 7] (W.alloc (.cells #[.int .u8 104, .int .u8 97, .int .u8 121, .int .u8 32, .int .u8 104, .int .u8 97, .int .u8 121] 5 (7, 7 + 1))) fun e w' => Below W.heap.size W w' ∧ e = .returned (.tuple #[.slice none 0 0, .int .i64 4, .int .i64 2]) := by
  have hb0 : Below W.heap.size W (W.alloc (.cells #[.int .u8 104, .int .u8 97, .int .u8 121, .int .u8 32, .int .u8 104, .int .u8 97, .int .u8 121] 5 (7, 7 + 1))) := (Below.refl _ _).alloc (Nat.le_refl _) _
  have hr := rd_lit W q3 #[.int .u8 104, .int .u8 97, .int .u8 121, .int .u8 32, .int .u8 104, .int .u8 97, .int .u8 121] 7 (7, 7 + 1) rfl rfl (by decide) (by decide)
  have hT := ht.below hb0
  generalize (W.alloc (.cells #[.int .u8 104, .int .u8 97, .int .u8 121, .int .u8 32, .int .u8 104, .int .u8 97, .int .u8 121] 5 (7, 7 + 1))) = W1 at *
  refine (pk3 _ W1 hT hr).mono ?_
  rintro e w' ⟨hb, he⟩
  exact ⟨hb0.trans (hb.mono hb0.size), he⟩

set_option maxRecDepth 100000 in
set_option maxHeartbeats 4000000 in
theorem knows16_any (w : World) (ht : Tabs w) : Calls Tryd.prog 14 #[] w fun e w' => e = .returned (.bool true) ∧ Below w.heap.size w w' := by
  have HT := Lib.hid ht
  clear ht
  have es1 : (bstr s1).toList = s1 := btoList s1
  have es2 : (bstr [119, 97, 105, 110]).toList = [119, 97, 105, 110] := btoList _
  have hcv1 : ∀ W : World, Sem.run Tryd.prog (convert 30 30 (.slice (some ⟨W.heap.size, 0, none⟩) 21 21)) (W.alloc (.cells #[.int .u8 104, .int .u8 97, .int .u8 121, .int .u8 32, .int .u8 38, .int .u8 32, .int .u8 40, .int .u8 87, .int .u8 97, .int .u8 105, .int .u8 110, .int .u8 32, .int .u8 124, .int .u8 32, .int .u8 111, .int .u8 120, .int .u8 41, .int .u8 32, .int .u8 33, .int .u8 32, .int .u8 55] 5)) = .ok (.slice (some ⟨W.heap.size, 0, none⟩) 21 21) (W.alloc (.cells #[.int .u8 104, .int .u8 97, .int .u8 121, .int .u8 32, .int .u8 38, .int .u8 32, .int .u8 40, .int .u8 87, .int .u8 97, .int .u8 105, .int .u8 110, .int .u8 32, .int .u8 124, .int .u8 32, .int .u8 111, .int .u8 120, .int .u8 41, .int .u8 32, .int .u8 33, .int .u8 32, .int .u8 55] 5 (21, 21 + 1))) := fun W => Lib.run_convert_bytes_const W 30 5 _ 21 21 Tryd.underlying30 Tryd.underlying5
  have hcv2 : ∀ W : World, Sem.run Tryd.prog (convert 30 30 (.slice (some ⟨W.heap.size, 0, none⟩) 4 4)) (W.alloc (.cells #[.int .u8 33, .int .u8 104, .int .u8 97, .int .u8 121] 5)) = .ok (.slice (some ⟨W.heap.size, 0, none⟩) 4 4) (W.alloc (.cells #[.int .u8 33, .int .u8 104, .int .u8 97, .int .u8 121] 5 (4, 4 + 1))) := fun W => Lib.run_convert_bytes_const W 30 5 _ 4 4 Tryd.underlying30 Tryd.underlying5
  have hcv3 : ∀ W : World, Sem.run Tryd.prog (convert 30 30 (.slice (some ⟨W.heap.size, 0, none⟩) 7 7)) (W.alloc (.cells #[.int .u8 104, .int .u8 97, .int .u8 121, .int .u8 32, .int .u8 104, .int .u8 97, .int .u8 121] 5)) = .ok (.slice (some ⟨W.heap.size, 0, none⟩) 7 7) (W.alloc (.cells #[.int .u8 104, .int .u8 97, .int .u8 121, .int .u8 32, .int .u8 104, .int .u8 97, .int .u8 121] 5 (7, 7 + 1))) := fun W => Lib.run_convert_bytes_const W 30 5 _ 7 7 Tryd.underlying30 Tryd.underlying5
  have o3 : (ocells k1)[3]? = some (.string (bstr [119, 97, 105, 110])) := rfl
  have o6 : (ocells k1)[6]? = some (.int .i64 2) := rfl
  have o12 : (ocells k1)[12]? = some (.int .i64 3) := rfl
  go_enter Tryd.func14, Tryd.ntmps14
  go_wp2_with (first
    | (go_at_call 16; refine (lit3 w2 (HT.out.below hb12)).mono ?_; rintro e w3 ⟨hb3, rfl⟩; have hb13 := hb12.trans (hb3.mono hb12.size); have hown3 := own_below' hown2 hb3; have h4 := pk4 _ w3 (HT.out.below hb13) (Rd.of_own hown3); have H4 := Lib.hid h4; clear h4)
    | (go_at_call 16; refine (lit2 w1 (HT.out.below hb1)).mono ?_; rintro e w2 ⟨hb2, rfl⟩; have hb12 := hb1.trans (hb2.mono hb1.size); have hown2 := own_below' hown1 hb2)
    | (go_at_call 16; refine (lit1 w HT.out).mono ?_; rintro e w1 ⟨hb1, ov, rfl, hown1⟩; obtain ⟨g, cap, rfl⟩ := own_form hown1 (by decide))
    | (go_at_call 15; refine H4.out.mono ?_; rintro e w4 ⟨rfl, hb4⟩; have hb14 := hb13.trans (hb4.mono hb13.size); have hown4 := own_below' hown3 hb4; have c3 := hown4.cellAt 3 (by decide); have c6 := hown4.cellAt 6 (by decide); have c12 := hown4.cellAt 12 (by decide); rw [o3] at c3; rw [o6] at c6; rw [o12] at c12; have h5 := pk5 _ w4 (HT.out.below hb14) (Rd.of_own hown4); have H5 := Lib.hid h5; clear h5)
    | (go_at_call 34; refine H5.out.mono ?_; rintro e w5 ⟨rfl, hb5⟩))
  go_ret
  exact ⟨rfl, hb14.trans (hb5.mono hb14.size)⟩
end Go.Proofs.YtjbmihgfneamlaaDoor
