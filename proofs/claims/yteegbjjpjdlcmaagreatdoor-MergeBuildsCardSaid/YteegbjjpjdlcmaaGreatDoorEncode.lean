/- utf.more, utf.Encode. -/
import Derived.Test.YteegbjjpjdlcmaaGreatDoorDecode
set_option linter.unusedVariables false
namespace Go.Proofs.YteegbjjpjdlcmaaGreatDoor
open Go.RowKit

theorem wrap_u8_in (x : Int) (h0 : 0 ≤ x) (h1 : x < 256) : IntKind.u8.wrap x = x := by rw [IntKind.wrap_u8]; omega

theorem more_any (c : Int) (w : World) (h0 : 0 ≤ c) (h1 : c < 10000000) : Calls Tryz.prog 94 #[.int .i64 c] w fun e w' => e = .returned (.int .u8 (128 + c % 64)) ∧ w = w' := by
  have e1 := i64_and63 c h0 h1
  have e2 : bits BinOp.or IntKind.u8 128 (c % 64) = 128 + c % 64 := u8_or128 _ (by omega) (by omega)
  have e3 : IntKind.u8.wrap (c % 64) = c % 64 := wrap_u8_in _ (by omega) (by omega)
  go_enter Tryz.func94, Tryz.ntmps94
  go_wp2
  go_ret
  exact ⟨rfl, rfl⟩

/-- Encode hands back a new row with these bytes, and no error. -/
def GivesEnc (w : World) (l : List UInt8) (e : Ending) (w' : World) : Prop := ∃ v, e = .returned (.tuple #[v, .int .i64 0]) ∧ w'.ownsRow w.heap.size 5 1 v l.length (bcells l) ∧ Below w.heap.size w w'

theorem ch_u8 (x : Int) (h0 : 0 ≤ x) (h1 : x < 256) : ch (u8 x) = x := by
  unfold ch u8
  rw [UInt8.toNat_ofNat']
  omega

theorem isChar_bd {c : Int} (h : isChar c = true) : 0 ≤ c ∧ c ≤ 1114111 := by
  simp only [isChar, Bool.and_eq_true, decide_eq_true_eq] at h; exact h.1

/-- a row that was just built. -/
theorem own_new (w : World) (cs : Array Value) (e : TypeId) (sz n : Nat) (hl : cs.size = n * sz) (hm : n ≤ maxLen) : (w.alloc (.cells cs e)).ownsRow w.heap.size e sz (.slice (some ⟨w.heap.size, 0, none⟩) n n) n cs.toList :=
  ⟨by simpa using hl, .inr ⟨w.heap.size, n, cs, rfl, Nat.le_refl _, heap_alloc_new w _, Nat.le_refl _, hm, hl, List.take_of_length_le (by rw [Array.length_toList, hl]; exact Nat.le_refl _)⟩⟩

set_option maxHeartbeats 400000 in
theorem encode_1 (c : Int) (w : World) (h : isChar c = true) (h1 : c < 128) : Calls Tryz.prog 70 #[.int .i64 c] w (GivesEnc w (enc c)) := by
  have hb := isChar_bd h
  have hr := right_any c w
  rw [h] at hr
  have hs := size_any c w
  rw [show csize c = 1 from by unfold csize; rw [if_pos h1]] at hs
  have HR := Lib.hid hr
  have HS := Lib.hid hs
  have he : bcells (enc c) = [.int .u8 (c)] := by
    unfold enc; rw [if_pos h1]
    simp only [bcells, List.map_cons, List.map_nil]
    rw [ch_u8 (c) (by omega) (by omega)]
  have hl : (enc c).length = 1 := by unfold enc; rw [if_pos h1]; rfl
  have HE := Lib.hid he
  have HL := Lib.hid hl
  clear hr hs he hl h
  have e3 : IntKind.u8.wrap c = c := wrap_u8_in _ (by omega) (by omega)
  go_enter Tryz.func70, Tryz.ntmps70
  go_wp2_with (first | (go_at_call 92; refine HR.out.mono ?_; rintro e w' ⟨rfl, rfl⟩) | (go_at_call 93; refine HS.out.mono ?_; rintro e w' ⟨rfl, rfl⟩))
  go_ret2
  refine ⟨_, rfl, ?_, (Below.refl _ _).alloc (Nat.le_refl _) _⟩
  rw [HE.out, HL.out]
  exact own_new _ #[.int .u8 (c)] _ 1 1 rfl (by decide)

set_option maxHeartbeats 400000 in
theorem encode_2 (c : Int) (w : World) (h : isChar c = true) (h0 : 128 ≤ c) (h1 : c < 2048) : Calls Tryz.prog 70 #[.int .i64 c] w (GivesEnc w (enc c)) := by
  have hb := isChar_bd h
  have hr := right_any c w
  rw [h] at hr
  have hs := size_any c w
  rw [show csize c = 2 from by unfold csize; rw [if_neg (by omega)]; rw [if_pos h1]] at hs
  have HR := Lib.hid hr
  have HS := Lib.hid hs
  have he : bcells (enc c) = [.int .u8 (192 + c / 64), .int .u8 (128 + c % 64)] := by
    unfold enc; rw [if_neg (by omega)]; rw [if_pos h1]
    simp only [bcells, List.map_cons, List.map_nil]
    rw [ch_u8 (192 + c / 64) (by omega) (by omega), ch_u8 (128 + c % 64) (by omega) (by omega)]
  have hl : (enc c).length = 2 := by unfold enc; rw [if_neg (by omega)]; rw [if_pos h1]; rfl
  have HE := Lib.hid he
  have HL := Lib.hid hl
  clear hr hs he hl h
  have e3 : IntKind.u8.wrap (c / 64) = c / 64 := wrap_u8_in _ (by omega) (by omega)
  have e4 : bits BinOp.or IntKind.u8 192 (c / 64) = 192 + c / 64 := u8_or192 _ (by omega) (by omega)
  have M0 := Lib.hid (more_any (c) w (by omega) (by omega))
  go_enter Tryz.func70, Tryz.ntmps70
  go_wp2_with (first | (go_at_call 92; refine HR.out.mono ?_; rintro e w' ⟨rfl, rfl⟩) | (go_at_call 93; refine HS.out.mono ?_; rintro e w' ⟨rfl, rfl⟩) | (go_at_call 94; with_reducible refine M0.out.mono ?_; rintro e w' ⟨rfl, rfl⟩))
  go_ret2
  refine ⟨_, rfl, ?_, (Below.refl _ _).alloc (Nat.le_refl _) _⟩
  rw [HE.out, HL.out]
  exact own_new _ #[.int .u8 (192 + c / 64), .int .u8 (128 + c % 64)] _ 1 2 rfl (by decide)

set_option maxHeartbeats 400000 in
theorem encode_3 (c : Int) (w : World) (h : isChar c = true) (h0 : 2048 ≤ c) (h1 : c < 65536) : Calls Tryz.prog 70 #[.int .i64 c] w (GivesEnc w (enc c)) := by
  have hb := isChar_bd h
  have hr := right_any c w
  rw [h] at hr
  have hs := size_any c w
  rw [show csize c = 3 from by unfold csize; rw [if_neg (by omega)]; rw [if_neg (by omega)]; rw [if_pos h1]] at hs
  have HR := Lib.hid hr
  have HS := Lib.hid hs
  have he : bcells (enc c) = [.int .u8 (224 + c / 4096), .int .u8 (128 + c / 64 % 64), .int .u8 (128 + c % 64)] := by
    unfold enc; rw [if_neg (by omega)]; rw [if_neg (by omega)]; rw [if_pos h1]
    simp only [bcells, List.map_cons, List.map_nil]
    rw [ch_u8 (224 + c / 4096) (by omega) (by omega), ch_u8 (128 + c / 64 % 64) (by omega) (by omega), ch_u8 (128 + c % 64) (by omega) (by omega)]
  have hl : (enc c).length = 3 := by unfold enc; rw [if_neg (by omega)]; rw [if_neg (by omega)]; rw [if_pos h1]; rfl
  have HE := Lib.hid he
  have HL := Lib.hid hl
  clear hr hs he hl h
  have e3 : IntKind.u8.wrap (c / 4096) = c / 4096 := wrap_u8_in _ (by omega) (by omega)
  have e4 : bits BinOp.or IntKind.u8 224 (c / 4096) = 224 + c / 4096 := u8_or224 _ (by omega) (by omega)
  have M0 := Lib.hid (more_any (c / 64) w (by omega) (by omega))
  have M1 := Lib.hid (more_any (c) w (by omega) (by omega))
  go_enter Tryz.func70, Tryz.ntmps70
  go_wp2_with (first | (go_at_call 92; refine HR.out.mono ?_; rintro e w' ⟨rfl, rfl⟩) | (go_at_call 93; refine HS.out.mono ?_; rintro e w' ⟨rfl, rfl⟩) | (go_at_call 94; with_reducible refine M0.out.mono ?_; rintro e w' ⟨rfl, rfl⟩) | (go_at_call 94; with_reducible refine M1.out.mono ?_; rintro e w' ⟨rfl, rfl⟩))
  go_ret2
  refine ⟨_, rfl, ?_, (Below.refl _ _).alloc (Nat.le_refl _) _⟩
  rw [HE.out, HL.out]
  exact own_new _ #[.int .u8 (224 + c / 4096), .int .u8 (128 + c / 64 % 64), .int .u8 (128 + c % 64)] _ 1 3 rfl (by decide)

set_option maxHeartbeats 400000 in
theorem encode_4 (c : Int) (w : World) (h : isChar c = true) (h0 : 65536 ≤ c) : Calls Tryz.prog 70 #[.int .i64 c] w (GivesEnc w (enc c)) := by
  have hb := isChar_bd h
  have hr := right_any c w
  rw [h] at hr
  have hs := size_any c w
  rw [show csize c = 4 from by unfold csize; rw [if_neg (by omega)]; rw [if_neg (by omega)]; rw [if_neg (by omega)]] at hs
  have HR := Lib.hid hr
  have HS := Lib.hid hs
  have he : bcells (enc c) = [.int .u8 (240 + c / 262144), .int .u8 (128 + c / 4096 % 64), .int .u8 (128 + c / 64 % 64), .int .u8 (128 + c % 64)] := by
    unfold enc; rw [if_neg (by omega)]; rw [if_neg (by omega)]; rw [if_neg (by omega)]
    simp only [bcells, List.map_cons, List.map_nil]
    rw [ch_u8 (240 + c / 262144) (by omega) (by omega), ch_u8 (128 + c / 4096 % 64) (by omega) (by omega), ch_u8 (128 + c / 64 % 64) (by omega) (by omega), ch_u8 (128 + c % 64) (by omega) (by omega)]
  have hl : (enc c).length = 4 := by unfold enc; rw [if_neg (by omega)]; rw [if_neg (by omega)]; rw [if_neg (by omega)]; rfl
  have HE := Lib.hid he
  have HL := Lib.hid hl
  clear hr hs he hl h
  have e3 : IntKind.u8.wrap (c / 262144) = c / 262144 := wrap_u8_in _ (by omega) (by omega)
  have e4 : bits BinOp.or IntKind.u8 240 (c / 262144) = 240 + c / 262144 := u8_or240 _ (by omega) (by omega)
  have M0 := Lib.hid (more_any (c / 4096) w (by omega) (by omega))
  have M1 := Lib.hid (more_any (c / 64) w (by omega) (by omega))
  have M2 := Lib.hid (more_any (c) w (by omega) (by omega))
  go_enter Tryz.func70, Tryz.ntmps70
  go_wp2_with (first | (go_at_call 92; refine HR.out.mono ?_; rintro e w' ⟨rfl, rfl⟩) | (go_at_call 93; refine HS.out.mono ?_; rintro e w' ⟨rfl, rfl⟩) | (go_at_call 94; with_reducible refine M0.out.mono ?_; rintro e w' ⟨rfl, rfl⟩) | (go_at_call 94; with_reducible refine M1.out.mono ?_; rintro e w' ⟨rfl, rfl⟩) | (go_at_call 94; with_reducible refine M2.out.mono ?_; rintro e w' ⟨rfl, rfl⟩))
  go_ret2
  refine ⟨_, rfl, ?_, (Below.refl _ _).alloc (Nat.le_refl _) _⟩
  rw [HE.out, HL.out]
  exact own_new _ #[.int .u8 (240 + c / 262144), .int .u8 (128 + c / 4096 % 64), .int .u8 (128 + c / 64 % 64), .int .u8 (128 + c % 64)] _ 1 4 rfl (by decide)

theorem encode_any (c : Int) (w : World) (h : isChar c = true) : Calls Tryz.prog 70 #[.int .i64 c] w (GivesEnc w (enc c)) := by
  by_cases h1 : c < 128
  · exact encode_1 c w h h1
  by_cases h2 : c < 2048
  · exact encode_2 c w h (by omega) h2
  by_cases h3 : c < 65536
  · exact encode_3 c w h (by omega) h3
  · exact encode_4 c w h (by omega)
end Go.Proofs.YteegbjjpjdlcmaaGreatDoor
