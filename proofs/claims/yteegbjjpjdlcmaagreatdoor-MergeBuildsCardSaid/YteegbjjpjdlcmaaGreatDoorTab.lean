/- The tables of package utf in memory; utf.Letter, utf.Small, utf.Digit, utf.Right, utf.size, utf.more. -/
import Derived.Test.YteegbjjpjdlcmaaGreatDoorMem
import Derived.Test.YteegbjjpjdlcmaaGreatDoorUtfDefs
namespace Go.Proofs.YteegbjjpjdlcmaaGreatDoor
open Go.RowKit

def letterCells : Array Value := #[.int .i64 65, .int .i64 90, .int .i64 97, .int .i64 122, .int .i64 192, .int .i64 214, .int .i64 216, .int .i64 246, .int .i64 248, .int .i64 255, .int .i64 913, .int .i64 929, .int .i64 931, .int .i64 937, .int .i64 945, .int .i64 969, .int .i64 1024, .int .i64 1119]
def shiftCells : Array Value := #[.int .i64 65, .int .i64 90, .int .i64 32, .int .i64 192, .int .i64 214, .int .i64 32, .int .i64 216, .int .i64 222, .int .i64 32, .int .i64 913, .int .i64 929, .int .i64 32, .int .i64 931, .int .i64 937, .int .i64 32, .int .i64 1024, .int .i64 1039, .int .i64 80, .int .i64 1040, .int .i64 1071, .int .i64 32]

/-- The tables hold what the text lays. -/
structure Tabs (w : World) : Prop where
  letters : ∃ t fr, w.heap[0]? = some (.cells letterCells t fr)
  shifts : ∃ t fr, w.heap[1]? = some (.cells shiftCells t fr)

theorem heap_lt {w : World} {k : Nat} {o : Obj} (h : w.heap[k]? = some o) : k < w.heap.size := lt_of_block h

theorem Tabs.below {w w' : World} (h : Tabs w) (hb : Below w.heap.size w w') : Tabs w' := by
  obtain ⟨⟨t, fr, h1⟩, ⟨t', fr', h2⟩⟩ := h
  exact ⟨⟨t, fr, by rw [hb.block _ (heap_lt h1)]; exact h1⟩, ⟨t', fr', by rw [hb.block _ (heap_lt h2)]; exact h2⟩⟩

theorem ret_bool {a b : Bool} (h : a = b) : Ending.returned (.bool a) = .returned (.bool b) := by rw [h]
theorem ret_int' {k : IntKind} {a b : Int} (h : a = b) : Ending.returned (.int k a) = .returned (.int k b) := by rw [h]

theorem digit_any (c : Int) (w : World) : Calls Tryz.prog 56 #[.int .i64 c] w fun e w' => e = .returned (.bool (isDigit c)) ∧ w = w' := by
  have cases' : (c < 48 ∧ isDigit c = false) ∨ (48 ≤ c ∧ 57 < c ∧ isDigit c = false) ∨ (48 ≤ c ∧ c ≤ 57 ∧ isDigit c = true) := by
    simp only [isDigit, Bool.and_eq_true, decide_eq_true_eq, Bool.and_eq_false_iff, decide_eq_false_iff_not]
    omega
  rcases cases' with ⟨h1, h2⟩ | ⟨h0, h1, h2⟩ | ⟨h0, h1, h2⟩
  all_goals
    rw [h2]
    clear h2
    go_enter Tryz.func56, Tryz.ntmps56
    go_wp2
    go_ret
    first | exact ⟨rfl, rfl⟩ | exact ⟨ret_bool (decide_eq_false (by omega)), rfl⟩ | exact ⟨ret_bool (decide_eq_true (by omega)), rfl⟩

theorem right_any (c : Int) (w : World) : Calls Tryz.prog 92 #[.int .i64 c] w fun e w' => e = .returned (.bool (isChar c)) ∧ w = w' := by
  have cases' : (c < 0 ∧ isChar c = false) ∨ (0 ≤ c ∧ 1114111 < c ∧ isChar c = false) ∨ (0 ≤ c ∧ c ≤ 1114111 ∧ c < 55296 ∧ isChar c = true) ∨ (0 ≤ c ∧ c ≤ 1114111 ∧ 55296 ≤ c ∧ c ≤ 57343 ∧ isChar c = false) ∨ (0 ≤ c ∧ c ≤ 1114111 ∧ 55296 ≤ c ∧ 57343 < c ∧ isChar c = true) := by
    simp only [isChar, Bool.and_eq_true, Bool.or_eq_true, decide_eq_true_eq, Bool.and_eq_false_iff, Bool.or_eq_false_iff, decide_eq_false_iff_not]
    omega
  rcases cases' with ⟨h1, h2⟩ | ⟨h0, h1, h2⟩ | ⟨h0, h1, h3, h2⟩ | ⟨h0, h1, h3, h4, h2⟩ | ⟨h0, h1, h3, h4, h2⟩
  all_goals
    rw [h2]
    clear h2
    go_enter Tryz.func92, Tryz.ntmps92
    go_wp2
    go_ret
    refine ⟨ret_bool ?_, rfl⟩
    simp
    try omega

theorem size_any (c : Int) (w : World) : Calls Tryz.prog 93 #[.int .i64 c] w fun e w' => e = .returned (.int .i64 (csize c)) ∧ w = w' := by
  have cases' : (c < 128 ∧ csize c = 1) ∨ (128 ≤ c ∧ c < 2048 ∧ csize c = 2) ∨ (128 ≤ c ∧ 2048 ≤ c ∧ c < 65536 ∧ csize c = 3) ∨ (128 ≤ c ∧ 2048 ≤ c ∧ 65536 ≤ c ∧ csize c = 4) := by
    unfold csize
    split
    · left; omega
    · split
      · right; left; omega
      · split
        · right; right; left; omega
        · right; right; right; omega
  rcases cases' with ⟨h1, h2⟩ | ⟨h0, h1, h2⟩ | ⟨h0, h1, h3, h2⟩ | ⟨h0, h1, h3, h2⟩
  all_goals
    rw [h2]
    clear h2
    go_enter Tryz.func93, Tryz.ntmps93
    go_wp2
    go_ret
    exact ⟨rfl, rfl⟩

/-- of the first k spans none holds c. -/
def noneTo (k : Nat) (c : Int) : Bool := (spans.take k).all fun s => !(decide (s.1 ≤ c) && decide (c ≤ s.2))
def noneToS (k : Nat) (c : Int) : Bool := (shifts.take k).all fun s => !(decide (s.1 ≤ c) && decide (c ≤ s.2.1))

theorem letter_hit {c a b : Int} (k : Nat) (hk : spans[k]? = some (a, b)) (h1 : a ≤ c) (h2 : c ≤ b) : isLetter c = true := by
  unfold isLetter
  rw [List.any_eq_true]
  exact ⟨(a, b), List.mem_of_getElem? hk, by simp [h1, h2]⟩

theorem letter_miss {c a b : Int} (k : Nat) (hk : spans[k]? = some (a, b)) (hn : noneTo k c = true) (h : ¬ (a ≤ c ∧ c ≤ b)) : noneTo (k + 1) c = true := by
  unfold noneTo at hn ⊢
  rw [List.take_add_one, hk, List.all_append, hn]
  simp
  omega

theorem letter_none {c : Int} (hn : noneTo 9 c = true) : isLetter c = false := by
  unfold noneTo at hn
  unfold isLetter
  rw [List.all_eq_true] at hn
  rw [Bool.eq_false_iff]
  intro h
  obtain ⟨s, hs, h2⟩ := List.any_eq_true.1 h
  have := hn s hs
  rw [h2] at this
  simp at this

theorem find_skip {α : Type} (p : α → Bool) : ∀ (l : List α) (k : Nat) (x : α), l[k]? = some x → (l.take k).all (fun s => !p s) = true → p x = true → l.find? p = some x := by
  intro l
  induction l with
  | nil => intro k x h; simp at h
  | cons y l ih =>
    intro k x h hn hp
    cases k with
    | zero => simp at h; subst h; simp [List.find?, hp]
    | succ k =>
      simp at h hn
      rw [List.find?_cons, hn.1]
      exact ih k x h (by simp; exact hn.2) hp

theorem small_hit {c a b d : Int} (k : Nat) (hk : shifts[k]? = some (a, b, d)) (hn : noneToS k c = true) (h1 : a ≤ c) (h2 : c ≤ b) : small c = c + d := by
  unfold small
  rw [find_skip _ shifts k (a, b, d) hk hn (by simp [h1, h2])]

theorem small_miss {c a b d : Int} (k : Nat) (hk : shifts[k]? = some (a, b, d)) (hn : noneToS k c = true) (h : ¬ (a ≤ c ∧ c ≤ b)) : noneToS (k + 1) c = true := by
  unfold noneToS at hn ⊢
  rw [List.take_add_one, hk, List.all_append, hn]
  simp
  omega

theorem small_none {c : Int} (hn : noneToS 7 c = true) : small c = c := by
  unfold noneToS at hn
  rw [List.all_eq_true] at hn
  unfold small
  rw [List.find?_eq_none.2]
  intro s hs h
  have := hn s hs
  rw [h] at this
  simp at this

set_option maxHeartbeats 2000000 in
theorem letter_any (c : Int) (w : World) (ht : Tabs w) : Calls Tryz.prog 55 #[.int .i64 c] w fun e w' => e = .returned (.bool (isLetter c)) ∧ Below w.heap.size w w' := by
  obtain ⟨tt, fr, hg⟩ := ht.letters
  go_enter Tryz.func55, Tryz.ntmps55
  go_wp2_with (refine wpList_load_row rfl 101 _ rfl 0 rfl tt letterCells fr _ hg Tryz.underlying101 rfl (by kernel_rfl) ?_)
  have i0 : ∀ w, (Instr.index 101 (.agg letterCells) (.int .i64 0)).run Tryz.prog w = .ok (.agg #[.int .i64 65, .int .i64 90]) w := fun _ => by kernel_rfl
  have i1 : ∀ w, (Instr.index 101 (.agg letterCells) (.int .i64 1)).run Tryz.prog w = .ok (.agg #[.int .i64 97, .int .i64 122]) w := fun _ => by kernel_rfl
  have i2 : ∀ w, (Instr.index 101 (.agg letterCells) (.int .i64 2)).run Tryz.prog w = .ok (.agg #[.int .i64 192, .int .i64 214]) w := fun _ => by kernel_rfl
  have i3 : ∀ w, (Instr.index 101 (.agg letterCells) (.int .i64 3)).run Tryz.prog w = .ok (.agg #[.int .i64 216, .int .i64 246]) w := fun _ => by kernel_rfl
  have i4 : ∀ w, (Instr.index 101 (.agg letterCells) (.int .i64 4)).run Tryz.prog w = .ok (.agg #[.int .i64 248, .int .i64 255]) w := fun _ => by kernel_rfl
  have i5 : ∀ w, (Instr.index 101 (.agg letterCells) (.int .i64 5)).run Tryz.prog w = .ok (.agg #[.int .i64 913, .int .i64 929]) w := fun _ => by kernel_rfl
  have i6 : ∀ w, (Instr.index 101 (.agg letterCells) (.int .i64 6)).run Tryz.prog w = .ok (.agg #[.int .i64 931, .int .i64 937]) w := fun _ => by kernel_rfl
  have i7 : ∀ w, (Instr.index 101 (.agg letterCells) (.int .i64 7)).run Tryz.prog w = .ok (.agg #[.int .i64 945, .int .i64 969]) w := fun _ => by kernel_rfl
  have i8 : ∀ w, (Instr.index 101 (.agg letterCells) (.int .i64 8)).run Tryz.prog w = .ok (.agg #[.int .i64 1024, .int .i64 1119]) w := fun _ => by kernel_rfl
  clear hg ht
  go_loopw [6] (fun i wr => ∃ k : Nat, k ≤ 9 ∧ i = .int .i64 k ∧ noneTo k c = true ∧ Below w.heap.size w wr) (fun i _ => 9 - (intOf i).toNat)
  case atStart => exact ⟨0, by omega, rfl, rfl, Below.refl _ _⟩
  case round =>
    obtain ⟨k, hk, rfl, hno, hbel⟩ := hrel
    have HN := Lib.hid hno; clear hno
    have hbs := hbel.size
    match k, hk with
    | 0, _ =>
      by_cases h1 : 65 ≤ c
      · by_cases h2 : c ≤ 90
        · have he := Lib.hid (letter_hit 0 rfl h1 h2)
          go_wp2
          go_ret
          exact ⟨ret_bool he.out.symm, by first | exact hbel.alloc hbs _ | (repeat (first | exact hbel.alloc hbs _ | refine Below.setCell ?_ (by simp; omega) _))⟩
        · go_wp2
          go_roundw
          case rel => exact ⟨1, by omega, rfl, letter_miss 0 rfl HN.out (by omega), by first | exact hbel.alloc hbs _ | (repeat (first | exact hbel.alloc hbs _ | refine Below.setCell ?_ (by simp; omega) _))⟩
          case measure => simp [intOf]
      · go_wp2
        go_roundw
        case rel => exact ⟨1, by omega, rfl, letter_miss 0 rfl HN.out (by omega), by first | exact hbel.alloc hbs _ | (repeat (first | exact hbel.alloc hbs _ | refine Below.setCell ?_ (by simp; omega) _))⟩
        case measure => simp [intOf]
    | 1, _ =>
      by_cases h1 : 97 ≤ c
      · by_cases h2 : c ≤ 122
        · have he := Lib.hid (letter_hit 1 rfl h1 h2)
          go_wp2
          go_ret
          exact ⟨ret_bool he.out.symm, by first | exact hbel.alloc hbs _ | (repeat (first | exact hbel.alloc hbs _ | refine Below.setCell ?_ (by simp; omega) _))⟩
        · go_wp2
          go_roundw
          case rel => exact ⟨2, by omega, rfl, letter_miss 1 rfl HN.out (by omega), by first | exact hbel.alloc hbs _ | (repeat (first | exact hbel.alloc hbs _ | refine Below.setCell ?_ (by simp; omega) _))⟩
          case measure => simp [intOf]
      · go_wp2
        go_roundw
        case rel => exact ⟨2, by omega, rfl, letter_miss 1 rfl HN.out (by omega), by first | exact hbel.alloc hbs _ | (repeat (first | exact hbel.alloc hbs _ | refine Below.setCell ?_ (by simp; omega) _))⟩
        case measure => simp [intOf]
    | 2, _ =>
      by_cases h1 : 192 ≤ c
      · by_cases h2 : c ≤ 214
        · have he := Lib.hid (letter_hit 2 rfl h1 h2)
          go_wp2
          go_ret
          exact ⟨ret_bool he.out.symm, by first | exact hbel.alloc hbs _ | (repeat (first | exact hbel.alloc hbs _ | refine Below.setCell ?_ (by simp; omega) _))⟩
        · go_wp2
          go_roundw
          case rel => exact ⟨3, by omega, rfl, letter_miss 2 rfl HN.out (by omega), by first | exact hbel.alloc hbs _ | (repeat (first | exact hbel.alloc hbs _ | refine Below.setCell ?_ (by simp; omega) _))⟩
          case measure => simp [intOf]
      · go_wp2
        go_roundw
        case rel => exact ⟨3, by omega, rfl, letter_miss 2 rfl HN.out (by omega), by first | exact hbel.alloc hbs _ | (repeat (first | exact hbel.alloc hbs _ | refine Below.setCell ?_ (by simp; omega) _))⟩
        case measure => simp [intOf]
    | 3, _ =>
      by_cases h1 : 216 ≤ c
      · by_cases h2 : c ≤ 246
        · have he := Lib.hid (letter_hit 3 rfl h1 h2)
          go_wp2
          go_ret
          exact ⟨ret_bool he.out.symm, by first | exact hbel.alloc hbs _ | (repeat (first | exact hbel.alloc hbs _ | refine Below.setCell ?_ (by simp; omega) _))⟩
        · go_wp2
          go_roundw
          case rel => exact ⟨4, by omega, rfl, letter_miss 3 rfl HN.out (by omega), by first | exact hbel.alloc hbs _ | (repeat (first | exact hbel.alloc hbs _ | refine Below.setCell ?_ (by simp; omega) _))⟩
          case measure => simp [intOf]
      · go_wp2
        go_roundw
        case rel => exact ⟨4, by omega, rfl, letter_miss 3 rfl HN.out (by omega), by first | exact hbel.alloc hbs _ | (repeat (first | exact hbel.alloc hbs _ | refine Below.setCell ?_ (by simp; omega) _))⟩
        case measure => simp [intOf]
    | 4, _ =>
      by_cases h1 : 248 ≤ c
      · by_cases h2 : c ≤ 255
        · have he := Lib.hid (letter_hit 4 rfl h1 h2)
          go_wp2
          go_ret
          exact ⟨ret_bool he.out.symm, by first | exact hbel.alloc hbs _ | (repeat (first | exact hbel.alloc hbs _ | refine Below.setCell ?_ (by simp; omega) _))⟩
        · go_wp2
          go_roundw
          case rel => exact ⟨5, by omega, rfl, letter_miss 4 rfl HN.out (by omega), by first | exact hbel.alloc hbs _ | (repeat (first | exact hbel.alloc hbs _ | refine Below.setCell ?_ (by simp; omega) _))⟩
          case measure => simp [intOf]
      · go_wp2
        go_roundw
        case rel => exact ⟨5, by omega, rfl, letter_miss 4 rfl HN.out (by omega), by first | exact hbel.alloc hbs _ | (repeat (first | exact hbel.alloc hbs _ | refine Below.setCell ?_ (by simp; omega) _))⟩
        case measure => simp [intOf]
    | 5, _ =>
      by_cases h1 : 913 ≤ c
      · by_cases h2 : c ≤ 929
        · have he := Lib.hid (letter_hit 5 rfl h1 h2)
          go_wp2
          go_ret
          exact ⟨ret_bool he.out.symm, by first | exact hbel.alloc hbs _ | (repeat (first | exact hbel.alloc hbs _ | refine Below.setCell ?_ (by simp; omega) _))⟩
        · go_wp2
          go_roundw
          case rel => exact ⟨6, by omega, rfl, letter_miss 5 rfl HN.out (by omega), by first | exact hbel.alloc hbs _ | (repeat (first | exact hbel.alloc hbs _ | refine Below.setCell ?_ (by simp; omega) _))⟩
          case measure => simp [intOf]
      · go_wp2
        go_roundw
        case rel => exact ⟨6, by omega, rfl, letter_miss 5 rfl HN.out (by omega), by first | exact hbel.alloc hbs _ | (repeat (first | exact hbel.alloc hbs _ | refine Below.setCell ?_ (by simp; omega) _))⟩
        case measure => simp [intOf]
    | 6, _ =>
      by_cases h1 : 931 ≤ c
      · by_cases h2 : c ≤ 937
        · have he := Lib.hid (letter_hit 6 rfl h1 h2)
          go_wp2
          go_ret
          exact ⟨ret_bool he.out.symm, by first | exact hbel.alloc hbs _ | (repeat (first | exact hbel.alloc hbs _ | refine Below.setCell ?_ (by simp; omega) _))⟩
        · go_wp2
          go_roundw
          case rel => exact ⟨7, by omega, rfl, letter_miss 6 rfl HN.out (by omega), by first | exact hbel.alloc hbs _ | (repeat (first | exact hbel.alloc hbs _ | refine Below.setCell ?_ (by simp; omega) _))⟩
          case measure => simp [intOf]
      · go_wp2
        go_roundw
        case rel => exact ⟨7, by omega, rfl, letter_miss 6 rfl HN.out (by omega), by first | exact hbel.alloc hbs _ | (repeat (first | exact hbel.alloc hbs _ | refine Below.setCell ?_ (by simp; omega) _))⟩
        case measure => simp [intOf]
    | 7, _ =>
      by_cases h1 : 945 ≤ c
      · by_cases h2 : c ≤ 969
        · have he := Lib.hid (letter_hit 7 rfl h1 h2)
          go_wp2
          go_ret
          exact ⟨ret_bool he.out.symm, by first | exact hbel.alloc hbs _ | (repeat (first | exact hbel.alloc hbs _ | refine Below.setCell ?_ (by simp; omega) _))⟩
        · go_wp2
          go_roundw
          case rel => exact ⟨8, by omega, rfl, letter_miss 7 rfl HN.out (by omega), by first | exact hbel.alloc hbs _ | (repeat (first | exact hbel.alloc hbs _ | refine Below.setCell ?_ (by simp; omega) _))⟩
          case measure => simp [intOf]
      · go_wp2
        go_roundw
        case rel => exact ⟨8, by omega, rfl, letter_miss 7 rfl HN.out (by omega), by first | exact hbel.alloc hbs _ | (repeat (first | exact hbel.alloc hbs _ | refine Below.setCell ?_ (by simp; omega) _))⟩
        case measure => simp [intOf]
    | 8, _ =>
      by_cases h1 : 1024 ≤ c
      · by_cases h2 : c ≤ 1119
        · have he := Lib.hid (letter_hit 8 rfl h1 h2)
          go_wp2
          go_ret
          exact ⟨ret_bool he.out.symm, by first | exact hbel.alloc hbs _ | (repeat (first | exact hbel.alloc hbs _ | refine Below.setCell ?_ (by simp; omega) _))⟩
        · go_wp2
          go_roundw
          case rel => exact ⟨9, by omega, rfl, letter_miss 8 rfl HN.out (by omega), by first | exact hbel.alloc hbs _ | (repeat (first | exact hbel.alloc hbs _ | refine Below.setCell ?_ (by simp; omega) _))⟩
          case measure => simp [intOf]
      · go_wp2
        go_roundw
        case rel => exact ⟨9, by omega, rfl, letter_miss 8 rfl HN.out (by omega), by first | exact hbel.alloc hbs _ | (repeat (first | exact hbel.alloc hbs _ | refine Below.setCell ?_ (by simp; omega) _))⟩
        case measure => simp [intOf]
    | 9, _ =>
      have he := Lib.hid (letter_none HN.out)
      go_wp2
      go_ret
      exact ⟨ret_bool he.out.symm, hbel⟩
    | n + 10, h => exact absurd h (by omega)

set_option maxHeartbeats 2000000 in
theorem small_any (c : Int) (w : World) (ht : Tabs w) (hlo : -9223372036854775808 ≤ c) (hhi : c ≤ 9223372036854775807) : Calls Tryz.prog 71 #[.int .i64 c] w fun e w' => e = .returned (.int .i64 (small c)) ∧ Below w.heap.size w w' := by
  obtain ⟨tt, fr, hg⟩ := ht.shifts
  go_enter Tryz.func71, Tryz.ntmps71
  go_wp2_with (refine wpList_load_row rfl 124 _ rfl 1 rfl tt shiftCells fr _ hg Tryz.underlying124 rfl (by kernel_rfl) ?_)
  have i0 : ∀ w, (Instr.index 124 (.agg shiftCells) (.int .i64 0)).run Tryz.prog w = .ok (.agg #[.int .i64 65, .int .i64 90, .int .i64 32]) w := fun _ => by kernel_rfl
  have i1 : ∀ w, (Instr.index 124 (.agg shiftCells) (.int .i64 1)).run Tryz.prog w = .ok (.agg #[.int .i64 192, .int .i64 214, .int .i64 32]) w := fun _ => by kernel_rfl
  have i2 : ∀ w, (Instr.index 124 (.agg shiftCells) (.int .i64 2)).run Tryz.prog w = .ok (.agg #[.int .i64 216, .int .i64 222, .int .i64 32]) w := fun _ => by kernel_rfl
  have i3 : ∀ w, (Instr.index 124 (.agg shiftCells) (.int .i64 3)).run Tryz.prog w = .ok (.agg #[.int .i64 913, .int .i64 929, .int .i64 32]) w := fun _ => by kernel_rfl
  have i4 : ∀ w, (Instr.index 124 (.agg shiftCells) (.int .i64 4)).run Tryz.prog w = .ok (.agg #[.int .i64 931, .int .i64 937, .int .i64 32]) w := fun _ => by kernel_rfl
  have i5 : ∀ w, (Instr.index 124 (.agg shiftCells) (.int .i64 5)).run Tryz.prog w = .ok (.agg #[.int .i64 1024, .int .i64 1039, .int .i64 80]) w := fun _ => by kernel_rfl
  have i6 : ∀ w, (Instr.index 124 (.agg shiftCells) (.int .i64 6)).run Tryz.prog w = .ok (.agg #[.int .i64 1040, .int .i64 1071, .int .i64 32]) w := fun _ => by kernel_rfl
  clear hg ht
  go_loopw [6] (fun i wr => ∃ k : Nat, k ≤ 7 ∧ i = .int .i64 k ∧ noneToS k c = true ∧ Below w.heap.size w wr) (fun i _ => 7 - (intOf i).toNat)
  case atStart => exact ⟨0, by omega, rfl, rfl, Below.refl _ _⟩
  case round =>
    obtain ⟨k, hk, rfl, hno, hbel⟩ := hrel
    have HN := Lib.hid hno; clear hno
    have hbs := hbel.size
    match k, hk with
    | 0, _ =>
      by_cases h1 : 65 ≤ c
      · by_cases h2 : c ≤ 90
        · have he := Lib.hid (small_hit 0 rfl HN.out h1 h2)
          go_wp2
          go_ret
          exact ⟨ret_int' he.out.symm, by first | exact hbel.alloc hbs _ | (repeat (first | exact hbel.alloc hbs _ | refine Below.setCell ?_ (by simp; omega) _))⟩
        · go_wp2
          go_roundw
          case rel => exact ⟨1, by omega, rfl, small_miss 0 rfl HN.out (by omega), by first | exact hbel.alloc hbs _ | (repeat (first | exact hbel.alloc hbs _ | refine Below.setCell ?_ (by simp; omega) _))⟩
          case measure => simp [intOf]
      · go_wp2
        go_roundw
        case rel => exact ⟨1, by omega, rfl, small_miss 0 rfl HN.out (by omega), by first | exact hbel.alloc hbs _ | (repeat (first | exact hbel.alloc hbs _ | refine Below.setCell ?_ (by simp; omega) _))⟩
        case measure => simp [intOf]
    | 1, _ =>
      by_cases h1 : 192 ≤ c
      · by_cases h2 : c ≤ 214
        · have he := Lib.hid (small_hit 1 rfl HN.out h1 h2)
          go_wp2
          go_ret
          exact ⟨ret_int' he.out.symm, by first | exact hbel.alloc hbs _ | (repeat (first | exact hbel.alloc hbs _ | refine Below.setCell ?_ (by simp; omega) _))⟩
        · go_wp2
          go_roundw
          case rel => exact ⟨2, by omega, rfl, small_miss 1 rfl HN.out (by omega), by first | exact hbel.alloc hbs _ | (repeat (first | exact hbel.alloc hbs _ | refine Below.setCell ?_ (by simp; omega) _))⟩
          case measure => simp [intOf]
      · go_wp2
        go_roundw
        case rel => exact ⟨2, by omega, rfl, small_miss 1 rfl HN.out (by omega), by first | exact hbel.alloc hbs _ | (repeat (first | exact hbel.alloc hbs _ | refine Below.setCell ?_ (by simp; omega) _))⟩
        case measure => simp [intOf]
    | 2, _ =>
      by_cases h1 : 216 ≤ c
      · by_cases h2 : c ≤ 222
        · have he := Lib.hid (small_hit 2 rfl HN.out h1 h2)
          go_wp2
          go_ret
          exact ⟨ret_int' he.out.symm, by first | exact hbel.alloc hbs _ | (repeat (first | exact hbel.alloc hbs _ | refine Below.setCell ?_ (by simp; omega) _))⟩
        · go_wp2
          go_roundw
          case rel => exact ⟨3, by omega, rfl, small_miss 2 rfl HN.out (by omega), by first | exact hbel.alloc hbs _ | (repeat (first | exact hbel.alloc hbs _ | refine Below.setCell ?_ (by simp; omega) _))⟩
          case measure => simp [intOf]
      · go_wp2
        go_roundw
        case rel => exact ⟨3, by omega, rfl, small_miss 2 rfl HN.out (by omega), by first | exact hbel.alloc hbs _ | (repeat (first | exact hbel.alloc hbs _ | refine Below.setCell ?_ (by simp; omega) _))⟩
        case measure => simp [intOf]
    | 3, _ =>
      by_cases h1 : 913 ≤ c
      · by_cases h2 : c ≤ 929
        · have he := Lib.hid (small_hit 3 rfl HN.out h1 h2)
          go_wp2
          go_ret
          exact ⟨ret_int' he.out.symm, by first | exact hbel.alloc hbs _ | (repeat (first | exact hbel.alloc hbs _ | refine Below.setCell ?_ (by simp; omega) _))⟩
        · go_wp2
          go_roundw
          case rel => exact ⟨4, by omega, rfl, small_miss 3 rfl HN.out (by omega), by first | exact hbel.alloc hbs _ | (repeat (first | exact hbel.alloc hbs _ | refine Below.setCell ?_ (by simp; omega) _))⟩
          case measure => simp [intOf]
      · go_wp2
        go_roundw
        case rel => exact ⟨4, by omega, rfl, small_miss 3 rfl HN.out (by omega), by first | exact hbel.alloc hbs _ | (repeat (first | exact hbel.alloc hbs _ | refine Below.setCell ?_ (by simp; omega) _))⟩
        case measure => simp [intOf]
    | 4, _ =>
      by_cases h1 : 931 ≤ c
      · by_cases h2 : c ≤ 937
        · have he := Lib.hid (small_hit 4 rfl HN.out h1 h2)
          go_wp2
          go_ret
          exact ⟨ret_int' he.out.symm, by first | exact hbel.alloc hbs _ | (repeat (first | exact hbel.alloc hbs _ | refine Below.setCell ?_ (by simp; omega) _))⟩
        · go_wp2
          go_roundw
          case rel => exact ⟨5, by omega, rfl, small_miss 4 rfl HN.out (by omega), by first | exact hbel.alloc hbs _ | (repeat (first | exact hbel.alloc hbs _ | refine Below.setCell ?_ (by simp; omega) _))⟩
          case measure => simp [intOf]
      · go_wp2
        go_roundw
        case rel => exact ⟨5, by omega, rfl, small_miss 4 rfl HN.out (by omega), by first | exact hbel.alloc hbs _ | (repeat (first | exact hbel.alloc hbs _ | refine Below.setCell ?_ (by simp; omega) _))⟩
        case measure => simp [intOf]
    | 5, _ =>
      by_cases h1 : 1024 ≤ c
      · by_cases h2 : c ≤ 1039
        · have he := Lib.hid (small_hit 5 rfl HN.out h1 h2)
          go_wp2
          go_ret
          exact ⟨ret_int' he.out.symm, by first | exact hbel.alloc hbs _ | (repeat (first | exact hbel.alloc hbs _ | refine Below.setCell ?_ (by simp; omega) _))⟩
        · go_wp2
          go_roundw
          case rel => exact ⟨6, by omega, rfl, small_miss 5 rfl HN.out (by omega), by first | exact hbel.alloc hbs _ | (repeat (first | exact hbel.alloc hbs _ | refine Below.setCell ?_ (by simp; omega) _))⟩
          case measure => simp [intOf]
      · go_wp2
        go_roundw
        case rel => exact ⟨6, by omega, rfl, small_miss 5 rfl HN.out (by omega), by first | exact hbel.alloc hbs _ | (repeat (first | exact hbel.alloc hbs _ | refine Below.setCell ?_ (by simp; omega) _))⟩
        case measure => simp [intOf]
    | 6, _ =>
      by_cases h1 : 1040 ≤ c
      · by_cases h2 : c ≤ 1071
        · have he := Lib.hid (small_hit 6 rfl HN.out h1 h2)
          go_wp2
          go_ret
          exact ⟨ret_int' he.out.symm, by first | exact hbel.alloc hbs _ | (repeat (first | exact hbel.alloc hbs _ | refine Below.setCell ?_ (by simp; omega) _))⟩
        · go_wp2
          go_roundw
          case rel => exact ⟨7, by omega, rfl, small_miss 6 rfl HN.out (by omega), by first | exact hbel.alloc hbs _ | (repeat (first | exact hbel.alloc hbs _ | refine Below.setCell ?_ (by simp; omega) _))⟩
          case measure => simp [intOf]
      · go_wp2
        go_roundw
        case rel => exact ⟨7, by omega, rfl, small_miss 6 rfl HN.out (by omega), by first | exact hbel.alloc hbs _ | (repeat (first | exact hbel.alloc hbs _ | refine Below.setCell ?_ (by simp; omega) _))⟩
        case measure => simp [intOf]
    | 7, _ =>
      have he := Lib.hid (small_none HN.out)
      go_wp2
      go_ret
      exact ⟨ret_int' he.out.symm, hbel⟩
    | n + 8, h => exact absurd h (by omega)

end Go.Proofs.YteegbjjpjdlcmaaGreatDoor
