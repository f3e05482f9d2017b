/- post.In, post.Both, post.Either, post.But: of posting lists. -/
import Derived.Test.YteegbjjpjdlcmaaDoorPick
set_option linter.unusedVariables false
namespace Go.Proofs.YteegbjjpjdlcmaaDoor
open Go.RowKit Go.Sort

def keepBoth (_ : Int) (x y : Bool) : Bool := x && y
def keepEither (_ : Int) (x y : Bool) : Bool := x || y
def keepBut (_ : Int) (x y : Bool) : Bool := x && !y

theorem both1_any (n : Int) (x y : Bool) (W : World) : Calls Tryd.prog 71 #[.int .i64 n, .bool x, .bool y] W fun e w' => e = .returned (.bool (keepBoth n x y)) ∧ W = w' := by
  cases x <;> cases y
  all_goals
    go_enter Tryd.func71, Tryd.ntmps71
    go_wp2
    go_ret
    exact ⟨rfl, rfl⟩
theorem either1_any (n : Int) (x y : Bool) (W : World) : Calls Tryd.prog 72 #[.int .i64 n, .bool x, .bool y] W fun e w' => e = .returned (.bool (keepEither n x y)) ∧ W = w' := by
  cases x <;> cases y
  all_goals
    go_enter Tryd.func72, Tryd.ntmps72
    go_wp2
    go_ret
    exact ⟨rfl, rfl⟩
theorem but1_any (n : Int) (x y : Bool) (W : World) : Calls Tryd.prog 73 #[.int .i64 n, .bool x, .bool y] W fun e w' => e = .returned (.bool (keepBut n x y)) ∧ W = w' := by
  cases x <;> cases y
  all_goals
    go_enter Tryd.func73, Tryd.ntmps73
    go_wp2
    go_ret
    exact ⟨rfl, rfl⟩

section
variable (va vb : Value) (na nb : Nat) (A B : List Int) (w : World) (hna : A.length = na) (hnb : B.length = nb) (ha : Rd w va na 1 (icells A)) (hb : Rd w vb nb 1 (icells B)) (hA : postRight A = true) (hB : postRight B = true) (hn : na + nb ≤ 100000)

include hna hnb ha hb hA hB hn
theorem both_any : Calls Tryd.prog 44 #[va, vb] w (Gives w 3 1 (pickL keepBoth A B).length (icells (pickL keepBoth A B))) := by
  have eg : ∀ args w, (callFunc 71 args).run Tryd.prog w = .ok (.enter 71 args) w := enters_of Tryd.func71 (by kernel_rfl) rfl
  have HP := Lib.hid (pick_any keepBoth 71 #[] va vb na nb A B w eg (fun n x y W _ => both1_any n x y W) hna hnb ha hb hA hB hn)
  clear eg ha hb hA hB hna hnb
  go_enter Tryd.func44, Tryd.ntmps44
  go_wp2_with (go_at_call 70; refine HP.out.mono ?_; rintro e w1 ⟨v1, rfl, hown1, hb1⟩)
  go_ret
  exact ⟨_, rfl, hown1, hb1⟩
theorem either_any : Calls Tryd.prog 45 #[va, vb] w (Gives w 3 1 (pickL keepEither A B).length (icells (pickL keepEither A B))) := by
  have eg : ∀ args w, (callFunc 72 args).run Tryd.prog w = .ok (.enter 72 args) w := enters_of Tryd.func72 (by kernel_rfl) rfl
  have HP := Lib.hid (pick_any keepEither 72 #[] va vb na nb A B w eg (fun n x y W _ => either1_any n x y W) hna hnb ha hb hA hB hn)
  clear eg ha hb hA hB hna hnb
  go_enter Tryd.func45, Tryd.ntmps45
  go_wp2_with (go_at_call 70; refine HP.out.mono ?_; rintro e w1 ⟨v1, rfl, hown1, hb1⟩)
  go_ret
  exact ⟨_, rfl, hown1, hb1⟩
theorem but_any : Calls Tryd.prog 46 #[va, vb] w (Gives w 3 1 (pickL keepBut A B).length (icells (pickL keepBut A B))) := by
  have eg : ∀ args w, (callFunc 73 args).run Tryd.prog w = .ok (.enter 73 args) w := enters_of Tryd.func73 (by kernel_rfl) rfl
  have HP := Lib.hid (pick_any keepBut 73 #[] va vb na nb A B w eg (fun n x y W _ => but1_any n x y W) hna hnb ha hb hA hB hn)
  clear eg ha hb hA hB hna hnb
  go_enter Tryd.func46, Tryd.ntmps46
  go_wp2_with (go_at_call 70; refine HP.out.mono ?_; rintro e w1 ⟨v1, rfl, hown1, hb1⟩)
  go_ret
  exact ⟨_, rfl, hown1, hb1⟩
end

theorem in1_any (n : Int) (x y : Bool) (f t : Int) (bx : Nat) (W : World) (h0 : W.cell? ⟨bx, 0, none⟩ = some (.int .i64 f)) (h1 : W.cell? ⟨bx, 1, none⟩ = some (.int .i64 t)) :
    Calls Tryd.prog 88 #[.int .i64 n, .bool x, .bool y, .pointer (some ⟨bx, 0, none⟩)] W fun e w' => e = .returned (.bool (inSpan f t n)) ∧ W = w' := by
  by_cases h2 : f ≤ n
  · by_cases h3 : n < t
    · have hr : Hid (inSpan f t n = true) := by show _ = _; simp [inSpan, h2, h3]
      go_enter Tryd.func88, Tryd.ntmps88
      go_wp2
      go_ret
      exact ⟨by rw [hr.out]; first | rfl | simp [h2, h3], rfl⟩
    · have hr : Hid (inSpan f t n = false) := by show _ = _; simp [inSpan, h3]
      go_enter Tryd.func88, Tryd.ntmps88
      go_wp2
      go_ret
      exact ⟨by rw [hr.out]; first | rfl | simp [h2, h3], rfl⟩
  · have hr : Hid (inSpan f t n = false) := by show _ = _; simp [inSpan, h2]
    go_enter Tryd.func88, Tryd.ntmps88
    go_wp2
    go_ret
    exact ⟨by rw [hr.out]; first | rfl | simp [h2], rfl⟩

set_option maxRecDepth 100000 in
set_option maxHeartbeats 4000000 in
theorem in_any (va : Value) (na : Nat) (A : List Int) (f t : Int) (w : World) (hna : A.length = na) (ha : Rd w va na 1 (icells A)) (hA : postRight A = true) (hn : na ≤ 100000) :
    Calls Tryd.prog 58 #[va, .agg #[.int .i64 f, .int .i64 t]] w (Gives w 3 1 (A.filter (inSpan f t)).length (icells (A.filter (inSpan f t)))) := by
  have eg : ∀ args w, (callFunc 88 args).run Tryd.prog w = .ok (.enter 88 args) w := enters_of Tryd.func88 (by kernel_rfl) rfl
  have hb0 : Below w.heap.size w (w.alloc (.cells #[.int .i64 f, .int .i64 t] 23)) := (Below.refl _ _).alloc (Nat.le_refl _) _
  have hnew := heap_alloc_new w (.cells #[.int .i64 f, .int .i64 t] 23)
  have c0 : (w.alloc (.cells #[.int .i64 f, .int .i64 t] 23)).cell? ⟨w.heap.size, 0, none⟩ = some (.int .i64 f) := by rw [cell_of_row _ _ _ _ _ _ hnew]; rfl
  have c1 : (w.alloc (.cells #[.int .i64 f, .int .i64 t] 23)).cell? ⟨w.heap.size, 1, none⟩ = some (.int .i64 t) := by rw [cell_of_row _ _ _ _ _ _ hnew]; rfl
  have hp := pick_any (fun n _ _ => inSpan f t n) 88 #[.pointer (some ⟨w.heap.size, 0, none⟩)] va (.slice none 0 0) na 0 A [] (w.alloc (.cells #[.int .i64 f, .int .i64 t] 23)) eg
    (fun n x y W hW => in1_any n x y f t w.heap.size W (cell_later hW c0) (cell_later hW c1)) hna rfl (ha.below hb0) ⟨rfl, Nat.zero_le _, .inl ⟨_, _, rfl, rfl⟩⟩ hA rfl (by omega)
  rw [pick_span] at hp
  have HP := Lib.hid hp
  have HB := Lib.hid hb0
  have hsz : w.heap.size ≤ (w.alloc (.cells #[.int .i64 f, .int .i64 t] 23)).heap.size := by simp
  have HSZ := Lib.hid hsz
  clear eg ha hA hna hp hb0 hnew c0 c1 hsz
  go_enter Tryd.func58, Tryd.ntmps58
  go_wp2_with (go_at_call 70; refine HP.out.mono ?_; rintro e w1 ⟨v1, rfl, hown1, hb1⟩)
  go_ret
  exact ⟨_, rfl, own_mono hown1 HSZ.out, HB.out.trans (hb1.mono HSZ.out)⟩
end Go.Proofs.YteegbjjpjdlcmaaDoor
