/- slices.Clone at spans: a new slice with the same spans. -/
import Derived.Test.YteegbjjpjdlcmaaDoorMem
namespace Go.Proofs.YteegbjjpjdlcmaaDoor
open Go.RowKit

theorem infoSpan : (Tryd.prog.info? 23).map (fun i => (i.zero, i.size, i.bytes)) = some (some (.agg #[.int .i64 0, .int .i64 0]), 2, 16) := by kernel_rfl

set_option maxHeartbeats 400000 in
theorem clone_any (v : Value) (n : Nat) (cells : List Value) (w : World) (h : Rd w v n 2 cells) (h1 : ∀ u ∈ cells, u.oneCell' = true) (hn : n * 16 ≤ 140737488355328) :
    Calls Tryd.prog 53 #[v] w (Gives w 23 2 n cells) := by
  obtain ⟨i0, hi, hz0, hz1, hz2⟩ := info_parts infoSpan
  have hsrc := fun (w' : World) (hb : Below w.heap.size w w') => (h.below hb).src (P := Tryd.prog) (tx := 65) Tryd.underlying65 h1
  have hH := Lib.hid hsrc; clear hsrc
  obtain ⟨ao, m, c, hv, hm, hnil⟩ : ∃ ao m c, v = .slice ao m c ∧ n = m ∧ (ao = none → n = 0 ∧ cells = []) := by
    obtain ⟨hl, -, ⟨ao, c, rfl, rfl⟩ | ⟨b, off, c, rfl, h0, -, -, -⟩⟩ := h
    · exact ⟨ao, 0, c, rfl, rfl, fun _ => ⟨rfl, List.eq_nil_of_length_eq_zero (by simpa using hl)⟩⟩
    · exact ⟨_, n, c, rfl, rfl, fun h => by cases h⟩
  subst hv hm
  have heq := fun (w' : World) => Lib.run_eql_slice_nil (P := Tryd.prog) w' 65 23 ao n c 0 0 Tryd.underlying65
  have hm := h.2.1
  have HM := Lib.hid hm; clear hm
  cases ao with
  | none =>
    obtain ⟨rfl, rfl⟩ := hnil rfl
    clear h h1 hH HM
    go_enter Tryd.func53, Tryd.ntmps53
    go_wp2
    go_ret
    exact ⟨_, rfl, World.ownsRow_nil _ _ _ _, Below.refl _ _⟩
  | some a =>
    clear h hnil
    go_enter Tryd.func53, Tryd.ntmps53
    go_wp2_with (at_builtin; refine wpList_app rfl _ _ _ _ rfl w.heap.size 23 i0 _ 2 16 Tryd.underlying65 hi hz0 hz1 hz2 rfl _ 0 [] rfl (World.ownsRow_made w #[] 0 (Nat.le_refl _) (Nat.zero_le _) rfl) _ n cells rfl (hH.out _ ((Below.refl _ _).alloc (Nat.le_refl _) _)) (by have := HM.out; omega) (by omega) (by simp) ?_)
    intro v' w1 hown hgr _ _
    have hb : Below w.heap.size w w1 := ((Below.refl _ _).alloc (Nat.le_refl _) _).grown hgr (by simp) (by intro k hk; simp [Value.ownBlock] at hk; omega)
    clear hgr
    go_wp2
    go_ret
    exact ⟨v', rfl, hown, hb⟩
end Go.Proofs.YteegbjjpjdlcmaaDoor
