/- post.Right, post.pick, post.In, post.Both, post.Either, post.But. -/
import Derived.Test.YteegbjjpjdlcmaaGreatDoorPostLaw
import Derived.Test.YteegbjjpjdlcmaaGreatDoorTerms
import Derived.Lib.QuietBelow
import Derived.BigQuiet
set_option linter.unusedVariables false
namespace Go.Proofs.YteegbjjpjdlcmaaGreatDoor
open Go.RowKit Go.Sort

theorem ints_cells {w : World} {v : Value} {n : Nat} {l : List Int} (hn : l.length = n) (h : Rd w v n 1 (icells l)) :
    ∃ ao c, v = .slice ao n c ∧ n ≤ 9223372036854775807 ∧ Hid (∀ i (hi : i < l.length), ∃ b off, ao = some ⟨b, off, none⟩ ∧ w.cell? ⟨b, off + i, none⟩ = some (.int .i64 l[i])) := by
  subst hn
  obtain ⟨-, hm, ⟨ao, c, rfl, h0⟩ | ⟨b, off, c, rfl, -, -, -, h3⟩⟩ := h
  · exact ⟨ao, c, by rw [h0], by omega, fun i hi => by omega⟩
  · exact ⟨_, c, rfl, by unfold maxLen at hm; omega, fun i hi => ⟨b, off, rfl, h3 i _ (by simp [icells, hi])⟩⟩

set_option maxRecDepth 100000 in
set_option maxHeartbeats 4000000 in
theorem postright_any (v : Value) (n : Nat) (l : List Int) (w : World) (hn : l.length = n) (h : Rd w v n 1 (icells l)) :
    Calls Tryz.prog 34 #[v] w fun e w' => e = .returned (.bool (postRight l)) ∧ w = w' := by
  obtain ⟨ao, c, rfl, hm, HC⟩ := ints_cells hn h
  have HN := Lib.hid hn
  clear h hn
  go_enter Tryz.func34, Tryz.ntmps34
  go_wp2
  go_loopw [3, 8] (fun pv i wr => ∃ (k : Nat) (p : Int), k ≤ n ∧ i = .int .i64 k ∧ pv = .int .i64 p ∧ Hid (postRight l = postGo p (l.drop k)) ∧ wr = w) (fun _ i _ => n - (intOf i).toNat)
  case atStart => exact ⟨0, -1, Nat.zero_le _, rfl, rfl, rfl, by first | rfl | trivial⟩
  case round =>
    obtain ⟨k, p, hk, rfl, rfl, HP, rfl⟩ := hrel
    by_cases hlt : k < n
    · have hkl : k < l.length := by have := HN.out; omega
      obtain ⟨b, off, rfl, hc⟩ := HC.out k hkl
      have ki : (k : Int) < (n : Int) := by omega
      have HS : Hid (postGo p (l.drop k) = (decide (p < l[k]) && decide (l[k] < 1000) && postGo l[k] (l.drop (k + 1)))) := by
        show _ = _
        rw [List.drop_eq_getElem_cons hkl, postGo_cons]
      generalize l[k] = x at *
      by_cases h1 : p < x
      · have h1' : ¬ x ≤ p := by omega
        by_cases h2 : x < 1000
        · have h2' : ¬ (1000 : Int) ≤ x := by omega
          have HS2 : Hid (postRight l = postGo x (l.drop (k + 1))) := by show _ = _; rw [HP.out, HS.out, decide_eq_true h1, decide_eq_true h2]; rfl
          go_wp2
          go_roundw
          case rel => exact ⟨k + 1, x, by omega, by go_num, rfl, HS2.out, by first | rfl | trivial⟩
          case measure => simp [intOf]; omega
        · have h2' : (1000 : Int) ≤ x := by omega
          have HS2 : Hid (postRight l = false) := by show _ = _; rw [HP.out, HS.out, decide_eq_false h2]; simp
          go_wp2
          go_ret
          exact ⟨by rw [HS2.out]; rfl, rfl⟩
      · have h1' : x ≤ p := by omega
        have HS2 : Hid (postRight l = false) := by show _ = _; rw [HP.out, HS.out, decide_eq_false h1]; simp
        go_wp2
        go_ret
        exact ⟨by rw [HS2.out]; rfl, rfl⟩
    · have HS2 : Hid (postRight l = true) := by show _ = _; rw [HP.out, List.drop_of_length_le (by have := HN.out; omega)]; rfl
      have ki : ¬ (k : Int) < (n : Int) := by omega
      go_wp2
      go_ret
      exact ⟨by rw [HS2.out]; rfl, rfl⟩

/-- a part of a slice of one cell an element. -/
theorem Rd.part {w : World} {b off n c : Nat} {cells : List Value} (h : Rd w (.slice (some ⟨b, off, none⟩) n c) n 1 cells) (p m : Nat) (h0 : 0 < m) (hm : p + m ≤ n) :
    Rd w (.slice (some ⟨b, off + p, none⟩) m (c - p)) m 1 ((cells.drop p).take m) := by
  obtain ⟨hl, hmx, ⟨ao, c', hv, h0'⟩ | ⟨b', off', c', hv, hn0, hnc, hcm, hcell⟩⟩ := h
  · omega
  · simp only [Value.slice.injEq, Option.some.injEq, Addr.mk.injEq, and_true, true_and] at hv
    obtain ⟨⟨rfl, rfl⟩, rfl⟩ := hv
    refine ⟨by rw [List.length_take, List.length_drop]; omega, by omega, .inr ⟨b, off + p, c - p, rfl, h0, by omega, by omega, fun i u hu => ?_⟩⟩
    have hi : i < m := by
      have := (List.getElem?_eq_some_iff.1 hu).1
      rw [List.length_take] at this; omega
    rw [List.getElem?_take_of_lt hi, List.getElem?_drop] at hu
    rw [show off + p + i = off + (p + i) from by omega]
    exact hcell _ _ hu

theorem rd_tail {w : World} {b off n c : Nat} {x : Int} {l : List Int} (h : Rd w (.slice (some ⟨b, off, none⟩) (n + 1) c) (n + 1) 1 (icells (x :: l))) :
    (c = 1 → Rd w (.slice (some ⟨b, off, none⟩) n 0) n 1 (icells l)) ∧ (¬ c = 1 → Rd w (.slice (some ⟨b, off + 1, none⟩) n (c - 1)) n 1 (icells l)) := by
  have hl : l.length = n := by have := h.1; rw [icells_len] at this; simpa using this
  have hnc : n + 1 ≤ c := by
    obtain ⟨-, -, ⟨ao, c', hv, h0⟩ | ⟨b', off', c', hv, -, h2, -, -⟩⟩ := h
    · simp at h0
    · simp only [Value.slice.injEq] at hv; omega
  have hz : n = 0 → ∀ ao c', Rd w (.slice ao n c') n 1 (icells l) := fun h0 ao c' => by
    subst h0
    have : l = [] := List.length_eq_zero_iff.1 hl
    subst this
    exact ⟨rfl, Nat.zero_le _, .inl ⟨_, _, rfl, rfl⟩⟩
  constructor
  · intro hc
    exact hz (by omega) _ _
  · intro hc
    by_cases h0 : n = 0
    · exact hz h0 _ _
    · have := h.part 1 n (by omega) (by omega)
      rw [show ((icells (x :: l)).drop 1).take n = icells l from by simp [icells, List.take_of_length_le (show (l.map (Value.int .i64)).length ≤ n by simp [hl])]] at this
      exact this

theorem rd_head {w : World} {ao : Option Addr} {n c : Nat} {x : Int} {l : List Int} (h : Rd w (.slice ao n c) n 1 (icells (x :: l))) : ∃ b off, ao = some ⟨b, off, none⟩ ∧ w.cell? ⟨b, off, none⟩ = some (.int .i64 x) ∧ n ≤ c := by
  have hl := h.1
  rw [icells_len] at hl
  obtain ⟨-, -, ⟨ao', c', hv, h0⟩ | ⟨b', off', c', hv, -, h2, -, h3⟩⟩ := h
  · simp at hl; omega
  · simp only [Value.slice.injEq] at hv
    obtain ⟨rfl, -, rfl⟩ := hv
    exact ⟨b', off', rfl, h3 0 _ rfl, h2⟩

def PickPost (n : Nat) (l : List Int) (w : World) (e : Ending) (w' : World) : Prop := Gives w 3 1 l.length (icells l) e w' ∧ l.length ≤ n

end Go.Proofs.YteegbjjpjdlcmaaGreatDoor
