/- token.Places. -/
import Derived.Test.YteegbjjpjdlcmaaDoorTerms
import Derived.Test.YteegbjjpjdlcmaaDoorSetLaw
import Derived.Test.YteegbjjpjdlcmaaDoorPost
import Derived.Test.YteegbjjpjdlcmaaDoorRefLaw
set_option linter.unusedVariables false
namespace Go.Proofs.YteegbjjpjdlcmaaDoor
open Go.RowKit Go.Sort

theorem strs_cellsP {w : World} {v : Value} {l : List (List UInt8)} (h : Rd w v l.length 1 (scells l)) :
    ∃ ao c, v = .slice ao l.length c ∧ l.length ≤ 9223372036854775807 ∧ Hid (∀ i (hi : i < l.length), ∃ b off, ao = some ⟨b, off, none⟩ ∧ w.cell? ⟨b, off + i, none⟩ = some (str l[i])) := by
  obtain ⟨-, hm, ⟨ao, c, rfl, h0⟩ | ⟨b, off, c, rfl, -, -, -, h3⟩⟩ := h
  · exact ⟨ao, c, by rw [h0], by omega, fun i hi => by omega⟩
  · exact ⟨_, c, rfl, by unfold maxLen at hm; omega, fun i hi => ⟨b, off, rfl, h3 i _ (by simp [scells, hi])⟩⟩

theorem terms_lenP (l : List UInt8) (hn : l.length ≤ 100000) : (terms l).length ≤ 100000 := by have := terms_len l; omega

theorem placesFrom_takeP (t : List UInt8) (l : List (List UInt8)) (k : Nat) (hk : k < l.length) : placesFrom 0 t (l.take (k + 1)) = placesFrom 0 t (l.take k) ++ (if l[k] = t then [(k : Int)] else []) := by
  rw [List.take_succ_eq_append_getElem hk, placesFrom_app]
  congr 1
  simp only [placesFrom]
  rw [List.length_take, Nat.min_eq_left (Nat.le_of_lt hk), Nat.zero_add]

set_option maxRecDepth 100000 in
set_option maxHeartbeats 4000000 in
theorem tplaces_any (v : Value) (l t : List UInt8) (w : World) (ht : Tabs w) (h : Rd w v l.length 1 (bcells l)) (hn : l.length ≤ 100000) :
    Calls Tryd.prog 80 #[v, .string (bstr t)] w (Gives w 3 1 (placesFrom 0 t (terms l)).length (icells (placesFrom 0 t (terms l)))) := by
  obtain ⟨i0, hi, hz0, hz1, hz2⟩ := info_parts infoInt
  have hT := terms_any v l w ht h hn
  have hlen := terms_lenP l hn
  generalize terms l = ts at *
  have HT := Lib.hid hT
  have HN : Hid (∀ z : Int, ∀ u ∈ [Value.int .i64 z], u.oneCell' = true) := fun z u hu => by simp at hu; subst hu; rfl
  clear hT h ht
  go_enter Tryd.func80, Tryd.ntmps80
  go_wp2_with (go_at_call 96; refine HT.out.mono ?_; rintro e w1 ⟨v1, rfl, hown1, hb1⟩; obtain ⟨a1, c1, rfl⟩ := own_shape hown1)
  obtain ⟨ao, c, hv, hm, HC⟩ := strs_cellsP (Rd.of_own hown1)
  simp only [Value.slice.injEq, true_and] at hv
  obtain ⟨rfl, rfl⟩ := hv
  have hsz1 := hb1.size
  clear hown1
  go_loopw [5, 11] (fun o i wr => ∃ k : Nat, k ≤ ts.length ∧ i = .int .i64 k ∧ wr.ownsRow w1.heap.size 3 1 o (placesFrom 0 t (ts.take k)).length (icells (placesFrom 0 t (ts.take k))) ∧ Below w1.heap.size w1 wr) (fun _ i _ => ts.length - (intOf i).toNat)
  case atStart => exact ⟨0, Nat.zero_le _, rfl, World.ownsRow_nil _ _ _ _, Below.refl _ _⟩
  case round =>
    obtain ⟨k, hk, rfl, hown, hbel⟩ := hrel
    have hsz := hbel.size
    obtain ⟨oa, oc, rfl⟩ := own_shape hown
    by_cases hlt : k < ts.length
    · obtain ⟨b, off, rfl, hc0⟩ := HC.out k hlt
      have hcur := cell_later hbel hc0
      have hpl := placesFrom_len t (ts.take k) 0
      have hpt := placesFrom_takeP t ts k hlt
      have hpb : (placesFrom 0 t (ts.take k)).length ≤ 100000 := by rw [List.length_take] at hpl; omega
      have ki : (k : Int) < (ts.length : Int) := by omega
      generalize placesFrom 0 t (ts.take k) = ps at *
      obtain ⟨x, hx⟩ : ∃ x, x = ts[k] := ⟨_, rfl⟩
      rw [← hx] at hcur hpt
      have e1 := btoList x
      have e2 := btoList t
      unfold str at hcur
      clear hx hc0 hpl
      by_cases hxt : x = t
      · have n1 : ((bstr x).toList == (bstr t).toList) = true := by rw [hxt]; exact beq_self_eq_true _
        rw [if_pos hxt] at hpt
        have HPT := Lib.hid hpt
        clear hpt hxt e1 e2
        go_wp2_with (at_builtin; refine wpList_app rfl _ _ _ _ rfl w1.heap.size 3 i0 _ 1 8 Tryd.underlying41 hi hz0 hz1 hz2 rfl (.slice oa ps.length oc) ps.length _ rfl (hown.alloc _) _ 1 [Value.int .i64 k] rfl (src_new Tryd.underlying41 wr _ 1 1 1 rfl (HN.out k)) (by unfold maxLen; omega) (by omega) (by simp; omega) ?_; intro v3 w3 hown3 hgr3 _ _)
        have hB3 : Below w1.heap.size w1 w3 := (hbel.alloc hsz _).grown hgr3 (by simp; omega) (fun j hj => (hown.lt j hj).1)
        clear hgr3
        go_wp2
        go_roundw
        case rel => exact ⟨k + 1, by omega, by go_num, by rw [HPT.out, List.length_append, icells_append]; exact hown3, hB3⟩
        case measure => simp [intOf]; omega
      · have n1 : ((bstr x).toList == (bstr t).toList) = false := by rw [e1, e2]; simpa using hxt
        rw [if_neg hxt, List.append_nil] at hpt
        have HPT := Lib.hid hpt
        clear hpt hxt e1 e2
        go_wp2
        go_roundw
        case rel => exact ⟨k + 1, by omega, by go_num, by rw [HPT.out]; exact hown, hbel⟩
        case measure => simp [intOf]; omega
    · have hke : ts.take k = ts := List.take_of_length_le (by omega)
      have ki : ¬ (k : Int) < (ts.length : Int) := by omega
      rw [hke] at hown ⊢
      have HO := Lib.hid hown
      clear hown hke
      go_wp2
      go_ret
      exact ⟨_, rfl, own_mono HO.out hsz1, hb1.trans (hbel.mono hsz1)⟩

end Go.Proofs.YteegbjjpjdlcmaaDoor
