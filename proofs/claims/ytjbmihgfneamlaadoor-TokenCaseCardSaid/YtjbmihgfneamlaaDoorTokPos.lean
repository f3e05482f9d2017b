/- token.Positions; rubrickref05.Positions. -/
import Derived.Test.YtjbmihgfneamlaaDoorTokSet
set_option linter.unusedVariables false
namespace Go.Proofs.YtjbmihgfneamlaaDoor
open Go.RowKit Go.Sort

theorem atsFrom_take (l : List (List UInt8)) (k : Nat) (hk : k < l.length) : atsFrom 0 (l.take (k + 1)) = atsFrom 0 (l.take k) ++ [(l[k], (k : Int))] := by
  rw [List.take_succ_eq_append_getElem hk, atsFrom_app]
  congr 1
  simp only [atsFrom]
  rw [List.length_take, Nat.min_eq_left (Nat.le_of_lt hk), Nat.zero_add]

set_option maxRecDepth 100000 in
set_option maxHeartbeats 4000000 in
theorem tpos_any (v : Value) (l : List UInt8) (w : World) (ht : Tabs w) (h : Rd w v l.length 1 (bcells l)) (hn : l.length ≤ 100000) :
    Calls Tryd.prog 30 #[v] w (Gives w 50 2 (positions (terms l)).length (acells (positions (terms l)))) := by
  obtain ⟨i0, hi, hz0, hz1, hz2⟩ := info_parts infoAt
  have hT := terms_any v l w ht h hn
  have hlen := terms_len' l hn
  have hpo : Hid (positions (terms l) = rise ltAt (atsFrom 0 (terms l))) := rfl
  generalize terms l = ts at *
  have HT := Lib.hid hT
  have HN : Hid (∀ (x : List UInt8) (z : Int), ∀ u ∈ [Value.string (bstr x), .int .i64 z], u.oneCell' = true) := fun x z u hu => by simp at hu; rcases hu with rfl | rfl <;> rfl
  clear hT h ht
  go_enter Tryd.func30, Tryd.ntmps30
  go_wp2_with (go_at_call 24; refine HT.out.mono ?_; rintro e w1 ⟨v1, rfl, hown1, hb1⟩; obtain ⟨a1, c1, rfl⟩ := own_shape hown1)
  obtain ⟨ao, c, hv, hm, HC⟩ := strs_cells (Rd.of_own hown1)
  simp only [Value.slice.injEq, true_and] at hv
  obtain ⟨rfl, rfl⟩ := hv
  have hsz1 := hb1.size
  clear hown1
  go_loopw [3, 9] (fun o i wr => ∃ k : Nat, k ≤ ts.length ∧ i = .int .i64 k ∧ wr.ownsRow w1.heap.size 50 2 o (atsFrom 0 (ts.take k)).length (acells (atsFrom 0 (ts.take k))) ∧ Below w1.heap.size w1 wr) (fun _ i _ => ts.length - (intOf i).toNat)
  case atStart => exact ⟨0, Nat.zero_le _, rfl, World.ownsRow_nil _ _ _ _, Below.refl _ _⟩
  case round =>
    obtain ⟨k, hk, rfl, hown, hbel⟩ := hrel
    have hsz := hbel.size
    obtain ⟨oa, oc, rfl⟩ := own_shape hown
    have hal := atsFrom_len (ts.take k) 0
    have hap : (atsFrom 0 (ts.take k)).length ≤ 100000 := by rw [hal, List.length_take]; omega
    by_cases hlt : k < ts.length
    · obtain ⟨b, off, rfl, hc0⟩ := HC.out k hlt
      have hcur := cell_later hbel hc0
      have hpt := atsFrom_take ts k hlt
      have ki : (k : Int) < (ts.length : Int) := by omega
      generalize atsFrom 0 (ts.take k) = ps at *
      obtain ⟨x, hx⟩ : ∃ x, x = ts[k] := ⟨_, rfl⟩
      rw [← hx] at hcur hpt
      unfold str at hcur
      have HPT := Lib.hid hpt
      clear hx hc0 hal hpt
      go_wp2_with (at_builtin; refine wpList_app rfl _ _ _ _ rfl w1.heap.size 50 i0 _ 2 24 Tryd.underlying45 hi hz0 hz1 hz2 rfl (.slice oa ps.length oc) ps.length _ rfl (hown.alloc _) _ 1 [Value.string (bstr x), .int .i64 k] rfl (src_new Tryd.underlying45 wr _ 2 1 1 rfl (HN.out x k)) (by unfold maxLen; omega) (by omega) (by simp; omega) ?_; intro v3 w3 hown3 hgr3 _ _)
      have hB3 : Below w1.heap.size w1 w3 := (hbel.alloc hsz _).grown hgr3 (by simp; omega) (fun j hj => (hown.lt j hj).1)
      clear hgr3
      go_wp2
      go_roundw
      case rel => exact ⟨k + 1, by omega, by go_num, by rw [HPT.out, List.length_append, acells_append]; exact hown3, hB3⟩
      case measure => simp [intOf]; omega
    · have hke : ts.take k = ts := List.take_of_length_le (by omega)
      have ki : ¬ (k : Int) < (ts.length : Int) := by omega
      rw [hke] at hown hap ⊢
      have HR := Lib.hid (risingA_any (.slice oa (atsFrom 0 ts).length oc) _ _ (atsFrom 0 ts) wr rfl hap hown)
      clear hown hke hal
      go_wp2_with (go_at_call 50; refine HR.out.mono ?_; rintro e w2 ⟨v2, rfl, hown2, hb2⟩)
      go_ret
      rw [hpo.out]
      have hB := hb1.trans (hbel.mono hsz1)
      exact ⟨_, rfl, own_mono hown2 hB.size, hB.trans (hb2.mono hB.size)⟩
end Go.Proofs.YtjbmihgfneamlaaDoor
