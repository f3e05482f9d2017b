/- token.rising at strings and at token.At. -/
import Derived.Test.YtjbmihgfneamlaaDoorCompA
import Derived.Lib.OwnBridge
set_option linter.unusedVariables false
namespace Go.Proofs.YtjbmihgfneamlaaDoor
open Go.RowKit Go.Sort

/-! ### the rows of the sort and owned rows -/
theorem own_putRow {w : World} {base : Nat} {e : TypeId} {sz g n cap q : Nat} {cells ys : List Value} (h : w.ownsRow base e sz (.slice (some ⟨g, 0, none⟩) n cap) n cells) (hy : ys.length = n * sz) :
    (putRow id (Sort.ahead w q) g 0 ys.toArray).ownsRow base e sz (.slice (some ⟨g, 0, none⟩) n cap) n ys := by
  rcases h.2 with ⟨e0, _⟩ | ⟨g', cap', cur, e0, hb, hg, hn, hm, hs, ht⟩
  · cases e0
  · injection e0 with e1 _ e3
    injection e1 with e1
    injection e1 with e1
    subst e1; subst e3
    have hle : n * sz ≤ cap * sz := Nat.mul_le_mul_right _ hn
    refine ⟨hy, .inr ⟨g, cap, putCells id 0 ys.toArray cur, rfl, hb, ?_, hn, hm, by simpa [putCells] using hs, ?_⟩⟩
    · simp [putRow, mapBlock, Sort.ahead, Array.getElem?_modify, hg, onCells]
    · apply List.ext_getElem?
      intro j
      rw [List.getElem?_take, Array.getElem?_toList]
      by_cases hj : j < n * sz
      · have hjc : j < cur.size := by omega
        simp only [if_pos hj, putCells, Array.getElem?_mapIdx, Array.getElem?_eq_getElem hjc, Option.map_some]
        rw [if_pos (by simp; omega), List.getElem?_eq_getElem (by omega)]
        simp [getElem!_pos, show j < ys.length by omega]
      · rw [if_neg hj, List.getElem?_eq_none (by omega)]

theorem own_holds {w : World} {base : Nat} {e : TypeId} {sz g n cap : Nat} {cells : List Value} (h : w.ownsRow base e sz (.slice (some ⟨g, 0, none⟩) n cap) n cells) : Holds id w g 0 cells.toArray := by
  intro j hj
  have hj' : j < cells.length := by simpa using hj
  have hl := h.1
  refine ⟨?_, ?_⟩
  · rw [Nat.zero_add, h.cellAt j (by omega), List.getElem?_eq_getElem hj']
    simp [hj']
  · rw [Nat.zero_add]; exact h.frozenAt j

def encA (s : List UInt8 × Int) : List Value := [str s.1, .int .i64 s.2]

theorem flatA (l : List (List UInt8 × Int)) : flatK encA 2 l.toArray = (acells l).toArray := by
  refine ext_get! (by simp [acells_len]) fun t ht => ?_
  have ht' : t < l.length * 2 := by simpa using ht
  rw [get_flatK _ _ _ _ (by simpa using ht')]
  have hk : t / 2 < l.length := by omega
  have hc := acell_at hk
  have e1 : l.toArray[t / 2]! = l[t / 2] := by simp [hk]
  rw [e1]
  have hlen : t < (acells l).toArray.size := by simp [acells_len]; omega
  rw [getElem!_pos _ t hlen]
  rcases Nat.mod_two_eq_zero_or_one t with hm | hm
  · rw [hm]
    have h2 := hc.1
    rw [show t / 2 * 2 = t from by omega] at h2
    have := List.getElem?_eq_some_iff.1 h2
    obtain ⟨_, h3⟩ := this
    simp [encA, h3]
  · rw [hm]
    have h2 := hc.2
    rw [show t / 2 * 2 + 1 = t from by omega] at h2
    have := List.getElem?_eq_some_iff.1 h2
    obtain ⟨_, h3⟩ := this
    simp [encA, h3]

theorem below_grow' {B : Nat} {w0 w : World} (h : Below B w0 w) (hB : B ≤ w.heap.size) (os : Array Obj) : Below B w0 (grow w os) :=
  h.trans ⟨rfl, rfl, rfl, by simp [grow], fun k hk => heap_grow_old w os (by omega)⟩

theorem scells_enc (l : List (List UInt8)) : scells l = l.map encStr := rfl

/-! ### slices.SortFunc -/
def SortPost (base : Nat) (E : TypeId) (sz n : Nat) (v : Value) (cells : List Value) (w : World) (e : Ending) (w' : World) : Prop :=
  e = .returned (.tuple #[]) ∧ w'.ownsRow base E sz v n cells ∧ Below base w w'

theorem sortS_any (g cap n base : Nat) (l : List (List UInt8)) (w : World) (hln : l.length = n) (hn : n ≤ 100000) (hown : w.ownsRow base 9 1 (.slice (some ⟨g, 0, none⟩) n cap) n (scells l)) :
    Calls Tryd.prog 69 #[.slice (some ⟨g, 0, none⟩) n cap, .func (.func 48) #[] #[]] w (SortPost base 9 1 n (.slice (some ⟨g, 0, none⟩) n cap) (scells (l.mergeSort fun x y => !ltStr y x)) w) := by
  obtain ⟨hnc, hcm, hbg, hgs⟩ := own_parts hown
  rcases Nat.eq_zero_or_pos n with h0 | h0
  · subst h0
    have hx : l = [] := List.length_eq_zero_iff.1 hln
    subst hx
    refine (Tryd.slices_SortFunc_none (α := Nat) (some ⟨g, 0, none⟩) cap _ w).mono ?_
    rintro e w' ⟨rfl, rfl⟩
    exact ⟨rfl, by simpa using hown, Below.refl _ _⟩
  · have eg : ∀ args w, (callFunc 48 args).run Tryd.prog w = .ok (.enter 48 args) w := enters_of Tryd.func48 (by kernel_rfl) rfl
    have hcmp : CmpLays1 Tryd.prog 48 #[] encStr cmpS g 0 l.toArray.size w := fun m os dk hdk x y => (cmpS_any x y _).mono fun e w' ⟨h1, h2⟩ => ⟨h1, 0, #[], by rw [grow_empty]; exact h2.symm⟩
    have hH : Holds encStr w g 0 l.toArray := by
      obtain ⟨g', cap', hv, _, _, _, _, _, hH⟩ := Lib.holds_of_ownsRow (enc := encStr) (zs := l) hown (by intro e; cases e)
      simp only [Value.slice.injEq, Option.some.injEq, Addr.mk.injEq, and_true, true_and] at hv
      rw [hv.1]; exact hH
    have hs := Tryd.slices_SortFunc_total encStr (fun _ => rfl) cmpS (by rw [ltOf_cmpS]; exact swo_ltStr) 48 #[] g 0 cap l.toArray w eg hcmp hH hgs (by simp; omega) (by rw [ltOf_cmpS]; exact totStr)
    rw [ltOf_cmpS] at hs
    simp only [List.size_toArray, hln] at hs
    refine hs.mono ?_
    rintro e w' ⟨rfl, nn, os, rfl⟩
    have hlen : (l.mergeSort fun x y => !ltStr y x).length = n := by rw [List.length_mergeSort]; exact hln
    have o1 := Lib.ownsRow_putRow (q := nn) (k := n) (ys := l.mergeSort fun x y => !ltStr y x) (zs := l) (enc := encStr) hown hlen (Nat.le_refl _)
    rw [List.take_of_length_le (by omega)] at o1
    have b1 : Below base w (putRow encStr (Sort.ahead w nn) g 0 (l.mergeSort fun x y => !ltStr y x).toArray) := Lib.below_putRow (Below.refl _ _) hbg
    exact ⟨rfl, own_below' o1 (below_grow' (Below.refl _ _) (Nat.le_refl _) os), below_grow' b1 (Nat.le_trans (by omega) b1.size) os⟩

theorem sortA_any (g cap n base : Nat) (l : List (List UInt8 × Int)) (w : World) (hln : l.length = n) (hn : n ≤ 100000) (hown : w.ownsRow base 50 2 (.slice (some ⟨g, 0, none⟩) n cap) n (acells l)) :
    Calls Tryd.prog 75 #[.slice (some ⟨g, 0, none⟩) n cap, .func (.func 51) #[] #[]] w (SortPost base 50 2 n (.slice (some ⟨g, 0, none⟩) n cap) (acells (l.mergeSort fun x y => !ltAt y x)) w) := by
  obtain ⟨hnc, hcm, hbg, hgs⟩ := own_parts hown
  rcases Nat.eq_zero_or_pos n with h0 | h0
  · subst h0
    have hx : l = [] := List.length_eq_zero_iff.1 hln
    subst hx
    refine (Tryd.slices_SortAt_none (α := Nat) (some ⟨g, 0, none⟩) cap _ w).mono ?_
    rintro e w' ⟨rfl, rfl⟩
    exact ⟨rfl, by simpa using hown, Below.refl _ _⟩
  · have eg : ∀ args w, (callFunc 51 args).run Tryd.prog w = .ok (.enter 51 args) w := enters_of Tryd.func51 (by kernel_rfl) rfl
    have hcmp : CmpLays Tryd.prog 51 #[] encA 2 cmpAt g 0 l.toArray.size w := fun m os dk hdk x y => pos1_any x y _
    have hH : HoldsK encA 2 w g 0 l.toArray := by
      unfold HoldsK
      rw [flatA]
      exact own_holds hown
    have hs := Tryd.slices_SortAt_total 2 Tryd.isAgg50 Tryd.sizeOf50 encA (fun _ => rfl) (fun x v hv => by simp only [encA, List.mem_cons, List.not_mem_nil, or_false] at hv; rcases hv with rfl | rfl <;> rfl) cmpAt (by rw [ltOf_cmpAt]; exact swoAt) 51 #[] g 0 cap l.toArray w eg hcmp hH hgs (by simp; omega) (by rw [ltOf_cmpAt]; exact totAt)
    rw [ltOf_cmpAt] at hs
    simp only [List.size_toArray, hln] at hs
    refine hs.mono ?_
    rintro e w' ⟨rfl, nn, os, rfl⟩
    have hlen : (acells (l.mergeSort fun x y => !ltAt y x)).length = n * 2 := by rw [acells_len, List.length_mergeSort, hln]
    unfold sortWorldK putRowK
    rw [flatA]
    have o1 := own_putRow (q := nn) hown hlen
    have b1 : Below base w (putRow id (Sort.ahead w nn) g 0 (acells (l.mergeSort fun x y => !ltAt y x)).toArray) := Lib.below_putRow (Below.refl _ _) hbg
    exact ⟨rfl, own_below' o1 (below_grow' (Below.refl _ _) (Nat.le_refl _) os), below_grow' b1 (Nat.le_trans (by omega) b1.size) os⟩
end Go.Proofs.YtjbmihgfneamlaaDoor
