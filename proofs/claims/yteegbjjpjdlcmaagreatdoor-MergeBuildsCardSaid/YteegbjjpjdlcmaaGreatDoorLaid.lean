/- What the laid tables give: the cells of utf.letters and utf.shifts; and a world in which they lie. -/
import Derived.Test.YteegbjjpjdlcmaaGreatDoorTab
import Derived.Test.YteegbjjpjdlcmaaGreatDoorRows
import Derived.OpenShut
import Derived.Lib.LaidTab
set_option linter.unusedVariables false
namespace Go.Proofs.YteegbjjpjdlcmaaGreatDoor
open Go.ChangeShapes Go.WideShapes Go.RowKit

section
variable {H : Type} {enc : TypeId × Value → H} {P : Program} {w : World} {base : Nat} {sp : Nat → Bool} {held : Bool}

/-- a struct of integers that reads as these numbers holds them. -/
theorem cells_of_struct {t : TypeId} {fs : Array Field} {fuel : Nat} {cs : List Value} {p : List MemPlace} {k : IntKind} {zs : List Int} (ht : P.underlying t = some (.struct fs))
    (hf : ∀ (j : Nat) (f : Field), fs[j]? = some f → P.underlying f.type = some (.int k) ∧ P.cellsOf f.type = 1 ∧ f.offset = j) (hn : P.cellsOf t = fs.size)
    (h : DataW.trod enc P w base sp held fuel t cs = some (.agg (zs.map fun z => .lit (.int k z)), p)) : cs = zs.map fun z => Value.int k z := by
  obtain ⟨xs, n, _, hx, hl, hxl, hg⟩ := DataW.trod_struct ht h
  have hxs : xs.map (·.1) = zs.map fun z => (DataW.lit (.int k z) : DataW H) := by
    have := congrArg Prod.fst hx
    simpa using this.symm
  have hzl : zs.length = fs.size := by
    have := congrArg List.length hxs
    simp at this
    omega
  apply List.ext_getElem?
  intro i
  by_cases hi : i < fs.size
  · obtain ⟨hu, hc, ho⟩ := hf i _ (Array.getElem?_eq_getElem hi)
    have h1 := hg i _ (Array.getElem?_eq_getElem hi)
    rw [hc, ho, List.getElem?_eq_getElem (by omega)] at h1
    obtain ⟨z, hz, he, _⟩ := DataW.trod_int hu h1
    have h2 : cs[i]? = some (.int k z) := by
      have := congrArg (·[0]?) hz
      simpa [List.getElem?_take, List.getElem?_drop] using this
    have h3 : (xs.map (·.1))[i]? = some (DataW.lit (.int k z) : DataW H) := by
      rw [List.getElem?_map, List.getElem?_eq_getElem (by omega), he]
      rfl
    rw [hxs] at h3
    simp only [List.getElem?_map, Option.map_eq_some_iff, DataW.lit.injEq, Lit.int.injEq, true_and] at h3
    obtain ⟨z', hz', rfl⟩ := h3
    simp [h2, hz']
  · rw [List.getElem?_eq_none (by omega), List.getElem?_eq_none (by simp; omega)]

theorem chunks {α β : Type} (g : β → List α) (m : Nat) : ∀ (zss : List β) (cs : List α), cs.length = zss.length * m → (∀ i (hi : i < zss.length), (cs.drop (i * m)).take m = g zss[i]) → cs = zss.flatMap g := by
  intro zss
  induction zss with
  | nil => intro cs hl _; simp at hl; simp [hl]
  | cons z zss ih =>
    intro cs hl hc
    have h0 := hc 0 (by simp)
    simp only [Nat.zero_mul, List.drop_zero, List.getElem_cons_zero] at h0
    have h1 := ih (cs.drop m) (by rw [List.length_drop, hl, List.length_cons, Nat.succ_mul]; omega) (fun i hi => by
      have := hc (i + 1) (by simp; omega)
      rw [List.drop_drop, show m + i * m = (i + 1) * m from by rw [Nat.succ_mul]; omega]
      simpa using this)
    rw [List.flatMap_cons, ← h0, ← h1, List.take_append_drop]

/-- an array of structs of integers. -/
theorem cells_of_rows {t e : TypeId} {N : Nat} {fs : Array Field} {fuel : Nat} {cs : List Value} {p : List MemPlace} {k : IntKind} {zss : List (List Int)} (ht : P.underlying t = some (.array N e)) (he : P.underlying e = some (.struct fs))
    (hf : ∀ (j : Nat) (f : Field), fs[j]? = some f → P.underlying f.type = some (.int k) ∧ P.cellsOf f.type = 1 ∧ f.offset = j) (hn : P.cellsOf e = fs.size) (hN : P.cellsOf t = N * fs.size)
    (h : DataW.trod enc P w base sp held fuel t cs = some (.agg (zss.map fun zs => .agg (zs.map fun z => .lit (.int k z))), p)) : cs = zss.flatMap fun zs => zs.map fun z => Value.int k z := by
  obtain ⟨xs, m, _, hx, hl, hxl, hg⟩ := DataW.trod_array ht h
  have hxs : xs.map (·.1) = zss.map fun zs => (DataW.agg (zs.map fun z => .lit (.int k z)) : DataW H) := by
    have := congrArg Prod.fst hx
    simpa using this.symm
  have hzl : zss.length = N := by
    have := congrArg List.length hxs
    simp at this
    omega
  refine chunks _ fs.size zss cs (by rw [hl, hN, hzl]) (fun i hi => ?_)
  have h1 := hg i (by omega)
  rw [hn, List.getElem?_eq_getElem (by omega)] at h1
  have h3 : (xs.map (·.1))[i]? = some (DataW.agg (zss[i].map fun z => .lit (.int k z)) : DataW H) := by
    rw [hxs, List.getElem?_map, List.getElem?_eq_getElem hi]
    rfl
  rw [List.getElem?_map, List.getElem?_eq_getElem (by omega)] at h3
  simp only [Option.map_some, Option.some.injEq] at h3
  have h4 : DataW.trod enc P w base sp held m e ((cs.drop (i * fs.size)).take fs.size) = some (.agg (zss[i].map fun z => .lit (.int k z)), (xs[i]'(by omega)).2) := by rw [h1, ← h3]
  exact cells_of_struct he hf hn h4
end

def letterRows : List (List Int) := [[65, 90], [97, 122], [192, 214], [216, 246], [248, 255], [913, 929], [931, 937], [945, 969], [1024, 1119]]
def shiftRows : List (List Int) := [[65, 90, 32], [192, 214, 32], [216, 222, 32], [913, 929, 32], [931, 937, 32], [1024, 1039, 80], [1040, 1071, 32]]

theorem gLet : Tryz.prog.globalNamed "rubrick/utf.letters" = some 0 := by kernel_rfl
theorem gShi : Tryz.prog.globalNamed "rubrick/utf.shifts" = some 1 := by kernel_rfl
theorem gLetT : (Tryz.prog.globals[0]?).map (·.type) = some 101 := by kernel_rfl
theorem gShiT : (Tryz.prog.globals[1]?).map (·.type) = some 124 := by kernel_rfl
theorem cInt : Tryz.prog.cellsOf 3 = 1 := by kernel_rfl
theorem cSpan : Tryz.prog.cellsOf 100 = 2 := by kernel_rfl
theorem cShift : Tryz.prog.cellsOf 123 = 3 := by kernel_rfl
theorem cSpans : Tryz.prog.cellsOf 101 = 9 * 2 := by kernel_rfl
theorem cShifts : Tryz.prog.cellsOf 124 = 7 * 3 := by kernel_rfl

theorem heap_of_var {P : Program} {W : World} {n : String} {g : Nat} {cs : Array Value} (hg : P.globalNamed n = some g) (h : W.var? P n = some cs) : ∃ t fr, W.heap[g]? = some (.cells cs t fr) := by
  simp only [World.var?, hg, Option.bind_some] at h
  split at h
  · rename_i c t fr hb
    cases h
    exact ⟨t, fr, hb⟩
  · cases h

theorem tabs_of_laid {W : World} (h : laidMet Tryz.prog [("rubrick/utf.letters", Rows.laid_rubrick_utf_letters), ("rubrick/utf.shifts", Rows.laid_rubrick_utf_shifts)] W) : Tabs W := by
  obtain ⟨ps, ⟨g1, t1, cs1, f1, p1, q1, hg1, ht1, hv1, hd1, ⟨g2, t2, cs2, f2, p2, q2, hg2, ht2, hv2, hd2, _, _⟩, _⟩, _⟩ := h
  obtain rfl := Option.some.inj (gLet.symm.trans hg1)
  obtain rfl := Option.some.inj (gShi.symm.trans hg2)
  obtain rfl := Option.some.inj (gLetT.symm.trans ht1)
  obtain rfl := Option.some.inj (gShiT.symm.trans ht2)
  have e1 : cs1.toList = letterRows.flatMap fun zs => zs.map fun z => Value.int .i64 z :=
    cells_of_rows (k := .i64) (zss := letterRows) Tryz.underlying101 Tryz.underlying100 (by
      intro j f hj
      match j, hj with
      | 0, hj => simp at hj; subst hj; exact ⟨Tryz.underlying3, cInt, rfl⟩
      | 1, hj => simp at hj; subst hj; exact ⟨Tryz.underlying3, cInt, rfl⟩
      | j + 2, hj => simp at hj) cSpan cSpans hd1
  have e2 : cs2.toList = shiftRows.flatMap fun zs => zs.map fun z => Value.int .i64 z :=
    cells_of_rows (k := .i64) (zss := shiftRows) Tryz.underlying124 Tryz.underlying123 (by
      intro j f hj
      match j, hj with
      | 0, hj => simp at hj; subst hj; exact ⟨Tryz.underlying3, cInt, rfl⟩
      | 1, hj => simp at hj; subst hj; exact ⟨Tryz.underlying3, cInt, rfl⟩
      | 2, hj => simp at hj; subst hj; exact ⟨Tryz.underlying3, cInt, rfl⟩
      | j + 3, hj => simp at hj) cShift cShifts hd2
  have a1 : cs1 = letterCells := by rw [← Array.toArray_toList (xs := cs1), e1]; rfl
  have a2 : cs2 = shiftCells := by rw [← Array.toArray_toList (xs := cs2), e2]; rfl
  subst a1
  subst a2
  exact ⟨heap_of_var gLet hv1, heap_of_var gShi hv2⟩

def setTab (cs : Array Value) : Obj → Obj
  | .cells _ t frozen => .cells cs t frozen
  | o => o
/-- a world in which the tables hold what the text lays. -/
noncomputable def laidWorld (os : Os) : World :=
  { World.holding Tryz.prog os ⟨#[], #[], []⟩ with heap := ((World.holding Tryz.prog os ⟨#[], #[], []⟩).heap.modify 0 (setTab letterCells)).modify 1 (setTab shiftCells) }
end Go.Proofs.YteegbjjpjdlcmaaGreatDoor
