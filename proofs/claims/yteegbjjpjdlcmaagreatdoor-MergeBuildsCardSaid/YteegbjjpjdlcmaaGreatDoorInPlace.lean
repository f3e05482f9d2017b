/- append within the capacity at a step of a region, and clear, on a row of the call's own. No program. -/
import Derived.Test.YteegbjjpjdlcmaaGreatDoorOwn
import Derived.Deep.RegionLaw
namespace Go.Proofs.YteegbjjpjdlcmaaGreatDoor
open Go.RowKit

theorem step_app_fits {P : Program} {ops : Array Oper} {o : Oper} {a : Act} {w : World} {K : Act → World → Prop} {Q : Exit → Act → World → Prop} {E : Prop}
    (hg : o.guard = none) (s x : Operand) (t : TypeId) (hop : o.op = Op.call { callee := Callee.builtin Builtin.append, args := #[s, x], argTypes := #[t, t] })
    (base : Nat) (e : TypeId) (i : TypeInfo) (size : Nat) (h1 : P.underlying t = some (.slice e)) (h2 : P.info? e = some i) (h4 : i.size = size)
    (g n cap : Nat) (xs : List Value) (hs : a.eval s = .slice (some ⟨g, 0, none⟩) n cap) (hown : w.ownsRow base e size (.slice (some ⟨g, 0, none⟩) n cap) n xs)
    (ad : Addr) (m c : Nat) (news : List Value) (hx : a.eval x = .slice (some ad) m c) (hn : news.length = m * size) (hc : ∀ j u, news[j]? = some u → w.cell? (ad.add j) = some u) (h1c : ∀ u ∈ news, u.oneCell' = true)
    (hroom : n + m ≤ cap)
    (hK : ∀ w', w'.ownsRow base e size (.slice (some ⟨g, 0, none⟩) (n + m) cap) (n + m) (xs ++ news) → w.grownBy w' (some g) → K (a.put o.dst (.slice (some ⟨g, 0, none⟩) (n + m) cap)) w') :
    if Region.wanted o (yielded ops a.tmps) = true then Oper.wp P o a w K Q else E := by
  have hw : Region.wanted o (yielded ops a.tmps) = true := by simp [Region.wanted, hg]
  rw [if_pos hw]
  obtain ⟨w', hrun, r1, r2⟩ := run_append_fits (P := P) w base t o.type e i size h1 h2 h4 g n cap xs hown ad m c news hn hc h1c hroom
  unfold Oper.wp
  simp [execOp, hop, resolve, invoke, builtin, hs, hx, hrun, Result.andThen]
  exact hK w' r1 r2

/-- clear behind the end of an owned row. -/
theorem run_clear_own {P : Program} (w : World) (base : Nat) (t ty e : TypeId) (z : Value) (size : Nat) (ht : P.underlying t = some (.slice e)) (hv : ∀ w, (zeroValue e).run P w = .ok z w)
    (hz : z.cells.size = size) (h1 : ∀ u ∈ z.cells.toList, u.oneCell' = true) (hs0 : 0 < size)
    (g n cap : Nat) (xs : List Value) (h : w.ownsRow base e size (.slice (some ⟨g, 0, none⟩) n cap) n xs) (k m c : Nat) (hk : n ≤ k) (hm : k + m ≤ cap) (hm0 : 0 < m) :
    ∃ w', (Builtin.clear_ #[t] ty #[.slice (some ⟨g, k * size, none⟩) m c]).run P w = .ok (.tuple #[]) w' ∧ w'.ownsRow base e size (.slice (some ⟨g, 0, none⟩) n cap) n xs ∧ w.grownBy w' (some g) := by
  obtain ⟨hl, hh⟩ := h
  rcases hh with ⟨h, _⟩ | ⟨g', cap', cur, h, hbg, hg, hnc, hcm, hcs, htake⟩
  · simp at h
  · simp only [Value.slice.injEq, Option.some.injEq, Addr.mk.injEq, and_true, true_and] at h
    obtain ⟨rfl, rfl⟩ := h
    have hzl : (Builtin.zeroCells z.cells m).toList.length = m * size := by rw [Array.length_toList, size_zeroCells, hz]
    have h1c : ∀ u ∈ (Builtin.zeroCells z.cells m).toList, u.oneCell' = true := by
      intro u hu
      simp only [Builtin.zeroCells, Array.toList_map, List.mem_map, Array.toList_range, List.mem_range] at hu
      obtain ⟨j, hj, rfl⟩ := hu
      have hmod : j % z.cells.size < z.cells.size := Nat.mod_lt _ (by rw [hz]; exact hs0)
      apply h1
      rw [getElem!_pos z.cells _ hmod]
      simp
    have hkm : k * size + m * size ≤ cap * size := by rw [← Nat.add_mul]; exact Nat.mul_le_mul_right _ hm
    have hst := run_storeCells_at P g (k * size) e (Builtin.zeroCells z.cells m).toList 0 cur w hg (by rw [hzl, hcs]; simpa using hkm) h1c
    simp only [Nat.add_zero] at hst
    obtain ⟨m', rfl⟩ : ∃ m', m = m' + 1 := ⟨m - 1, by omega⟩
    have hr : (Builtin.clear_ #[t] ty #[.slice (some ⟨g, k * size, none⟩) (m' + 1) c]).run P w = .ok (.tuple #[]) (w.setRow g (cur.toList.take (k * size) ++ (Builtin.zeroCells z.cells (m' + 1)).toList ++ cur.toList.drop (k * size + (Builtin.zeroCells z.cells (m' + 1)).toList.length)).toArray) := by
      simp [Builtin.clear_, run_underlying ht, hv, hst]
    refine ⟨_, hr, ⟨hl, .inr ⟨g, cap, _, rfl, hbg, setRow_heap w g cur _ e _ hg, hnc, hcm, ?_, ?_⟩⟩, ⟨rfl, rfl, rfl, by simp, fun j _ hj => setRow_other w g j _ (fun e => hj (by simp [e]))⟩⟩
    · simp only [List.size_toArray, List.length_append, List.length_take, List.length_drop, Array.length_toList] at hzl ⊢
      omega
    · simp only
      rw [List.append_assoc, List.take_append_of_le_length, List.take_take, ← htake]
      · congr 1
        have := Nat.mul_le_mul_right size hk
        omega
      · have := Nat.mul_le_mul_right size hk
        rw [List.length_take, Array.length_toList]
        omega

theorem wpList_clear_own {P : Program} {w : World} {ops : Array Oper} {rest : List Oper} {o : Oper} {a : Act} {Q : Exit → Act → World → Prop} (hgd : o.guard = none) (s : Operand) (t : TypeId)
    (ho : o.op = .call { callee := .builtin .clear, args := #[s], argTypes := #[t] })
    (base : Nat) (e : TypeId) (z : Value) (size : Nat) (ht : P.underlying t = some (.slice e)) (hv : ∀ w, (zeroValue e).run P w = .ok z w)
    (hz : z.cells.size = size) (h1 : ∀ u ∈ z.cells.toList, u.oneCell' = true) (hs0 : 0 < size)
    (g n cap : Nat) (xs : List Value) (hown : w.ownsRow base e size (.slice (some ⟨g, 0, none⟩) n cap) n xs) (k m c : Nat) (hs : a.eval s = .slice (some ⟨g, k * size, none⟩) m c) (hk : n ≤ k) (hm : k + m ≤ cap) (hm0 : 0 < m)
    (h : ∀ w', w'.ownsRow base e size (.slice (some ⟨g, 0, none⟩) n cap) n xs → w.grownBy w' (some g) → wpList P ops Q rest (a.put o.dst (.tuple #[])) w') : wpList P ops Q (o :: rest) a w := by
  refine wpList_plain hgd fun K hK => ?_
  obtain ⟨w', hr, h2, h3⟩ := run_clear_own (P := P) w base t o.type e z size ht hv hz h1 hs0 g n cap xs hown k m c hk hm hm0
  unfold Oper.wp execOp
  simp only [ho, resolve, invoke, builtin, Sem.run_bind, Sem.run_pure, Result.andThen_ok, List.map_toArray, List.map_cons, List.map_nil, hs, hr]
  exact hK _ _ (h w' h2 h3)
end Go.Proofs.YteegbjjpjdlcmaaGreatDoor
