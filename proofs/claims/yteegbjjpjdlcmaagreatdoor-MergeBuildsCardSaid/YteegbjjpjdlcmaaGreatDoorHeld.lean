/- A region that draws its order, whose last operation writes a cell that the region loads: the loads may be taken first under S, and S need not hold behind the last operation, which waits for every load. No program. (After the kit's OrdersHeld, whose S must hold behind every operation.) -/
import Derived.Test.YteegbjjpjdlcmaaGreatDoorMem
import Derived.Deep.RegionHeld3
namespace Go.Proofs.YteegbjjpjdlcmaaGreatDoor
open Go.RowKit

section
variable {P : Program} {ops : Array Oper} {Q : Exit → Act → World → Prop} {md : Region.Mode} {S : World → Prop}

/-- whatever order is picked from here on; S holds behind each operation but the last. -/
def anyL (P : Program) (md : Region.Mode) (ops : Array Oper) (Q : Exit → Act → World → Prop) (S : World → Prop) (last : Nat) : Nat → Array Bool → Act → World → Prop
  | 0, listed, a, w => Region.ready md ops listed = [] ∧ Q .normal a w
  | fuel + 1, listed, a, w =>
    (Region.ready md ops listed = [] → Q .normal a w) ∧
    ∀ i ∈ Region.ready md ops listed, wpOp P ops Q i (fun a' w' => ((listed.setIfInBounds i true).getD last true = false → S w') ∧ anyL P md ops Q S last fuel (listed.setIfInBounds i true) a' w') a w

theorem any_of_L {last : Nat} : ∀ (fuel : Nat) (listed : Array Bool) (a : Act) (w : World), anyL P md ops Q S last fuel listed a w → wpAny P md ops Q fuel listed a w
  | 0, _, _, _, h => h
  | fuel + 1, _, _, _, h => ⟨h.1, fun i hi => wpOp_mono (fun a' w' h' => any_of_L fuel _ a' w' h'.2) (h.2 i hi)⟩

/-- the last operation waits for number i. -/
def waits (md : Region.Mode) (ops : Array Oper) (last i : Nat) : Bool := match ops[last]? with | some o => o.after.any fun e => Region.binds md e && e.on == i | none => false

theorem not_ready {last i : Nat} {listed : Array Bool} (hw : waits md ops last i = true) (hi : listed.getD i true = false) : last ∉ Region.ready md ops listed := by
  intro h
  obtain ⟨-, o, ho, hall⟩ := mem_ready.1 h
  unfold waits at hw
  rw [ho] at hw
  simp only [Array.any_eq_true] at hw
  obtain ⟨k, hk, he⟩ := hw
  simp only [Bool.and_eq_true, beq_iff_eq] at he
  have h1 := hall o.after[k] (Array.getElem_mem _) he.1
  rw [he.2] at h1
  rcases Nat.lt_or_ge i listed.size with h' | h'
  · simp [h'] at hi h1; rw [hi] at h1; cases h1
  · simp [Array.getElem?_eq_none h'] at h1

theorem getD_set_keep {listed : Array Bool} {i l : Nat} (h : i ≠ l) : (listed.setIfInBounds i true).getD l true = listed.getD l true := getD_set_ne true h

theorem anyL_first {last i : Nat} {oi : Oper} {v : Value} (hi : ops[i]? = some oi) (hil : i ≠ last) (hwt : waits md ops last i = true) (hsel : ∀ (j : Nat) (o : Oper) cs b, ops[j]? = some o → o.op ≠ .select cs b)
    (hQ : ∀ c a w, Q (.panic c) (a.put oi.dst v) w → Q (.panic c) a w) :
    ∀ (fuel : Nat) (listed : Array Bool) (a : Act) (w : World),
      (∀ j oj, ops[j]? = some oj → j ≠ i → listed.getD j true = false → (∀ e ∈ oj.after, Region.binds md e = true → e.on ≠ i) → oi.apart ops oj = true) →
      i ∈ Region.ready md ops listed → YieldsIf P ops S oi v a → listed.getD last true = false → S w →
      anyL P md ops Q S last fuel (listed.setIfInBounds i true) (a.put oi.dst v) w → anyL P md ops Q S last (fuel + 1) listed a w := by
  intro fuel
  induction fuel with
  | zero =>
    intro listed a w _ hr hy hl hS H
    refine ⟨fun h => (by rw [h] at hr; cases hr), fun j hj => ?_⟩
    by_cases hji : j = i
    · subst hji; exact hy.wpOp hi hS ⟨fun _ => hS, H⟩
    · have hm := ready_mono hj hji
      rw [H.1] at hm
      cases hm
  | succ fuel ih =>
    intro listed a w hfree hr hy hl hS H
    refine ⟨fun h => (by rw [h] at hr; cases hr), fun j hj => ?_⟩
    by_cases hji : j = i
    · subst hji; exact hy.wpOp hi hS ⟨fun _ => hS, H⟩
    · have hun := (mem_ready.1 hr).1
      have hjl : j ≠ last := fun e => not_ready hwt hun (e ▸ hj)
      have hH := H.2 j (ready_mono hj hji)
      obtain ⟨hjun, oj, hoj, hall⟩ := mem_ready.1 hj
      have hnot : ∀ e ∈ oj.after, Region.binds md e = true → e.on ≠ i := fun e he hb heq => by
        have g1 := hall e he hb
        rw [heq] at g1
        rcases Nat.lt_or_ge i listed.size with h' | h'
        · simp [h'] at hun g1; rw [hun] at g1; cases g1
        · simp [Array.getElem?_eq_none h'] at g1
      have h2 := wpOp_putIf hoj (hfree j oj hoj hji hjun hnot) (fun cs b => hsel i oi cs b hi) (fun cs b => hsel j oj cs b hoj) hQ hy hH
      have hfree' : ∀ k ok, ops[k]? = some ok → k ≠ i → (listed.setIfInBounds j true).getD k true = false →
          (∀ e ∈ ok.after, Region.binds md e = true → e.on ≠ i) → oi.apart ops ok = true := fun k ok hk hki hkun hno => by
        refine hfree k ok hk hki ?_ hno
        by_cases hjk : j = k
        · subst hjk; exact hjun
        · rw [getD_set_ne true hjk] at hkun; exact hkun
      have hcond : ((listed.setIfInBounds i true).setIfInBounds j true).getD last true = false := by rw [getD_set_keep hjl, getD_set_keep hil]; exact hl
      refine wpOp_mono (fun a' w' h3 => ⟨fun _ => h3.2.1 hcond, ih (listed.setIfInBounds j true) a' w' hfree' (ready_mono hr (Ne.symm hji)) h3.1 (by rw [getD_set_keep hjl]; exact hl) (h3.2.1 hcond) ?_⟩) h2
      rw [Array.setIfInBounds_comm _ _ hji]
      exact h3.2.2

/-- what reads no memory may be taken first at any time. -/
theorem anyL_free {last i : Nat} {oi : Oper} {v : Value} (hi : ops[i]? = some oi) (hil : i ≠ last) (hsel : ∀ (j : Nat) (o : Oper) cs b, ops[j]? = some o → o.op ≠ .select cs b)
    (hQ : ∀ c a w, Q (.panic c) (a.put oi.dst v) w → Q (.panic c) a w) :
    ∀ (fuel : Nat) (listed : Array Bool) (a : Act) (w : World),
      (∀ j oj, ops[j]? = some oj → j ≠ i → listed.getD j true = false → (∀ e ∈ oj.after, Region.binds md e = true → e.on ≠ i) → oi.apart ops oj = true) →
      i ∈ Region.ready md ops listed → YieldsIf P ops (fun _ => True) oi v a → (listed.getD last true = false → S w) →
      anyL P md ops Q S last fuel (listed.setIfInBounds i true) (a.put oi.dst v) w → anyL P md ops Q S last (fuel + 1) listed a w := by
  intro fuel
  induction fuel with
  | zero =>
    intro listed a w _ hr hy hS H
    refine ⟨fun h => (by rw [h] at hr; cases hr), fun j hj => ?_⟩
    by_cases hji : j = i
    · subst hji; exact hy.wpOp hi trivial ⟨fun h => hS (by rw [getD_set_keep hil] at h; exact h), H⟩
    · have hm := ready_mono hj hji
      rw [H.1] at hm
      cases hm
  | succ fuel ih =>
    intro listed a w hfree hr hy hS H
    refine ⟨fun h => (by rw [h] at hr; cases hr), fun j hj => ?_⟩
    by_cases hji : j = i
    · subst hji; exact hy.wpOp hi trivial ⟨fun h => hS (by rw [getD_set_keep hil] at h; exact h), H⟩
    · have hun := (mem_ready.1 hr).1
      have hH := H.2 j (ready_mono hj hji)
      obtain ⟨hjun, oj, hoj, hall⟩ := mem_ready.1 hj
      have hnot : ∀ e ∈ oj.after, Region.binds md e = true → e.on ≠ i := fun e he hb heq => by
        have g1 := hall e he hb
        rw [heq] at g1
        rcases Nat.lt_or_ge i listed.size with h' | h'
        · simp [h'] at hun g1; rw [hun] at g1; cases g1
        · simp [Array.getElem?_eq_none h'] at g1
      have h2 := wpOp_putIf hoj (hfree j oj hoj hji hjun hnot) (fun cs b => hsel i oi cs b hi) (fun cs b => hsel j oj cs b hoj) hQ hy hH
      have hfree' : ∀ k ok, ops[k]? = some ok → k ≠ i → (listed.setIfInBounds j true).getD k true = false →
          (∀ e ∈ ok.after, Region.binds md e = true → e.on ≠ i) → oi.apart ops ok = true := fun k ok hk hki hkun hno => by
        refine hfree k ok hk hki ?_ hno
        by_cases hjk : j = k
        · subst hjk; exact hjun
        · rw [getD_set_ne true hjk] at hkun; exact hkun
      have hcond : (listed.setIfInBounds j true).getD last true = false → ((listed.setIfInBounds i true).setIfInBounds j true).getD last true = false := fun h => by
        rw [Array.setIfInBounds_comm _ _ (Ne.symm hji), getD_set_keep hil]; exact h
      refine wpOp_mono (fun a' w' h3 => ⟨fun h => h3.2.1 (hcond h), ih (listed.setIfInBounds j true) a' w' hfree' (ready_mono hr (Ne.symm hji)) h3.1 (fun h => h3.2.1 (hcond h)) ?_⟩) h2
      rw [Array.setIfInBounds_comm _ _ hji]
      exact h3.2.2

/-- a load, an address: taken first. -/
theorem L_take {last : Nat} (i : Nat) (v : Value) {oi : Oper} {fuel : Nat} {listed : Array Bool} {a : Act} {w : World} (hi : ops[i]? = some oi) (hwt : (waits md ops last i && (i != last) && !listed.getD last true) = true)
    (hs : Region.noSelect ops = true) (hf : Region.free md ops listed i = true) (hr : (Region.ready md ops listed).contains i = true)
    (hQ : ∀ c a w, Q (.panic c) (a.put oi.dst v) w → Q (.panic c) a w) (hwn : Region.wanted oi (yielded ops a.tmps) = true) (hy : ∀ w, S w → (execOp a.eval oi).run P w = .ok (.value v) w) (hS : S w)
    (h : anyL P md ops Q S last fuel (listed.setIfInBounds i true) (a.put oi.dst v) w) : anyL P md ops Q S last (fuel + 1) listed a w := by
  simp only [Bool.and_eq_true, bne_iff_ne, Bool.not_eq_true'] at hwt
  exact anyL_first hi hwt.1.2 hwt.1.1 (Region.noSelect_spec hs) hQ fuel listed a w (Region.free_spec hi hf) (by simpa using hr) (.inl ⟨hwn, hy⟩) hwt.2 hS h

/-- what reads no memory: taken first. -/
theorem L_free {last : Nat} (i : Nat) (v : Value) {oi : Oper} {fuel : Nat} {listed : Array Bool} {a : Act} {w : World} (hi : ops[i]? = some oi) (hil : (i != last) = true)
    (hs : Region.noSelect ops = true) (hf : Region.free md ops listed i = true) (hr : (Region.ready md ops listed).contains i = true)
    (hQ : ∀ c a w, Q (.panic c) (a.put oi.dst v) w → Q (.panic c) a w) (hwn : Region.wanted oi (yielded ops a.tmps) = true) (hy : ∀ w, (execOp a.eval oi).run P w = .ok (.value v) w) (hS : S w)
    (h : anyL P md ops Q S last fuel (listed.setIfInBounds i true) (a.put oi.dst v) w) : anyL P md ops Q S last (fuel + 1) listed a w :=
  anyL_free hi (by simpa using hil) (Region.noSelect_spec hs) hQ fuel listed a w (Region.free_spec hi hf) (by simpa using hr) (.inl ⟨hwn, fun w _ => hy w⟩) (fun _ => hS) h

/-- the one operation that may come up now. -/
theorem L_one {last : Nat} (i : Nat) {o : Oper} {fuel : Nat} {listed : Array Bool} {a : Act} {w : World} (hr : Region.ready md ops listed = [i]) (ho : ops[i]? = some o)
    (h : ∀ K : Act → World → Prop, (∀ a' w', S w' → anyL P md ops Q S last fuel (listed.setIfInBounds i true) a' w' → K a' w') → if Region.wanted o (yielded ops a.tmps) = true then Oper.wp P o a w K Q else K (a.put o.dst undef) w) :
    anyL P md ops Q S last (fuel + 1) listed a w := by
  refine ⟨fun h0 => ?_, fun j hj => ?_⟩
  · rw [h0] at hr; cases hr
  · rw [hr] at hj
    obtain rfl := List.mem_singleton.1 hj
    exact wpOp_step ho (fun K' hK => h K' (fun a' w' h1 h2 => hK a' w' ⟨fun _ => h1, h2⟩))

/-- the last one. -/
theorem L_last {last : Nat} {o : Oper} {fuel : Nat} {listed : Array Bool} {a : Act} {w : World} (hr : Region.ready md ops listed = [last]) (hlt : (decide (last < listed.size)) = true) (ho : ops[last]? = some o)
    (h : ∀ K : Act → World → Prop, (∀ a' w', anyL P md ops Q S last fuel (listed.setIfInBounds last true) a' w' → K a' w') → if Region.wanted o (yielded ops a.tmps) = true then Oper.wp P o a w K Q else K (a.put o.dst undef) w) :
    anyL P md ops Q S last (fuel + 1) listed a w := by
  refine ⟨fun h0 => ?_, fun j hj => ?_⟩
  · rw [h0] at hr; cases hr
  · rw [hr] at hj
    obtain rfl := List.mem_singleton.1 hj
    have hl := of_decide_eq_true hlt
    exact wpOp_step ho (fun K' hK => h K' (fun a' w' h2 => hK a' w' ⟨fun h => by simp [hl] at h, h2⟩))

theorem L_done {last : Nat} {listed : Array Bool} {a : Act} {w : World} (hr : Region.ready md ops listed = []) (h : Q .normal a w) : ∀ fuel, anyL P md ops Q S last fuel listed a w
  | 0 => ⟨hr, h⟩
  | _ + 1 => ⟨fun _ => h, by rw [hr]; simp⟩

theorem L_begin (S : World → Prop) (last : Nat) {id : Nat} {a : Act} {w : World} (hm : P.follows .mixedOrders = true)
    (h : anyL P .any ops Q S last ops.size (Array.replicate ops.size false) a w.drew) : (Code.region id ops true).wp P Q a w :=
  wp_region_any hm (any_of_L _ _ _ _ h)
end
end Go.Proofs.YteegbjjpjdlcmaaGreatDoor
