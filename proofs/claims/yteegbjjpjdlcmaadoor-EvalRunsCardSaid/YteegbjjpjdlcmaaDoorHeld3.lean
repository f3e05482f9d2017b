/- A region that draws its order: a load may be taken first too where the last operation waits for it by way of others. No program. -/
import Derived.Test.YteegbjjpjdlcmaaDoorHeld2
namespace Go.Proofs.YteegbjjpjdlcmaaDoor
open Go.RowKit

section
variable {P : Program} {ops : Array Oper} {Q : Exit → Act → World → Prop} {md : Region.Mode} {S : World → Prop}

/-- none of blk can come up as long as number i is open: each waits for i or for another of blk; none of them is listed. -/
def blocked (md : Region.Mode) (ops : Array Oper) (last i : Nat) (blk : List Nat) (listed : Array Bool) : Bool :=
  blk.contains last && !blk.contains i && blk.all fun b => (!listed.getD b true) && (i :: blk).any fun d => waits md ops b d

theorem blocked_spec {last i : Nat} {blk : List Nat} {listed : Array Bool} (h : blocked md ops last i blk listed = true) : last ∈ blk ∧ i ∉ blk ∧ ∀ b ∈ blk, listed.getD b true = false ∧ ∃ d ∈ i :: blk, waits md ops b d = true := by
  unfold blocked at h
  simp only [Bool.and_eq_true, List.contains_iff_mem, Bool.not_eq_true', List.all_eq_true, List.any_eq_true] at h
  refine ⟨h.1.1, ?_, fun b hb => ⟨(h.2 b hb).1, ?_⟩⟩
  · have := h.1.2
    intro hc
    rw [← List.contains_iff_mem] at hc
    rw [hc] at this
    cases this
  · obtain ⟨d, hd, hw⟩ := (h.2 b hb).2
    exact ⟨d, hd, hw⟩

theorem anyL_firstB {last i : Nat} {oi : Oper} {v : Value} (blk : List Nat) (hi : ops[i]? = some oi) (hlb : last ∈ blk) (hib : i ∉ blk) (hwt : ∀ b ∈ blk, ∃ d ∈ i :: blk, waits md ops b d = true) (hsel : ∀ (j : Nat) (o : Oper) cs b, ops[j]? = some o → o.op ≠ .select cs b)
    (hQ : ∀ c a w, Q (.panic c) (a.put oi.dst v) w → Q (.panic c) a w) :
    ∀ (fuel : Nat) (listed : Array Bool) (a : Act) (w : World),
      (∀ j oj, ops[j]? = some oj → j ≠ i → listed.getD j true = false → (∀ e ∈ oj.after, Region.binds md e = true → e.on ≠ i) → oi.apart ops oj = true) →
      i ∈ Region.ready md ops listed → YieldsIf P ops S oi v a → (∀ b ∈ blk, listed.getD b true = false) → S w →
      anyL P md ops Q S last fuel (listed.setIfInBounds i true) (a.put oi.dst v) w → anyL P md ops Q S last (fuel + 1) listed a w := by
  have hil : i ≠ last := fun e => hib (e ▸ hlb)
  intro fuel
  induction fuel with
  | zero =>
    intro listed a w _ hr hy hl hS H
    refine ⟨fun h => (by rw [h] at hr; cases hr), fun j hj => ?_⟩
    by_cases hji : j = i
    · subst hji; exact hy.wpOp hi hS ⟨fun _ => hS, H⟩
    · have hm := ready_mono hj hji
      rw [H.1] at hm
      cases hm
  | succ fuel ih =>
    intro listed a w hfree hr hy hl hS H
    refine ⟨fun h => (by rw [h] at hr; cases hr), fun j hj => ?_⟩
    by_cases hji : j = i
    · subst hji; exact hy.wpOp hi hS ⟨fun _ => hS, H⟩
    · have hun := (mem_ready.1 hr).1
      have hjb : j ∉ blk := fun hb => by
        obtain ⟨d, hd, hw⟩ := hwt j hb
        rcases List.mem_cons.1 hd with rfl | hd
        · exact not_ready hw hun hj
        · exact not_ready hw (hl d hd) hj
      have hjl : j ≠ last := fun e => hjb (e ▸ hlb)
      have hH := H.2 j (ready_mono hj hji)
      obtain ⟨hjun, oj, hoj, hall⟩ := mem_ready.1 hj
      have hnot : ∀ e ∈ oj.after, Region.binds md e = true → e.on ≠ i := fun e he hb heq => by
        have g1 := hall e he hb
        rw [heq] at g1
        rcases Nat.lt_or_ge i listed.size with h' | h'
        · simp [h'] at hun g1; rw [hun] at g1; cases g1
        · simp [Array.getElem?_eq_none h'] at g1
      have h2 := wpOp_putIf hoj (hfree j oj hoj hji hjun hnot) (fun cs b => hsel i oi cs b hi) (fun cs b => hsel j oj cs b hoj) hQ hy hH
      have hfree' : ∀ k ok, ops[k]? = some ok → k ≠ i → (listed.setIfInBounds j true).getD k true = false →
          (∀ e ∈ ok.after, Region.binds md e = true → e.on ≠ i) → oi.apart ops ok = true := fun k ok hk hki hkun hno => by
        refine hfree k ok hk hki ?_ hno
        by_cases hjk : j = k
        · subst hjk; exact hjun
        · rw [getD_set_ne true hjk] at hkun; exact hkun
      have hcond : ((listed.setIfInBounds i true).setIfInBounds j true).getD last true = false := by rw [getD_set_keep hjl, getD_set_keep hil]; exact hl last hlb
      refine wpOp_mono (fun a' w' h3 => ⟨fun _ => h3.2.1 hcond, ih (listed.setIfInBounds j true) a' w' hfree' (ready_mono hr (Ne.symm hji)) h3.1 (fun b hb => by rw [getD_set_keep (fun e => hjb (by rw [e]; exact hb))]; exact hl b hb) (h3.2.1 hcond) ?_⟩) h2
      rw [Array.setIfInBounds_comm _ _ hji]
      exact h3.2.2

/-- a load, an address: taken first; blk: what stands between it and the last one. -/
theorem L_takeB {last : Nat} (i : Nat) (blk : List Nat) (v : Value) {oi : Oper} {fuel : Nat} {listed : Array Bool} {a : Act} {w : World} (hi : ops[i]? = some oi) (hwt : blocked md ops last i blk listed = true)
    (hs : Region.noSelect ops = true) (hf : Region.free md ops listed i = true) (hr : (Region.ready md ops listed).contains i = true)
    (hQ : ∀ c a w, Q (.panic c) (a.put oi.dst v) w → Q (.panic c) a w) (hwn : Region.wanted oi (yielded ops a.tmps) = true) (hy : ∀ w, S w → (execOp a.eval oi).run P w = .ok (.value v) w) (hS : S w)
    (h : anyL P md ops Q S last fuel (listed.setIfInBounds i true) (a.put oi.dst v) w) : anyL P md ops Q S last (fuel + 1) listed a w := by
  obtain ⟨h1, h2, h3⟩ := blocked_spec hwt
  exact anyL_firstB blk hi h1 h2 (fun b hb => (h3 b hb).2) (Region.noSelect_spec hs) hQ fuel listed a w (Region.free_spec hi hf) (by simpa using hr) (.inl ⟨hwn, hy⟩) (fun b hb => (h3 b hb).1) hS h
end
end Go.Proofs.YteegbjjpjdlcmaaDoor
