/- A region that draws its order: operations behind a guard that is not met; operations from the last one on. No program. -/
import Derived.Test.YteegbjjpjdlcmaaGreatDoorHeld
namespace Go.Proofs.YteegbjjpjdlcmaaGreatDoor
open Go.RowKit

section
variable {P : Program} {ops : Array Oper} {Q : Exit → Act → World → Prop} {md : Region.Mode} {S : World → Prop}

/-- an operation whose guard is not met: passed over. -/
theorem L_skip {last : Nat} (i : Nat) {oi : Oper} {fuel : Nat} {listed : Array Bool} {a : Act} {w : World} (hi : ops[i]? = some oi) (hil : (i != last) = true)
    (hs : Region.noSelect ops = true) (hf : Region.free md ops listed i = true) (hr : (Region.ready md ops listed).contains i = true)
    (hQ : ∀ c a w, Q (.panic c) (a.put oi.dst undef) w → Q (.panic c) a w) (hwn : Region.wanted oi (yielded ops a.tmps) = false) (hS : S w)
    (h : anyL P md ops Q S last fuel (listed.setIfInBounds i true) (a.put oi.dst undef) w) : anyL P md ops Q S last (fuel + 1) listed a w :=
  anyL_free hi (by simpa using hil) (Region.noSelect_spec hs) hQ fuel listed a w (Region.free_spec hi hf) (by simpa using hr) (.inr ⟨hwn, rfl⟩) (fun _ => hS) h

/-- the operation alone that may come up, from the last one on. -/
theorem L_end {last : Nat} (i : Nat) {o : Oper} {fuel : Nat} {listed : Array Bool} {a : Act} {w : World} (hr : Region.ready md ops listed = [i]) (ho : ops[i]? = some o) (hl : (listed.setIfInBounds i true).getD last true = true)
    (h : ∀ K : Act → World → Prop, (∀ a' w', anyL P md ops Q S last fuel (listed.setIfInBounds i true) a' w' → K a' w') → if Region.wanted o (yielded ops a.tmps) = true then Oper.wp P o a w K Q else K (a.put o.dst undef) w) :
    anyL P md ops Q S last (fuel + 1) listed a w := by
  refine ⟨fun h0 => ?_, fun k hk => ?_⟩
  · rw [h0] at hr; cases hr
  · rw [hr] at hk
    obtain rfl := List.mem_singleton.1 hk
    exact wpOp_step ho (fun K' hK => h K' (fun a' w' g2 => hK a' w' ⟨fun hf => (by rw [hl] at hf; cases hf), g2⟩))
end
end Go.Proofs.YteegbjjpjdlcmaaGreatDoor
