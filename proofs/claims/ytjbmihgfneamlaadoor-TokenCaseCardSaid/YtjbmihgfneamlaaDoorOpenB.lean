/- What an argument that can be read is: a slice of truth values. -/
import Derived.Test.YtjbmihgfneamlaaDoorOpen
import Derived.Test.YtjbmihgfneamlaaDoorCaseWalk
import Derived.Deep.Grids
set_option linter.unusedVariables false
namespace Go.Proofs.YtjbmihgfneamlaaDoor
open Go.ChangeShapes Go.WideShapes Go.RowKit Go.Deep

theorem cBool : Tryd.prog.cellsOf 4 = 1 := by kernel_rfl

theorem open_bl {H : Type} {enc : TypeId × Value → H} {w : World} {ao : Option Addr} {len cap : Nat} {d : DataW H} {p : List MemPlace} (h : DataW.Trod enc Tryd.prog w 0 (fun _ => true) true 56 (.slice ao len cap) d p) :
    ∃ l : List Bool, l.length = len ∧ Rd w (.slice ao len cap) l.length 1 (tcells l) := by
  obtain ⟨fuel, hf⟩ := h
  rcases open_bools Tryd.underlying56 Tryd.underlying4 cBool hf with ⟨hcs, _⟩ | ⟨x, ln, c, B, hcs, _, hl, hm, _, hcell⟩
  · simp [Value.cells] at hcs
    obtain ⟨rfl, rfl, rfl⟩ := hcs
    exact ⟨[], rfl, rfl, Nat.zero_le _, .inl ⟨_, _, rfl, rfl⟩⟩
  · simp [Value.cells] at hcs
    obtain ⟨rfl, rfl, rfl⟩ := hcs
    have hlen : ((List.range len).map B).length = len := by simp
    refine ⟨(List.range len).map B, hlen, ?_⟩
    rw [hlen]
    refine ⟨by simp [tcells], by omega, ?_⟩
    rcases Nat.eq_zero_or_pos len with h0 | h0
    · subst h0; exact .inl ⟨_, _, rfl, rfl⟩
    · have hsp : x.spot = none := by
        have := World.cell?_spot (hcell 0 (by omega))
        simpa [Addr.add] using this
      obtain ⟨b, off, sp⟩ := x
      simp only at hsp
      subst hsp
      refine .inr ⟨b, off, cap, rfl, h0, hl, hm, fun i u hu => ?_⟩
      have hi : i < len := by
        have := (List.getElem?_eq_some_iff.1 hu).1
        simpa [tcells] using this
      have hc := hcell i (by omega)
      have hadd : (⟨b, off, none⟩ : Addr).add i = ⟨b, off + i, none⟩ := by unfold Addr.add; split <;> simp_all
      rw [hadd] at hc
      rw [hc, ← hu]
      simp [tcells, hi]
end Go.Proofs.YtjbmihgfneamlaaDoor
