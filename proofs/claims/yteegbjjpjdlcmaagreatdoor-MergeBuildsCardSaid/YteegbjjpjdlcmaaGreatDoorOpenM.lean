/- What an argument that can be read is: a slice of bytes, of documents, a small number. -/
import Derived.Test.YteegbjjpjdlcmaaGreatDoorLaid
import Derived.Test.YteegbjjpjdlcmaaGreatDoorDocs
import Derived.ShutString
import Derived.Deep.SlicePairs
import Derived.Lib.SmallJoins
set_option linter.unusedVariables false
namespace Go.Proofs.YteegbjjpjdlcmaaGreatDoor
open Go.ChangeShapes Go.WideShapes Go.RowKit Go.Deep

theorem cU8 : Tryz.prog.cellsOf 5 = 1 := by kernel_rfl
theorem cBytes : Tryz.prog.cellsOf 42 = 1 := by kernel_rfl

section
variable {H : Type} {enc : TypeId × Value → H} {w : World}

theorem wf_u8 {n : Int} (h : (Lit.int .u8 n).wf = true) : 0 ≤ n ∧ n < 256 := by
  simp only [Lit.wf, Bool.and_eq_true, decide_eq_true_eq] at h
  have h1 : IntKind.u8.min = 0 := by decide
  have h2 : IntKind.u8.max = 255 := by decide
  omega

theorem open_bytes {ao : Option Addr} {len cap : Nat} {d : DataW H} {p : List MemPlace} (h : DataW.Trod enc Tryz.prog w 0 (fun _ => true) true 42 (.slice ao len cap) d p) :
    ∃ l : List UInt8, l.length = len ∧ Rd w (.slice ao len cap) l.length 1 (bcells l) := by
  obtain ⟨fuel, hf⟩ := h
  rcases open_ints Tryz.underlying42 Tryz.underlying5 cU8 hf with ⟨hcs, _⟩ | ⟨x, ln, c, zs, hcs, _, hl, hm, hz, _, hcell, hwz⟩
  · simp [Value.cells] at hcs
    obtain ⟨rfl, rfl, rfl⟩ := hcs
    exact ⟨[], rfl, rfl, Nat.zero_le _, .inl ⟨_, _, rfl, rfl⟩⟩
  · simp [Value.cells] at hcs
    obtain ⟨rfl, rfl, rfl⟩ := hcs
    simp only [if_true] at hz
    refine ⟨(zs.take len).map u8, by simp; omega, ?_⟩
    have hlen : ((zs.take len).map u8).length = len := by simp; omega
    rw [hlen]
    refine ⟨by rw [bcells_len, hlen]; omega, by omega, ?_⟩
    rcases Nat.eq_zero_or_pos len with h0 | h0
    · subst h0; exact .inl ⟨_, _, rfl, rfl⟩
    · have hsp : x.spot = none := by
        have := World.cell?_spot (hcell 0 (by omega))
        simpa [Addr.add] using this
      obtain ⟨b, off, sp⟩ := x
      simp only at hsp
      subst hsp
      refine .inr ⟨b, off, cap, rfl, h0, hl, hm, fun i u hu => ?_⟩
      have hi : i < len := by
        have := (List.getElem?_eq_some_iff.1 hu).1
        rw [bcells_len, hlen] at this
        exact this
      have hc := hcell i (by omega)
      have hadd : (⟨b, off, none⟩ : Addr).add i = ⟨b, off + i, none⟩ := by unfold Addr.add; split <;> simp_all
      rw [hadd] at hc
      rw [hc, ← hu]
      have hzi : i < zs.length := by omega
      have hw := wf_u8 (hwz zs[i] (List.getElem_mem hzi))
      simp only [bcells, List.getElem?_map, List.getElem?_take]
      rw [if_pos hi]
      simp [List.getElem?_eq_getElem hzi, List.getD]
      rw [ch_u8 _ (by omega) (by omega)]

theorem rd_ones {t e : TypeId} {fuel : Nat} {ao : Option Addr} {len cap : Nat} {y : DataW H × List MemPlace} (ht : Tryz.prog.underlying t = some (.slice e)) (he : Tryz.prog.cellsOf e = 1)
    (h : DataW.trod enc Tryz.prog w 0 (fun _ => true) true fuel t [.slice ao len cap] = some y) :
    ∃ vs : List Value, vs.length = len ∧ Rd w (.slice ao len cap) len 1 vs ∧ ∀ (i : Nat) (v : Value), vs[i]? = some v → ∃ n z, DataW.trod enc Tryz.prog w 0 (fun _ => true) true n e [v] = some z := by
  rcases open_slice ht h with ⟨hcs, _⟩ | ⟨a, ln, c, m, n, D, Pl, hcs, _, hl, hm, hmm, _, hx⟩
  · simp at hcs
    obtain ⟨rfl, rfl, rfl⟩ := hcs
    exact ⟨[], rfl, ⟨rfl, Nat.zero_le _, .inl ⟨_, _, rfl, rfl⟩⟩, by simp⟩
  · simp at hcs
    obtain ⟨rfl, rfl, rfl⟩ := hcs
    simp only [if_true] at hmm
    subst hmm
    have key : ∀ i, i < m → ∃ v : Value, w.cell? (a.add i) = some v ∧ ∃ z, DataW.trod enc Tryz.prog w 0 (fun _ => true) true n e [v] = some z := by
      intro i hi
      obtain ⟨cs', h1, h2⟩ := hx i hi
      rw [he] at h1
      obtain ⟨_, hlen, hcell⟩ := World.cells?_some h1
      match cs', hlen with
      | [v], _ =>
        have e0 := hcell 0 (by omega)
        rw [add_add, Nat.mul_one, Nat.add_zero] at e0
        exact ⟨v, by simpa using e0, _, h2⟩
    obtain ⟨q, hq⟩ := choose_lt key
    have hlen : ((List.range len).map q).length = len := by simp
    refine ⟨(List.range len).map q, hlen, ⟨by rw [hlen]; omega, by omega, ?_⟩, ?_⟩
    · rcases Nat.eq_zero_or_pos len with h0 | h0
      · subst h0; exact .inl ⟨_, _, rfl, rfl⟩
      · have hsp : a.spot = none := by
          have := World.cell?_spot (hq 0 (by omega)).1
          simpa [Addr.add] using this
        obtain ⟨b, off, sp⟩ := a
        simp only at hsp
        subst hsp
        refine .inr ⟨b, off, m, rfl, h0, hl, hm, fun i u hu => ?_⟩
        have hi : i < len := by
          have := (List.getElem?_eq_some_iff.1 hu).1
          rwa [hlen] at this
        have hc := (hq i (by omega)).1
        have hadd : (⟨b, off, none⟩ : Addr).add i = ⟨b, off + i, none⟩ := by unfold Addr.add; split <;> simp_all
        rw [hadd] at hc
        rw [hc, ← hu]
        simp [hi]
    · intro i v hv
      have hi : i < len := by
        have := (List.getElem?_eq_some_iff.1 hv).1
        rwa [hlen] at this
      obtain ⟨-, z, hz⟩ := hq i (by omega)
      simp [hi] at hv
      rw [← hv]
      exact ⟨n, z, hz⟩

theorem rd_bytesD {fuel : Nat} {v : Value} {y : DataW H × List MemPlace} (h : DataW.trod enc Tryz.prog w 0 (fun _ => true) true fuel 42 [v] = some y) : ∃ l : List UInt8, Rd w v l.length 1 (bcells l) := by
  obtain ⟨a, ln, c, hv⟩ := Go.Joins.slice_form Tryz.underlying42 h
  simp at hv
  subst hv
  obtain ⟨l, hl, hr⟩ := open_bytes (enc := enc) (w := w) (ao := a) (len := ln) (cap := c) (d := y.1) (p := y.2) ⟨fuel, by simpa [Value.cells] using h⟩
  exact ⟨l, hr⟩

theorem open_docs {ao : Option Addr} {len cap : Nat} {d : DataW H} {p : List MemPlace} (h : DataW.Trod enc Tryz.prog w 0 (fun _ => true) true 22 (.slice ao len cap) d p) :
    ∃ l : List (List UInt8), l.length = len ∧ DocsRd w (.slice ao len cap) l := by
  obtain ⟨fuel, hf⟩ := h
  simp only [Value.cells] at hf
  obtain ⟨vs, hl, hr, hel⟩ := rd_ones Tryz.underlying22 cBytes (by simpa using hf)
  have key : ∀ i, i < len → ∃ b : List UInt8, ∃ v, vs[i]? = some v ∧ Rd w v b.length 1 (bcells b) := by
    intro i hi
    have hi' : i < vs.length := by omega
    obtain ⟨n, z, hz⟩ := hel i vs[i] (List.getElem?_eq_getElem hi')
    obtain ⟨b, hb⟩ := rd_bytesD hz
    exact ⟨b, _, List.getElem?_eq_getElem hi', hb⟩
  obtain ⟨q, hq⟩ := choose_lt key
  refine ⟨(List.range len).map q, by simp, vs, by rw [List.length_map, List.length_range]; exact hr, fun i hi => ?_⟩
  rw [List.length_map, List.length_range] at hi
  obtain ⟨v, h1, h2⟩ := hq i hi
  exact ⟨v, h1, by simpa using h2⟩

set_option maxRecDepth 100000 in
theorem open_u8 {r : Reach} {b0 : Nat} {v : Value} {d : DataW H} {ps : List MemPlace} (hval : Value.okWide Tryz.prog w r b0 5 v) (hd : DataW.Trod enc Tryz.prog w 0 (fun _ => true) true 5 v d ps) : ∃ z : Int, v = .int .u8 z ∧ (0 ≤ z ∧ z < 256) := by
  obtain ⟨n, h1, _, _, hw⟩ := open_int Tryz.underlying5 hval hd
  exact ⟨n, h1, wf_u8 hw⟩
end
end Go.Proofs.YteegbjjpjdlcmaaGreatDoor
