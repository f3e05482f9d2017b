/- What an argument that can be read is: a slice of bytes, of steps. -/
import Derived.Test.YteegbjjpjdlcmaaDoorLaid
import Derived.Test.YteegbjjpjdlcmaaDoorQRight
import Derived.ShutString
import Derived.Deep.SlicePairs
set_option linter.unusedVariables false
namespace Go.Proofs.YteegbjjpjdlcmaaDoor
open Go.ChangeShapes Go.WideShapes Go.RowKit Go.Deep

theorem cOp : Tryd.prog.cellsOf 55 = 2 := by kernel_rfl
theorem cStr : Tryd.prog.cellsOf 9 = 1 := by kernel_rfl
theorem cU8 : Tryd.prog.cellsOf 5 = 1 := by kernel_rfl

section
variable {H : Type} {enc : TypeId × Value → H} {w : World}

theorem wf_i64 {n : Int} (h : (Lit.int .i64 n).wf = true) : -9223372036854775808 ≤ n ∧ n ≤ 9223372036854775807 := by
  simp only [Lit.wf, Bool.and_eq_true, decide_eq_true_eq] at h
  have h1 : IntKind.i64.min = -9223372036854775808 := by decide
  have h2 : IntKind.i64.max = 9223372036854775807 := by decide
  omega
theorem wf_u8 {n : Int} (h : (Lit.int .u8 n).wf = true) : 0 ≤ n ∧ n < 256 := by
  simp only [Lit.wf, Bool.and_eq_true, decide_eq_true_eq] at h
  have h1 : IntKind.u8.min = 0 := by decide
  have h2 : IntKind.u8.max = 255 := by decide
  omega

theorem open_bytes {ao : Option Addr} {len cap : Nat} {d : DataW H} {p : List MemPlace} (h : DataW.Trod enc Tryd.prog w 0 (fun _ => true) true 72 (.slice ao len cap) d p) :
    ∃ l : List UInt8, l.length = len ∧ Rd w (.slice ao len cap) l.length 1 (bcells l) := by
  obtain ⟨fuel, hf⟩ := h
  rcases open_ints Tryd.underlying72 Tryd.underlying5 cU8 hf with ⟨hcs, _⟩ | ⟨x, ln, c, zs, hcs, _, hl, hm, hz, _, hcell, hwz⟩
  · simp [Value.cells] at hcs
    obtain ⟨rfl, rfl, rfl⟩ := hcs
    exact ⟨[], rfl, rfl, Nat.zero_le _, .inl ⟨_, _, rfl, rfl⟩⟩
  · simp [Value.cells] at hcs
    obtain ⟨rfl, rfl, rfl⟩ := hcs
    simp only [if_true] at hz
    refine ⟨(zs.take len).map u8, by simp; omega, ?_⟩
    have hlen : ((zs.take len).map u8).length = len := by simp; omega
    rw [hlen]
    refine ⟨by rw [bcells_len, hlen]; omega, by omega, ?_⟩
    rcases Nat.eq_zero_or_pos len with h0 | h0
    · subst h0; exact .inl ⟨_, _, rfl, rfl⟩
    · have hsp : x.spot = none := by
        have := World.cell?_spot (hcell 0 (by omega))
        simpa [Addr.add] using this
      obtain ⟨b, off, sp⟩ := x
      simp only at hsp
      subst hsp
      refine .inr ⟨b, off, cap, rfl, h0, hl, hm, fun i u hu => ?_⟩
      have hi : i < len := by
        have := (List.getElem?_eq_some_iff.1 hu).1
        rw [bcells_len, hlen] at this
        exact this
      have hc := hcell i (by omega)
      have hadd : (⟨b, off, none⟩ : Addr).add i = ⟨b, off + i, none⟩ := by unfold Addr.add; split <;> simp_all
      rw [hadd] at hc
      rw [hc, ← hu]
      have hzi : i < zs.length := by omega
      have hw := wf_u8 (hwz zs[i] (List.getElem_mem hzi))
      simp only [bcells, List.getElem?_map, List.getElem?_take]
      rw [if_pos hi]
      simp [List.getElem?_eq_getElem hzi, List.getD]
      rw [ch_u8 _ (by omega) (by omega)]

theorem open_ops {ao : Option Addr} {len cap : Nat} {d : DataW H} {p : List MemPlace} (h : DataW.Trod enc Tryd.prog w 0 (fun _ => true) true 38 (.slice ao len cap) d p) :
    ∃ l : List QOp, l.length = len ∧ Rd w (.slice ao len cap) l.length 2 (ocells l) ∧ ∀ s ∈ l, -9223372036854775808 ≤ s.1 ∧ s.1 ≤ 9223372036854775807 := by
  obtain ⟨fuel, hf⟩ := h
  rcases open_slice_pairs Tryd.underlying38 Tryd.underlying55 cOp rfl rfl cInt cStr hf with ⟨hcs, _⟩ | ⟨x, ln, c, m, n, V0, V1, D0, D1, P0, P1, hcs, _, hl, hm, hmm, _, hcell⟩
  · simp [Value.cells] at hcs
    obtain ⟨rfl, rfl, rfl⟩ := hcs
    exact ⟨[], rfl, ⟨rfl, Nat.zero_le _, .inl ⟨_, _, rfl, rfl⟩⟩, by simp⟩
  · simp [Value.cells] at hcs
    obtain ⟨rfl, rfl, rfl⟩ := hcs
    simp only [if_true] at hmm
    subst hmm
    have key : ∀ i, i < m → ∃ q : QOp, V0 i = .int .i64 q.1 ∧ V1 i = .string (bstr q.2) ∧ -9223372036854775808 ≤ q.1 ∧ q.1 ≤ 9223372036854775807 := by
      intro i hi
      obtain ⟨_, _, h1, h2⟩ := hcell i hi
      obtain ⟨z, hz, _, hwz⟩ := DataW.trod_int Tryd.underlying3 h1
      obtain ⟨s, hs, _, _⟩ := DataW.trod_string Tryd.underlying9 h2
      refine ⟨(z, s.toList), by simpa using hz, ?_, wf_i64 hwz⟩
      have : V1 i = .string s := by simpa using hs
      rw [this]
      congr 1
      unfold bstr
      rw [ByteArray.toList_eq]
    obtain ⟨q, hq⟩ := choose_lt key
    have hlen : ((List.range len).map q).length = len := by simp
    refine ⟨(List.range len).map q, hlen, ?_, ?_⟩
    · rw [hlen]
      refine ⟨by rw [ocells_len, hlen], by omega, ?_⟩
      rcases Nat.eq_zero_or_pos len with h0 | h0
      · subst h0; exact .inl ⟨_, _, rfl, rfl⟩
      · have hsp : x.spot = none := by
          have := World.cell?_spot (hcell 0 (by omega)).1
          simpa [Addr.add] using this
        obtain ⟨b, off, sp⟩ := x
        simp only at hsp
        subst hsp
        refine .inr ⟨b, off, m, rfl, h0, hl, hm, fun i u hu => ?_⟩
        have hi : i < len * 2 := by
          have := (List.getElem?_eq_some_iff.1 hu).1
          rw [ocells_len, hlen] at this
          exact this
        have hi2 : i / 2 < len := by omega
        have hadd : ∀ j, (⟨b, off, none⟩ : Addr).add j = ⟨b, off + j, none⟩ := by intro j; unfold Addr.add; split <;> simp_all
        obtain ⟨c0, c1, _, _⟩ := hcell (i / 2) (by omega)
        obtain ⟨e0, e1, _⟩ := hq (i / 2) (by omega)
        obtain ⟨f0, f1⟩ := ocells_from ((List.range len).map q) (i / 2) (by rw [hlen]; exact hi2)
        rw [hadd, e0] at c0
        rw [hadd, e1] at c1
        simp only [List.getElem_map, List.getElem_range] at f0 f1
        rcases Nat.mod_two_eq_zero_or_one i with hm2 | hm2
        · have : i / 2 * 2 = i := by omega
          rw [this] at c0 f0
          rw [f0] at hu
          rw [c0, hu]
        · have : i / 2 * 2 + 1 = i := by omega
          rw [this] at f1
          rw [show off + (i / 2 * 2 + 1) = off + i from by omega] at c1
          rw [f1] at hu
          rw [c1, hu]
    · intro s hs
      simp only [List.mem_map, List.mem_range] at hs
      obtain ⟨i, hi, rfl⟩ := hs
      exact (hq i (by omega)).2.2

set_option maxRecDepth 100000 in
theorem open_text {r : Reach} {b0 : Nat} {t : TypeId} {v : Value} {d : DataW H} {ps : List MemPlace} (ht : Tryd.prog.underlying t = some .string) (hval : Value.okWide Tryd.prog w r b0 t v) (hd : DataW.Trod enc Tryd.prog w 0 (fun _ => true) true t v d ps) : ∃ l : List UInt8, v = .string (bstr l) ∧ True := by
  obtain ⟨s, rfl⟩ := okWide_string ht hval
  refine ⟨s.toList, ?_, trivial⟩
  congr 1
  unfold bstr
  rw [ByteArray.toList_eq]

set_option maxRecDepth 100000 in
theorem open_u8 {r : Reach} {b0 : Nat} {v : Value} {d : DataW H} {ps : List MemPlace} (hval : Value.okWide Tryd.prog w r b0 5 v) (hd : DataW.Trod enc Tryd.prog w 0 (fun _ => true) true 5 v d ps) : ∃ z : Int, v = .int .u8 z ∧ (0 ≤ z ∧ z < 256) := by
  obtain ⟨n, h1, _, _, hw⟩ := open_int Tryd.underlying5 hval hd
  exact ⟨n, h1, wf_u8 hw⟩
end
end Go.Proofs.YteegbjjpjdlcmaaDoor
