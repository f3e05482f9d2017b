/- What an argument that can be read is: a segment. -/
import Derived.Test.YteegbjjpjdlcmaaDoorOpen
import Derived.Test.YteegbjjpjdlcmaaDoorDictW
import Derived.Lib.SmallJoins
set_option linter.unusedVariables false
namespace Go.Proofs.YteegbjjpjdlcmaaDoor
open Go.ChangeShapes Go.WideShapes Go.RowKit Go.Deep

theorem cEnt : Tryd.prog.cellsOf 64 = 2 := by kernel_rfl
theorem cInts : Tryd.prog.cellsOf 41 = 1 := by kernel_rfl
theorem cASpan : Tryd.prog.cellsOf 23 = 2 := by kernel_rfl
theorem cEnts : Tryd.prog.cellsOf 24 = 1 := by kernel_rfl
theorem cSegm : Tryd.prog.cellsOf 26 = 3 := by kernel_rfl

theorem pairs_len {α : Type} (V0 V1 : Nat → α) (n : Nat) : ((List.range n).flatMap fun i => [V0 i, V1 i]).length = n * 2 := by
  induction n with
  | zero => rfl
  | succ k ih => simp [List.range_succ] at ih ⊢; omega
theorem pairs_from {α : Type} (V0 V1 : Nat → α) (n k : Nat) (h : k < n) : ((List.range n).flatMap fun i => [V0 i, V1 i])[k * 2]? = some (V0 k) ∧ ((List.range n).flatMap fun i => [V0 i, V1 i])[k * 2 + 1]? = some (V1 k) := by
  induction n with
  | zero => omega
  | succ n ih =>
    have hl := pairs_len V0 V1
    rw [List.range_succ, List.flatMap_append]
    by_cases hk : k = n
    · subst hk
      rw [List.getElem?_append_right (by rw [hl]; omega), List.getElem?_append_right (by rw [hl]; omega), hl]
      simp
    · rw [List.getElem?_append_left (by rw [hl]; omega), List.getElem?_append_left (by rw [hl]; omega)]
      exact ih (by omega)

section
variable {H : Type} {enc : TypeId × Value → H} {w : World}

/-- the cells of a slice of integers. -/
theorem rd_ints {fuel : Nat} {v : Value} {y : DataW H × List MemPlace} (h : DataW.trod enc Tryd.prog w 0 (fun _ => true) true fuel 41 [v] = some y) :
    ∃ l : List Int, Rd w v l.length 1 (icells l) := by
  rcases open_ints Tryd.underlying41 Tryd.underlying3 cInt h with ⟨hcs, _⟩ | ⟨x, ln, c, zs, hcs, _, hl, hm, hz, _, hcell, hwz⟩
  · simp at hcs
    subst hcs
    exact ⟨[], rfl, Nat.zero_le _, .inl ⟨_, _, rfl, rfl⟩⟩
  · simp at hcs
    subst hcs
    simp only [if_true] at hz
    have hlen : (zs.take ln).length = ln := by simp; omega
    refine ⟨zs.take ln, ?_⟩
    rw [hlen]
    refine ⟨by rw [icells_len, hlen]; omega, by omega, ?_⟩
    rcases Nat.eq_zero_or_pos ln with h0 | h0
    · subst h0; exact .inl ⟨_, _, rfl, rfl⟩
    · have hsp : x.spot = none := by
        have := World.cell?_spot (hcell 0 (by omega))
        simpa [Addr.add] using this
      obtain ⟨b, off, sp⟩ := x
      simp only at hsp
      subst hsp
      refine .inr ⟨b, off, c, rfl, h0, hl, hm, fun i u hu => ?_⟩
      have hi : i < ln := by
        have := (List.getElem?_eq_some_iff.1 hu).1
        simp [icells] at this
        omega
      have hc := hcell i (by omega)
      have hadd : (⟨b, off, none⟩ : Addr).add i = ⟨b, off + i, none⟩ := by unfold Addr.add; split <;> simp_all
      rw [hadd] at hc
      rw [hc, ← hu]
      have hzi : i < zs.length := by omega
      simp only [icells, List.getElem?_map, List.getElem?_take]
      rw [if_pos hi]
      simp [List.getElem?_eq_getElem hzi, List.getD]

/-- the entries of a slice. -/
theorem rd_ents {fuel : Nat} {v : Value} {y : DataW H × List MemPlace} (h : DataW.trod enc Tryd.prog w 0 (fun _ => true) true fuel 24 [v] = some y) :
    ∃ (n : Nat) (d : List Ent), DRd w v n d := by
  rcases open_slice_pairs Tryd.underlying24 Tryd.underlying64 cEnt rfl rfl cStr cInts h with ⟨hcs, _⟩ | ⟨x, ln, c, m, n, V0, V1, D0, D1, P0, P1, hcs, _, hl, hm, hmm, _, hcell⟩
  · simp at hcs
    subst hcs
    exact ⟨0, [], rfl, [], ⟨rfl, Nat.zero_le _, .inl ⟨_, _, rfl, rfl⟩⟩, fun i hi => by simp at hi⟩
  · simp at hcs
    subst hcs
    simp only [if_true] at hmm
    subst hmm
    have key : ∀ i, i < m → ∃ q : Ent, V0 i = str q.1 ∧ Rd w (V1 i) q.2.length 1 (icells q.2) := by
      intro i hi
      obtain ⟨_, _, h1, h2⟩ := hcell i hi
      obtain ⟨s, hs, _, _⟩ := DataW.trod_string Tryd.underlying9 h1
      obtain ⟨l, hl⟩ := rd_ints h2
      refine ⟨(s.toList, l), ?_, hl⟩
      have : V0 i = .string s := by simpa using hs
      rw [this]
      unfold str
      congr 1
      unfold bstr
      rw [ByteArray.toList_eq]
    obtain ⟨q, hq⟩ := choose_lt key
    have hlen : ((List.range ln).map q).length = ln := by simp
    have hcl : ((List.range ln).flatMap fun i => [V0 i, V1 i]).length = ln * 2 := pairs_len V0 V1 ln
    refine ⟨ln, (List.range ln).map q, hlen, (List.range ln).flatMap fun i => [V0 i, V1 i], ⟨hcl, by omega, ?_⟩, ?_⟩
    · rcases Nat.eq_zero_or_pos ln with h0 | h0
      · subst h0; exact .inl ⟨_, _, rfl, rfl⟩
      · have hsp : x.spot = none := by
          have := World.cell?_spot (hcell 0 (by omega)).1
          simpa [Addr.add] using this
        obtain ⟨b, off, sp⟩ := x
        simp only at hsp
        subst hsp
        refine .inr ⟨b, off, m, rfl, h0, hl, hm, fun i u hu => ?_⟩
        have hi : i < ln * 2 := by
          have := (List.getElem?_eq_some_iff.1 hu).1
          rw [hcl] at this
          exact this
        have hi2 : i / 2 < ln := by omega
        have hadd : ∀ j, (⟨b, off, none⟩ : Addr).add j = ⟨b, off + j, none⟩ := by intro j; unfold Addr.add; split <;> simp_all
        obtain ⟨c0, c1, _, _⟩ := hcell (i / 2) (by omega)
        obtain ⟨f0, f1⟩ := pairs_from V0 V1 ln (i / 2) hi2
        rw [hadd] at c0
        rw [hadd] at c1
        rcases Nat.mod_two_eq_zero_or_one i with hm2 | hm2
        · have : i / 2 * 2 = i := by omega
          rw [this] at c0 f0
          rw [f0] at hu
          rw [c0, hu]
        · have : i / 2 * 2 + 1 = i := by omega
          rw [this] at f1
          rw [show off + (i / 2 * 2 + 1) = off + i from by omega] at c1
          rw [f1] at hu
          rw [c1, hu]
    · intro i hi
      rw [hlen] at hi
      obtain ⟨f0, f1⟩ := pairs_from V0 V1 ln i hi
      obtain ⟨e0, e1⟩ := hq i (by omega)
      simp only [List.getElem_map, List.getElem_range]
      exact ⟨by rw [f0, e0], V1 i, f1, e1⟩

set_option maxRecDepth 100000 in
theorem open_seg {r : Reach} {b0 : Nat} {v : Value} {d : DataW H} {p : List MemPlace} (hval : Value.okWide Tryd.prog w r b0 26 v) (h : DataW.Trod enc Tryd.prog w 0 (fun _ => true) true 26 v d p) :
    ∃ (f t : Int) (dv : Value) (n : Nat) (l : List Ent), v = .agg #[.int .i64 f, .int .i64 t, dv] ∧ DRd w dv n l := by
  obtain ⟨cs, rfl, hsz⟩ := okWide_struct Tryd.underlying26 hval
  obtain ⟨c0, c1, c2, rfl⟩ := Go.Joins.array3 (hsz.trans cSegm)
  obtain ⟨fuel, hf⟩ := h
  obtain ⟨y0, y1, n, hx, _, h0, h1⟩ := trod_struct2 Tryd.underlying26 hf
  rw [cASpan] at h0
  rw [cEnts] at h1
  simp [Value.cells] at h0 h1
  obtain ⟨z0, z1, m, hx2, _, g0, g1⟩ := trod_struct2 Tryd.underlying23 h0
  rw [cInt] at g0 g1
  simp at g0 g1
  obtain ⟨a, ha, _, _⟩ := DataW.trod_int Tryd.underlying3 g0
  obtain ⟨b, hb, _, _⟩ := DataW.trod_int Tryd.underlying3 g1
  simp at ha hb
  subst ha
  subst hb
  obtain ⟨k, l, hl⟩ := rd_ents h1
  exact ⟨a, b, c2, k, l, rfl, hl⟩
end
end Go.Proofs.YteegbjjpjdlcmaaDoor
