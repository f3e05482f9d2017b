/- The parts of documents: their dictionaries are right. Plain laws, no program. -/
import Derived.Test.YteegbjjpjdlcmaaGreatDoorMakeUni
import Derived.Test.YteegbjjpjdlcmaaGreatDoorRefLaw
set_option linter.unusedVariables false
namespace Go.Proofs.YteegbjjpjdlcmaaGreatDoor
open Go.RowKit Go.Sort

theorem word_right {m : List Int} (h : ∀ c ∈ m, inWord c = true) (hne : m ≠ []) : rightTok (term m) = true ∧ term m ≠ [] := by
  obtain ⟨m', h1, h2, h3⟩ := termGo_encs m [] h
  have ht : term m = encs m' := by unfold term; rw [h1]; rfl
  have hl : (term m).length ≤ 64 := term_le [] m (by decide)
  have hm' : m' ≠ [] := by
    intro e
    rcases h3 e with h | h
    · exact hne h
    · simp at h
  rw [ht] at hl ⊢
  constructor
  · rw [← refTok_is]
    have hd' : decode (encs m') = m' := by
      have := decode_encs m' (fun c hc => (h2 c hc).1) []
      rw [List.append_nil, decode_nil, List.append_nil] at this
      exact this
    unfold refTok
    rw [hd']
    simp only [Bool.and_eq_true, List.all_eq_true, decide_eq_true_eq, beq_iff_eq]
    exact ⟨⟨h2, List.length_pos_iff.2 hm'⟩, hl⟩
  · cases m' with
    | nil => exact absurd rfl hm'
    | cons c m' =>
      intro e
      have hc := inWord_lt (h2 c (by simp)).1
      have := enc_ne (c := c) (by omega)
      simp only [encs, List.flatMap_cons, List.append_eq_nil_iff] at e
      exact this e.1

theorem terms_good (b : List UInt8) : ∀ t ∈ terms b, rightTok t = true ∧ 0 < t.length ∧ t.length ≤ 64 := by
  intro t ht
  have hle := terms_le b t ht
  unfold terms at ht
  obtain ⟨m, hm, rfl⟩ := List.mem_map.1 ht
  obtain ⟨h1, h2⟩ := words_mem (decode b) [] (by simp) m hm
  obtain ⟨h3, h4⟩ := word_right h2 h1
  exact ⟨h3, List.length_pos_iff.2 h4, hle⟩

theorem makeF_len (docs : List (List UInt8)) (B : Nat) (hB : ∀ d ∈ docs, d.length ≤ B) (lo n : Nat) : (makeF docs lo n).length ≤ n * B := by
  unfold makeF
  rw [List.length_map]
  exact Nat.le_trans (setOf_len _) (allT_len docs B hB n lo)
theorem mem_allT_terms {docs : List (List UInt8)} {t : List UInt8} {lo n : Nat} (h : t ∈ allT docs lo n) : ∃ b, t ∈ terms b := by
  unfold allT at h
  obtain ⟨i, -, hi⟩ := List.mem_flatMap.1 h
  exact ⟨_, mem_setOf.1 hi⟩
theorem inDocs_rises (docs : List (List UInt8)) (t : List UInt8) (lo n : Nat) : (inDocs docs t lo n).Pairwise (· < ·) := by
  unfold inDocs
  refine List.Pairwise.map _ (R := (· < ·)) (fun a b h => by omega) ?_
  exact List.Pairwise.filter _ List.pairwise_lt_range'
theorem makeF_ent {docs : List (List UInt8)} {lo n : Nat} {e : Ent} (h : e ∈ makeF docs lo n) : rightTok e.1 = true ∧ e.1.length ≤ 64 ∧ e.2 ≠ [] ∧ e.2.length ≤ n ∧ e.2.Pairwise (· < ·) ∧ ∀ z ∈ e.2, (lo : Int) ≤ z ∧ z < ((lo + n : Nat) : Int) := by
  have h0 := makeF_ne docs lo n e h
  unfold makeF at h
  obtain ⟨t, ht, rfl⟩ := List.mem_map.1 h
  obtain ⟨b, hb⟩ := mem_allT_terms (mem_setOf.1 ht)
  obtain ⟨g1, -, g3⟩ := terms_good b t hb
  refine ⟨g1, g3, h0, inDocs_len _ _ _ _, inDocs_rises _ _ _ _, fun z hz => ?_⟩
  obtain ⟨i, rfl, h1, h2, -⟩ := inDocs_mem.1 hz
  omega
theorem partD_right (docs : List (List UInt8)) (p : Nat × Nat) (h1 : p.1 < p.2) (h2 : p.2 ≤ 1000) : segRight (p.1 : Int) (p.2 : Int) (partD docs p) = true := by
  have hw : wholeB (p.1 : Int) (p.2 : Int) = true := by
    unfold wholeB
    simp only [Bool.and_eq_true, decide_eq_true_eq]
    omega
  have hent : ∀ e ∈ partD docs p, rightTok e.1 = true ∧ e.1.length ≤ 64 ∧ e.2 ≠ [] ∧ e.2.length ≤ p.2 - p.1 ∧ e.2.Pairwise (· < ·) ∧ ∀ z ∈ e.2, (p.1 : Int) ≤ z ∧ z < (p.2 : Int) := fun e he => by
    obtain ⟨g1, g2, g3, g4, g5, g6⟩ := makeF_ent (show e ∈ makeF docs p.1 (p.2 - p.1) from he)
    refine ⟨g1, g2, g3, g4, g5, fun z hz => ?_⟩
    have := g6 z hz
    omega
  have hd : dictRight (partD docs p) = true := by
    refine dictRight_yes (fun i hi => ?_) (fun i hi => ?_)
    · obtain ⟨g1, g2, g3, g4, g5, g6⟩ := hent _ (List.getElem_mem hi)
      rw [entOK_iff]
      refine ⟨g3, (postRight_iff _).2 ⟨g5, fun z hz => ?_⟩, g1⟩
      have := g6 z hz
      omega
    · have hr : risesE (partD docs p) := makeF_rises _ _ _
      unfold risesE Rises at hr
      have := List.pairwise_iff_getElem.1 hr i (i + 1) (by simp; omega) (by simpa using hi) (by omega)
      simpa using this
  unfold segRight
  rw [hw, hd, Bool.true_and, Bool.true_and, List.all_eq_true]
  intro e he
  rw [List.all_eq_true]
  intro z hz
  have := (hent e he).2.2.2.2.2 z hz
  unfold inSpan
  simp only [Bool.and_eq_true, decide_eq_true_eq]
  exact this
theorem total_parts (docs : List (List UInt8)) (B : Nat) (hB : ∀ d ∈ docs, d.length ≤ B) : ∀ {ps : List (Nat × Nat)} {lo hi : Nat}, chain lo ps hi → total (ps.map (partD docs)) ≤ (hi - lo) * B
  | [], lo, hi, h => by simp [total]
  | p :: r, lo, hi, h => by
    obtain ⟨rfl, h2, h3⟩ := h
    have ih := total_parts docs B hB h3
    have h4 := chain_le h3
    have h5 := makeF_len docs B hB p.1 (p.2 - p.1)
    unfold total at *
    simp only [List.map_cons, List.sum_cons]
    have h6 : (hi - p.1) * B = (p.2 - p.1) * B + (hi - p.2) * B := by rw [← Nat.add_mul]; congr 1; omega
    unfold partD at *
    omega
end Go.Proofs.YteegbjjpjdlcmaaGreatDoor
