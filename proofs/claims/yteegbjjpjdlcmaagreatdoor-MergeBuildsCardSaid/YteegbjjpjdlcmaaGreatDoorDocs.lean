/- Slices of documents; rubricklaw10.GreatDocs. -/
import Derived.Test.YteegbjjpjdlcmaaGreatDoorDictWz
set_option linter.unusedVariables false
namespace Go.Proofs.YteegbjjpjdlcmaaGreatDoor
open Go.RowKit Go.Sort

theorem bytes_shape {w : World} {v : Value} {b : List UInt8} (h : Rd w v b.length 1 (bcells b)) : ∃ ao c, v = .slice ao b.length c := by
  obtain ⟨-, -, ⟨ao, c, rfl, h0⟩ | ⟨b', off, c, rfl, -⟩⟩ := h
  · exact ⟨ao, c, by rw [h0]⟩
  · exact ⟨_, c, rfl⟩

/-- a slice of documents that can be read. -/
def DocsRd (w : World) (v : Value) (docs : List (List UInt8)) : Prop := ∃ vs : List Value, Rd w v docs.length 1 vs ∧ ∀ i (hi : i < docs.length), ∃ dv, vs[i]? = some dv ∧ Rd w dv docs[i].length 1 (bcells docs[i])

theorem DocsRd.below {w w' : World} {v : Value} {docs : List (List UInt8)} (h : DocsRd w v docs) (hb : Below w.heap.size w w') : DocsRd w' v docs := by
  obtain ⟨vs, h1, h2⟩ := h
  refine ⟨vs, h1.below hb, fun i hi => ?_⟩
  obtain ⟨dv, g1, g2⟩ := h2 i hi
  exact ⟨dv, g1, g2.below hb⟩

theorem docs_cells {w : World} {v : Value} {docs : List (List UInt8)} (h : DocsRd w v docs) : ∃ ao c, v = .slice ao docs.length c ∧ docs.length ≤ 9223372036854775807 ∧
    Hid (∀ i (hi : i < docs.length), ∃ b off da dc, ao = some ⟨b, off, none⟩ ∧ w.cell? ⟨b, off + i, none⟩ = some (.slice da docs[i].length dc) ∧ Rd w (.slice da docs[i].length dc) docs[i].length 1 (bcells docs[i])) := by
  obtain ⟨vs, ⟨hl, hm, hh⟩, hE⟩ := h
  unfold maxLen at hm
  rcases hh with ⟨ao, c, rfl, h0⟩ | ⟨b, off, c, rfl, h0, hnc, hcm, hcell⟩
  · exact ⟨ao, c, by rw [h0], by omega, fun i hi => by omega⟩
  · refine ⟨_, c, rfl, by omega, fun i hi => ?_⟩
    obtain ⟨dv, g1, g2⟩ := hE i hi
    obtain ⟨da, dc, rfl⟩ := bytes_shape g2
    exact ⟨b, off, da, dc, rfl, hcell _ _ g1, g2⟩

theorem bstr_size (l : List UInt8) : (bstr l).size = l.length := by
  unfold bstr ByteArray.size; simp

def greatDocs (docs : List (List UInt8)) : Bool := docs.any (fun d => decide (2500 < d.length)) || decide (40 < docs.length)
theorem greatDocs_no {docs : List (List UInt8)} (h : greatDocs docs = false) : docs.length ≤ 40 ∧ ∀ d ∈ docs, d.length ≤ 2500 := by
  unfold greatDocs at h
  simp only [Bool.or_eq_false_iff, decide_eq_false_iff_not, List.any_eq_false, decide_eq_true_eq] at h
  exact ⟨by omega, fun s hs => by have := h.1 s hs; omega⟩

set_option maxHeartbeats 1000000 in
theorem greatdocs_any (v : Value) (docs : List (List UInt8)) (w : World) (h : DocsRd w v docs) :
    Calls Tryz.prog 4 #[v] w fun e w' => e = .returned (.bool (greatDocs docs)) ∧ w = w' := by
  obtain ⟨ao, c, rfl, hm, HC⟩ := docs_cells h
  clear h
  go_enter Tryz.func4, Tryz.ntmps4
  go_wp2
  go_loopw [3] (fun i wr => ∃ (k : Nat), k ≤ docs.length ∧ i = .int .i64 k ∧ Hid (∀ j (hj : j < docs.length), j < k → docs[j].length ≤ 2500) ∧ w = wr) (fun i _ => docs.length - (intOf i).toNat)
  case atStart => exact ⟨0, Nat.zero_le _, rfl, fun j hj h => by omega, by first | rfl | trivial⟩
  case round =>
    obtain ⟨k, hk, rfl, HA, rfl⟩ := hrel
    by_cases hlt : k < docs.length
    · obtain ⟨b, off, da, dc, rfl, c1, -⟩ := HC.out k hlt
      have ki : (k : Int) < (docs.length : Int) := by omega
      have k0 : (0 : Int) ≤ (k : Int) := by omega
      have HY : Hid (2500 < docs[k].length → greatDocs docs = true) := fun h => by
        unfold greatDocs
        rw [Bool.or_eq_true, List.any_eq_true]
        exact .inl ⟨docs[k], List.getElem_mem _, by simpa using h⟩
      have HN : Hid (docs[k].length ≤ 2500 → ∀ j (hj : j < docs.length), j < k + 1 → docs[j].length ≤ 2500) := fun g j hj h => by
        by_cases e : j = k
        · subst e; exact g
        · exact HA.out j hj (by omega)
      generalize docs[k].length = m at *
      by_cases h1 : 2500 < m
      · have i1 : (2500 : Int) < (m : Int) := by omega
        have HR := Lib.hid (HY.out h1)
        go_wp2
        go_ret
        exact ⟨by rw [HR.out]; rfl, rfl⟩
      · have i1 : ¬ (2500 : Int) < (m : Int) := by omega
        have HR := Lib.hid (HN.out (by omega))
        go_wp2
        go_roundw
        case rel => exact ⟨k + 1, by omega, by go_num, HR.out, by first | rfl | trivial⟩
        case measure => simp [intOf]; omega
    · have ki : ¬ (k : Int) < (docs.length : Int) := by omega
      have hany : (docs.any fun d => decide (2500 < d.length)) = false := by
        rw [List.any_eq_false]
        intro d hd
        obtain ⟨j, hj, rfl⟩ := List.mem_iff_getElem.1 hd
        have := HA.out j hj (by omega)
        simp only [decide_eq_true_eq]
        omega
      have hr : greatDocs docs = decide (40 < docs.length) := by unfold greatDocs; rw [hany]; rfl
      have HR := Lib.hid hr
      clear hr hany
      by_cases h40 : 40 < docs.length
      · have i1 : (40 : Int) < (docs.length : Int) := by omega
        go_wp2
        go_ret
        exact ⟨by rw [HR.out, decide_eq_true h40]; first | rfl | simp [i1], rfl⟩
      · have i1 : ¬ (40 : Int) < (docs.length : Int) := by omega
        go_wp2
        go_ret
        exact ⟨by rw [HR.out, decide_eq_false h40]; first | rfl | simp [i1], rfl⟩

end Go.Proofs.YteegbjjpjdlcmaaGreatDoor
