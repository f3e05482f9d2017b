/- rubricklaw16.Great, rubricklaw10.GreatDocs, rubrickref09.Has. -/
import Derived.Test.YteegbjjpjdlcmaaDoorMatch
import Derived.Test.YteegbjjpjdlcmaaDoorRefDict
set_option linter.unusedVariables false
namespace Go.Proofs.YteegbjjpjdlcmaaDoor
open Go.RowKit Go.Sort

def great (l : List QOp) : Bool := l.any (fun s => decide (200 < s.2.length)) || decide (60 < l.length)

theorem great_no {l : List QOp} (h : great l = false) : l.length ≤ 60 ∧ ∀ s ∈ l, s.2.length ≤ 200 := by
  unfold great at h
  simp only [Bool.or_eq_false_iff, decide_eq_false_iff_not, List.any_eq_false, decide_eq_true_eq] at h
  exact ⟨by omega, fun s hs => by have := h.1 s hs; omega⟩

theorem bstr_size (l : List UInt8) : (bstr l).size = l.length := by
  unfold bstr ByteArray.size; simp

set_option maxHeartbeats 1000000 in
theorem great_any (v : Value) (l : List QOp) (w : World) (h : Rd w v l.length 2 (ocells l)) :
    Calls Tryd.prog 15 #[v] w fun e w' => e = .returned (.bool (great l)) ∧ w = w' := by
  obtain ⟨ao, c, rfl, hm, hcell⟩ := ops_cells h
  have HC := Lib.hid hcell
  clear hcell h
  have hmx : l.length ≤ 9223372036854775807 := hm
  go_enter Tryd.func15, Tryd.ntmps15
  go_wp2
  go_loopw [3] (fun i wr => ∃ (k : Nat), k ≤ l.length ∧ i = .int .i64 k ∧ Hid (∀ s ∈ l.take k, s.2.length ≤ 200) ∧ w = wr) (fun i _ => l.length - (intOf i).toNat)
  case atStart => exact ⟨0, Nat.zero_le _, rfl, by intro s hs; simp at hs, rfl⟩
  case round =>
    obtain ⟨k, hk, rfl, HA, rfl⟩ := hrel
    by_cases hlt : k < l.length
    · obtain ⟨b, off, rfl, h1, h2⟩ := HC.out k hlt
      have htk : l.take (k + 1) = l.take k ++ [l[k]] := by rw [List.take_succ_eq_append_getElem hlt]
      obtain ⟨x, hx⟩ : ∃ s, s = l[k] := ⟨_, rfl⟩
      have hmem : x ∈ l := by rw [hx]; exact List.getElem_mem _
      rw [← hx] at htk h1 h2
      have HTK := Lib.hid htk
      clear h1 hx htk
      have hbs := bstr_size x.2
      by_cases hg : 200 < x.2.length
      · have hgi : (200 : Int) < (x.2.length : Int) := by omega
        have hfin : great l = true := by
          unfold great
          rw [Bool.or_eq_true]; left
          rw [List.any_eq_true]
          exact ⟨x, hmem, by simpa using hg⟩
        have HF := Lib.hid hfin
        have HM := Lib.hid hmem
        clear hfin hmem
        rw [← hbs] at hgi
        go_wp2
        go_ret
        exact ⟨by rw [HF.out]; rfl, rfl⟩
      · have hgi : ¬ (200 : Int) < (x.2.length : Int) := by omega
        rw [← hbs] at hgi
        go_wp2
        go_roundw
        case rel => exact ⟨k + 1, by omega, by go_num, by intro s hs; rw [HTK.out, List.mem_append] at hs; rcases hs with hs | hs; exact HA.out s hs; simp only [List.mem_singleton] at hs; subst hs; omega, trivial⟩
        case measure => simp [intOf]; omega
    · have hke : k = l.length := by omega
      subst hke
      have hg : great l = decide ((60 : Int) < (l.length : Int)) := by
        unfold great
        have h0 : l.any (fun s => decide (200 < s.2.length)) = false := by
          rw [List.any_eq_false]
          intro s hs
          have := HA.out s (by rw [List.take_length]; exact hs)
          simp; omega
        rw [h0, Bool.false_or]
        by_cases hx : 60 < l.length
        · rw [decide_eq_true hx, decide_eq_true (by omega)]
        · rw [decide_eq_false hx, decide_eq_false (by omega)]
      have HG := Lib.hid hg
      clear hg
      go_wp2
      go_ret
      exact ⟨by rw [HG.out]; rfl, rfl⟩

/-- brackets: the most that are open at once so far, and those open now. -/

def greatDocs (docs : List (List UInt8)) : Bool := docs.any (fun d => decide (2500 < d.length)) || decide (40 < docs.length)
theorem greatDocs_no {docs : List (List UInt8)} (h : greatDocs docs = false) : docs.length ≤ 40 ∧ ∀ d ∈ docs, d.length ≤ 2500 := by
  unfold greatDocs at h
  simp only [Bool.or_eq_false_iff, decide_eq_false_iff_not, List.any_eq_false, decide_eq_true_eq] at h
  exact ⟨by omega, fun s hs => by have := h.1 s hs; omega⟩

set_option maxHeartbeats 1000000 in
theorem greatdocs_any (v : Value) (docs : List (List UInt8)) (w : World) (h : DocsRd w v docs) :
    Calls Tryd.prog 22 #[v] w fun e w' => e = .returned (.bool (greatDocs docs)) ∧ w = w' := by
  obtain ⟨ao, c, rfl, hm, HC⟩ := docs_cells h
  clear h
  go_enter Tryd.func22, Tryd.ntmps22
  go_wp2
  go_loopw [3] (fun i wr => ∃ (k : Nat), k ≤ docs.length ∧ i = .int .i64 k ∧ Hid (∀ j (hj : j < docs.length), j < k → docs[j].length ≤ 2500) ∧ w = wr) (fun i _ => docs.length - (intOf i).toNat)
  case atStart => exact ⟨0, Nat.zero_le _, rfl, fun j hj h => by omega, by first | rfl | trivial⟩
  case round =>
    obtain ⟨k, hk, rfl, HA, rfl⟩ := hrel
    by_cases hlt : k < docs.length
    · obtain ⟨b, off, da, dc, rfl, c1, -⟩ := HC.out k hlt
      have ki : (k : Int) < (docs.length : Int) := by omega
      have k0 : (0 : Int) ≤ (k : Int) := by omega
      have HY : Hid (2500 < docs[k].length → greatDocs docs = true) := fun h => by
        unfold greatDocs
        rw [Bool.or_eq_true, List.any_eq_true]
        exact .inl ⟨docs[k], List.getElem_mem _, by simpa using h⟩
      have HN : Hid (docs[k].length ≤ 2500 → ∀ j (hj : j < docs.length), j < k + 1 → docs[j].length ≤ 2500) := fun g j hj h => by
        by_cases e : j = k
        · subst e; exact g
        · exact HA.out j hj (by omega)
      generalize docs[k].length = m at *
      by_cases h1 : 2500 < m
      · have i1 : (2500 : Int) < (m : Int) := by omega
        have HR := Lib.hid (HY.out h1)
        go_wp2
        go_ret
        exact ⟨by rw [HR.out]; rfl, rfl⟩
      · have i1 : ¬ (2500 : Int) < (m : Int) := by omega
        have HR := Lib.hid (HN.out (by omega))
        go_wp2
        go_roundw
        case rel => exact ⟨k + 1, by omega, by go_num, HR.out, by first | rfl | trivial⟩
        case measure => simp [intOf]; omega
    · have ki : ¬ (k : Int) < (docs.length : Int) := by omega
      have hany : (docs.any fun d => decide (2500 < d.length)) = false := by
        rw [List.any_eq_false]
        intro d hd
        obtain ⟨j, hj, rfl⟩ := List.mem_iff_getElem.1 hd
        have := HA.out j hj (by omega)
        simp only [decide_eq_true_eq]
        omega
      have hr : greatDocs docs = decide (40 < docs.length) := by unfold greatDocs; rw [hany]; rfl
      have HR := Lib.hid hr
      clear hr hany
      by_cases h40 : 40 < docs.length
      · have i1 : (40 : Int) < (docs.length : Int) := by omega
        go_wp2
        go_ret
        exact ⟨by rw [HR.out, decide_eq_true h40]; first | rfl | simp [i1], rfl⟩
      · have i1 : ¬ (40 : Int) < (docs.length : Int) := by omega
        go_wp2
        go_ret
        exact ⟨by rw [HR.out, decide_eq_false h40]; first | rfl | simp [i1], rfl⟩

def hasN (l : List Int) (z : Int) : Bool := l.contains z
theorem hasN_iff (l : List Int) (z : Int) : hasN l z = true ↔ z ∈ l := List.contains_iff_mem

set_option maxHeartbeats 1000000 in
theorem has09_any (v : Value) (n : Nat) (l : List Int) (z : Int) (w : World) (hn : l.length = n) (h : Rd w v n 1 (icells l)) :
    Calls Tryd.prog 24 #[v, .int .i64 z] w fun e w' => e = .returned (.bool (hasN l z)) ∧ w = w' := by
  obtain ⟨ao, c, rfl, hm, HC⟩ := ints_cells hn h
  have HN := Lib.hid hn
  clear h hn
  go_enter Tryd.func24, Tryd.ntmps24
  go_wp2
  go_loopw [5] (fun i wr => ∃ (k : Nat), k ≤ n ∧ i = .int .i64 k ∧ Hid (∀ j (hj : j < l.length), j < k → l[j] ≠ z) ∧ w = wr) (fun i _ => n - (intOf i).toNat)
  case atStart => exact ⟨0, Nat.zero_le _, rfl, fun j hj h => by omega, by first | rfl | trivial⟩
  case round =>
    obtain ⟨k, hk, rfl, HA, rfl⟩ := hrel
    by_cases hlt : k < n
    · have hkl : k < l.length := by have := HN.out; omega
      obtain ⟨b, off, rfl, c1⟩ := HC.out k hkl
      have ki : (k : Int) < (n : Int) := by omega
      have k0 : (0 : Int) ≤ (k : Int) := by omega
      have HY : Hid (l[k] = z → hasN l z = true) := fun h => by
        rw [hasN_iff, ← h]
        exact List.getElem_mem _
      have HX : Hid (l[k] ≠ z → ∀ j (hj : j < l.length), j < k + 1 → l[j] ≠ z) := fun g j hj h => by
        by_cases e : j = k
        · subst e; exact g
        · exact HA.out j hj (by omega)
      generalize l[k] = x at *
      by_cases h1 : x = z
      · have i1 : (x == z) = true := by rw [h1]; exact beq_self_eq_true _
        have HR := Lib.hid (HY.out h1)
        clear h1
        go_wp2
        go_ret
        exact ⟨by rw [HR.out]; rfl, rfl⟩
      · have i1 : (x == z) = false := beq_eq_false_iff_ne.2 h1
        have HR := Lib.hid (HX.out h1)
        clear h1
        go_wp2
        go_roundw
        case rel => exact ⟨k + 1, by omega, by go_num, HR.out, by first | rfl | trivial⟩
        case measure => simp [intOf]; omega
    · have ki : ¬ (k : Int) < (n : Int) := by omega
      have hr : hasN l z = false := by
        rw [Bool.eq_false_iff]
        intro hc
        rw [hasN_iff] at hc
        obtain ⟨j, hj, hz⟩ := List.mem_iff_getElem.1 hc
        exact HA.out j hj (by have := HN.out; omega) hz
      have HR := Lib.hid hr
      clear hr
      go_wp2
      go_ret
      exact ⟨by rw [HR.out]; rfl, rfl⟩
end Go.Proofs.YteegbjjpjdlcmaaDoor
