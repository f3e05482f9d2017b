/- rubricklaw05.TokenRights: the law, and the walk. -/
import Derived.Test.YtjbmihgfneamlaaDoorCutsWalk
import Derived.Test.YtjbmihgfneamlaaDoorRef05r
set_option linter.unusedVariables false
namespace Go.Proofs.YtjbmihgfneamlaaDoor
open Go.RowKit Go.Sort

theorem word_right {m : List Int} (h : ∀ c ∈ m, inWord c = true) (hne : m ≠ []) : rightTok (term m) = true ∧ term m ≠ [] := by
  obtain ⟨m', h1, h2, h3⟩ := termGo_encs m [] h
  have ht : term m = encs m' := by unfold term; rw [h1]; rfl
  have hl : (term m).length ≤ 64 := term_le [] m (by decide)
  have hm' : m' ≠ [] := by
    intro e
    rcases h3 e with h | h
    · exact hne h
    · simp at h
  rw [ht] at hl ⊢
  constructor
  · rw [← refTok_is]
    have hd' : decode (encs m') = m' := by
      have := decode_encs m' (fun c hc => (h2 c hc).1) []
      rw [List.append_nil, decode_nil, List.append_nil] at this
      exact this
    unfold refTok
    rw [hd']
    simp only [Bool.and_eq_true, List.all_eq_true, decide_eq_true_eq, beq_iff_eq]
    exact ⟨⟨h2, List.length_pos_iff.2 hm'⟩, hl⟩
  · cases m' with
    | nil => exact absurd rfl hm'
    | cons c m' =>
      intro e
      have hc := inWord_lt (h2 c (by simp)).1
      have := enc_ne (c := c) (by omega)
      simp only [encs, List.flatMap_cons, List.append_eq_nil_iff] at e
      exact this e.1

theorem terms_good (b : List UInt8) : ∀ t ∈ terms b, rightTok t = true ∧ 0 < t.length ∧ t.length ≤ 64 := by
  intro t ht
  have hle := terms_le b t ht
  unfold terms at ht
  obtain ⟨m, hm, rfl⟩ := List.mem_map.1 ht
  obtain ⟨h1, h2⟩ := words_mem (decode b) [] (by simp) m hm
  obtain ⟨h3, h4⟩ := word_right h2 h1
  exact ⟨h3, List.length_pos_iff.2 h4, hle⟩

set_option maxRecDepth 100000 in
set_option maxHeartbeats 8000000 in
theorem rights_walk (s : List UInt8) (v : Value) (b : List UInt8) (w : World) (ht : Tabs w) (hs : True) (h : Rd w v b.length 1 (bcells b)) :
    Calls Tryd.prog 8 #[.string (bstr s), v] w fun e w' => e = .returned (.bool true) ∧ Below w.heap.size w w' := by
  have HK : Hid (∀ W, Below w.heap.size w W → Calls Tryd.prog 22 #[] W fun e w' => e = .returned (.bool true) ∧ Below W.heap.size W w') := fun W hW => knows05_any W (ht.below hW)
  obtain ⟨ao, c, rfl⟩ := rd_shape h
  have hs1 := size_bstr s
  by_cases hlong : 2000 < b.length
  · have hG := Lib.hid (fun W => great05_yes ao b.length c W hlong)
    clear h ht hs1
    go_enter Tryd.func8, Tryd.ntmps8
    go_wp2_with (first | (go_at_call 21; refine (hG.out _).mono ?_; rintro e w' ⟨rfl, rfl⟩) | (go_at_call 22; refine (HK.out _ (Below.refl _ _)).mono ?_; rintro e w2 ⟨rfl, hb2⟩))
    go_ret
    exact ⟨by first | rfl | simp, hb2⟩
  · have hG := Lib.hid (fun W => great05_no ao b.length c W hlong)
    by_cases hsl : 1000 < s.length
    · have i1 : (1000 : Int) < (s.length : Int) := by omega
      clear h ht
      go_enter Tryd.func8, Tryd.ntmps8
      go_wp2_with (first | (go_at_call 21; refine (hG.out _).mono ?_; rintro e w' ⟨rfl, rfl⟩) | (go_at_call 22; refine (HK.out _ (Below.refl _ _)).mono ?_; rintro e w2 ⟨rfl, hb2⟩))
      go_ret
      exact ⟨by first | rfl | simp, hb2⟩
    · have i1 : ¬ (1000 : Int) < (s.length : Int) := by omega
      have HRt := Lib.hid (fun (t : List UInt8) W (hW : Below w.heap.size w W) (hl : t.length ≤ 100000) => tokright_any t W (ht.below hW) hl)
      have HS1 := Lib.hid (HRt.out s w (Below.refl _ _) (by omega))
      have HS2 := Lib.hid (fun W => rtok05_any s W (by omega))
      have hTT := terms_any (.slice ao b.length c) b
      have HTT := Lib.hid (fun W (hW : Below w.heap.size w W) => hTT W (ht.below hW) (h.below hW) (by omega))
      have hgood := terms_good b
      generalize terms b = ts at *
      have HGD := Lib.hid hgood
      have hq : ((rightTok s) != (rightTok s)) = false := by simp
      clear h ht hlong hsl hTT hgood
      generalize rightTok s = q at *
      go_enter Tryd.func8, Tryd.ntmps8
      go_wp2_with (first
        | (go_at_call 21; refine (hG.out _).mono ?_; rintro e w' ⟨rfl, rfl⟩)
        | (go_at_call 24; refine (HTT.out _ B2).mono ?_; rintro e w3 ⟨v3, rfl, hown3, hb3⟩; have B3 := B2.trans (hb3.mono B2.size); obtain ⟨a3, c3, rfl⟩ := own_shape hown3)
        | (go_at_call 20; refine (HS2.out _).mono ?_; rintro e w2 ⟨rfl, hb2⟩; have B2 := hb1.trans (hb2.mono hb1.size))
        | (go_at_call 32; refine HS1.out.mono ?_; rintro e w1 ⟨rfl, hb1⟩))
      obtain ⟨ao', c', hv, hm, HC⟩ := strs_cells (Rd.of_own hown3)
      simp only [Value.slice.injEq, true_and] at hv
      obtain ⟨rfl, rfl⟩ := hv
      clear hown3
      go_loopw [6] (fun i wr => ∃ k : Nat, k ≤ ts.length ∧ i = .int .i64 k ∧ Below w3.heap.size w3 wr) (fun i _ => ts.length - (intOf i).toNat)
      case atStart => exact ⟨0, Nat.zero_le _, rfl, Below.refl _ _⟩
      case round =>
        obtain ⟨k, hk, rfl, hbel⟩ := hrel
        have BW := B3.trans (hbel.mono B3.size)
        by_cases hlt : k < ts.length
        · obtain ⟨b0, off, rfl, hc0⟩ := HC.out k hlt
          have hcur := cell_later hbel hc0
          have ki : (k : Int) < (ts.length : Int) := by omega
          obtain ⟨g1, g2, g3⟩ := HGD.out ts[k] (List.getElem_mem hlt)
          obtain ⟨t, hx⟩ : ∃ t, t = ts[k] := ⟨_, rfl⟩
          rw [← hx] at hcur g1 g2 g3
          have hR := HRt.out t wr BW (by omega)
          rw [g1] at hR
          have HR2 := Lib.hid hR
          have s1 := size_bstr t
          have j1 : ¬ (64 : Int) < (t.length : Int) := by omega
          have j2 : ((t.length : Int) == 0) = false := beq_eq_false_iff_ne.2 (by omega)
          unfold str at hcur
          clear hx hc0 hR g1
          go_wp2_with (go_at_call 32; refine HR2.out.mono ?_; rintro e w4 ⟨rfl, hb4⟩; have c4 := cell_later hb4 hcur)
          have B4 := hbel.trans (hb4.mono hbel.size)
          go_roundw
          case rel => exact ⟨k + 1, by omega, by go_num, B4⟩
          case measure => simp [intOf]; omega
        · have ki : ¬ (k : Int) < (ts.length : Int) := by omega
          go_wp2_with (go_at_call 22; refine (HK.out _ BW).mono ?_; rintro e w9 ⟨rfl, hb9⟩)
          go_ret
          exact ⟨rfl, BW.trans (hb9.mono BW.size)⟩
end Go.Proofs.YtjbmihgfneamlaaDoor
