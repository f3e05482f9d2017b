/- segm.Right. -/
import Derived.Test.YteegbjjpjdlcmaaDoorDictR
import Derived.Test.YteegbjjpjdlcmaaDoorPostFns
import Derived.Deep.RegionHeld3
set_option linter.unusedVariables false
namespace Go.Proofs.YteegbjjpjdlcmaaDoor
open Go.RowKit Go.Sort

/-- a slice of n elements is returned. -/
def LenIs (n : Nat) (e : Ending) : Prop := ∃ ao c, e = .returned (.slice ao n c)

theorem inlen_any (va : Value) (na : Nat) (A : List Int) (f t : Int) (w : World) (hna : A.length = na) (ha : Rd w va na 1 (icells A)) (hA : postRight A = true) (hn : na ≤ 100000) :
    Calls Tryd.prog 58 #[va, .agg #[.int .i64 f, .int .i64 t]] w fun e w' => LenIs (A.filter (inSpan f t)).length e ∧ Below w.heap.size w w' := by
  refine (in_any va na A f t w hna ha hA hn).mono ?_
  rintro e w1 ⟨v, rfl, hown, hb⟩
  obtain ⟨ao, c, rfl, -⟩ := ints_cells rfl (Rd.of_own hown)
  exact ⟨⟨ao, c, rfl⟩, hb⟩

set_option maxRecDepth 100000 in
set_option maxHeartbeats 8000000 in
theorem segright_any (f t : Int) (v : Value) (n : Nat) (d : List Ent) (w : World) (ht : Tabs w) (h : DRd w v n d) (hts : ∀ e ∈ d, e.1.length ≤ 100000 ∧ e.2.length ≤ 100000) :
    Calls Tryd.prog 31 #[.agg #[.int .i64 f, .int .i64 t, v]] w fun e w' => e = .returned (.bool (segRight f t d)) ∧ Below w.heap.size w w' := by
  obtain ⟨ao, c, rfl, hm, HC⟩ := dict_cells h
  have HL := Lib.hid h.1
  have HTS := Lib.hid hts
  have hB0 : Below w.heap.size w (w.alloc (.cells #[.int .i64 f, .int .i64 t, .slice ao n c] 26)) := (Below.refl _ _).alloc (Nat.le_refl _) _
  have HW := Lib.hid (fun W => whole_any f t W)
  have HD := Lib.hid (fun W (hW : Below w.heap.size w W) => dictright_any (.slice ao n c) n d W (ht.below hW) (h.below hW) (fun e he => (hts e he).1))
  have HALL : Hid (∀ b, (d.all fun e => e.2.all (inSpan f t)) = b → segRight f t d = (wholeB f t && dictRight d && b)) := by rintro b rfl; rfl
  have hnew := heap_alloc_new w (.cells #[.int .i64 f, .int .i64 t, .slice ao n c] 26)
  have b0' : (w.alloc (.cells #[.int .i64 f, .int .i64 t, .slice ao n c] 26)).cell? ⟨w.heap.size, 0, none⟩ = some (.int .i64 f) := by rw [cell_of_row _ _ _ _ _ _ hnew]; rfl
  have b1' : (w.alloc (.cells #[.int .i64 f, .int .i64 t, .slice ao n c] 26)).cell? ⟨w.heap.size, 1, none⟩ = some (.int .i64 t) := by rw [cell_of_row _ _ _ _ _ _ hnew]; rfl
  have b2' : (w.alloc (.cells #[.int .i64 f, .int .i64 t, .slice ao n c] 26)).cell? ⟨w.heap.size, 2, none⟩ = some (.slice ao n c) := by rw [cell_of_row _ _ _ _ _ _ hnew]; rfl
  have hsz0 : w.heap.size < (w.alloc (.cells #[.int .i64 f, .int .i64 t, .slice ao n c] 26)).heap.size := by simp
  clear h hts ht hnew
  go_enter Tryd.func31, Tryd.ntmps31
  go_wp2_with fail
  generalize hW0 : (w.alloc (.cells #[.int .i64 f, .int .i64 t, .slice ao n c] 26)) = W0 at *
  clear hW0
  cases hw : wholeB f t with
  | false =>
    have HR : Hid (segRight f t d = false) := by show _ = _; rw [HALL.out _ rfl, hw]; rfl
    rw [hw] at HW
    clear hw
    go_wp2_with (go_at_call 56; refine (HW.out _).mono ?_; rintro e w2 ⟨rfl, hb2⟩)
    go_ret
    exact ⟨by rw [HR.out]; rfl, hB0.trans (hb2.mono hB0.size)⟩
  | true =>
    cases hd : dictRight d with
    | false =>
      have HR : Hid (segRight f t d = false) := by show _ = _; rw [HALL.out _ rfl, hw, hd]; rfl
      rw [hw] at HW
      rw [hd] at HD
      clear hw hd
      go_wp2_with (first | (go_at_call 56; refine (HW.out _).mono ?_; rintro e w2 ⟨rfl, hb2⟩; have B2 := hB0.trans (hb2.mono hB0.size); have r2 := cell_later hb2 b2') | (go_at_call 57; refine (HD.out _ B2).mono ?_; rintro e w3 ⟨rfl, hb3⟩; have B3 := B2.trans (hb3.mono B2.size)))
      go_ret
      exact ⟨by rw [HR.out]; rfl, B3⟩
    | true =>
      have HENT : Hid (∀ i (hi : i < d.length), postRight d[i].2 = true) := fun i hi => ((entOK_iff _).1 (dictRight_ent hd i hi)).2.1
      have HR : Hid (∀ b, (d.all fun e => e.2.all (inSpan f t)) = b → segRight f t d = b) := by rintro b hb; rw [HALL.out _ hb, hw, hd]; rfl
      rw [hw] at HW
      rw [hd] at HD
      clear hw hd HALL
      go_wp2_with (first | (go_at_call 56; refine (HW.out _).mono ?_; rintro e w2 ⟨rfl, hb2⟩; have B2 := hB0.trans (hb2.mono hB0.size); have r2 := cell_later hb2 b2') | (go_at_call 57; refine (HD.out _ B2).mono ?_; rintro e w3 ⟨rfl, hb3⟩; have B3 := B2.trans (hb3.mono B2.size); have hb3' := hb2.trans (hb3.mono hb2.size); have q0 := cell_later hb3' b0'; have q1 := cell_later hb3' b1'; have q2 := cell_later hb3' b2'))
      have hsz3 : W0.heap.size ≤ w3.heap.size := hb3'.size
      go_loopw [18] (fun i wr => ∃ k : Nat, k ≤ n ∧ i = .int .i64 k ∧ Hid (∀ j (hj : j < d.length), j < k → d[j].2.all (inSpan f t) = true) ∧ Below w3.heap.size w3 wr) (fun i _ => n - (intOf i).toNat)
      case atStart => exact ⟨0, Nat.zero_le _, rfl, fun j hj h => by omega, Below.refl _ _⟩
      case round =>
        obtain ⟨k, hk, rfl, HA, hbel⟩ := hrel
        have hsz := hbel.size
        by_cases hlt : k < n
        · have hkd : k < d.length := by have := HL.out; omega
          obtain ⟨b, off, da, dc, rfl, c1, c2, hdr⟩ := HC.out k hkd
          have ki : (k : Int) < (n : Int) := by omega
          have k0' : (0 : Int) ≤ (k : Int) := by omega
          have HN : Hid (d[k].2.all (inSpan f t) = true → ∀ j (hj : j < d.length), j < k + 1 → d[j].2.all (inSpan f t) = true) := fun g j hj h => by
            by_cases e : j = k
            · subst e; exact g
            · exact HA.out j hj (by omega)
          have HBAD : Hid (d[k].2.all (inSpan f t) = false → segRight f t d = false) := fun g => HR.out false (by
            rw [Bool.eq_false_iff]
            intro ha
            rw [List.all_eq_true] at ha
            rw [ha _ (List.getElem_mem hkd)] at g
            cases g)
          have hpr := HENT.out k hkd
          have hl2 := (HTS.out _ (List.getElem_mem hkd)).2
          have Bwr : Below w.heap.size w wr := B3.trans (hbel.mono B3.size)
          have c1w := cell_later Bwr c1
          have c2w := cell_later Bwr c2
          obtain ⟨⟨tt, ds⟩, hx⟩ : ∃ x, x = d[k] := ⟨_, rfl⟩
          rw [← hx] at c1w c2w HN HBAD hpr hl2 hdr
          simp only at c1w c2w HN HBAD hpr hl2 hdr
          clear hx c1 c2
          obtain ⟨m, hmm⟩ : ∃ m, m = ds.length := ⟨_, rfl⟩
          rw [← hmm] at c2w hdr hl2
          have HIN : Hid (∀ W, Below w.heap.size w W → Calls Tryd.prog 58 #[.slice da m dc, .agg #[.int .i64 f, .int .i64 t]] W fun e w' => LenIs (ds.filter (inSpan f t)).length e ∧ Below W.heap.size W w') := fun W hW => inlen_any (.slice da m dc) m ds f t W hmm.symm (hdr.below hW) hpr hl2
          have HF : Hid ((ds.filter (inSpan f t)).length = m ↔ ds.all (inSpan f t) = true) := by rw [hmm]; exact filter_len_all _ _
          clear hmm hpr hl2 hdr
          unfold str at c1w
          have p0 := cell_later hbel q0
          have p1 := cell_later hbel q1
          have hnew := heap_alloc_new wr (.cells #[.string (bstr tt), .slice da m dc] 64)
          have e0' : (wr.alloc (.cells #[.string (bstr tt), .slice da m dc] 64)).cell? ⟨wr.heap.size, 0, none⟩ = some (.string (bstr tt)) := by rw [cell_of_row _ _ _ _ _ _ hnew]; rfl
          have e1' : (wr.alloc (.cells #[.string (bstr tt), .slice da m dc] 64)).cell? ⟨wr.heap.size, 1, none⟩ = some (.slice da m dc) := by rw [cell_of_row _ _ _ _ _ _ hnew]; rfl
          have hbA : Below wr.heap.size wr (wr.alloc (.cells #[.string (bstr tt), .slice da m dc] 64)) := (Below.refl _ _).alloc (Nat.le_refl _) _
          have p0' := cell_later hbA p0
          have p1' := cell_later hbA p1
          have hB1 : Below w3.heap.size w3 (wr.alloc (.cells #[.string (bstr tt), .slice da m dc] 64)) := hbel.alloc hsz _
          clear hnew hbA p0 p1
          obtain ⟨g, hg⟩ : ∃ g, g = (ds.filter (inSpan f t)).length := ⟨_, rfl⟩
          rw [← hg] at HIN HF
          clear hg
          go_wp2_with fail
          generalize hW1 : (wr.alloc (.cells #[.string (bstr tt), .slice da m dc] 64)) = W1 at *
          clear hW1 c1w c2w
          go_wp2_with fail
          have HS : Hid (∀ W, (Below w3.heap.size w3 W ∧ W1.heap.size ≤ W.heap.size ∧ W.cell? ⟨w.heap.size, 0, none⟩ = some (.int .i64 f) ∧ W.cell? ⟨w.heap.size, 1, none⟩ = some (.int .i64 t) ∧ W.cell? ⟨wr.heap.size, 1, none⟩ = some (.slice da m dc)) → Calls Tryd.prog 58 #[.slice da m dc, .agg #[.int .i64 f, .int .i64 t]] W fun e W' => LenIs g e ∧ (Below w3.heap.size w3 W' ∧ W1.heap.size ≤ W'.heap.size ∧ W'.cell? ⟨w.heap.size, 0, none⟩ = some (.int .i64 f) ∧ W'.cell? ⟨w.heap.size, 1, none⟩ = some (.int .i64 t) ∧ W'.cell? ⟨wr.heap.size, 1, none⟩ = some (.slice da m dc))) := fun W ⟨s1, s2, s3, s4, s5⟩ => by
            refine (HIN.out W (B3.trans (s1.mono B3.size))).mono ?_
            rintro e W' ⟨hl, hb⟩
            exact ⟨hl, s1.trans (hb.mono s1.size), Nat.le_trans s2 hb.size, cell_later hb s3, cell_later hb s4, cell_later hb s5⟩
          have hs1 : Below w3.heap.size w3 W1.drew := hB1.drew
          go_region_held3 (fun W => Below w3.heap.size w3 W ∧ W1.heap.size ≤ W.heap.size ∧ W.cell? ⟨w.heap.size, 0, none⟩ = some (.int .i64 f) ∧ W.cell? ⟨w.heap.size, 1, none⟩ = some (.int .i64 t) ∧ W.cell? ⟨wr.heap.size, 1, none⟩ = some (.slice da m dc))
            (first | exact ⟨hs1, Nat.le_refl _, p0', p1', e1'⟩ | exact hS5 | assumption)
            ((go_at_call 58; refine (HS.out _ (by assumption)).mono ?_; rintro e w5 ⟨⟨ao5, c5, rfl⟩, hS5⟩))
          have hS6 : Below w3.heap.size w3 w5 := hS5.1
          by_cases hgm : g = m
          · have n1 : ((g : Int) != (m : Int)) = false := by rw [hgm]; simp
            have HR2 := Lib.hid (HN.out (HF.out.1 hgm))
            clear hgm
            go_wp2
            go_roundw
            case rel => exact ⟨k + 1, by omega, by go_num, HR2.out, hS6⟩
            case measure => simp [intOf]; omega
          · have n1 : ((g : Int) != (m : Int)) = true := by rw [bne_iff_ne]; omega
            have HR2 : Hid (segRight f t d = false) := HBAD.out (by rw [Bool.eq_false_iff]; exact fun g => hgm (HF.out.2 g))
            clear hgm
            go_wp2
            go_ret
            exact ⟨by rw [HR2.out]; rfl, B3.trans (hS6.mono B3.size)⟩
        · have ki : ¬ (k : Int) < (n : Int) := by omega
          have hall : (d.all fun e => e.2.all (inSpan f t)) = true := by
            rw [List.all_eq_true]
            intro e he
            obtain ⟨j, hj, rfl⟩ := List.mem_iff_getElem.1 he
            exact HA.out j hj (by have := HL.out; omega)
          have HR2 := Lib.hid (HR.out _ hall)
          clear hall
          go_wp2
          go_ret
          exact ⟨by rw [HR2.out]; rfl, B3.trans (hbel.mono B3.size)⟩
end Go.Proofs.YteegbjjpjdlcmaaDoor
