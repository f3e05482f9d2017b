/- rubrickref12.Right. -/
import Derived.Test.YteegbjjpjdlcmaaDoorRef10
set_option linter.unusedVariables false
namespace Go.Proofs.YteegbjjpjdlcmaaDoor
open Go.RowKit Go.Sort

theorem span_ends {l : List Int} {m : Nat} (hm : l.length = m) (h0 : 0 < m) (hp : postRight l = true) (f t : Int) : l.all (inSpan f t) = (decide (f ≤ l[0]'(by omega)) && decide (l[m - 1]'(by omega) < t)) := by
  have hl : l ≠ [] := by rintro rfl; simp at hm; omega
  subst hm
  rw [rising_span hl ((postRight_iff l).1 hp).1 f t, List.getLast_eq_getElem, List.head_eq_getElem]

set_option maxRecDepth 100000 in
set_option maxHeartbeats 8000000 in
theorem rseg_any (f t : Int) (v : Value) (n : Nat) (d : List Ent) (w : World) (h : DRd w v n d) (hts : ∀ e ∈ d, e.1.length ≤ 100000) :
    Calls Tryd.prog 12 #[.agg #[.int .i64 f, .int .i64 t, v]] w fun e w' => e = .returned (.bool (segRight f t d)) ∧ Below w.heap.size w w' := by
  obtain ⟨ao, c, rfl, hm, HC⟩ := dict_cells h
  have mixed : Tryd.prog.follows .mixedOrders = true := by kernel_rfl
  have HL := Lib.hid h.1
  have hB0 : Below w.heap.size w (w.alloc (.cells #[.int .i64 f, .int .i64 t, .slice ao n c] 34)) := (Below.refl _ _).alloc (Nat.le_refl _) _
  have HW := Lib.hid (fun W => spans_any f t W)
  have HD := Lib.hid (fun W (hW : Below w.heap.size w W) => rdict_any (.slice ao n c) n d W (h.below hW) hts)
  have HALL : Hid (∀ b, (d.all fun e => e.2.all (inSpan f t)) = b → segRight f t d = (wholeB f t && dictRight d && b)) := by rintro b rfl; rfl
  have hnew := heap_alloc_new w (.cells #[.int .i64 f, .int .i64 t, .slice ao n c] 34)
  have b0' : (w.alloc (.cells #[.int .i64 f, .int .i64 t, .slice ao n c] 34)).cell? ⟨w.heap.size, 0, none⟩ = some (.int .i64 f) := by rw [cell_of_row _ _ _ _ _ _ hnew]; rfl
  have b1' : (w.alloc (.cells #[.int .i64 f, .int .i64 t, .slice ao n c] 34)).cell? ⟨w.heap.size, 1, none⟩ = some (.int .i64 t) := by rw [cell_of_row _ _ _ _ _ _ hnew]; rfl
  have b2' : (w.alloc (.cells #[.int .i64 f, .int .i64 t, .slice ao n c] 34)).cell? ⟨w.heap.size, 2, none⟩ = some (.slice ao n c) := by rw [cell_of_row _ _ _ _ _ _ hnew]; rfl
  clear h hts hnew
  go_enter Tryd.func12, Tryd.ntmps12
  go_wp2_with fail
  generalize hW0 : (w.alloc (.cells #[.int .i64 f, .int .i64 t, .slice ao n c] 34)) = W0 at *
  clear hW0
  cases hw : wholeB f t with
  | false =>
    have HR : Hid (segRight f t d = false) := by show _ = _; rw [HALL.out _ rfl, hw]; rfl
    rw [hw] at HW
    clear hw
    go_wp2_with (go_at_call 33; refine (HW.out _).mono ?_; rintro e w2 ⟨rfl, hb2⟩)
    go_ret
    exact ⟨by rw [HR.out]; rfl, hB0.trans (hb2.mono hB0.size)⟩
  | true =>
    cases hd : dictRight d with
    | false =>
      have HR : Hid (segRight f t d = false) := by show _ = _; rw [HALL.out _ rfl, hw, hd]; rfl
      rw [hw] at HW
      rw [hd] at HD
      clear hw hd
      go_wp2_with (first | (go_at_call 33; refine (HW.out _).mono ?_; rintro e w2 ⟨rfl, hb2⟩; have B2 := hB0.trans (hb2.mono hB0.size); have r2 := cell_later hb2 b2') | (go_at_call 34; refine (HD.out _ B2).mono ?_; rintro e w3 ⟨rfl, hb3⟩; have B3 := B2.trans (hb3.mono B2.size)))
      go_ret
      exact ⟨by rw [HR.out]; rfl, B3⟩
    | true =>
      have HENT : Hid (∀ i (hi : i < d.length), d[i].2 ≠ [] ∧ postRight d[i].2 = true) := fun i hi => ⟨((entOK_iff _).1 (dictRight_ent hd i hi)).1, ((entOK_iff _).1 (dictRight_ent hd i hi)).2.1⟩
      have HR : Hid (∀ b, (d.all fun e => e.2.all (inSpan f t)) = b → segRight f t d = b) := by rintro b hb; rw [HALL.out _ hb, hw, hd]; rfl
      rw [hw] at HW
      rw [hd] at HD
      clear hw hd HALL
      go_wp2_with (first | (go_at_call 33; refine (HW.out _).mono ?_; rintro e w2 ⟨rfl, hb2⟩; have B2 := hB0.trans (hb2.mono hB0.size); have r2 := cell_later hb2 b2') | (go_at_call 34; refine (HD.out _ B2).mono ?_; rintro e w3 ⟨rfl, hb3⟩; have B3 := B2.trans (hb3.mono B2.size); have hb3' := hb2.trans (hb3.mono hb2.size); have q0 := cell_later hb3' b0'; have q1 := cell_later hb3' b1'; have q2 := cell_later hb3' b2'))
      clear b0' b1' b2' r2
      go_loopw [3, 4] (fun i l4 wr => ∃ k : Nat, k ≤ n ∧ i = .int .i64 k ∧ Hid (∀ j (hj : j < d.length), j < k → d[j].2.all (inSpan f t) = true) ∧ Below w3.heap.size w3 wr) (fun i _ _ => n - (intOf i).toNat)
      case atStart => exact ⟨0, Nat.zero_le _, rfl, fun j hj h => by omega, Below.refl _ _⟩
      case round =>
        obtain ⟨k, hk, rfl, HA, hbel⟩ := hrel
        have hsz := hbel.size
        have p0 := cell_later hbel q0
        have p1 := cell_later hbel q1
        have p2 := cell_later hbel q2
        by_cases hlt : k < n
        · have hkd : k < d.length := by have := HL.out; omega
          obtain ⟨b, off, da, dc, rfl, c1, c2, hdr⟩ := HC.out k hkd
          have ki : (k : Int) < (n : Int) := by omega
          have k0' : (0 : Int) ≤ (k : Int) := by omega
          have HN : Hid (d[k].2.all (inSpan f t) = true → ∀ j (hj : j < d.length), j < k + 1 → d[j].2.all (inSpan f t) = true) := fun g j hj h => by
            by_cases e : j = k
            · subst e; exact g
            · exact HA.out j hj (by omega)
          have HBAD : Hid (d[k].2.all (inSpan f t) = false → segRight f t d = false) := fun g => HR.out false (by
            rw [Bool.eq_false_iff]
            intro ha
            rw [List.all_eq_true] at ha
            rw [ha _ (List.getElem_mem hkd)] at g
            cases g)
          have hpr := HENT.out k hkd
          have Bwr : Below w.heap.size w wr := B3.trans (hbel.mono B3.size)
          have c2w := cell_later Bwr c2
          obtain ⟨⟨tt, ds⟩, hx⟩ : ∃ x, x = d[k] := ⟨_, rfl⟩
          rw [← hx] at c2w HN HBAD hpr hdr
          simp only at c2w HN HBAD hpr hdr
          clear hx c1 c2
          obtain ⟨m, hmm⟩ : ∃ m, m = ds.length := ⟨_, rfl⟩
          rw [← hmm] at c2w hdr
          have hm0 : 0 < m := by
            rcases Nat.eq_zero_or_pos m with h0 | h0
            · exact absurd (List.length_eq_zero_iff.1 (by omega)) hpr.1
            · exact h0
          have HE : Hid (ds.all (inSpan f t) = (decide (f ≤ ds[0]'(by omega)) && decide (ds[m - 1]'(by omega) < t))) := span_ends hmm.symm hm0 hpr.2 f t
          obtain ⟨da2, dc2, hda, hmx, HI⟩ := ints_cells hmm.symm hdr
          simp only [Value.slice.injEq] at hda
          obtain ⟨rfl, -, rfl⟩ := hda
          obtain ⟨b', off', rfl, x1⟩ := HI.out 0 (by omega)
          obtain ⟨b2, off2, he2, y1⟩ := HI.out (m - 1) (by omega)
          simp only [Option.some.injEq, Addr.mk.injEq, and_true] at he2
          obtain ⟨rfl, rfl⟩ := he2
          have x1w := cell_later Bwr x1
          have y1w := cell_later Bwr y1
          rw [Nat.add_zero] at x1w
          obtain ⟨x, hx⟩ : ∃ x, x = ds[0]'(by omega) := ⟨_, rfl⟩
          obtain ⟨y, hy⟩ : ∃ y, y = ds[m - 1]'(by omega) := ⟨_, rfl⟩
          rw [← hx] at x1w HE
          rw [← hy] at y1w HE
          clear x1 y1 hx hy hmm hpr HI hdr
          have i1 : (0 : Int) < (m : Int) := by omega
          have i2 : (0 : Int) ≤ (m : Int) - 1 := by omega
          have i3 : (m : Int) - 1 < (m : Int) := by omega
          have i4 : ((m : Int) - 1).toNat = m - 1 := by omega
          have i5 : ¬ (m : Int) < 1 := by omega
          have hwk : IntKind.i64.wrap ((m : Int) - 1) = (m : Int) - 1 := by rw [IntKind.wrap_i64]; omega
          go_wp2_with fail
          have r1 := cell_regrown p0
          have r2 := cell_regrown p1
          have r3 := cell_regrown x1w
          have r4 := cell_regrown y1w
          by_cases hf : f ≤ x
          · have hf' : decide (x < f) = false := decide_eq_false (by omega)
            by_cases hg : y < t
            · have hg' : decide (t ≤ y) = false := decide_eq_false (by omega)
              have HX := Lib.hid (HN.out (by rw [HE.out, decide_eq_true hf, decide_eq_true hg]; rfl))
              go_wp2_with fail
              refine wp_region_quiet_below mixed (by kernel_rfl) ?_
              repeat (go_big_quiet_step (fail))
              refine wpQuiet_nil ?_
              intro W2 hw'
              obtain ⟨⟨dq, osq⟩, hw''⟩ := hw'
              have hbq := hbel.trans ((below_regrown wr dq osq).mono hbel.size)
              rw [← hw''] at hbq
              clear hw'' r1 r2 r3 r4
              go_wp2
              go_roundw
              case rel => exact ⟨k + 1, by omega, by go_num, HX.out, hbq⟩
              case measure => simp [intOf]; omega
            · have hg' : decide (t ≤ y) = true := decide_eq_true (by omega)
              have HX := Lib.hid (HBAD.out (by rw [HE.out, decide_eq_false hg]; simp))
              go_wp2_with fail
              refine wp_region_quiet_below mixed (by kernel_rfl) ?_
              repeat (go_big_quiet_step (fail))
              refine wpQuiet_nil ?_
              intro W2 hw'
              obtain ⟨⟨dq, osq⟩, hw''⟩ := hw'
              have hbq := Bwr.trans ((below_regrown wr dq osq).mono Bwr.size)
              rw [← hw''] at hbq
              clear hw'' r1 r2 r3 r4
              go_wp2
              go_ret
              exact ⟨by rw [HX.out]; rfl, hbq⟩
          · have hf' : decide (x < f) = true := decide_eq_true (by omega)
            have HX := Lib.hid (HBAD.out (by rw [HE.out, decide_eq_false hf]; rfl))
            go_wp2_with fail
            refine wp_region_quiet_below mixed (by kernel_rfl) ?_
            repeat (go_big_quiet_step (fail))
            refine wpQuiet_nil ?_
            intro W2 hw'
            obtain ⟨⟨dq, osq⟩, hw''⟩ := hw'
            have hbq := Bwr.trans ((below_regrown wr dq osq).mono Bwr.size)
            rw [← hw''] at hbq
            clear hw'' r1 r2 r3 r4
            go_wp2
            go_ret
            exact ⟨by rw [HX.out]; rfl, hbq⟩
        · have ki : ¬ (k : Int) < (n : Int) := by omega
          have hall : (d.all fun e => e.2.all (inSpan f t)) = true := by
            rw [List.all_eq_true]
            intro e he
            obtain ⟨j, hj, rfl⟩ := List.mem_iff_getElem.1 he
            exact HA.out j hj (by have := HL.out; omega)
          have HR2 := Lib.hid (HR.out _ hall)
          clear hall
          go_wp2
          go_ret
          exact ⟨by rw [HR2.out]; rfl, B3.trans (hbel.mono B3.size)⟩
end Go.Proofs.YteegbjjpjdlcmaaDoor
