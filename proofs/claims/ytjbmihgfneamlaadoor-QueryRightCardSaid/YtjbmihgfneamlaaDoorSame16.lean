/- rubrickref16.Same. -/
import Derived.Test.YtjbmihgfneamlaaDoorAs
import Derived.Laws.StructEq
set_option linter.unusedVariables false
namespace Go.Proofs.YtjbmihgfneamlaaDoor
open Go.RowKit Go.Sort

def sameGo (x y : List QOp) : Bool := x == y

set_option maxRecDepth 100000 in
set_option maxHeartbeats 4000000 in
theorem same_any (v1 v2 : Value) (x y : List QOp) (w : World) (h1 : Rd w v1 x.length 2 (ocells x)) (h2 : Rd w v2 y.length 2 (ocells y)) :
    Calls Tryd.prog 18 #[v1, v2] w fun e w' => e = .returned (.bool (x == y)) ∧ Below w.heap.size w w' := by
  obtain ⟨ao, c, rfl, hm, hcell⟩ := ops_cells h1
  obtain ⟨ao2, cb, rfl, hm2, hcell2⟩ := ops_cells h2
  have HC := Lib.hid hcell
  have HC2 := Lib.hid hcell2
  have hmx : x.length ≤ 9223372036854775807 := hm
  clear hcell h1 hcell2 h2
  by_cases hl : x.length = y.length
  · have hl2 : ((x.length : Int) != (y.length : Int)) = false := by rw [hl]; simp
    go_enter Tryd.func18, Tryd.ntmps18
    go_wp2
    go_loopw [5] (fun i wr => ∃ (k : Nat), k ≤ x.length ∧ i = .int .i64 k ∧ Hid (x.take k = y.take k) ∧ Below w.heap.size w wr) (fun i _ => x.length - (intOf i).toNat)
    case atStart => exact ⟨0, Nat.zero_le _, rfl, rfl, Below.refl _ _⟩
    case round =>
      obtain ⟨k, hk, rfl, hown, hbel⟩ := hrel
      have hsz := hbel.size
      by_cases hlt : k < x.length
      · obtain ⟨b, off, rfl, h1, h2⟩ := HC.out k hlt
        have hly : k < y.length := by omega
        obtain ⟨b', off', rfl, h3, h4⟩ := HC2.out k hly
        have c1 := (hbel.cell (World.block_lt_of_cell? w _ h1)).trans h1
        have c2 := (hbel.cell (World.block_lt_of_cell? w _ h2)).trans h2
        have c3 := (hbel.cell (World.block_lt_of_cell? w _ h3)).trans h3
        have c4 := (hbel.cell (World.block_lt_of_cell? w _ h4)).trans h4
        obtain ⟨⟨kk, tt⟩, hx⟩ : ∃ s, s = x[k] := ⟨_, rfl⟩
        obtain ⟨⟨kk2, tt2⟩, hy⟩ : ∃ s, s = y[k]'hly := ⟨_, rfl⟩
        rw [← hx] at c1 c2
        rw [← hy] at c3 c4
        simp only at c1 c2 c3 c4
        have HX := Lib.hid hx
        have HY := Lib.hid hy
        have HL := Lib.hid hl
        clear hx hy h1 h2 h3 h4 hl
        go_wp2
        have hS : ∀ w', Below wr.heap.size wr w' → (fun w' : World => w'.cell? ⟨b, off + k * 2, none⟩ = some (.int .i64 kk) ∧ w'.cell? ⟨b, off + k * 2 + 1, none⟩ = some (.string (bstr tt)) ∧ w'.cell? ⟨b', off' + k * 2, none⟩ = some (.int .i64 kk2) ∧ w'.cell? ⟨b', off' + k * 2 + 1, none⟩ = some (.string (bstr tt2))) w' :=
          fun w' hb => ⟨cell_later hb c1, cell_later hb c2, cell_later hb c3, cell_later hb c4⟩
        have HS := Lib.hid hS; clear hS
        refine L_begin (fun w' : World => w'.cell? ⟨b, off + k * 2, none⟩ = some (.int .i64 kk) ∧ w'.cell? ⟨b, off + k * 2 + 1, none⟩ = some (.string (bstr tt)) ∧ w'.cell? ⟨b', off' + k * 2, none⟩ = some (.int .i64 kk2) ∧ w'.cell? ⟨b', off' + k * 2 + 1, none⟩ = some (.string (bstr tt2))) 8 (by kernel_rfl) ?_
        refine L_free (fuel := 8) 0 (.slice (some ⟨b, off, none⟩) x.length c) rfl (by kernel_rfl) (by kernel_rfl) (by kernel_rfl) (by kernel_rfl) (fun _ _ _ h => h) (by rfl) ?_ (HS.out _ (Below.refl _ _).drew) ?_
        · intro W
          go_simp
        refine L_free (fuel := 7) 1 (.int .i64 k) rfl (by kernel_rfl) (by kernel_rfl) (by kernel_rfl) (by kernel_rfl) (fun _ _ _ h => h) (by rfl) ?_ (HS.out _ (Below.refl _ _).drew) ?_
        · intro W
          go_simp
        refine L_free (fuel := 6) 2 (.pointer (some ⟨b, off + k * 2, none⟩)) rfl (by kernel_rfl) (by kernel_rfl) (by kernel_rfl) (by kernel_rfl) (fun _ _ _ h => h) (by rfl) ?_ (HS.out _ (Below.refl _ _).drew) ?_
        · intro W
          go_simp
        refine L_take (fuel := 5) 3 (.agg #[.int .i64 kk, .string (bstr tt)]) rfl (by kernel_rfl) (by kernel_rfl) (by kernel_rfl) (by kernel_rfl) (fun _ _ _ h => h) (by rfl) ?_ (HS.out _ (Below.refl _ _).drew) ?_
        · rintro W ⟨s0, s1, s2, s3⟩
          go_simp
        refine L_free (fuel := 4) 4 (.slice (some ⟨b', off', none⟩) y.length cb) rfl (by kernel_rfl) (by kernel_rfl) (by kernel_rfl) (by kernel_rfl) (fun _ _ _ h => h) (by rfl) ?_ (HS.out _ (Below.refl _ _).drew) ?_
        · intro W
          go_simp
        refine L_free (fuel := 3) 5 (.int .i64 k) rfl (by kernel_rfl) (by kernel_rfl) (by kernel_rfl) (by kernel_rfl) (fun _ _ _ h => h) (by rfl) ?_ (HS.out _ (Below.refl _ _).drew) ?_
        · intro W
          go_simp
        refine L_free (fuel := 2) 6 (.pointer (some ⟨b', off' + k * 2, none⟩)) rfl (by kernel_rfl) (by kernel_rfl) (by kernel_rfl) (by kernel_rfl) (fun _ _ _ h => h) (by rfl) ?_ (HS.out _ (Below.refl _ _).drew) ?_
        · intro W
          go_simp
        refine L_take (fuel := 1) 7 (.agg #[.int .i64 kk2, .string (bstr tt2)]) rfl (by kernel_rfl) (by kernel_rfl) (by kernel_rfl) (by kernel_rfl) (fun _ _ _ h => h) (by rfl) ?_ (HS.out _ (Below.refl _ _).drew) ?_
        · rintro W ⟨s0, s1, s2, s3⟩
          go_simp
        refine L_one (fuel := 0) 8 (by kernel_rfl) rfl ?_
        intro K hK
        go_simp
        rw [btoList, btoList]
        by_cases e1 : kk = kk2
        · by_cases e2 : tt = tt2
          · rw [if_pos e1, if_pos e2]
            go_simp
            refine hK _ _ (HS.out _ (Below.refl _ _).drew) ?_
            clear hK K
            refine L_done (by kernel_rfl) ?_ 0
            go_wp2
            go_roundw
            case rel => exact ⟨k + 1, by omega, by go_num, by show _ = _; rw [List.take_succ_eq_append_getElem hlt, List.take_succ_eq_append_getElem hly, hown.out, ← HX.out, ← HY.out, e1, e2], hbel.drew⟩
            case measure => simp [intOf]; omega
          · rw [if_pos e1, if_neg e2]
            go_simp
            refine hK _ _ (HS.out _ (Below.refl _ _).drew) ?_
            clear hK K
            refine L_done (by kernel_rfl) ?_ 0
            go_wp2
            go_ret
            refine ⟨?_, hbel.drew⟩
            rw [show (x == y) = false from ?_]
            · rfl
            · rw [beq_eq_false_iff_ne]
              intro e
              have h1 := HX.out
              have h2 := HY.out
              subst e
              rw [← h2] at h1
              simp only [Prod.mk.injEq] at h1
              exact e2 h1.2
        · rw [if_neg e1]
          go_simp
          refine hK _ _ (HS.out _ (Below.refl _ _).drew) ?_
          clear hK K
          refine L_done (by kernel_rfl) ?_ 0
          go_wp2
          go_ret
          refine ⟨?_, hbel.drew⟩
          rw [show (x == y) = false from ?_]
          · rfl
          · rw [beq_eq_false_iff_ne]
            intro e
            have h1 := HX.out
            have h2 := HY.out
            subst e
            rw [← h2] at h1
            simp only [Prod.mk.injEq] at h1
            exact e1 h1.1
      · have hke : k = x.length := by omega
        subst hke
        have he := hown.out
        rw [List.take_length, hl, List.take_length] at he
        subst he
        go_wp2
        go_ret
        exact ⟨by simp, hbel⟩
  · have hl2 : ((x.length : Int) != (y.length : Int)) = true := by rw [bne_iff_ne]; omega
    have hf : (x == y) = false := by
      rw [beq_eq_false_iff_ne]
      intro e; exact hl (by rw [e])
    have HF := Lib.hid hf
    clear hf
    go_enter Tryd.func18, Tryd.ntmps18
    go_wp2
    go_ret
    exact ⟨by rw [HF.out]; rfl, Below.refl _ _⟩
end Go.Proofs.YtjbmihgfneamlaaDoor
