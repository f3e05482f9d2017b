/- rubricklaw16.As. -/
import Derived.Test.YteegbjjpjdlcmaaDoorGreat17
set_option linter.unusedVariables false
namespace Go.Proofs.YteegbjjpjdlcmaaDoor
open Go.RowKit Go.Sort

theorem infoROp : (Tryd.prog.info? 86).map (fun i => (i.zero, i.size, i.bytes)) = some (some (.agg #[.int .i64 0, .string ByteArray.empty]), 2, 24) := by kernel_rfl

set_option maxRecDepth 100000 in
set_option maxHeartbeats 4000000 in
theorem as_any (v : Value) (l : List QOp) (w : World) (h : Rd w v l.length 2 (ocells l)) (hn : l.length ≤ 1000000000) :
    Calls Tryd.prog 18 #[v] w (Gives w 86 2 l.length (ocells l)) := by
  obtain ⟨i0, hi, hz0, hz1, hz2⟩ := info_parts infoROp
  obtain ⟨ao, c, rfl, hm, hcell⟩ := ops_cells h
  have HC := Lib.hid hcell
  clear hcell h
  go_enter Tryd.func18, Tryd.ntmps18
  go_wp2
  go_loopw [3, 4] (fun x i wr => ∃ (k : Nat), k ≤ l.length ∧ i = .int .i64 k ∧ wr.ownsRow w.heap.size 86 2 x k (ocells (l.take k)) ∧ Below w.heap.size w wr) (fun _ i _ => l.length - (intOf i).toNat)
  case atStart => exact ⟨0, Nat.zero_le _, rfl, ⟨rfl, .inl ⟨rfl, rfl⟩⟩, Below.refl _ _⟩
  case round =>
    obtain ⟨k, hk, rfl, hown, hbel⟩ := hrel
    have hsz := hbel.size
    obtain ⟨xa, xc, rfl⟩ := own_shape hown
    by_cases hlt : k < l.length
    · obtain ⟨b, off, rfl, h1, h2⟩ := HC.out k hlt
      have c1 := (hbel.cell (World.block_lt_of_cell? w _ h1)).trans h1
      have c2 := (hbel.cell (World.block_lt_of_cell? w _ h2)).trans h2
      have htk : l.take (k + 1) = l.take k ++ [l[k]] := by rw [List.take_succ_eq_append_getElem hlt]
      obtain ⟨⟨kk, tt⟩, hx⟩ : ∃ s, s = l[k] := ⟨_, rfl⟩
      rw [← hx] at htk c1 c2 h1 h2
      simp only at c1 c2 h1 h2
      have hw1 := h1
      have hw2 := h2
      clear h1 h2
      have HTK := Lib.hid htk
      clear hx htk
      go_wp2
      have hS : ∀ w', Below wr.heap.size wr w' → (fun w' : World => w'.cell? ⟨b, off + k * 2, none⟩ = some (.int .i64 kk) ∧ w'.cell? ⟨b, off + k * 2 + 1, none⟩ = some (.string (bstr tt))) w' :=
        fun w' hb => ⟨cell_later hb c1, cell_later hb c2⟩
      have HS := Lib.hid hS; clear hS
      refine L_begin (fun w' : World => w'.cell? ⟨b, off + k * 2, none⟩ = some (.int .i64 kk) ∧ w'.cell? ⟨b, off + k * 2 + 1, none⟩ = some (.string (bstr tt))) 14 (by kernel_rfl) ?_
      refine L_free (fuel := 14) 0 (.slice xa k xc) rfl (by kernel_rfl) (by kernel_rfl) (by kernel_rfl) (by kernel_rfl) (fun _ _ _ h => h) (by rfl) ?_ (HS.out _ (Below.refl _ _).drew) ?_
      · intro W
        go_simp
      refine L_free (fuel := 13) 1 (.slice (some ⟨b, off, none⟩) l.length c) rfl (by kernel_rfl) (by kernel_rfl) (by kernel_rfl) (by kernel_rfl) (fun _ _ _ h => h) (by rfl) ?_ (HS.out _ (Below.refl _ _).drew) ?_
      · intro W
        go_simp
      refine L_free (fuel := 12) 2 (.int .i64 k) rfl (by kernel_rfl) (by kernel_rfl) (by kernel_rfl) (by kernel_rfl) (fun _ _ _ h => h) (by rfl) ?_ (HS.out _ (Below.refl _ _).drew) ?_
      · intro W
        go_simp
      refine L_free (fuel := 11) 3 (.pointer (some ⟨b, off + k * 2, none⟩)) rfl (by kernel_rfl) (by kernel_rfl) (by kernel_rfl) (by kernel_rfl) (fun _ _ _ h => h) (by rfl) ?_ (HS.out _ (Below.refl _ _).drew) ?_
      · intro W
        go_simp
      refine L_free (fuel := 10) 4 (.pointer (some ⟨b, off + k * 2, none⟩)) rfl (by kernel_rfl) (by kernel_rfl) (by kernel_rfl) (by kernel_rfl) (fun _ _ _ h => h) (by rfl) ?_ (HS.out _ (Below.refl _ _).drew) ?_
      · intro W
        go_simp
      refine L_take (fuel := 9) 5 (.int .i64 kk) rfl (by kernel_rfl) (by kernel_rfl) (by kernel_rfl) (by kernel_rfl) (fun _ _ _ h => h) (by rfl) ?_ (HS.out _ (Below.refl _ _).drew) ?_
      · rintro W ⟨s0, s1⟩
        go_simp
      refine L_free (fuel := 8) 6 (.slice (some ⟨b, off, none⟩) l.length c) rfl (by kernel_rfl) (by kernel_rfl) (by kernel_rfl) (by kernel_rfl) (fun _ _ _ h => h) (by rfl) ?_ (HS.out _ (Below.refl _ _).drew) ?_
      · intro W
        go_simp
      refine L_free (fuel := 7) 7 (.int .i64 k) rfl (by kernel_rfl) (by kernel_rfl) (by kernel_rfl) (by kernel_rfl) (fun _ _ _ h => h) (by rfl) ?_ (HS.out _ (Below.refl _ _).drew) ?_
      · intro W
        go_simp
      refine L_free (fuel := 6) 8 (.pointer (some ⟨b, off + k * 2, none⟩)) rfl (by kernel_rfl) (by kernel_rfl) (by kernel_rfl) (by kernel_rfl) (fun _ _ _ h => h) (by rfl) ?_ (HS.out _ (Below.refl _ _).drew) ?_
      · intro W
        go_simp
      refine L_free (fuel := 5) 9 (.pointer (some ⟨b, off + k * 2 + 1, none⟩)) rfl (by kernel_rfl) (by kernel_rfl) (by kernel_rfl) (by kernel_rfl) (fun _ _ _ h => h) (by rfl) ?_ (HS.out _ (Below.refl _ _).drew) ?_
      · intro W
        go_simp
      refine L_take (fuel := 4) 10 (.string (bstr tt)) rfl (by kernel_rfl) (by kernel_rfl) (by kernel_rfl) (by kernel_rfl) (fun _ _ _ h => h) (by rfl) ?_ (HS.out _ (Below.refl _ _).drew) ?_
      · rintro W ⟨s0, s1⟩
        go_simp
      refine L_one (fuel := 3) 11 (by kernel_rfl) rfl ?_
      intro K hK
      go_simp
      refine hK _ _ (HS.out _ (Below.refl _ _).drew) ?_
      clear hK K
      refine L_one (fuel := 2) 12 (by kernel_rfl) rfl ?_
      intro K hK
      go_simp
      refine hK _ _ (HS.out _ ((Below.refl _ _).drew.alloc (Nat.le_refl _) _)) ?_
      clear hK K
      have hb4 := (Below.refl wr.heap.size wr).drew.alloc (Nat.le_refl _) (.cells #[.int .i64 kk, .string (bstr tt)] 86)
      have hown1 := own_below' hown hb4
      refine L_one (fuel := 1) 13 (by kernel_rfl) rfl ?_
      intro K hK
      refine step_app (by rfl) (.tmp 11) (.tmp 23) _ _ (by rfl) w.heap.size 86 i0 _ 2 24 Tryd.underlying44 hi hz0 hz1 hz2 rfl (.slice xa k xc) k _ (by rfl) hown1 _ 1 [.int .i64 kk, .string (bstr tt)] (by rfl) (src_new Tryd.underlying44 wr.drew _ 2 1 1 rfl (by intro u hu; simp at hu; rcases hu with rfl | rfl <;> rfl)) (by unfold maxLen; omega) (by omega) (Nat.le_trans hsz hb4.size) ?_
      intro v2 w5 hown5 hgr5 _
      have hb5 : Below w.heap.size w w5 := (hbel.trans (hb4.mono hsz)).grown hgr5 (Nat.le_trans hsz hb4.size) (fun j hj => (hown1.lt j hj).1)
      obtain ⟨a2, cc2, rfl⟩ := own_shape hown5
      have hb1' : b < w.heap.size := by first | exact World.block_lt_of_cell? w _ hw1 | omega
      refine hK _ _ ⟨(hb5.cell hb1').trans hw1, (hb5.cell hb1').trans hw2⟩ ?_
      clear hK K hgr5
      refine L_one (fuel := 0) 14 (by kernel_rfl) rfl ?_
      intro K hK
      go_simp
      refine hK _ _ ⟨(hb5.cell hb1').trans hw1, (hb5.cell hb1').trans hw2⟩ ?_
      clear hK K
      refine L_done (by kernel_rfl) ?_ 0
      go_wp2
      go_roundw
      case rel => exact ⟨k + 1, by omega, by go_num, by rw [HTK.out, ocells_append]; exact hown5, hb5⟩
      case measure => simp [intOf]; omega
    · have hke : k = l.length := by omega
      subst hke
      rw [List.take_length] at hown
      go_wp2
      go_ret
      exact ⟨_, rfl, hown, hbel⟩
end Go.Proofs.YteegbjjpjdlcmaaDoor
