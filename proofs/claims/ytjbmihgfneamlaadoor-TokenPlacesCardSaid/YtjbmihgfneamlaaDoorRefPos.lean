/- rubrickref05.Positions. -/
import Derived.Test.YtjbmihgfneamlaaDoorTokPos
import Derived.Test.YtjbmihgfneamlaaDoorHeld2
set_option linter.unusedVariables false
namespace Go.Proofs.YtjbmihgfneamlaaDoor
open Go.RowKit Go.Sort

def flatOf (ts : List (List UInt8)) (l : List (List UInt8)) : List (List UInt8 × Int) := l.flatMap fun t => (placesFrom 0 t ts).map fun i => (t, i)
theorem flatOf_len (ts l : List (List UInt8)) : (flatOf ts l).length ≤ l.length * ts.length := by
  induction l with
  | nil => simp [flatOf]
  | cons t l ih =>
    have := placesFrom_len t ts 0
    simp only [flatOf, List.flatMap_cons, List.length_append, List.length_map, List.length_cons] at ih ⊢
    rw [Nat.add_mul]
    omega
theorem flatOf_snoc (ts l : List (List UInt8)) (k : Nat) (hk : k < l.length) : flatOf ts (l.take (k + 1)) = flatOf ts (l.take k) ++ (placesFrom 0 l[k] ts).map fun i => (l[k], i) := by
  unfold flatOf
  rw [List.take_succ_eq_append_getElem hk, List.flatMap_append]
  simp
theorem infoRAt : (Tryd.prog.info? 51).map (fun i => (i.zero, i.size, i.bytes)) = some (some (.agg #[.string ByteArray.empty, .int .i64 0]), 2, 24) := by kernel_rfl

set_option maxRecDepth 100000 in
set_option maxHeartbeats 8000000 in
theorem rpos_any (v : Value) (l : List UInt8) (w : World) (h : Rd w v l.length 1 (bcells l)) (hn : l.length ≤ 100000) :
    Calls Tryd.prog 31 #[v] w (Gives w 51 2 (positions (terms l)).length (acells (positions (terms l)))) := by
  obtain ⟨i0, hi, hz0, hz1, hz2⟩ := info_parts infoRAt
  have hS := rset_any v l w h hn
  have hP := Lib.hid (fun t W (hW : Below w.heap.size w W) => rplaces_any v l t W (h.below hW) hn)
  have hlen := terms_len' l hn
  have hpo : Hid (positions (terms l) = flatOf (terms l) (setOf (terms l))) := (positions_flat (terms l)).symm
  have hsl : (setOf (terms l)).length ≤ 100000 := by
    have h1 : (setOf (terms l)).length ≤ (terms l).length := by
      have h2 := Lib.compact_length_le ((terms l).mergeSort fun x y => !ltStr y x)
      rw [List.length_mergeSort] at h2
      exact h2
    omega
  generalize setOf (terms l) = ss at *
  generalize terms l = ts at *
  have HS := Lib.hid hS
  have HN : Hid (∀ (x : List UInt8) (z : Int), ∀ u ∈ [Value.string (bstr x), .int .i64 z], u.oneCell' = true) := fun x z u hu => by simp at hu; rcases hu with rfl | rfl <;> rfl
  obtain ⟨ao, c, rfl⟩ : ∃ ao c, v = .slice ao l.length c := by
    obtain ⟨-, -, ⟨ao, c, rfl, h0⟩ | ⟨b, off, c, rfl, -⟩⟩ := h
    · exact ⟨ao, c, by rw [h0]⟩
    · exact ⟨_, c, rfl⟩
  clear hS h
  go_enter Tryd.func31, Tryd.ntmps31
  go_wp2_with (go_at_call 27; refine HS.out.mono ?_; rintro e w1 ⟨v1, rfl, hown1, hb1⟩; obtain ⟨a1, c1, rfl⟩ := own_shape hown1)
  obtain ⟨ao', c', hv, hm, HC⟩ := strs_cells (Rd.of_own hown1)
  simp only [Value.slice.injEq, true_and] at hv
  obtain ⟨rfl, rfl⟩ := hv
  have hsz1 := hb1.size
  clear hown1
  go_loopw [3, 5] (fun o i wr => ∃ k : Nat, k ≤ ss.length ∧ i = .int .i64 k ∧ wr.ownsRow w1.heap.size 51 2 o (flatOf ts (ss.take k)).length (acells (flatOf ts (ss.take k))) ∧ Below w1.heap.size w1 wr) (fun _ i _ => ss.length - (intOf i).toNat)
  case atStart => exact ⟨0, Nat.zero_le _, rfl, World.ownsRow_nil _ _ _ _, Below.refl _ _⟩
  case round =>
    obtain ⟨k, hk, rfl, hown, hbel⟩ := hrel
    have hsz := hbel.size
    have BW := hb1.trans (hbel.mono hsz1)
    by_cases hlt : k < ss.length
    · obtain ⟨b0, off, rfl, hc0⟩ := HC.out k hlt
      have hcur := cell_later hbel hc0
      have ki : (k : Int) < (ss.length : Int) := by omega
      have hfl := flatOf_len ts (ss.take k)
      have hfs := flatOf_snoc ts ss k hlt
      have hfb : (flatOf ts (ss.take k)).length ≤ 10000000000 := by
        rw [List.length_take] at hfl
        have : min k ss.length * ts.length ≤ 100000 * 100000 := Nat.mul_le_mul (by omega) hlen
        omega
      generalize flatOf ts (ss.take k) = fs at *
      obtain ⟨t, hx⟩ : ∃ t, t = ss[k] := ⟨_, rfl⟩
      rw [← hx] at hcur hfs hc0
      have hPt := hP.out t wr BW
      have hpl := placesFrom_len t ts 0
      generalize placesFrom 0 t ts = ps at *
      have HPT := Lib.hid hPt
      have HFS := Lib.hid hfs
      unfold str at hcur hc0
      clear hx hfl hPt hfs
      go_wp2_with (go_at_call 29; refine HPT.out.mono ?_; rintro e w2 ⟨v2, rfl, hown2, hb2⟩; obtain ⟨a2, c2, rfl⟩ := own_shape hown2; have hown2' := own_below' hown hb2; have B2 := hbel.trans (hb2.mono hsz))
      clear hown hcur
      go_loopw [3, 7] (fun o jv W => ∃ j : Nat, j ≤ ps.length ∧ jv = .int .i64 j ∧ W.ownsRow w1.heap.size 51 2 o (fs.length + j) (acells (fs ++ (ps.take j).map fun i => (t, i))) ∧ W.ownsRow wr.heap.size 3 1 (.slice a2 ps.length c2) ps.length (icells ps) ∧ Below w1.heap.size w1 W) (fun _ jv _ => ps.length - (intOf jv).toNat)
      case atStart => exact ⟨0, Nat.zero_le _, rfl, by simpa using hown2', hown2, B2⟩
      case round =>
        clear hown2 hown2' B2
        obtain ⟨j, hj, rfl, hownO, hownP, hB⟩ := hrel
        have hszB := hB.size
        obtain ⟨oa, oc, rfl⟩ := own_shape hownO
        by_cases hjl : j < ps.length
        · obtain ⟨g2, cc2, he2⟩ := own_form hownP (by omega)
          simp only [Value.slice.injEq, true_and] at he2
          obtain ⟨rfl, rfl⟩ := he2
          have cp := hownP.cellAt j (by omega)
          rw [show (icells ps)[j]? = some (.int .i64 ps[j]) from by simp [icells, hjl]] at cp
          have cs := cell_later hB hc0
          have ji : (j : Int) < (ps.length : Int) := by omega
          have hfp : acells (fs ++ (ps.take (j + 1)).map fun i => (t, i)) = acells (fs ++ (ps.take j).map fun i => (t, i)) ++ [Value.string (bstr t), .int .i64 ps[j]] := by
            rw [List.take_succ_eq_append_getElem hjl, List.map_append, ← List.append_assoc, acells_append]
            rfl
          have HFP := Lib.hid hfp
          have hci : ∀ jj : Int, True := fun _ => trivial
          generalize acells (fs ++ (ps.take j).map fun i => (t, i)) = cells at *
          obtain ⟨pj, hpj⟩ : ∃ p, p = ps[j] := ⟨_, rfl⟩
          rw [← hpj] at cp HFP
          clear hpj hfp hci
          go_wp2_with fail
          refine L_begin (fun W => W.cell? ⟨b0, off + k, none⟩ = some (.string (bstr t)) ∧ W.cell? ⟨g2, j, none⟩ = some (.int .i64 pj)) 9 (by kernel_rfl) ?_
          have hS : wr.drew.cell? ⟨b0, off + k, none⟩ = some (.string (bstr t)) ∧ wr.drew.cell? ⟨g2, j, none⟩ = some (.int .i64 pj) := ⟨cs, cp⟩
          have hO1 := hownO.drew
          have hP1 := hownP.drew
          have hB1 := hB.drew
          generalize wr.drew = wd at *
          refine L_free (fuel := 12) 0 (.slice oa (fs.length + j) oc) rfl (by kernel_rfl) (by kernel_rfl) (by kernel_rfl) (by kernel_rfl) (fun _ _ _ h => h) (by kernel_rfl) ?_ hS ?_
          · intro W
            go_simp
          refine L_free (fuel := 11) 1 (.slice (some ⟨b0, off, none⟩) ss.length c1) rfl (by kernel_rfl) (by kernel_rfl) (by kernel_rfl) (by kernel_rfl) (fun _ _ _ h => h) (by kernel_rfl) ?_ hS ?_
          · intro W
            go_simp
          refine L_free (fuel := 10) 2 (.int .i64 k) rfl (by kernel_rfl) (by kernel_rfl) (by kernel_rfl) (by kernel_rfl) (fun _ _ _ h => h) (by kernel_rfl) ?_ hS ?_
          · intro W
            go_simp
          refine L_free (fuel := 9) 3 (.pointer (some ⟨b0, off + k, none⟩)) rfl (by kernel_rfl) (by kernel_rfl) (by kernel_rfl) (by kernel_rfl) (fun _ _ _ h => h) (by kernel_rfl) ?_ hS ?_
          · intro W
            go_simp
          refine L_take (fuel := 8) 4 (.string (bstr t)) rfl (by kernel_rfl) (by kernel_rfl) (by kernel_rfl) (by kernel_rfl) (fun _ _ _ h => h) (by kernel_rfl) ?_ hS ?_
          · intro W hW
            obtain ⟨q1, q2⟩ := hW
            go_simp
          refine L_free (fuel := 7) 5 (.slice (some ⟨g2, 0, none⟩) ps.length c2) rfl (by kernel_rfl) (by kernel_rfl) (by kernel_rfl) (by kernel_rfl) (fun _ _ _ h => h) (by kernel_rfl) ?_ hS ?_
          · intro W
            go_simp
          refine L_free (fuel := 6) 6 (.int .i64 j) rfl (by kernel_rfl) (by kernel_rfl) (by kernel_rfl) (by kernel_rfl) (fun _ _ _ h => h) (by kernel_rfl) ?_ hS ?_
          · intro W
            go_simp
          refine L_free (fuel := 5) 7 (.pointer (some ⟨g2, j, none⟩)) rfl (by kernel_rfl) (by kernel_rfl) (by kernel_rfl) (by kernel_rfl) (fun _ _ _ h => h) (by kernel_rfl) ?_ hS ?_
          · intro W
            go_simp
          refine L_take (fuel := 4) 8 (.int .i64 pj) rfl (by kernel_rfl) (by kernel_rfl) (by kernel_rfl) (by kernel_rfl) (fun _ _ _ h => h) (by kernel_rfl) ?_ hS ?_
          · intro W hW
            obtain ⟨q1, q2⟩ := hW
            go_simp
          refine L_end (fuel := 3) 9 (by kernel_rfl) rfl (by kernel_rfl) ?_
          intro K hK
          go_simp
          refine hK _ _ ?_
          clear hK K
          refine L_end (fuel := 2) 10 (by kernel_rfl) rfl (by kernel_rfl) ?_
          intro K hK
          go_simp
          refine hK _ _ ?_
          clear hK K
          refine L_end (fuel := 1) 11 (by kernel_rfl) rfl (by kernel_rfl) ?_
          intro K hK
          refine step_app rfl (.tmp 28) (.tmp 38) 47 47 rfl w1.heap.size 51 i0 _ 2 24 Tryd.underlying47 hi hz0 hz1 hz2 rfl (.slice oa (fs.length + j) oc) (fs.length + j) _ rfl (hO1.alloc _) _ 1 [Value.string (bstr t), .int .i64 pj] rfl (src_new Tryd.underlying47 wd _ 2 1 1 rfl (HN.out t pj)) (by unfold maxLen; omega) (by omega) (by have := hB1.size; simp; omega) ?_
          intro v3 w3 hown3 hgr3 _
          have hB3 : Below w1.heap.size w1 w3 := (hB1.alloc hB1.size _).grown hgr3 (by have := hB1.size; simp; omega) (fun j hj => (hO1.lt j hj).1)
          have hP3 := (hP1.alloc (.cells #[.string (bstr t), .int .i64 pj] 51)).kept hgr3 (own_ne hP1 hO1 (by decide))
          clear hgr3
          refine hK _ _ ?_
          clear hK K
          refine L_end (fuel := 0) 12 (by kernel_rfl) rfl (by kernel_rfl) ?_
          intro K hK
          go_simp
          refine hK _ _ ?_
          clear hK K
          refine L_done (by kernel_rfl) ?_ 0
          go_wp2
          go_roundw
          case rel => exact ⟨j + 1, by omega, by go_num, by rw [HFP.out]; exact hown3, hP3, hB3⟩
          case measure => simp [intOf]; omega
        · have hje : j = ps.length := by omega
          subst hje
          have ji : ¬ (ps.length : Int) < (ps.length : Int) := by omega
          rw [List.take_length] at hownO
          have HOO := Lib.hid hownO
          clear hownO hownP
          go_wp2
          go_roundw
          case rel => exact ⟨k + 1, by omega, by go_num, by rw [HFS.out, List.length_append, List.length_map]; exact HOO.out, hB⟩
          case measure => simp [intOf]; omega
    · have hke : ss.take k = ss := List.take_of_length_le (by omega)
      have ki : ¬ (k : Int) < (ss.length : Int) := by omega
      rw [hke] at hown
      have HO := Lib.hid hown
      clear hown hke
      go_wp2
      go_ret
      rw [hpo.out]
      exact ⟨_, rfl, own_mono HO.out hsz1, BW⟩
end Go.Proofs.YtjbmihgfneamlaaDoor
