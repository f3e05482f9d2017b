/- query.Right. -/
import Derived.Test.YteegbjjpjdlcmaaDoorTokRight
set_option linter.unusedVariables false
namespace Go.Proofs.YteegbjjpjdlcmaaDoor
open Go.RowKit

abbrev QOp := Int × List UInt8
def ocells (l : List QOp) : List Value := l.flatMap fun s => [.int .i64 s.1, .string (bstr s.2)]

theorem ocells_len (xs : List QOp) : (ocells xs).length = xs.length * 2 := by
  induction xs with
  | nil => rfl
  | cons x xs ih => simp [ocells] at ih ⊢; omega
theorem ocells_append (xs ys : List QOp) : ocells (xs ++ ys) = ocells xs ++ ocells ys := by simp [ocells]
theorem ocells_one (xs : List QOp) : ∀ u ∈ ocells xs, u.oneCell' = true := by
  intro u hu
  simp only [ocells, List.mem_flatMap] at hu
  obtain ⟨s, _, hs⟩ := hu
  simp at hs
  rcases hs with rfl | rfl <;> rfl
theorem ocells_from (xs : List QOp) (k : Nat) (h : k < xs.length) : (ocells xs)[k * 2]? = some (.int .i64 xs[k].1) ∧ (ocells xs)[k * 2 + 1]? = some (.string (bstr xs[k].2)) := by
  induction xs generalizing k with
  | nil => simp at h
  | cons x xs ih =>
    cases k with
    | zero => simp [ocells]
    | succ k =>
      have := ih k (by simpa using h)
      simp only [List.getElem_cons_succ]
      rw [← this.1, ← this.2]
      simp only [ocells, List.flatMap_cons]
      constructor
      · rw [show (k + 1) * 2 = k * 2 + 2 from by omega]; simp
      · rw [show (k + 1) * 2 + 1 = (k * 2 + 1) + 2 from by omega]; simp

/-- the cells of the steps that a slice reads as. -/
theorem ops_cells {w : World} {v : Value} {l : List QOp} (h : Rd w v l.length 2 (ocells l)) : ∃ ao c, v = .slice ao l.length c ∧ l.length ≤ maxLen ∧ ∀ k (hk : k < l.length), ∃ b off, ao = some ⟨b, off, none⟩ ∧ w.cell? ⟨b, off + k * 2, none⟩ = some (.int .i64 l[k].1) ∧ w.cell? ⟨b, off + k * 2 + 1, none⟩ = some (.string (bstr l[k].2)) := by
  obtain ⟨-, hm, ⟨ao, c, rfl, h0⟩ | ⟨b, off, c, rfl, -, -, -, h3⟩⟩ := h
  · exact ⟨ao, c, by rw [h0], hm, fun k hk => by omega⟩
  · exact ⟨_, c, rfl, hm, fun k hk => ⟨b, off, rfl, h3 _ _ (ocells_from l k hk).1, h3 _ _ (ocells_from l k hk).2⟩⟩

def rightGo : Int → Int → List QOp → Bool
  | h, w, [] => decide (h = 1) && decide (w ≤ 16)
  | h, w, (k, t) :: r =>
    if k = 0 then (if rightTok t = true then rightGo (h + 1) (w + 1) r else false)
    else if k = 1 ∨ k = 2 ∨ k = 3 then (if t ≠ [] ∨ h < 2 then false else rightGo (h - 1) w r)
    else false
def qRight (l : List QOp) : Bool := rightGo 0 0 l

theorem bstr_nil {t : List UInt8} : (bstr t).toList = [] ↔ t = [] := by rw [btoList]

set_option maxRecDepth 10000 in
set_option maxHeartbeats 2000000 in
theorem qright_any (v : Value) (l : List QOp) (w : World) (ht : Tabs w) (h : Rd w v l.length 2 (ocells l)) (hn : l.length ≤ 100000) (hts : ∀ s ∈ l, s.2.length ≤ 100000) (hks : ∀ s ∈ l, -9223372036854775808 ≤ s.1 ∧ s.1 ≤ 9223372036854775807) :
    Calls Tryd.prog 37 #[v] w fun e w' => e = .returned (.bool (qRight l)) ∧ Below w.heap.size w w' := by
  obtain ⟨ao, c, rfl, hm, hcell⟩ := ops_cells h
  have HC := Lib.hid hcell
  have HTS := Lib.hid hts
  clear hcell h hm hts
  have HR : Hid (qRight l = rightGo 0 0 l) := rfl
  go_enter Tryd.func37, Tryd.ntmps37
  go_wp2
  go_loopw [3, 4, 9] (fun x y i wr => ∃ (k : Nat) (p q : Int), k ≤ l.length ∧ i = .int .i64 k ∧ x = .int .i64 p ∧ y = .int .i64 q ∧ 0 ≤ p ∧ p ≤ k ∧ 0 ≤ q ∧ q ≤ k ∧ Hid (qRight l = rightGo p q (l.drop k)) ∧ Below w.heap.size w wr) (fun _ _ i _ => l.length - (intOf i).toNat)
  case atStart => exact ⟨0, 0, 0, Nat.zero_le _, rfl, rfl, rfl, by omega, by omega, by omega, by omega, rfl, Below.refl _ _⟩
  case round =>
    obtain ⟨k, p, q, hk, rfl, rfl, rfl, hp0, hpk, hq0, hqk, HQ, hbel⟩ := hrel
    have hsz := hbel.size
    by_cases hlt : k < l.length
    · obtain ⟨b, off, rfl, h1, h2⟩ := HC.out k hlt
      have c1 := (hbel.cell (World.block_lt_of_cell? w _ h1)).trans h1
      have c2 := (hbel.cell (World.block_lt_of_cell? w _ h2)).trans h2
      have hdrop : l.drop k = l[k] :: l.drop (k + 1) := List.drop_eq_getElem_cons hlt
      have htl := HTS.out l[k] (List.getElem_mem _)
      have hkb := hks l[k] (List.getElem_mem _)
      clear h1 h2
      obtain ⟨⟨kk, tt⟩, hx⟩ : ∃ s, s = l[k] := ⟨_, rfl⟩
      rw [← hx] at hdrop c1 c2 htl hkb
      simp only at c1 c2 htl hkb
      have hstep : qRight l = rightGo p q ((kk, tt) :: l.drop (k + 1)) := by rw [HQ.out, hdrop]
      have HST := Lib.hid hstep
      clear hstep hdrop hx HQ
      have hrt := fun (w2 : World) (hb : Below wr.heap.size wr w2) => tokright_any tt w2 ((ht.below hbel).below hb) htl
      by_cases hk0 : kk = 0
      · subst hk0
        cases hrr : rightTok tt with
        | true =>
          rw [hrr] at hrt
          have HRT := Lib.hid hrt
          have hst : Hid (qRight l = rightGo (p + 1) (q + 1) (l.drop (k + 1))) := by
            show _ = _
            rw [HST.out]; simp only [rightGo]; rw [if_pos trivial, if_pos hrr]
          clear hrt hrr
          go_wp2_with (go_at_call 62; refine (HRT.out _ ((Below.refl _ _).alloc (Nat.le_refl _) _)).mono ?_; rintro e w2 ⟨rfl, hb2⟩; have hB2 : Below wr.heap.size wr w2 := (((Below.refl _ _).alloc (Nat.le_refl _) _)).trans (hb2.mono (by simp)))
          go_roundw
          case rel => exact ⟨k + 1, p + 1, q + 1, by omega, by go_num, rfl, rfl, by omega, by omega, by omega, by omega, hst, hbel.trans (hB2.mono hsz)⟩
          case measure => simp [intOf]; omega
        | false =>
          rw [hrr] at hrt
          have HRT := Lib.hid hrt
          have hst : Hid (qRight l = false) := by
            show _ = _
            rw [HST.out]; simp only [rightGo]; rw [if_pos trivial, if_neg (by simp [hrr])]
          clear hrt hrr
          go_wp2_with (go_at_call 62; refine (HRT.out _ ((Below.refl _ _).alloc (Nat.le_refl _) _)).mono ?_; rintro e w2 ⟨rfl, hb2⟩; have hB2 : Below wr.heap.size wr w2 := (((Below.refl _ _).alloc (Nat.le_refl _) _)).trans (hb2.mono (by simp)))
          go_ret
          exact ⟨ret_bool hst.out.symm, hbel.trans (hB2.mono hsz)⟩
      · have hk0' : (kk == 0) = false := beq_eq_false_iff_ne.2 hk0
        clear hrt
        by_cases hk3 : kk = 1 ∨ kk = 2 ∨ kk = 3
        · by_cases hbad : tt ≠ [] ∨ p < 2
          · have hst : Hid (qRight l = false) := by
              show _ = _
              rw [HST.out]; simp only [rightGo]; rw [if_neg hk0, if_pos hk3, if_pos hbad]
            clear hk0 hk0'
            by_cases htt : tt = []
            · have hp2 : p < 2 := by rcases hbad with h | h; exact absurd htt h; exact h
              have he1 : (bstr tt).toList.isEmpty = true := by rw [btoList, htt]; rfl
              clear hbad
              subst htt
              rcases hk3 with rfl | rfl | rfl
              all_goals
                go_wp2
                go_ret
                exact ⟨ret_bool hst.out.symm, hbel.alloc hsz _⟩
            · have he1 : (bstr tt).toList.isEmpty = false := by rw [btoList]; simp [htt]
              clear hbad
              rcases hk3 with rfl | rfl | rfl
              all_goals
                go_wp2
                go_ret
                exact ⟨ret_bool hst.out.symm, hbel.alloc hsz _⟩
          · have htt : tt = [] := Classical.byContradiction fun e => hbad (.inl e)
            have hp2 : 2 ≤ p := by
              have : ¬ p < 2 := fun h => hbad (.inr h)
              omega
            have hst : Hid (qRight l = rightGo (p - 1) q (l.drop (k + 1))) := by
              show _ = _
              rw [HST.out]; simp only [rightGo]; rw [if_neg hk0, if_pos hk3, if_neg hbad]
            have he1 : (bstr tt).toList.isEmpty = true := by rw [btoList, htt]; rfl
            clear hk0 hk0' hbad
            subst htt
            rcases hk3 with rfl | rfl | rfl
            all_goals
              go_wp2
              go_roundw
              case rel => exact ⟨k + 1, p - 1, q, by omega, by go_num, rfl, rfl, by omega, by omega, by omega, by omega, hst, hbel.alloc hsz _⟩
              case measure => simp [intOf]; omega
        · have hst : Hid (qRight l = false) := by
            show _ = _
            rw [HST.out]; simp only [rightGo]; rw [if_neg hk0, if_neg hk3]
          have n1 : (kk == 1) = false := beq_eq_false_iff_ne.2 (by omega)
          have n2 : (kk == 2) = false := beq_eq_false_iff_ne.2 (by omega)
          have n3 : (kk == 3) = false := beq_eq_false_iff_ne.2 (by omega)
          clear hk0 hk3
          go_wp2
          go_ret
          exact ⟨ret_bool hst.out.symm, hbel.alloc hsz _⟩
    · have hke : k = l.length := by omega
      have hst : Hid (qRight l = (decide (p = 1) && decide (q ≤ 16))) := by
        show _ = _
        rw [HQ.out, List.drop_of_length_le (by omega)]; rfl
      by_cases hp1 : p = 1
      · subst hp1
        by_cases hq16 : q ≤ 16
        · go_wp2
          go_ret
          exact ⟨ret_bool (by rw [hst.out]; simp [hq16]), hbel⟩
        · go_wp2
          go_ret
          exact ⟨ret_bool (by rw [hst.out]; simp [hq16]), hbel⟩
      · have hp1' : (p == 1) = false := beq_eq_false_iff_ne.2 hp1
        go_wp2
        go_ret
        exact ⟨ret_bool (by rw [hst.out]; simp [hp1]), hbel⟩
end Go.Proofs.YteegbjjpjdlcmaaDoor
