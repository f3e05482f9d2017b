/- rubricklaw05.TokenCase: the walk. -/
import Derived.Test.YtjbmihgfneamlaaDoorCutsWalk
import Derived.Test.YtjbmihgfneamlaaDoorRowsLaw
set_option linter.unusedVariables false
namespace Go.Proofs.YtjbmihgfneamlaaDoor
open Go.RowKit Go.Sort

/-! ### a letter is turned -/
theorem like_set {a d : List UInt8} (h : LikeL a d) : ∀ (k : Nat) (y : UInt8) (hk : k < d.length), (∀ x, likeB x d[k] → likeB x y) → LikeL a (d.set k y) := by
  induction h with
  | nil => intro k y hk; simp at hk
  | cons h1 h2 ih =>
    intro k y hk hy
    cases k with
    | zero => exact .cons (hy _ h1) h2
    | succ k => exact .cons h1 (ih k y (by simpa using hk) hy)
theorem like_refl : ∀ a : List UInt8, LikeL a a
  | [] => .nil
  | x :: a => .cons (.inl rfl) (like_refl a)
theorem ch_inj {x y : UInt8} (h : ch x = ch y) : x = y := by rw [← u8_ch x, ← u8_ch y, h]
theorem like_down {z : UInt8} (h1 : 97 ≤ ch z) (h2 : ch z ≤ 122) (x : UInt8) (h : likeB x z) : likeB x (u8 (ch z - 32)) := by
  have hy : ch (u8 (ch z - 32)) = ch z - 32 := ch_u8 _ (by omega) (by omega)
  rcases h with rfl | ⟨h, ⟨h3, h4⟩ | ⟨h3, h4⟩⟩
  · exact .inr ⟨.inr ⟨h1, h2⟩, .inr ⟨hy, h1⟩⟩
  · exact .inl (ch_inj (by rw [hy]; omega))
  · omega
theorem like_up {z : UInt8} (h1 : 65 ≤ ch z) (h2 : ch z ≤ 90) (x : UInt8) (h : likeB x z) : likeB x (u8 (ch z + 32)) := by
  have hy : ch (u8 (ch z + 32)) = ch z + 32 := ch_u8 _ (by omega) (by omega)
  rcases h with rfl | ⟨h, ⟨h3, h4⟩ | ⟨h3, h4⟩⟩
  · exact .inr ⟨.inl ⟨h1, h2⟩, .inl ⟨hy, h2⟩⟩
  · omega
  · exact .inl (ch_inj (by rw [hy]; omega))

theorem bcell_at {l : List UInt8} {k : Nat} (h : k < l.length) : (bcells l)[k]? = some (.int .u8 (ch l[k])) := by simp [bcells, h]
theorem bcells_set (l : List UInt8) (k : Nat) (z : Int) (h0 : 0 ≤ z) (h1 : z < 256) : (bcells l).set k (.int .u8 z) = bcells (l.set k (u8 z)) := by
  unfold bcells
  rw [List.map_set, ch_u8 z h0 h1]

/-- truth values as cells. -/
def tcells (l : List Bool) : List Value := l.map Value.bool
theorem bools_cells {w : World} {v : Value} {l : List Bool} (h : Rd w v l.length 1 (tcells l)) :
    ∃ ao c, v = .slice ao l.length c ∧ l.length ≤ 9223372036854775807 ∧ Hid (∀ i (hi : i < l.length), ∃ b off, ao = some ⟨b, off, none⟩ ∧ w.cell? ⟨b, off + i, none⟩ = some (.bool l[i])) := by
  obtain ⟨-, hm, ⟨ao, c, rfl, h0⟩ | ⟨b, off, c, rfl, -, -, -, h3⟩⟩ := h
  · exact ⟨ao, c, by rw [h0], by omega, fun i hi => by omega⟩
  · exact ⟨_, c, rfl, by unfold maxLen at hm; omega, fun i hi => ⟨b, off, rfl, h3 i _ (by simp [tcells, hi])⟩⟩

set_option maxRecDepth 100000 in
set_option maxHeartbeats 8000000 in
theorem case_walk (v : Value) (b : List UInt8) (vg : Value) (gr : List Bool) (w : World) (ht : Tabs w) (h : Rd w v b.length 1 (bcells b)) (hg : Rd w vg gr.length 1 (tcells gr)) :
    Calls Tryd.prog 11 #[v, vg] w fun e w' => e = .returned (.bool true) ∧ Below w.heap.size w w' := by
  have HK : Hid (∀ W, Below w.heap.size w W → Calls Tryd.prog 22 #[] W fun e w' => e = .returned (.bool true) ∧ Below W.heap.size W w') := fun W hW => knows05_any W (ht.below hW)
  obtain ⟨ao, c, rfl⟩ := rd_shape h
  obtain ⟨go, gc, rfl, hgm, HG⟩ := bools_cells hg
  obtain ⟨i0, hi, hz0, hz1, hz2⟩ := info_parts infoByte
  by_cases hlong : 2000 < b.length
  · have hG := Lib.hid (fun W => great05_yes ao b.length c W hlong)
    clear h hg ht
    go_enter Tryd.func11, Tryd.ntmps11
    go_wp2_with (first | (go_at_call 21; refine (hG.out _).mono ?_; rintro e w' ⟨rfl, rfl⟩) | (go_at_call 22; refine (HK.out _ (Below.refl _ _)).mono ?_; rintro e w2 ⟨rfl, hb2⟩))
    go_ret
    exact ⟨rfl, hb2⟩
  · have hG := Lib.hid (fun W => great05_no ao b.length c W hlong)
    have hbl : b.length ≤ 2000 := by omega
    have HR := Lib.hid (h.src Tryd.underlying30 (bcells_one b))
    have HR' : Hid (∀ W, Below w.heap.size w W → Src Tryd.prog 1 30 (.slice ao b.length c) b.length (bcells b) W) := fun W hW => (h.below hW).src Tryd.underlying30 (bcells_one b)
    have HTT := Lib.hid (fun W (hW : Below w.heap.size w W) => terms_any (.slice ao b.length c) b W (ht.below hW) (h.below hW) (by omega))
    have HTS := Lib.hid (fun W (hW : Below w.heap.size w W) => tset_any (.slice ao b.length c) b W (ht.below hW) (h.below hW) (by omega))
    have HTD : Hid (∀ v d W, Below w.heap.size w W → d.length = b.length → LikeL b d → Rd W v b.length 1 (bcells d) → Calls Tryd.prog 24 #[v] W (Gives W 9 1 (terms b).length (scells (terms b)))) := fun v d W hW hd hL hr => by
      rw [← hd] at hr
      have := terms_any v d W (ht.below hW) hr (by omega)
      rw [← like_terms hL] at this
      exact this
    have HTE : Hid (∀ v d W, Below w.heap.size w W → d.length = b.length → LikeL b d → Rd W v b.length 1 (bcells d) → Calls Tryd.prog 26 #[v] W (Gives W 9 1 (setOf (terms b)).length (scells (setOf (terms b))))) := fun v d W hW hd hL hr => by
      rw [← hd] at hr
      have := tset_any v d W (ht.below hW) hr (by omega)
      rw [← like_terms hL] at this
      exact this
    generalize setOf (terms b) = ss at *
    generalize terms b = ts at *
    clear h hg ht hlong
    go_enter Tryd.func11, Tryd.ntmps11
    go_wp2_with (first
      | (go_at_call 21; refine (hG.out _).mono ?_; rintro e w' ⟨rfl, rfl⟩)
      | (at_builtin; refine wpList_app rfl _ _ _ _ rfl w.heap.size 5 i0 _ 1 1 Tryd.underlying30 hi hz0 hz1 hz2 rfl (.slice (some ⟨w.heap.size, 0, none⟩) 0 0) 0 [] rfl (World.ownsRow_made w #[] 0 (Nat.le_refl _) (by decide) rfl) _ b.length (bcells b) rfl (HR'.out _ ((Below.refl _ _).alloc (Nat.le_refl _) _)) (by unfold maxLen; omega) (by omega) (by simp) ?_; intro v1 w1 hown1 hg1 _ _; have B1 : Below w.heap.size w w1 := ((Below.refl w.heap.size w).alloc (Nat.le_refl _) _).grown hg1 (by simp) (by intro k hk; simp only [Value.ownBlock, Option.some.injEq] at hk; omega)))
    rw [Nat.zero_add, List.nil_append] at hown1
    obtain ⟨va, vc, rfl⟩ := own_shape hown1
    have HX : Hid (∀ (d : List UInt8) W, LikeL b d → d.length = b.length → W.ownsRow w.heap.size 5 1 (.slice va b.length vc) b.length (bcells d) → Below w.heap.size w W → True) := fun _ _ _ _ _ _ => trivial
    go_loopw [6] (fun i W => ∃ (k : Nat) (d : List UInt8), k ≤ b.length ∧ i = .int .i64 k ∧ Hid (d.length = b.length) ∧ Hid (LikeL b d) ∧ W.ownsRow w.heap.size 5 1 (.slice va b.length vc) b.length (bcells d) ∧ Below w.heap.size w W) (fun i _ => b.length - (intOf i).toNat)
    case atStart => exact ⟨0, b, Nat.zero_le _, rfl, rfl, like_refl b, hown1, B1⟩
    case round =>
      clear hown1 B1 hg1
      obtain ⟨k, d, hk, rfl, HDL, HL, hown, hbel⟩ := hrel
      have k0 : (0 : Int) ≤ (k : Int) := by omega
      by_cases hlt : k < b.length
      · have ki : (k : Int) < (b.length : Int) := by omega
        by_cases hgk : k < gr.length
        · have kg : (k : Int) < (gr.length : Int) := by omega
          obtain ⟨gb, goff, rfl, hg0⟩ := HG.out k hgk
          have cg := cell_later hbel hg0
          obtain ⟨g1, e1, hva⟩ := own_form hown (by omega)
          simp only [Value.slice.injEq, true_and] at hva
          obtain ⟨rfl, rfl⟩ := hva
          have hkd : k < d.length := by have := HDL.out; omega
          have cc := hown.cellAt k (by omega)
          rw [bcell_at hkd] at cc
          have fc := hown.frozenAt k
          have hbx := chBd d[k]
          have HST := Lib.hid (fun u => (hown.stored k u).1)
          have HDN : Hid (97 ≤ ch d[k] → ch d[k] ≤ 122 → LikeL b (d.set k (u8 (ch d[k] - 32)))) := fun q1 q2 => like_set HL.out k _ hkd (like_down q1 q2)
          have HUP : Hid (65 ≤ ch d[k] → ch d[k] ≤ 90 → LikeL b (d.set k (u8 (ch d[k] + 32)))) := fun q1 q2 => like_set HL.out k _ hkd (like_up q1 q2)
          have HSL : Hid (∀ y, (d.set k y).length = b.length) := fun y => by rw [List.length_set]; exact HDL.out
          have hbg := (own_parts hown).2.2.1
          obtain ⟨x, hx⟩ : ∃ x, x = ch d[k] := ⟨_, rfl⟩
          rw [← hx] at cc hbx HDN HUP
          obtain ⟨bx0, bx1⟩ := hbx
          have HO := Lib.hid hown
          clear hx hown hg0 hkd
          cases hgv : gr[k] with
          | false =>
            rw [hgv] at cg
            clear hgv
            go_wp2
            go_roundw
            case rel => exact ⟨k + 1, d, by omega, by go_num, HDL.out, HL.out, HO.out, hbel⟩
            case measure => simp [intOf]; omega
          | true =>
            rw [hgv] at cg
            clear hgv
            by_cases h97 : 97 ≤ x
            · by_cases h122 : x ≤ 122
              · have hw8 : IntKind.u8.wrap (x - 32) = x - 32 := wrap_u8_in _ (by omega) (by omega)
                have hin := HST.out (.int .u8 (x - 32))
                rw [bcells_set d k (x - 32) (by omega) (by omega)] at hin
                have HIN := Lib.hid hin
                have HL2 := Lib.hid (HDN.out h97 h122)
                clear hin
                go_wp2
                go_roundw
                case rel => exact ⟨k + 1, d.set k (u8 (x - 32)), by omega, by go_num, HSL.out _, HL2.out, HIN.out, hbel.setCell hbg _⟩
                case measure => simp [intOf]; omega
              · have h65 : 65 ≤ x := by omega
                have h90 : ¬ x ≤ 90 := by omega
                go_wp2
                go_roundw
                case rel => exact ⟨k + 1, d, by omega, by go_num, HDL.out, HL.out, HO.out, hbel⟩
                case measure => simp [intOf]; omega
            · by_cases h65 : 65 ≤ x
              · by_cases h90 : x ≤ 90
                · have hw8 : IntKind.u8.wrap (x + 32) = x + 32 := wrap_u8_in _ (by omega) (by omega)
                  have hin := HST.out (.int .u8 (x + 32))
                  rw [bcells_set d k (x + 32) (by omega) (by omega)] at hin
                  have HIN := Lib.hid hin
                  have HL2 := Lib.hid (HUP.out h65 h90)
                  clear hin
                  go_wp2
                  go_roundw
                  case rel => exact ⟨k + 1, d.set k (u8 (x + 32)), by omega, by go_num, HSL.out _, HL2.out, HIN.out, hbel.setCell hbg _⟩
                  case measure => simp [intOf]; omega
                · go_wp2
                  go_roundw
                  case rel => exact ⟨k + 1, d, by omega, by go_num, HDL.out, HL.out, HO.out, hbel⟩
                  case measure => simp [intOf]; omega
              · go_wp2
                go_roundw
                case rel => exact ⟨k + 1, d, by omega, by go_num, HDL.out, HL.out, HO.out, hbel⟩
                case measure => simp [intOf]; omega
        · have kg : ¬ (k : Int) < (gr.length : Int) := by omega
          have HRD := Lib.hid (Rd.of_own hown)
          clear hown
          go_wp2_with (first
            | (go_at_call 22; refine (HK.out _ B7).mono ?_; rintro e w8 ⟨rfl, hb8⟩; have B8 := B7.trans (hb8.mono B7.size))
            | (go_at_call 23; refine S6.out.mono ?_; rintro e w7 ⟨rfl, hb7⟩; have B7 := B6.trans (hb7.mono B6.size))
            | (go_at_call 26; refine (HTE.out _ d _ B5 HDL.out HL.out (HRD.out.below D5)).mono ?_; rintro e w6 ⟨v6, rfl, hown6, hb6⟩; have B6 := B5.trans (hb6.mono B5.size); have S6 := Lib.hid (same_true rfl rfl O5.out hb6 hown6))
            | (go_at_call 26; refine (HTS.out _ B4).mono ?_; rintro e w5 ⟨v5, rfl, hown5, hb5⟩; have B5 := B4.trans (hb5.mono B4.size); have D5 := D4.trans (hb5.mono D4.size); have O5 := Lib.hid hown5)
            | (go_at_call 23; refine S3.out.mono ?_; rintro e w4 ⟨rfl, hb4⟩; have B4 := B3.trans (hb4.mono B3.size); have D4 := D3.trans (hb4.mono D3.size))
            | (go_at_call 24; refine (HTD.out _ d _ B2 HDL.out HL.out (HRD.out.below hb2)).mono ?_; rintro e w3 ⟨v3, rfl, hown3, hb3⟩; have B3 := B2.trans (hb3.mono B2.size); have D3 := hb2.trans (hb3.mono hb2.size); have S3 := Lib.hid (same_true rfl rfl O2.out hb3 hown3))
            | (go_at_call 24; refine (HTT.out _ hbel).mono ?_; rintro e w2 ⟨v2, rfl, hown2, hb2⟩; have B2 := hbel.trans (hb2.mono hbel.size); have O2 := Lib.hid hown2))
          go_ret
          exact ⟨by first | rfl | simp, B8⟩
      · have ki : ¬ (k : Int) < (b.length : Int) := by omega
        have HRD := Lib.hid (Rd.of_own hown)
        clear hown
        go_wp2_with (first
          | (go_at_call 22; refine (HK.out _ B7).mono ?_; rintro e w8 ⟨rfl, hb8⟩; have B8 := B7.trans (hb8.mono B7.size))
          | (go_at_call 23; refine S6.out.mono ?_; rintro e w7 ⟨rfl, hb7⟩; have B7 := B6.trans (hb7.mono B6.size))
          | (go_at_call 26; refine (HTE.out _ d _ B5 HDL.out HL.out (HRD.out.below D5)).mono ?_; rintro e w6 ⟨v6, rfl, hown6, hb6⟩; have B6 := B5.trans (hb6.mono B5.size); have S6 := Lib.hid (same_true rfl rfl O5.out hb6 hown6))
          | (go_at_call 26; refine (HTS.out _ B4).mono ?_; rintro e w5 ⟨v5, rfl, hown5, hb5⟩; have B5 := B4.trans (hb5.mono B4.size); have D5 := D4.trans (hb5.mono D4.size); have O5 := Lib.hid hown5)
          | (go_at_call 23; refine S3.out.mono ?_; rintro e w4 ⟨rfl, hb4⟩; have B4 := B3.trans (hb4.mono B3.size); have D4 := D3.trans (hb4.mono D3.size))
          | (go_at_call 24; refine (HTD.out _ d _ B2 HDL.out HL.out (HRD.out.below hb2)).mono ?_; rintro e w3 ⟨v3, rfl, hown3, hb3⟩; have B3 := B2.trans (hb3.mono B2.size); have D3 := hb2.trans (hb3.mono hb2.size); have S3 := Lib.hid (same_true rfl rfl O2.out hb3 hown3))
          | (go_at_call 24; refine (HTT.out _ hbel).mono ?_; rintro e w2 ⟨v2, rfl, hown2, hb2⟩; have B2 := hbel.trans (hb2.mono hbel.size); have O2 := Lib.hid hown2))
        go_ret
        exact ⟨by first | rfl | simp, B8⟩
end Go.Proofs.YtjbmihgfneamlaaDoor
