/- rubrickref04.Decode. -/
import Derived.Test.YteegbjjpjdlcmaaDoorRef04b
import Derived.Test.YteegbjjpjdlcmaaDoorHeld
set_option linter.unusedVariables false
namespace Go.Proofs.YteegbjjpjdlcmaaDoor
open Go.RowKit Go.Sort

section
variable {P : Program} {ops : Array Oper} {Q : Exit → Act → World → Prop} {md : Region.Mode}
/-- more may be held from here on. -/
theorem anyL_mono {S S' : World → Prop} (hS : ∀ w, S' w → S w) {last : Nat} : ∀ (fuel : Nat) (listed : Array Bool) (a : Act) (w : World), anyL P md ops Q S' last fuel listed a w → anyL P md ops Q S last fuel listed a w := by
  intro fuel
  induction fuel with
  | zero => intro listed a w h; exact h
  | succ fuel ih =>
    intro listed a w h
    exact ⟨h.1, fun i hi => wpOp_mono (fun a' w' h' => ⟨fun hl => hS _ (h'.1 hl), ih _ _ _ h'.2⟩) (h.2 i hi)⟩
/-- two operations that may come up now. -/
theorem L_two {S : World → Prop} {last : Nat} (i j : Nat) {oi oj : Oper} {fuel : Nat} {listed : Array Bool} {a : Act} {w : World} (hr : Region.ready md ops listed = [i, j]) (hi : ops[i]? = some oi) (hj : ops[j]? = some oj)
    (h1 : ∀ K : Act → World → Prop, (∀ a' w', S w' → anyL P md ops Q S last fuel (listed.setIfInBounds i true) a' w' → K a' w') → if Region.wanted oi (yielded ops a.tmps) = true then Oper.wp P oi a w K Q else K (a.put oi.dst undef) w)
    (h2 : ∀ K : Act → World → Prop, (∀ a' w', S w' → anyL P md ops Q S last fuel (listed.setIfInBounds j true) a' w' → K a' w') → if Region.wanted oj (yielded ops a.tmps) = true then Oper.wp P oj a w K Q else K (a.put oj.dst undef) w) :
    anyL P md ops Q S last (fuel + 1) listed a w := by
  refine ⟨fun h0 => ?_, fun k hk => ?_⟩
  · rw [h0] at hr; cases hr
  · rw [hr] at hk
    rcases List.mem_cons.1 hk with rfl | hk
    · exact wpOp_step hi (fun K' hK => h1 K' (fun a' w' g1 g2 => hK a' w' ⟨fun _ => g1, g2⟩))
    · obtain rfl := List.mem_singleton.1 hk
      exact wpOp_step hj (fun K' hK => h2 K' (fun a' w' g1 g2 => hK a' w' ⟨fun _ => g1, g2⟩))
end

/-- a part of bytes. -/
theorem rd_cut {W : World} {b off c : Nat} {l : List UInt8} (hcell : ∀ i (hi : i < l.length), W.cell? ⟨b, off + i, none⟩ = some (.int .u8 (ch l[i]))) (hc : l.length ≤ c) (hcm : c ≤ maxLen) (p m : Nat) (h0 : 0 < m) (hm : p + m ≤ l.length) :
    Rd W (.slice (some ⟨b, off + p, none⟩) m (c - p)) ((l.drop p).take m).length 1 (bcells ((l.drop p).take m)) := by
  have hlen : ((l.drop p).take m).length = m := by rw [List.length_take, List.length_drop]; omega
  rw [hlen]
  refine ⟨by rw [bcells_len, hlen]; omega, by omega, .inr ⟨b, off + p, c - p, rfl, h0, by omega, by omega, fun i u hu => ?_⟩⟩
  have hi : i < m := by
    have := (List.getElem?_eq_some_iff.1 hu).1
    rw [bcells_len, hlen] at this
    exact this
  have h1 := hcell (p + i) (by omega)
  rw [show off + p + i = off + (p + i) from by omega, h1, ← hu]
  simp only [bcells, List.getElem?_map, List.getElem?_take, List.getElem?_drop]
  rw [if_pos hi, List.getElem?_eq_getElem (by omega)]
  rfl

set_option maxRecDepth 100000 in
set_option maxHeartbeats 8000000 in
theorem rdecode_any (v : Value) (l : List UInt8) (w : World) (h : Rd w v l.length 1 (bcells l)) (hn : l.length ≤ 100000) :
    Calls Tryd.prog 84 #[v] w (Gives w 3 1 (decode l).length (icells (decode l))) := by
  obtain ⟨i0, hi, hz0, hz1, hz2⟩ := info_parts infoInt
  rcases Nat.eq_zero_or_pos l.length with h0 | h0
  · have hx : l = [] := List.length_eq_zero_iff.1 h0
    subst hx
    obtain ⟨-, -, ⟨ao, c, rfl, -⟩ | ⟨b, off, c, -, h1, -⟩⟩ := h
    · go_enter Tryd.func84, Tryd.ntmps84
      go_wp2
      refine wp_loop_rounds 1 ?_; rw [rounds_succ]
      go_wp2
      go_ret
      exact ⟨_, rfl, World.ownsRow_nil _ _ _ _, Below.refl _ _⟩
    · simp at h1
  · obtain ⟨b, off, c, rfl, hnc, hcm, hcell⟩ := bytes_cells h h0
    have HC := Lib.hid hcell; clear hcell h
    unfold maxLen at hcm
    go_enter Tryd.func84, Tryd.ntmps84
    go_wp2
    go_loopw [3, 4] (fun o i wr => ∃ (p : Nat) (cs : List Int), p ≤ l.length ∧ i = .int .i64 p ∧ Hid (decode l = cs ++ decode (l.drop p)) ∧ cs.length ≤ p ∧ wr.ownsRow w.heap.size 3 1 o cs.length (icells cs) ∧ Below w.heap.size w wr) (fun _ i _ => l.length - (intOf i).toNat)
    case atStart => exact ⟨0, [], Nat.zero_le _, rfl, rfl, Nat.le_refl _, World.ownsRow_nil _ _ _ _, Below.refl _ _⟩
    case round =>
      obtain ⟨p, cs, hp, rfl, HD, hcs, hown, hbel⟩ := hrel
      have hsz := hbel.size
      by_cases hlt : p < l.length
      · have HF : Hid ((first (l.drop p)) = refFirst (l.drop p) 4) := (refFirst_is (l.drop p) (by intro e; have := congrArg List.length e; simp at this; omega)).symm
        have hlti : (p : Int) < (l.length : Int) := by omega
        obtain ⟨oa, oc, rfl⟩ := own_shape hown
        have hne : l.drop p ≠ [] := by intro e; have := congrArg List.length e; simp at this; omega
        have hdl : (l.drop p).length = l.length - p := List.length_drop
        go_wp2
        go_loopw [5, 6, 7] (fun cv nv kv W => ∃ k : Nat, k ≤ 4 ∧ kv = .int .i64 ((k + 1 : Nat) : Int) ∧ cv = .int .i64 (refFirst (l.drop p) k).1 ∧ nv = .int .i64 ((refFirst (l.drop p) k).2 : Nat) ∧ W.ownsRow w.heap.size 3 1 (.slice oa cs.length oc) cs.length (icells cs) ∧ Below w.heap.size w W) (fun _ _ kv _ => 6 - (intOf kv).toNat)
        case atStart => exact ⟨0, by omega, rfl, rfl, rfl, hown, hbel⟩
        case round =>
          clear hown hbel hsz
          obtain ⟨k, hk, rfl, rfl, rfl, hown, hbel⟩ := hrel
          have hsz := hbel.size
          by_cases hk4 : k < 4
          · have hki : ((k + 1 : Nat) : Int) ≤ 4 := by omega
            have hcW : ∀ W, Below w.heap.size w W → ∀ i (hi : i < l.length), W.cell? ⟨b, off + i, none⟩ = some (.int .u8 (ch l[i])) := fun W hb i hi => by
              have h1 := HC.out i hi
              exact (hb.cell (World.block_lt_of_cell? w _ h1)).trans h1
            have hrd0 := rd_cut (hcW wr hbel) hnc (by unfold maxLen; omega) p (l.length - p) (by omega) (by omega)
            rw [show (l.drop p).take (l.length - p) = l.drop p from List.take_of_length_le (by omega)] at hrd0
            have hbeg := begins_any _ (l.drop p) (k + 1) wr hrd0 (by omega) (by omega) (by omega)
            have HB := Lib.hid hbeg
            have hRD := Lib.hid (fun W hb m h0 hm => rd_cut (hcW W hb) hnc (by unfold maxLen; omega) p m h0 hm)
            clear hbeg hrd0 hcW
            have g0 : (0 : Int) ≤ (p : Int) := by omega
            have g1 : (p : Int) ≤ (l.length : Int) := by omega
            have hbd := begins_bd (l.drop p) (k + 1) (by omega)
            have hfit : Hid (fitsN (l.drop p) (k + 1) = (isChar (begins (l.drop p) (k + 1)) && enc (begins (l.drop p) (k + 1)) == (l.drop p).take (k + 1))) := rfl
            have href : Hid (refFirst (l.drop p) (k + 1) = if fitsN (l.drop p) (k + 1) then (begins (l.drop p) (k + 1), k + 1) else refFirst (l.drop p) k) := rfl
            generalize begins (l.drop p) (k + 1) = x at *
            by_cases hch : isChar x = true
            · have hx0 := isChar_bd hch
              obtain ⟨m, hm1, hm2, hm3, hmt⟩ : ∃ m : Nat, 0 < m ∧ p + m ≤ l.length ∧ (if (p : Int) + ((k + 1 : Nat) : Int) < (l.length : Int) then (p : Int) + ((k + 1 : Nat) : Int) else (l.length : Int)) = ((p + m : Nat) : Int) ∧ (l.drop p).take (k + 1) = (l.drop p).take m := by
                by_cases hx : p + (k + 1) < l.length
                · exact ⟨k + 1, by omega, by omega, by rw [if_pos (by omega)]; omega, rfl⟩
                · exact ⟨l.length - p, by omega, by omega, by rw [if_neg (by omega)]; omega, by rw [List.take_of_length_le (by omega), List.take_of_length_le (by omega)]⟩
              rw [hch, Bool.true_and, hmt] at hfit
              have T0 : Hid (∀ W, Calls Tryd.prog 106 #[.int .i64 x] W fun e w' => e = .returned (.bool true) ∧ W = w') := fun W => by have := rright_any x W; rw [hch] at this; exact this
              have T1 : Hid (∀ W, Calls Tryd.prog 107 #[.int .i64 x] W (Gives W 5 1 (enc x).length (bcells (enc x)))) := fun W => rencode_any x W hx0.1 hx0.2
              have T2 : Hid (∀ W, Calls Tryd.prog 108 #[.int .i64 ((p : Int) + ((k + 1 : Nat) : Int)), .int .i64 l.length] W fun e w' => e = .returned (.int .i64 ((p + m : Nat) : Int)) ∧ W = w') := fun W => by have := rleast_any ((p : Int) + ((k + 1 : Nat) : Int)) l.length W; rw [hm3] at this; exact this
              have g2 : (p : Int) ≤ ((p + m : Nat) : Int) := by omega
              have g3 : ((p + m : Nat) : Int) ≤ (c : Int) := by omega
              have g4 : ((p + m : Nat) : Int) - (p : Int) = (m : Int) := by omega
              have hw : IntKind.i64.wrap ((p : Int) + ((k + 1 : Nat) : Int)) = (p : Int) + ((k + 1 : Nat) : Int) := by rw [IntKind.wrap_i64]; omega
              have hst : Hid (∀ (W : World) (v4 : Value), W.ownsRow w.heap.size 5 1 v4 (enc x).length (bcells (enc x)) → (convert 72 9 v4).run Tryd.prog W = .ok (.string (bstr (enc x))) W) := fun W v4 h4 => run_to_string W 72 9 5 Tryd.underlying72 Tryd.underlying5 Tryd.underlying9 _ (enc x) (Rd.of_own h4)
              have hst2 : Hid (∀ (W : World), Below w.heap.size w W → (convert 72 9 (.slice (some ⟨b, off + p, none⟩) m (c - p))).run Tryd.prog W = .ok (.string (bstr ((l.drop p).take m))) W) := fun W hb => run_to_string W 72 9 5 Tryd.underlying72 Tryd.underlying5 Tryd.underlying9 _ ((l.drop p).take m) (hRD.out W hb m hm1 hm2)
              generalize (l.drop p).take m = y at *
              generalize enc x = ex at *
              clear hch hbd hm3 hRD
              generalize hkq : ((k + 1 : Nat) : Int) = kq at *
              generalize hpm : ((p + m : Nat) : Int) = pm at *
              go_wp2_with (go_at_call 105; refine HB.out.mono ?_; rintro e w1 ⟨rfl, hb1⟩)
              have hbw1 := hbel.trans (hb1.mono hsz)
              have hfin : Hid (∀ W, Below w1.heap.size w1 W → W.ownsRow w.heap.size 3 1 (.slice oa cs.length oc) cs.length (icells cs) ∧ Below w.heap.size w W) := fun W hW => ⟨own_below' (own_below' hown hb1) hW, hbw1.trans (hW.mono hbw1.size)⟩
              refine L_begin (fun W => Below w1.heap.size w1 W) 16 (by kernel_rfl) ?_
              have hs0 : Below w1.heap.size w1 w1.drew := (Below.refl _ _).drew
              generalize w1.drew = wd at *
              refine L_free (fuel := 17) 0 (.int .i64 x) rfl (by kernel_rfl) (by kernel_rfl) (by kernel_rfl) (by kernel_rfl) (fun _ _ _ h => h) (by kernel_rfl) ?_ (hs0) ?_
              · intro W
                go_simp
              refine L_one (fuel := 16) 1 (by kernel_rfl) rfl ?_
              intro K hK
              go_simp
              refine (T0.out _).mono ?_
              rintro e w' ⟨rfl, rfl⟩
              go_simp
              refine hK _ _ hs0 ?_
              clear hK K
              refine L_free (fuel := 15) 2 (.bool true) rfl (by kernel_rfl) (by kernel_rfl) (by kernel_rfl) (by kernel_rfl) (fun _ _ _ h => h) (by kernel_rfl) ?_ (hs0) ?_
              · intro W
                go_simp
              refine L_free (fuel := 14) 3 (.int .i64 x) rfl (by kernel_rfl) (by kernel_rfl) (by kernel_rfl) (by kernel_rfl) (fun _ _ _ h => h) (by kernel_rfl) ?_ (hs0) ?_
              · intro W
                go_simp
              refine L_free (fuel := 13) 6 (.slice (some ⟨b, off, none⟩) l.length c) rfl (by kernel_rfl) (by kernel_rfl) (by kernel_rfl) (by kernel_rfl) (fun _ _ _ h => h) (by kernel_rfl) ?_ (hs0) ?_
              · intro W
                go_simp
              refine L_free (fuel := 12) 7 (.int .i64 p) rfl (by kernel_rfl) (by kernel_rfl) (by kernel_rfl) (by kernel_rfl) (fun _ _ _ h => h) (by kernel_rfl) ?_ (hs0) ?_
              · intro W
                go_simp
              refine L_free (fuel := 11) 8 (.int .i64 p) rfl (by kernel_rfl) (by kernel_rfl) (by kernel_rfl) (by kernel_rfl) (fun _ _ _ h => h) (by kernel_rfl) ?_ (hs0) ?_
              · intro W
                go_simp
              refine L_free (fuel := 10) 9 (.int .i64 kq) rfl (by kernel_rfl) (by kernel_rfl) (by kernel_rfl) (by kernel_rfl) (fun _ _ _ h => h) (by kernel_rfl) ?_ (hs0) ?_
              · intro W
                go_simp
              refine L_free (fuel := 9) 10 (.int .i64 ((p : Int) + kq)) rfl (by kernel_rfl) (by kernel_rfl) (by kernel_rfl) (by kernel_rfl) (fun _ _ _ h => h) (by kernel_rfl) ?_ (hs0) ?_
              · intro W
                go_simp
              refine L_free (fuel := 8) 11 (.slice (some ⟨b, off, none⟩) l.length c) rfl (by kernel_rfl) (by kernel_rfl) (by kernel_rfl) (by kernel_rfl) (fun _ _ _ h => h) (by kernel_rfl) ?_ (hs0) ?_
              · intro W
                go_simp
              refine L_free (fuel := 7) 12 (.int .i64 l.length) rfl (by kernel_rfl) (by kernel_rfl) (by kernel_rfl) (by kernel_rfl) (fun _ _ _ h => h) (by kernel_rfl) ?_ (hs0) ?_
              · intro W
                go_simp
              refine L_one (fuel := 6) 4 (by kernel_rfl) rfl ?_
              intro K hK
              go_simp
              refine (T1.out _).mono ?_
              rintro e w4 ⟨v4, rfl, hown4, hb4⟩
              have hs4 : Below w1.heap.size w1 w4 := hs0.trans (hb4.mono hs0.size)
              have hown4' := own_mono hown4 (Nat.le_trans hbw1.size hs0.size)
              obtain ⟨a4, c4, rfl⟩ := own_shape hown4
              go_simp
              refine hK _ _ hs4 ?_
              clear hK K
              refine anyL_mono (S' := fun W => Below w4.heap.size w4 W) (fun W hW => hs4.trans (hW.mono hs4.size)) _ _ _ _ ?_
              have hz4 : Below w4.heap.size w4 w4 := Below.refl _ _
              refine L_take (fuel := 5) 5 (.string (bstr ex)) rfl (by kernel_rfl) (by kernel_rfl) (by kernel_rfl) (by kernel_rfl) (fun _ _ _ h => h) (by kernel_rfl) ?_ hz4 ?_
              · intro W hW
                have hq := hst.out W _ (own_below' hown4' hW)
                go_simp
              refine L_one (fuel := 4) 13 (by kernel_rfl) rfl ?_
              intro K hK
              go_simp
              refine (T2.out _).mono ?_
              rintro e w' ⟨rfl, rfl⟩
              go_simp
              refine hK _ _ hz4 ?_
              clear hK K
              refine L_free (fuel := 3) 14 (.slice (some ⟨b, off + p, none⟩) m (c - p)) rfl (by kernel_rfl) (by kernel_rfl) (by kernel_rfl) (by kernel_rfl) (fun _ _ _ h => h) (by kernel_rfl) ?_ hz4 ?_
              · intro W
                go_simp
                exact ⟨fun h => by omega, by omega⟩
              refine L_take (fuel := 2) 15 (.string (bstr y)) rfl (by kernel_rfl) (by kernel_rfl) (by kernel_rfl) (by kernel_rfl) (fun _ _ _ h => h) (by kernel_rfl) ?_ hz4 ?_
              · intro W hW
                have hq := hst2.out W ((hfin.out _ hs4).2.trans (hW.mono (hfin.out _ hs4).2.size))
                go_simp
              refine L_one (fuel := 1) 16 (by kernel_rfl) rfl ?_
              intro K hK
              go_simp
              rw [btoList, btoList]
              have hF := hfin.out _ hs4
              by_cases heq : ex = y
              · have hbt : (ex == y) = true := by simp [heq]
                have hbd : decide (ex = y) = true := by simp [heq]
                first | rw [hbt] | rw [hbd]
                go_simp
                refine hK _ _ hz4 ?_
                clear hK K
                refine L_one (fuel := 0) 17 (by kernel_rfl) rfl ?_
                intro K hK
                go_simp
                refine hK _ _ hz4 ?_
                clear hK K
                refine L_done (by kernel_rfl) ?_ 0
                subst hkq
                have hnf : Hid (refFirst (l.drop p) (k + 1) = (x, k + 1)) := by
                  show _ = _
                  rw [href.out, hfit.out]
                  rw [if_pos (by simpa using heq)]
                go_wp2
                go_roundw
                case rel => exact ⟨k + 1, by omega, by go_num, by rw [hnf.out], by rw [hnf.out], hF.1, hF.2⟩
                case measure => simp [intOf]; omega
              · have hbt : (ex == y) = false := by simp [heq]
                have hbd : decide (ex = y) = false := by simp [heq]
                first | rw [hbt] | rw [hbd]
                go_simp
                refine hK _ _ hz4 ?_
                clear hK K
                refine L_one (fuel := 0) 17 (by kernel_rfl) rfl ?_
                intro K hK
                go_simp
                refine hK _ _ hz4 ?_
                clear hK K
                refine L_done (by kernel_rfl) ?_ 0
                subst hkq
                have hnf : Hid (refFirst (l.drop p) (k + 1) = refFirst (l.drop p) k) := by
                  show _ = _
                  rw [href.out, hfit.out]
                  rw [if_neg (by simpa using heq)]
                go_wp2
                go_roundw
                case rel => exact ⟨k + 1, by omega, by go_num, by rw [hnf.out], by rw [hnf.out], hF.1, hF.2⟩
                case measure => simp [intOf]; omega
            · have hch' : isChar x = false := by simpa using hch
              have hnf : refFirst (l.drop p) (k + 1) = refFirst (l.drop p) k := by rw [href.out, hfit.out, hch']; rfl
              have HNF := Lib.hid hnf
              have T0 := fun W => rright_any x W
              rw [hch'] at T0
              clear hch hch' hnf hfit href
              go_wp2_with (go_at_call 105; refine HB.out.mono ?_; rintro e w1 ⟨rfl, hb1⟩)
              have T1 := fun d os => Calls.regrown_of ((T0 (grow (redrawn w1 d) os)).mono fun e w' ⟨h1, h2⟩ => ⟨h1, by rw [← h2]; exact Below.refl _ _⟩)
              refine wp_region_quiet_below (by kernel_rfl) (by kernel_rfl) ?_
              repeat (go_big_quiet_step (first | (go_at_call 106; with_reducible exact T1 _ _)))
              refine wpQuiet_nil ?_
              intro W2 hw'
              obtain ⟨⟨dq, osq⟩, hw''⟩ := hw'
              have hb2 := hb1.trans ((below_regrown w1 dq osq).mono hb1.size)
              rw [← hw''] at hb2
              clear hw'' T1
              go_wp2
              go_roundw
              case rel => exact ⟨k + 1, by omega, by go_num, by rw [HNF.out], by rw [HNF.out], own_below' hown hb2, hbel.trans (hb2.mono hsz)⟩
              case measure => simp [intOf]; omega
          · have hk4' : k = 4 := by omega
            subst hk4'
            have hki : ¬ ((4 + 1 : Nat) : Int) ≤ 4 := by omega
            rw [← HF.out]
            have hfl := first_len (l.drop p) hne
            have hds := decode_step (l.drop p) hne
            rw [List.drop_drop] at hds
            have HDS := Lib.hid hds
            generalize first (l.drop p) = fr at *
            obtain ⟨cc, m⟩ := fr
            simp only at hfl HDS
            rw [hdl] at hfl
            clear hds
            have hcl : cs.length < 100001 := by omega
            have hnews : ∀ u ∈ [Value.int .i64 cc], u.oneCell' = true := by intro u hu; simp at hu; subst hu; rfl
            have HN := Lib.hid hnews; clear hnews
            go_wp2_with (at_builtin; refine wpList_app rfl _ _ _ _ rfl w.heap.size 3 i0 _ 1 8 Tryd.underlying41 hi hz0 hz1 hz2 rfl (.slice oa cs.length oc) cs.length _ rfl (hown.alloc _) _ 1 [.int .i64 cc] rfl (src_new Tryd.underlying41 wr _ 1 1 1 rfl HN.out) (by unfold maxLen; omega) (by omega) (by simp; omega) ?_; intro v' w1 hown1 hgr _ _; have hbf : Below w.heap.size w w1 := (hbel.alloc hsz _).grown hgr (by simp; omega) (fun j hj => (hown.lt j hj).1); obtain ⟨na, nc, rfl⟩ := own_shape hown1)
            go_roundw
            case rel => exact ⟨p + m, cs ++ [cc], by omega, by go_num, by show _ = _; rw [HD.out, HDS.out]; simp, by simp; omega, by simpa [icells] using hown1, hbf⟩
            case measure => simp [intOf]; omega
      · have hp0 : p = l.length := by omega
        subst hp0
        have hlti : ¬ (l.length : Int) < (l.length : Int) := by omega
        go_wp2
        go_ret
        have hd := HD.out
        rw [List.drop_length, decode_nil, List.append_nil] at hd
        rw [hd]
        exact ⟨_, rfl, hown, hbel⟩
end Go.Proofs.YteegbjjpjdlcmaaDoor
