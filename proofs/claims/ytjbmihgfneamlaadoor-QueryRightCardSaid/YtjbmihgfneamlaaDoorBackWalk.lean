/- rubricklaw16.QueryBack: the walk. -/
import Derived.Test.YtjbmihgfneamlaaDoorKnows16
set_option linter.unusedVariables false
namespace Go.Proofs.YtjbmihgfneamlaaDoor
open Go.RowKit

theorem pr_len : ∀ (T : Tr), T.ok → T.pr.length + 3 ≤ 67 * T.leaves := by
  intro T
  induction T with
  | leaf t => intro h; have := rightTok_len h; simp only [Tr.pr, Tr.leaves]; omega
  | node k x y ihx ihy =>
    intro h
    have h1 := ihx h.2.1
    have h2 := ihy h.2.2
    simp only [Tr.pr, Tr.leaves, wrapOp, List.length_append, List.length_cons, List.length_nil]
    omega

theorem qPrint_len {l : List QOp} (h : qRight l = true) : (qPrint l).length ≤ 2000 := by
  obtain ⟨T, h1, h2, h3, h4⟩ := right_tree l [] 0 (by simp) h rfl
  have hp : qPrint l = T.pr := by unfold qPrint; rw [show prGo [] l = [T.pr] from h2]; rfl
  have := pr_len T h1
  rw [hp]
  omega

/-- Parse of a string's bytes. -/
theorem parse_str (s : List UInt8) (W : World) (ht : Tabs W) (hn : s.length ≤ 1000000000) :
    Calls Tryd.prog 16 #[.slice (some ⟨W.heap.size, 0, none⟩) (bstr s).size (grownCap W (bstr s).size 0 5)] (W.drew.alloc (.cells (bytesRow (bstr s) (grownCap W (bstr s).size 0 5)) 5 ((bytesRow (bstr s) (grownCap W (bstr s).size 0 5)).size, (bytesRow (bstr s) (grownCap W (bstr s).size 0 5)).size + 1))) fun e w' =>
      Below W.heap.size W w' ∧ ∃ ov, e = .returned (.tuple #[ov, .int .i64 (parseAt s), .int .i64 (parseErr s)]) ∧
        ((parseErr s = 0 ∧ w'.ownsRow W.heap.size 38 2 ov (parsed s).2.ops.length (ocells (parsed s).2.ops)) ∨ (parseErr s ≠ 0 ∧ ov = .slice none 0 0)) := by
  have hrd := rd_bytes W s 5 (by unfold maxLen; omega)
  have hb0 : Below W.heap.size W (W.drew.alloc (.cells (bytesRow (bstr s) (grownCap W (bstr s).size 0 5)) 5 ((bytesRow (bstr s) (grownCap W (bstr s).size 0 5)).size, (bytesRow (bstr s) (grownCap W (bstr s).size 0 5)).size + 1))) := ((Below.refl _ _).drew).alloc (Nat.le_refl _) _
  generalize (W.drew.alloc (.cells (bytesRow (bstr s) (grownCap W (bstr s).size 0 5)) 5 ((bytesRow (bstr s) (grownCap W (bstr s).size 0 5)).size, (bytesRow (bstr s) (grownCap W (bstr s).size 0 5)).size + 1))) = W1 at *
  refine (parse_any _ s W1 (ht.below hb0) hrd (by omega)).mono ?_
  rintro e w' ⟨hb, ov, rfl, ⟨h0, hown⟩ | ⟨h0, rfl⟩⟩
  · exact ⟨hb0.trans (hb.mono hb0.size), _, rfl, .inl ⟨h0, own_mono hown hb0.size⟩⟩
  · exact ⟨hb0.trans (hb.mono hb0.size), _, rfl, .inr ⟨h0, rfl⟩⟩

set_option maxRecDepth 100000 in
set_option maxHeartbeats 4000000 in
theorem back_walk (v : Value) (l : List QOp) (w : World) (ht : Tabs w) (h : Rd w v l.length 2 (ocells l)) (hks : ∀ s ∈ l, -9223372036854775808 ≤ s.1 ∧ s.1 ≤ 9223372036854775807) :
    Calls Tryd.prog 3 #[v] w fun e w' => e = .returned (.bool true) ∧ Below w.heap.size w w' := by
  have HK : Hid (∀ W, Below w.heap.size w W → Calls Tryd.prog 14 #[] W fun e w' => e = .returned (.bool true) ∧ Below W.heap.size W w') := fun W hW => knows16_any W (ht.below hW)
  have HG := Lib.hid (great_any v l w h)
  by_cases hg : great l = true
  · rw [hg] at HG
    clear h hks ht hg
    go_enter Tryd.func3, Tryd.ntmps3
    go_wp2_with (first
      | (go_at_call 13; refine HG.out.mono ?_; rintro e w1 ⟨rfl, rfl⟩)
      | (go_at_call 14; refine (HK.out _ (Below.refl _ _)).mono ?_; rintro e w2 ⟨rfl, hb2⟩))
    go_ret
    exact ⟨rfl, hb2⟩
  · have hg' : great l = false := by simpa using hg
    obtain ⟨hl60, hl200⟩ := great_no hg'
    rw [hg'] at HG
    have hts : ∀ s ∈ l, s.2.length ≤ 100000 := fun s hs => by have := hl200 s hs; omega
    by_cases hr : qRight l = true
    · have HP := Lib.hid (print_yes v l w ht h (by omega) hts hks hr)
      have hpl := qPrint_len hr
      obtain ⟨law1, law2⟩ := back_law l hr
      have HPS : Hid (∀ W, Below w.heap.size w W → _) := fun W hW => parse_str (qPrint l) W (ht.below hW) (by omega)
      have HCV : Hid (∀ W, _) := fun W => run_bytes_of_string (P := Tryd.prog) W 9 30 5 (bstr (qPrint l)) Tryd.underlying9 Tryd.underlying30 Tryd.underlying5
      have HD : Hid (∀ W, _) := fun W => deepest_any (qPrint l) W (by omega)
      have hsz := bstr_size (qPrint l)
      by_cases hd : 8 < deepest (qPrint l)
      · have e8 := law1 (.inr hd)
        rw [e8] at HPS
        generalize qPrint l = s at *
        generalize parseAt s = at' at *
        generalize deepest s = dd at *
        have hcv := HCV.out
        have hlt : ¬ (2000 : Int) < ((bstr s).size : Int) := by omega
        clear law1 law2 h hks hts ht hg hg' hr e8 hl60 hl200
        go_enter Tryd.func3, Tryd.ntmps3
        go_wp2_with (first
          | (go_at_call 13; refine HG.out.mono ?_; rintro e w1 ⟨rfl, rfl⟩)
          | (go_at_call 15; refine HP.out.mono ?_; rintro e w2 ⟨rfl, hb2⟩)
          | (go_at_call 16; refine (HPS.out w2 hb2).mono ?_; rintro e w3 ⟨hb3, ov, rfl, hor⟩; obtain ⟨h0, _⟩ | ⟨_, rfl⟩ := hor; (exact absurd h0 (by decide)); have hb13 := hb2.trans (hb3.mono hb2.size))
          | (go_at_call 17; refine (HD.out _).mono ?_; rintro e w4 ⟨rfl, rfl⟩)
          | (go_at_call 14; refine (HK.out _ hb13).mono ?_; rintro e w5 ⟨rfl, hb5⟩))
        go_ret
        exact ⟨rfl, hb13.trans (hb5.mono hb13.size)⟩
      · obtain ⟨e0, eo⟩ := law2 (by omega) hd
        rw [e0, eo] at HPS
        have hsame : (l == l) = true := by simp
        have HA : Hid (∀ (v : Value) W, Rd W v l.length 2 (ocells l) → _) := fun v W hW => as_any v l W hW (by omega)
        have HS : Hid (∀ (v1 v2 : Value) W, Rd W v1 l.length 2 (ocells l) → Rd W v2 l.length 2 (ocells l) → _) := fun v1 v2 W h1 h2 => same_any v1 v2 l l W h1 h2
        rw [hsame] at HS
        generalize qPrint l = s at *
        generalize parseAt s = at' at *
        generalize deepest s = dd at *
        have hcv := HCV.out
        have hlt : ¬ (2000 : Int) < ((bstr s).size : Int) := by omega
        have HR := Lib.hid h
        clear law1 law2 h hks hts ht hg hg' hr e0 eo hl60 hl200 hsame
        go_enter Tryd.func3, Tryd.ntmps3
        go_wp2_with (first
          | (go_at_call 13; refine HG.out.mono ?_; rintro e w1 ⟨rfl, rfl⟩)
          | (go_at_call 15; refine HP.out.mono ?_; rintro e w2 ⟨rfl, hb2⟩)
          | (go_at_call 16; refine (HPS.out w2 hb2).mono ?_; rintro e w3 ⟨hb3, ov, rfl, hor⟩; obtain ⟨_, hown⟩ | ⟨h0, _⟩ := hor; rotate_left; (exact absurd rfl h0); have hb13 := hb2.trans (hb3.mono hb2.size); have hA1 := Lib.hid (HA.out ov w3 (Rd.of_own hown)))
          | (go_at_call 17; refine (HD.out _).mono ?_; rintro e w4 ⟨rfl, rfl⟩)
          | (go_at_call 19; refine (HA.out v w5 (HR.out.below hb15)).mono ?_; rintro e w6 ⟨av6, rfl, hown6, hb6⟩; have hb16 := hb15.trans (hb6.mono hb15.size); have hs1 := Lib.hid (HS.out av5 av6 w6 (Rd.of_own (own_below' hown5 hb6)) (Rd.of_own hown6)))
          | (go_at_call 19; refine hA1.out.mono ?_; rintro e w5 ⟨av5, rfl, hown5, hb5⟩; have hb15 := hb13.trans (hb5.mono hb13.size))
          | (go_at_call 18; refine hs1.out.mono ?_; rintro e w7 ⟨rfl, hb7⟩; have hb17 := hb16.trans (hb7.mono hb16.size))
          | (go_at_call 14; refine (HK.out _ hb17).mono ?_; rintro e w8 ⟨rfl, hb8⟩))
        go_ret
        exact ⟨rfl, hb17.trans (hb8.mono hb17.size)⟩
    · have HP := Lib.hid (print_no v l w ht h (by omega) hts hks (by simpa using hr))
      clear h hks hts ht hg hg' hr hl60 hl200
      have hemp : (bstr []).toList.isEmpty = true := by rw [btoList]; rfl
      go_enter Tryd.func3, Tryd.ntmps3
      go_wp2_with (first
        | (go_at_call 13; refine HG.out.mono ?_; rintro e w1 ⟨rfl, rfl⟩)
        | (go_at_call 15; refine HP.out.mono ?_; rintro e w2 ⟨rfl, hb2⟩)
        | (go_at_call 14; refine (HK.out _ hb2).mono ?_; rintro e w3 ⟨rfl, hb3⟩))
      go_ret
      exact ⟨rfl, hb2.trans (hb3.mono hb2.size)⟩

theorem back_call (v : Value) (l : List QOp) (w : World) (ht : Tabs w) (h : Rd w v l.length 2 (ocells l)) (hks : ∀ s ∈ l, -9223372036854775808 ≤ s.1 ∧ s.1 ≤ 9223372036854775807) :
    Calls Tryd.prog 3 #[v] w fun e w' => e = .returned (.bool true) ∧ Below w.heap.size w w' := back_walk v l w ht h hks
end Go.Proofs.YtjbmihgfneamlaaDoor
