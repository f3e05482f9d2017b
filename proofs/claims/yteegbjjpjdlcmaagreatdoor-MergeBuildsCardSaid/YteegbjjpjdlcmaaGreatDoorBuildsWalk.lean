/- rubricklaw13.MergeBuilds: the walk. -/
import Derived.Test.YteegbjjpjdlcmaaGreatDoorBuildAll
import Derived.Test.YteegbjjpjdlcmaaGreatDoorRMakeAll
import Derived.Test.YteegbjjpjdlcmaaGreatDoorFair10
import Derived.Test.YteegbjjpjdlcmaaGreatDoorSame12
import Derived.Test.YteegbjjpjdlcmaaGreatDoorSettleAll
set_option linter.unusedVariables false
namespace Go.Proofs.YteegbjjpjdlcmaaGreatDoor
open Go.RowKit Go.Sort Go.Maps

def BuildsSaid (w : World) (e : Ending) (w' : World) : Prop := e = .returned (.bool true) ∧ Below w.heap.size w w'

set_option maxRecDepth 100000 in
set_option maxHeartbeats 4000000 in
theorem builds_great (vd : Value) (docs : List (List UInt8)) (a b : Int) (w : World) (hd : DocsRd w vd docs) (g1 : greatDocs docs = true) :
    Calls Tryz.prog 3 #[vd, .int .u8 a, .int .u8 b] w (BuildsSaid w) := by
  have HGD := greatdocs_any vd docs w hd
  rw [g1] at HGD
  have H1 := Lib.hid HGD
  obtain ⟨ad, cd, rfl, -⟩ := docs_cells hd
  clear HGD hd g1
  go_enter Tryz.func3, Tryz.ntmps3
  go_wp2_with (first
    | (go_at_call 4; refine H1.out.mono ?_; rintro e w' ⟨rfl, rfl⟩)
    | (go_at_call 6; refine (knows_any _).mono ?_; rintro e w99 ⟨rfl, hb99⟩))
  go_ret
  exact ⟨rfl, hb99⟩

set_option maxRecDepth 100000 in
set_option maxHeartbeats 4000000 in
theorem builds_none (vd : Value) (docs : List (List UInt8)) (a b : Int) (w : World) (hd : DocsRd w vd docs) (g1 : greatDocs docs = false) (g0 : docs.length = 0) :
    Calls Tryz.prog 3 #[vd, .int .u8 a, .int .u8 b] w (BuildsSaid w) := by
  have HGD := greatdocs_any vd docs w hd
  rw [g1] at HGD
  obtain ⟨ad, cd, rfl, -⟩ := docs_cells hd
  rw [g0] at HGD ⊢
  have H1 := Lib.hid HGD
  clear HGD hd g1 g0
  go_enter Tryz.func3, Tryz.ntmps3
  go_wp2_with (first
    | (go_at_call 4; refine H1.out.mono ?_; rintro e w' ⟨rfl, rfl⟩)
    | (go_at_call 6; refine (knows_any _).mono ?_; rintro e w99 ⟨rfl, hb99⟩))
  go_ret
  exact ⟨rfl, hb99⟩

set_option maxRecDepth 100000 in
set_option maxHeartbeats 4000000 in
theorem builds_unfair (vd : Value) (docs : List (List UInt8)) (a b : Int) (w : World) (hd : DocsRd w vd docs) (g1 : greatDocs docs = false) (g0 : 0 < docs.length) (g2 : fair10 docs = false) :
    Calls Tryz.prog 3 #[vd, .int .u8 a, .int .u8 b] w (BuildsSaid w) := by
  have HGD := greatdocs_any vd docs w hd
  have hn := (greatDocs_no g1).1
  have HF := fair10_any vd docs w hd (by omega)
  rw [g1] at HGD
  rw [g2] at HF
  have q0 : ((docs.length : Int) == 0) = false := beq_eq_false_iff_ne.2 (by omega)
  have H1 := Lib.hid HGD
  have H2 := Lib.hid HF
  obtain ⟨ad, cd, rfl, -⟩ := docs_cells hd
  generalize docs.length = n at *
  clear HGD hd g1 g2 HF
  go_enter Tryz.func3, Tryz.ntmps3
  go_wp2_with (first
    | (go_at_call 4; refine H1.out.mono ?_; rintro e w' ⟨rfl, rfl⟩)
    | (go_at_call 5; refine H2.out.mono ?_; rintro e w1 ⟨rfl, hb1⟩)
    | (go_at_call 6; refine (knows_any _).mono ?_; rintro e w99 ⟨rfl, hb99⟩))
  go_ret
  exact ⟨rfl, hb1.trans (hb99.mono hb1.size)⟩

theorem fair10_yes {docs : List (List UInt8)} (h : fair10 docs = true) : ∀ d ∈ docs, d.length ≤ 2000 := by
  unfold fair10 at h
  rw [List.all_eq_true] at h
  intro d hd
  simpa using h d hd
theorem SegsRd.shape {docs : List (List UInt8)} {w : World} {v : Value} {ps : List (Nat × Nat)} (h : SegsRd docs w v ps) : ∃ ao c, v = .slice ao ps.length c := by
  obtain ⟨cells, ⟨-, -, hh⟩, -⟩ := h
  rcases hh with ⟨ao, c, rfl, h0⟩ | ⟨b, off, c, rfl, -⟩
  · exact ⟨ao, c, by rw [h0]⟩
  · exact ⟨_, c, rfl⟩

set_option maxRecDepth 100000 in
set_option maxHeartbeats 8000000 in
theorem builds_good (vd : Value) (docs : List (List UInt8)) (a b : Int) (w : World) (ht : Tabs w) (hd : DocsRd w vd docs) (ha : 0 ≤ a ∧ a < 256) (hb : 0 ≤ b ∧ b < 256) (g1 : greatDocs docs = false) (g0 : 0 < docs.length) (g2 : fair10 docs = true) :
    Calls Tryz.prog 3 #[vd, .int .u8 a, .int .u8 b] w (BuildsSaid w) := by
  have HGD := greatdocs_any vd docs w hd
  obtain ⟨hn, hn2⟩ := greatDocs_no g1
  have HF := fair10_any vd docs w hd (by omega)
  rw [g1] at HGD
  rw [g2] at HF
  have H1 := Lib.hid HGD
  have H2 := Lib.hid HF
  have HB := Lib.hid (fun W (hW : Below w.heap.size w W) => built_any vd docs a b W (ht.below hW) (hd.below hW) (by omega) (fair10_yes g2))
  have HA : Hid (∀ (v : Value) (ps : List (Nat × Nat)) W (hW : Below w.heap.size w W) (h : SegsRd docs W v ps) (hc : chain 0 ps docs.length) (hpl : ps.length ≤ docs.length), Calls Tryz.prog 8 #[v] W (AllPost 0 docs.length (makeF docs 0 docs.length) W)) := fun v ps W hW h hc hpl => by
    have hne : 0 < ps.length := by
      rcases Nat.eq_zero_or_pos ps.length with h0 | h0
      · have : ps = [] := List.length_eq_zero_iff.1 h0
        subst this
        have : 0 = docs.length := hc
        omega
      · exact h0
    exact all_parts docs v ps 0 docs.length W (ht.below hW) h hc hne (by omega) hn hn2
  have HR := Lib.hid (fun W (hW : Below w.heap.size w W) => rbuild_any vd docs W (hd.below hW) hn (fair10_yes g2))
  obtain ⟨ad, cd, rfl, -⟩ := docs_cells hd
  have q0 : ((docs.length : Int) == 0) = false := beq_eq_false_iff_ne.2 (by omega)
  generalize makeF docs 0 docs.length = U at *
  generalize hnn : docs.length = n at *
  have HNN := Lib.hid hnn
  obtain ⟨ha1, ha2⟩ := ha
  obtain ⟨hb1, hb2⟩ := hb
  clear HGD ht hd g1 g2 HF hn2 hnn
  go_enter Tryz.func3, Tryz.ntmps3
  go_wp2_with (first
    | (go_at_call 4; refine H1.out.mono ?_; rintro e w' ⟨rfl, rfl⟩)
    | (go_at_call 5; refine H2.out.mono ?_; rintro e w1 ⟨rfl, hb1⟩)
    | (go_at_call 7; refine (HB.out _ hb1).mono ?_; rintro e w2 ⟨v, ps, rfl, hS, hC, hpl, hb2⟩; have B2 := hb1.trans (hb2.mono hb1.size); have HA2 := Lib.hid (HA.out v ps w2 B2 hS (HNN.out ▸ hC) (HNN.out ▸ hpl)); obtain ⟨va, vc, rfl⟩ := hS.shape; clear hS hC hpl)
    | (go_at_call 8; refine HA2.out.mono ?_; rintro e w3 ⟨v3, rfl, hd3, hb3⟩; have B3 := B2.trans (hb3.mono B2.size); obtain ⟨a3, c3, rfl, -, -⟩ := dict_cells (hd3 w3 fun _ _ _ => rfl); have HD3 := Lib.hid (hd3 w3 fun _ _ _ => rfl); clear hd3 HA2; have B4 : Below w.heap.size w (w3.alloc (.cells #[.int .i64 0, .int .i64 n, .slice a3 U.length c3] 33)) := B3.alloc B3.size _; have b34 : Below w3.heap.size w3 (w3.alloc (.cells #[.int .i64 0, .int .i64 n, .slice a3 U.length c3] 33)) := (Below.refl _ _).alloc (Nat.le_refl _) _)
    | (go_at_call 10; refine (as12_any 0 n a3 U.length c3 _).mono ?_; rintro e w5 ⟨rfl, hb5⟩; have B5 := B4.trans (hb5.mono B4.size))
    | (go_at_call 11; refine (HR.out _ B5).mono ?_; rintro e w6 ⟨v6, rfl, hd6, hb6⟩; obtain ⟨a6, c6, rfl, -, -⟩ := dict_cells hd6; have HD6 := Lib.hid hd6; clear hd6; have B6 := B5.trans (hb6.mono B5.size); have b36 := b34.trans ((hb5.trans (hb6.mono hb5.size)).mono b34.size))
    | (go_at_call 9; refine (same12_any 0 n 0 n (.slice a3 U.length c3) (.slice a6 U.length c6) U.length U.length U U w6 (HD3.out.below b36) HD6.out).mono ?_; rintro e w7 ⟨rfl, hb7⟩; have B7 := B6.trans (hb7.mono B6.size))
    | (go_at_call 6; refine (knows_any _).mono ?_; rintro e w99 ⟨rfl, hb99⟩))
  go_ret
  exact ⟨rfl, B7.trans (hb99.mono B7.size)⟩

theorem builds_walk (vd : Value) (docs : List (List UInt8)) (a b : Int) (w : World) (ht : Tabs w) (hd : DocsRd w vd docs) (ha : 0 ≤ a ∧ a < 256) (hb : 0 ≤ b ∧ b < 256) :
    Calls Tryz.prog 3 #[vd, .int .u8 a, .int .u8 b] w fun e w' => e = .returned (.bool true) ∧ Below w.heap.size w w' := by
  cases g1 : greatDocs docs with
  | true => exact builds_great vd docs a b w hd g1
  | false =>
    rcases Nat.eq_zero_or_pos docs.length with g0 | g0
    · exact builds_none vd docs a b w hd g1 g0
    · cases g2 : fair10 docs with
      | true => exact builds_good vd docs a b w ht hd ha hb g1 g0 g2
      | false => exact builds_unfair vd docs a b w hd g1 g0 g2
end Go.Proofs.YteegbjjpjdlcmaaGreatDoor
