/- eval.fits, eval.Match. -/
import Derived.Test.YteegbjjpjdlcmaaDoorPerfB
import Derived.Test.YteegbjjpjdlcmaaDoorTokPlc
set_option linter.unusedVariables false
namespace Go.Proofs.YteegbjjpjdlcmaaDoor
open Go.RowKit Go.Sort

/-- has a document a term? -/
def hasT (doc t : List UInt8) : Bool := decide (0 < (placesFrom 0 t (terms doc)).length)
/-- does a document fit a question? -/
def fitF (l : List QOp) (doc : List UInt8) : Bool := evL (hasT doc) opB false l
/-- the numbers of the documents that fit. -/
def matchF (l : List QOp) (docs : List (List UInt8)) : List Int := pickFrom (fitF l) 0 docs

theorem bytes_shape {w : World} {v : Value} {b : List UInt8} (h : Rd w v b.length 1 (bcells b)) : ∃ ao c, v = .slice ao b.length c := by
  obtain ⟨-, -, ⟨ao, c, rfl, h0⟩ | ⟨b', off, c, rfl, -⟩⟩ := h
  · exact ⟨ao, c, by rw [h0]⟩
  · exact ⟨_, c, rfl⟩

set_option maxRecDepth 100000 in
set_option maxHeartbeats 4000000 in
theorem fits1_any (p : Nat) (v : Value) (doc t : List UInt8) (W : World) (ht : Tabs W) (hv : Rd W v doc.length 1 (bcells doc)) (hn : doc.length ≤ 100000) (c0 : W.cell? ⟨p, 0, none⟩ = some v) :
    Calls Tryd.prog 79 #[.string (bstr t), .pointer (some ⟨p, 0, none⟩)] W fun e w' => e = .returned (.bool (hasT doc t)) ∧ Below W.heap.size W w' := by
  have HP := Lib.hid (tplaces_any v doc t W ht hv hn)
  obtain ⟨ao, c, rfl⟩ := bytes_shape hv
  have HD : Hid (∀ b, decide ((0 : Int) < ((placesFrom 0 t (terms doc)).length : Int)) = b → hasT doc t = b) := by rintro b rfl; unfold hasT; simp
  have hlen : (placesFrom 0 t (terms doc)).length ≤ 100000 := by have := placesFrom_len t (terms doc) 0; have := terms_len doc; omega
  generalize placesFrom 0 t (terms doc) = ps at *
  clear ht hv
  cases ps with
  | nil =>
    have HR := Lib.hid (HD.out false rfl)
    clear HD
    go_enter Tryd.func79, Tryd.ntmps79
    go_wp2_with (go_at_call 80; refine HP.out.mono ?_; rintro e w1 ⟨v1, rfl, hown1, hb1⟩; obtain ⟨a1, c1, rfl⟩ := own_shape hown1; clear hown1)
    go_ret
    exact ⟨by rw [HR.out]; rfl, hb1⟩
  | cons z zs =>
    have HR := Lib.hid (HD.out true (by simp))
    clear HD
    have hpos : (0 : Int) < ((z :: zs).length : Int) := by simp
    generalize (z :: zs).length = m at *
    generalize icells (z :: zs) = cs at *
    go_enter Tryd.func79, Tryd.ntmps79
    go_wp2_with (go_at_call 80; refine HP.out.mono ?_; rintro e w1 ⟨v1, rfl, hown1, hb1⟩; obtain ⟨a1, c1, rfl⟩ := own_shape hown1; clear hown1)
    go_ret
    exact ⟨by rw [HR.out]; first | rfl | (simp; omega), hb1⟩

set_option maxRecDepth 100000 in
set_option maxHeartbeats 4000000 in
theorem fits_any (v lv : Value) (doc : List UInt8) (l : List QOp) (w : World) (ht : Tabs w) (hv : Rd w v doc.length 1 (bcells doc)) (hn : doc.length ≤ 100000) (h : Rd w lv l.length 2 (ocells l)) (hl : l.length ≤ 100000) (hr : qRight l = true) :
    Calls Tryd.prog 50 #[v, lv] w fun e w' => e = .returned (.bool (fitF l doc)) ∧ Below w.heap.size w w' := by
  have hmf : ∀ (fn : Fn) (first cap : Array Value) (w : World), (Instr.makeFunc fn first cap).run Tryd.prog w = .ok (.func fn first cap) w := fun _ _ _ _ => rfl
  have hb0 : Below w.heap.size w (w.alloc (.cells #[v] 72)) := (Below.refl _ _).alloc (Nat.le_refl _) _
  have hnew := heap_alloc_new w (.cells #[v] 72)
  have hc : (w.alloc (.cells #[v] 72)).cell? ⟨w.heap.size, 0, none⟩ = some v := by rw [cell_of_row _ _ _ _ _ _ hnew]; rfl
  have HP := Lib.hid (performB_any w.heap.size lv l (hasT doc) (w.alloc (.cells #[v] 72)) (h.below hb0) hl hr (fun t W _ hW => fits1_any w.heap.size v doc t W ((ht.below hb0).below hW) ((hv.below hb0).below hW) hn (cell_later hW hc)))
  have HF : Hid (fitF l doc = evL (hasT doc) opB false l) := rfl
  obtain ⟨ao, c, rfl⟩ := bytes_shape hv
  obtain ⟨la, lc, rfl, -⟩ := ops_cells h
  have HB := Lib.hid hb0
  clear ht hv h hnew hc hb0 hr
  generalize evL (hasT doc) opB false l = r at *
  go_enter Tryd.func50, Tryd.ntmps50
  go_wp2_with (go_at_call 78; refine HP.out.mono ?_; rintro e w1 ⟨rfl, hb1⟩)
  go_ret
  exact ⟨by rw [HF.out]; rfl, HB.out.trans (hb1.mono HB.out.size)⟩

/-- a slice of documents that can be read. -/
def DocsRd (w : World) (v : Value) (docs : List (List UInt8)) : Prop := ∃ vs : List Value, Rd w v docs.length 1 vs ∧ ∀ i (hi : i < docs.length), ∃ dv, vs[i]? = some dv ∧ Rd w dv docs[i].length 1 (bcells docs[i])

theorem DocsRd.below {w w' : World} {v : Value} {docs : List (List UInt8)} (h : DocsRd w v docs) (hb : Below w.heap.size w w') : DocsRd w' v docs := by
  obtain ⟨vs, h1, h2⟩ := h
  refine ⟨vs, h1.below hb, fun i hi => ?_⟩
  obtain ⟨dv, g1, g2⟩ := h2 i hi
  exact ⟨dv, g1, g2.below hb⟩

theorem docs_cells {w : World} {v : Value} {docs : List (List UInt8)} (h : DocsRd w v docs) : ∃ ao c, v = .slice ao docs.length c ∧ docs.length ≤ 9223372036854775807 ∧
    Hid (∀ i (hi : i < docs.length), ∃ b off da dc, ao = some ⟨b, off, none⟩ ∧ w.cell? ⟨b, off + i, none⟩ = some (.slice da docs[i].length dc) ∧ Rd w (.slice da docs[i].length dc) docs[i].length 1 (bcells docs[i])) := by
  obtain ⟨vs, ⟨hl, hm, hh⟩, hE⟩ := h
  unfold maxLen at hm
  rcases hh with ⟨ao, c, rfl, h0⟩ | ⟨b, off, c, rfl, h0, hnc, hcm, hcell⟩
  · exact ⟨ao, c, by rw [h0], by omega, fun i hi => by omega⟩
  · refine ⟨_, c, rfl, by omega, fun i hi => ?_⟩
    obtain ⟨dv, g1, g2⟩ := hE i hi
    obtain ⟨da, dc, rfl⟩ := bytes_shape g2
    exact ⟨b, off, da, dc, rfl, hcell _ _ g1, g2⟩

set_option maxRecDepth 100000 in
set_option maxHeartbeats 4000000 in
theorem match_no (v lv : Value) (docs : List (List UInt8)) (l : List QOp) (w : World) (ht : Tabs w) (h : Rd w lv l.length 2 (ocells l)) (hl : l.length ≤ 100000) (hts : ∀ s ∈ l, s.2.length ≤ 100000) (hks : ∀ s ∈ l, -9223372036854775808 ≤ s.1 ∧ s.1 ≤ 9223372036854775807) (hr : qRight l = false) :
    Calls Tryd.prog 23 #[v, lv] w fun e w' => e = .returned (.tuple #[.slice none 0 0, .int .i64 1]) ∧ Below w.heap.size w w' := by
  have HQ := qright_any lv l w ht h hl hts hks
  rw [hr] at HQ
  have HQR := Lib.hid HQ
  obtain ⟨la, lc, rfl, -⟩ := ops_cells h
  clear HQ ht h hts hks hr
  go_enter Tryd.func23, Tryd.ntmps23
  go_wp2_with (go_at_call 37; refine HQR.out.mono ?_; rintro e w1 ⟨rfl, hb1⟩)
  go_ret2
  exact ⟨rfl, hb1⟩

/-- the numbers are given, and no error. -/
def GivesN (w : World) (r : List Int) (e : Ending) (w' : World) : Prop := ∃ v, e = .returned (.tuple #[v, .int .i64 0]) ∧ w'.ownsRow w.heap.size 3 1 v r.length (icells r) ∧ Below w.heap.size w w'

set_option maxRecDepth 100000 in
set_option maxHeartbeats 4000000 in
theorem match_yes (v lv : Value) (docs : List (List UInt8)) (l : List QOp) (w : World) (ht : Tabs w) (hd : DocsRd w v docs) (hdl : docs.length ≤ 1000) (hdn : ∀ d ∈ docs, d.length ≤ 100000) (h : Rd w lv l.length 2 (ocells l)) (hl : l.length ≤ 100000) (hts : ∀ s ∈ l, s.2.length ≤ 100000) (hks : ∀ s ∈ l, -9223372036854775808 ≤ s.1 ∧ s.1 ≤ 9223372036854775807) (hr : qRight l = true) :
    Calls Tryd.prog 23 #[v, lv] w (GivesN w (matchF l docs)) := by
  obtain ⟨i0, hi, hz0, hz1, hz2⟩ := info_parts infoInt
  have HQ := qright_any lv l w ht h hl hts hks
  rw [hr] at HQ
  have HQR := Lib.hid HQ
  obtain ⟨ao, c, rfl, hm, HD⟩ := docs_cells hd
  have HFT : Hid (∀ (dv : Value) (doc : List UInt8) (W : World), Below w.heap.size w W → Rd w dv doc.length 1 (bcells doc) → doc.length ≤ 100000 → Calls Tryd.prog 50 #[dv, lv] W fun e w' => e = .returned (.bool (fitF l doc)) ∧ Below W.heap.size W w') :=
    fun dv doc W hW hv hn => fits_any dv lv doc l W (ht.below hW) (hv.below hW) hn (h.below hW) hl hr
  obtain ⟨la, lc, rfl, -⟩ := ops_cells h
  have HDN := Lib.hid hdn
  have HM : Hid (matchF l docs = pickFrom (fitF l) 0 docs) := rfl
  have HN1 : Hid (∀ z : Int, ∀ u ∈ [Value.int .i64 z], u.oneCell' = true) := fun z u hu => by simp at hu; subst hu; rfl
  clear HQ ht h hts hks hr hd hdn
  go_enter Tryd.func23, Tryd.ntmps23
  go_wp2_with (go_at_call 37; refine HQR.out.mono ?_; rintro e w1 ⟨rfl, hb1⟩)
  have hs1 := hb1.size
  go_loopw [6, 19] (fun o i wr => ∃ k : Nat, k ≤ docs.length ∧ i = .int .i64 k ∧ wr.ownsRow w.heap.size 3 1 o (pickFrom (fitF l) 0 (docs.take k)).length (icells (pickFrom (fitF l) 0 (docs.take k))) ∧ Below w.heap.size w wr) (fun _ i _ => docs.length - (intOf i).toNat)
  case atStart => exact ⟨0, Nat.zero_le _, rfl, World.ownsRow_nil _ _ _ _, hb1⟩
  case round =>
    obtain ⟨k, hk, rfl, hown, hbel⟩ := hrel
    have hsz := hbel.size
    obtain ⟨oa, oc, rfl⟩ := own_shape hown
    by_cases hlt : k < docs.length
    · obtain ⟨b, off, da, dc, rfl, hc0, hdr⟩ := HD.out k hlt
      have hcur := cell_later hbel hc0
      have hpt := pickFrom_take (fitF l) docs k hlt
      have hpl := pickFrom_len (fitF l) (docs.take k) 0
      have hpb : (pickFrom (fitF l) 0 (docs.take k)).length ≤ 1000 := by rw [List.length_take] at hpl; omega
      have hdl1 := HDN.out docs[k] (List.getElem_mem _)
      have hft := HFT.out (.slice da docs[k].length dc) docs[k] wr hbel hdr hdl1
      have ki : (k : Int) < (docs.length : Int) := by omega
      have k0 : (0 : Int) ≤ (k : Int) := by omega
      generalize pickFrom (fitF l) 0 (docs.take k) = ps at *
      generalize docs[k].length = dn at *
      cases hfit : fitF l docs[k] with
      | true =>
        rw [hfit, if_pos rfl] at hpt
        rw [hfit] at hft
        have HPT := Lib.hid hpt
        have HFT1 := Lib.hid hft
        have HOW := Lib.hid hown
        clear hpt hft hfit hdr hc0 hpl hdl1 hown
        go_wp2_with (first
          | (go_at_call 50; refine HFT1.out.mono ?_; rintro e w2 ⟨rfl, hb2⟩; have B2 := hbel.trans (hb2.mono hbel.size); have hown2 := own_below HOW.out hb2)
          | (at_builtin; refine wpList_app rfl _ _ _ _ rfl w.heap.size 3 i0 _ 1 8 Tryd.underlying41 hi hz0 hz1 hz2 rfl (.slice oa ps.length oc) ps.length _ rfl (hown2.alloc _) _ 1 [Value.int .i64 k] rfl (src_new Tryd.underlying41 w2 _ 1 1 1 rfl (HN1.out k)) (by unfold maxLen; omega) (by omega) (by have := B2.size; simp; omega) ?_; intro v3 w3 hown3 hgr3 _ _))
        have hB3 : Below w.heap.size w w3 := (B2.alloc B2.size _).grown hgr3 (by have := B2.size; simp; omega) (fun j hj => (hown2.lt j hj).1)
        clear hgr3 hown2
        go_wp2
        go_roundw
        case rel => exact ⟨k + 1, by omega, by go_num, by rw [HPT.out, List.length_append, icells_append]; exact hown3, hB3⟩
        case measure => simp [intOf]; omega
      | false =>
        rw [hfit, if_neg (by decide), List.append_nil] at hpt
        rw [hfit] at hft
        have HPT := Lib.hid hpt
        have HFT1 := Lib.hid hft
        have HOW := Lib.hid hown
        clear hpt hft hfit hdr hc0 hpl hdl1 hown
        go_wp2_with (go_at_call 50; refine HFT1.out.mono ?_; rintro e w2 ⟨rfl, hb2⟩; have B2 := hbel.trans (hb2.mono hbel.size); have HO2 := Lib.hid (own_below HOW.out hb2))
        go_roundw
        case rel => exact ⟨k + 1, by omega, by go_num, by rw [HPT.out]; exact HO2.out, B2⟩
        case measure => simp [intOf]; omega
    · have hke : docs.take k = docs := List.take_of_length_le (by omega)
      have ki : ¬ (k : Int) < (docs.length : Int) := by omega
      rw [hke] at hown ⊢
      have HO := Lib.hid hown
      clear hown hke
      go_wp2
      go_ret2
      exact ⟨_, rfl, by rw [HM.out]; exact HO.out, hbel⟩
end Go.Proofs.YteegbjjpjdlcmaaDoor
