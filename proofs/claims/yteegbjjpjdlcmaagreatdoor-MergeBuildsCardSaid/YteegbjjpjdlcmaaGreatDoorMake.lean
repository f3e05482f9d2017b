/- dict.Make. -/
import Derived.Test.YteegbjjpjdlcmaaGreatDoorMakeUni
import Derived.Test.YteegbjjpjdlcmaaGreatDoorTokSet17
import Derived.Test.YteegbjjpjdlcmaaGreatDoorIter
import Derived.Test.YteegbjjpjdlcmaaGreatDoorDocs
import Derived.Maps.GroupsBeside
import Derived.Maps.OwnOps
set_option linter.unusedVariables false
namespace Go.Proofs.YteegbjjpjdlcmaaGreatDoor
open Go.RowKit Go.Sort Go.Maps

theorem lawS : Keyed Tryz.prog 9 := string_keyed Tryz.underlying9
theorem zeroInts (w : World) : (zeroValue 46).run Tryz.prog w = .ok (.slice none 0 0) w := by kernel_rfl
theorem infoIntM : (Tryz.prog.info? 3).map (fun i => (i.zero, i.size, i.bytes)) = some (some (.int .i64 0), 1, 8) := by kernel_rfl

def MakePost (docs : List (List UInt8)) (f t : Nat) (w : World) (e : Ending) (w' : World) : Prop := ∃ v, e = .returned (.tuple #[v, .int .i64 0]) ∧ (∀ w2 : World, (∀ b, w.heap.size ≤ b → b < w'.heap.size → w2.heap[b]? = w'.heap[b]?) → DRd w2 v (makeF docs f (t - f)).length (makeF docs f (t - f))) ∧ Below w.heap.size w w'

theorem own_same' {w w' : World} {base : Nat} {e : TypeId} {size : Nat} {v : Value} {n : Nat} {xs : List Value} (h : w.ownsRow base e size v n xs) (hb : ∀ g, v.ownBlock = some g → w'.heap[g]? = w.heap[g]?) : w'.ownsRow base e size v n xs := by
  obtain ⟨hl, hh⟩ := h
  refine ⟨hl, ?_⟩
  rcases hh with h | ⟨g, cap, cur, hv, hbg, hg, hr⟩
  · exact .inl h
  · exact .inr ⟨g, cap, cur, hv, hbg, by rw [hb g (by rw [hv]; rfl)]; exact hg, hr⟩
theorem lits_inj : ∀ {a b : List Int}, (Go.ChangeShapes.lits .i64 a : List (DataW Unit)) = Go.ChangeShapes.lits .i64 b → a = b
  | [], [], _ => rfl
  | [], b :: r, h => by simp [Go.ChangeShapes.lits] at h
  | a :: r, [], h => by simp [Go.ChangeShapes.lits] at h
  | a :: r, b :: s, h => by
    simp only [Go.ChangeShapes.lits, List.map_cons, List.cons.injEq, DataW.lit.injEq, Lit.int.injEq, true_and] at h
    rw [h.1, lits_inj h.2]
/-- the numbers that a row of the map holds. -/
theorem row_is {w : World} {base : Nat} {e : TypeId} {v : Value} {zs l : List Int} (ho : w.ownsInts base e .i64 v zs) (h : litsD l = rowDatum .i64 v zs) : zs = l := by
  unfold litsD at h
  rcases ho.datum (H := Unit) with ⟨h1, rfl⟩ | h1
  · rw [h1] at h
    split at h
    · rename_i h2; exact h2.symm
    · cases h
  · rw [h1] at h
    split at h
    · cases h
    · simp only [DataW.slice.injEq, and_true] at h
      exact (lits_inj h).symm

theorem infoEntM : (Tryz.prog.info? 61).map (fun i => (i.zero, i.size, i.bytes)) = some (some (.agg #[.string ByteArray.empty, .slice none 0 0]), 2, 40) := by kernel_rfl

/-- the dictionary is being written: k entries are. -/
structure MIn (base : Nat) (ws wq : World) (k : Nat) (dv : Value) (F : List UInt8 → List Int) (ts : List (List UInt8)) (cells : List Value) : Prop where
  own : wq.ownsRow ws.heap.size 61 2 dv k cells
  out : ∀ i (hi : i < ts.length), i < k → cells[i * 2]? = some (str ts[i]) ∧ ∃ xv, cells[i * 2 + 1]? = some xv ∧ wq.ownsRow base 3 1 xv (F ts[i]).length (icells (F ts[i])) ∧ ∀ g, xv.ownBlock = some g → g < ws.heap.size
  bel : Below ws.heap.size ws wq
theorem MIn.step {base k m : Nat} {ws wq w6 w7 : World} {dv v' ev : Value} {F : List UInt8 → List Int} {ts : List (List UInt8)} {cells : List Value} {s : List UInt8} {ds : List Int}
    (h : MIn base ws wq k dv F ts cells) (hk : k < ts.length) (hs : ts[k] = s) (hds : ds = F s) (hm : ds.length = m) (he : wq.ownsRow base 3 1 ev m (icells ds)) (heb : ∀ g, ev.ownBlock = some g → g < ws.heap.size)
    (h6 : Below wq.heap.size wq w6) (happ : w7.ownsRow ws.heap.size 61 2 v' (k + 1) (cells ++ [str s, ev])) (hgr : w6.grownBy w7 dv.ownBlock) : MIn base ws w7 (k + 1) v' F ts (cells ++ [str s, ev]) := by
  have hcl : cells.length = k * 2 := h.own.1
  have hb7 : Below ws.heap.size ws w7 := (h.bel.trans (h6.mono h.bel.size)).grown hgr (by have := h.bel.size; have := h6.size; omega) (fun q hq => (h.own.lt q hq).1)
  have hkeep : ∀ g, g < ws.heap.size → w7.heap[g]? = wq.heap[g]? := fun g hg => by rw [hb7.block g hg, h.bel.block g hg]
  refine ⟨happ, fun i hi hik => ?_, hb7⟩
  by_cases e : i = k
  · subst e
    refine ⟨?_, ev, ?_, ?_, heb⟩
    · rw [List.getElem?_append_right (by omega), hcl, Nat.sub_self, hs]; rfl
    · rw [List.getElem?_append_right (by omega), hcl, show i * 2 + 1 - i * 2 = 1 from by omega]; rfl
    · rw [hs, ← hds, hm]
      exact own_same' he fun g hg => hkeep g (heb g hg)
  · obtain ⟨g1, xv, g2, g3, g4⟩ := h.out i hi (by omega)
    refine ⟨?_, xv, ?_, own_same' g3 fun g hg => hkeep g (g4 g hg), g4⟩
    · rw [List.getElem?_append_left (by omega)]; exact g1
    · rw [List.getElem?_append_left (by omega)]; exact g2
theorem MIn.later {base lo : Nat} {ws wq w2 : World} {k : Nat} {dv : Value} {F : List UInt8 → List Int} {ts : List (List UInt8)} {cells : List Value} (h : MIn base ws wq k dv F ts cells) (hk : ts.length = k) (h1 : lo ≤ base) (h2 : lo ≤ ws.heap.size)
    (hag : ∀ b, lo ≤ b → b < wq.heap.size → w2.heap[b]? = wq.heap[b]?) : DRd w2 dv (ts.map fun t => (t, F t)).length (ts.map fun t => (t, F t)) := by
  refine ⟨rfl, cells, ?_, fun i hi => ?_⟩
  · rw [List.length_map, hk]
    exact Rd.of_own (own_same' h.own fun g hg => hag g (by have := (h.own.lt g hg).1; omega) (h.own.lt g hg).2)
  · rw [List.length_map] at hi
    obtain ⟨g1, xv, g2, g3, g4⟩ := h.out i hi (by omega)
    simp only [List.getElem_map]
    exact ⟨g1, xv, g2, Rd.of_own (own_same' g3 fun g hg => hag g (by have := (g3.lt g hg).1; omega) (g3.lt g hg).2)⟩

set_option maxRecDepth 100000 in
set_option maxHeartbeats 8000000 in
theorem make_any (dv : Value) (docs : List (List UInt8)) (f t : Nat) (w : World) (ht : Tabs w) (hd : DocsRd w dv docs) (h1 : docs.length ≤ 1000) (h2 : ∀ d ∈ docs, d.length ≤ 2000) (h3 : f ≤ t) (h4 : t ≤ docs.length) :
    Calls Tryz.prog 23 #[dv, .agg #[.int .i64 f, .int .i64 t]] w (MakePost docs f t w) := by
  obtain ⟨i0, hi, hz0, hz1, hz2⟩ := info_parts infoIntM
  have hmm := @run_makeMap Tryz.prog
  have mixed : Tryz.prog.follows .mixedOrders = true := by kernel_rfl
  have HT := Lib.hid ht
  obtain ⟨ao, c, rfl, hm, hcell⟩ := docs_cells hd
  have HC := Lib.hid hcell
  have H2 := Lib.hid h2
  have n1 : ¬ (1000 : Int) < (docs.length : Int) := by omega
  have n2 : ¬ (f : Int) < 0 := by omega
  have n3 : ¬ (t : Int) < (f : Int) := by omega
  have n4 : ¬ (docs.length : Int) < (t : Int) := by omega
  have hb0 : Below w.heap.size w (w.alloc (.cells #[.int .i64 f, .int .i64 t] 26)) := (Below.refl _ _).alloc (Nat.le_refl _) _
  have hnew := heap_alloc_new w (.cells #[.int .i64 f, .int .i64 t] 26)
  clear hcell hd h2 ht
  go_enter Tryz.func23, Tryz.ntmps23
  go_wp2
  generalize hW1 : (w.alloc (.cells #[.int .i64 f, .int .i64 t] 26)) = W1 at *
  have hc0 : W1.cell? ⟨w.heap.size, 0, none⟩ = some (.int .i64 f) := by rw [cell_of_row _ _ _ _ _ _ hnew]; rfl
  have hc1 : W1.cell? ⟨w.heap.size, 1, none⟩ = some (.int .i64 t) := by rw [cell_of_row _ _ _ _ _ _ hnew]; rfl
  clear hW1 hnew
  go_loopw [39] (fun i wr => ∃ k : Nat, k ≤ docs.length ∧ i = .int .i64 k ∧ wr = W1) (fun i _ => docs.length - (intOf i).toNat)
  case atStart => exact ⟨0, Nat.zero_le _, rfl, rfl⟩
  case round =>
    obtain ⟨k, hk, rfl, rfl⟩ := hrel
    by_cases hlt : k < docs.length
    · obtain ⟨b, off, da, dc, rfl, c1, -⟩ := HC.out k hlt
      have c2 := cell_later hb0 c1
      have ki : (k : Int) < (docs.length : Int) := by omega
      have hdk := H2.out _ (List.getElem_mem hlt)
      have m1 : ¬ (2000 : Int) < ((docs[k]).length : Int) := by omega
      generalize docs[k].length = dl at *
      clear c1
      go_wp2
      go_roundw
      case rel => exact ⟨k + 1, by omega, by go_num, by first | rfl | trivial⟩
      case measure => simp [intOf]; omega
    · have ki : ¬ (k : Int) < (docs.length : Int) := by omega
      have hbm : Below wr.heap.size wr (wr.alloc (.map #[] 0)) := (Below.refl _ _).alloc (Nat.le_refl _) _
      have hd0 := cell_later hbm hc0
      have hd1 := cell_later hbm hc1
      have hown0 := World.ownsGroups_made (H := Unit) wr Tryz.prog 9 3 .i64
      have hsz0 : wr.heap.size + 1 ≤ (wr.alloc (.map #[] 0)).heap.size := by simp
      have HM0 := Lib.hid (MapF.start.congr fun u => (show ([] : List Int) = inDocs docs u f 0 from rfl))
      clear hlt hk
      go_wp2
      rename World => W1
      generalize hW2 : W1.alloc (.map #[] 0) = W2 at *
      clear hW2 hd0 hd1
      go_loopw [9] (fun i wq => ∃ (k : Nat) (D : DataW Unit) (nn : Nat), k ≤ t - f ∧ i = .int .i64 ((f + k : Nat) : Int) ∧ wq.ownsGroups Tryz.prog 9 (W1.heap.size + 1) 3 .i64 W1.heap.size nn D ∧ Hid (MapF D (fun u => inDocs docs u f k)) ∧ nn ≤ k * 2001 ∧ Below W1.heap.size W1 wq ∧ W1.heap.size + 1 ≤ wq.heap.size) (fun i _ => t - (intOf i).toNat)
      case atStart => exact ⟨0, _, 0, Nat.zero_le _, rfl, hown0, HM0.out, by omega, hbm, hsz0⟩
      case round =>
        obtain ⟨k, D, nn, hk, rfl, hown, HMF, hnn, hnx, hws⟩ := hrel
        have hd0 := cell_later hnx hc0
        have hd1 := cell_later hnx hc1
        by_cases hlt : f + k < t
        · have hkd : f + k < docs.length := by omega
          obtain ⟨b, off, da, dc, rfl, c1, hrd⟩ := HC.out (f + k) hkd
          have hbw : Below w.heap.size w wr := hb0.trans (hnx.mono hb0.size)
          have c2 := cell_later hbw c1
          have ki : ((f + k : Nat) : Int) < (t : Int) := by omega
          have ki2 : ((f + k : Nat) : Int) < (docs.length : Int) := by omega
          have k0 : (0 : Int) ≤ ((f + k : Nat) : Int) := by omega
          have HSET := Lib.hid (tset_any (.slice da docs[f + k].length dc) docs[f + k] wr (HT.out.below hbw) (hrd.below hbw) (by have := H2.out _ (List.getElem_mem hkd); omega))
          have hdk := H2.out _ (List.getElem_mem hkd)
          have HGET : Hid (docs.getD (f + k) [] = docs[f + k]) := by show _ = _; rw [List.getD_eq_getElem?_getD, List.getElem?_eq_getElem hkd]; rfl
          have htl := terms_len docs[f + k]
          generalize docs[f + k].length = dl at *
          have hsl := setOf_len (terms docs[f + k])
          have HMJ : Hid (MapF D (midF docs f k 0)) := HMF.out.congr fun u => (midF_zero docs f k u).symm
          clear HMF c1 hrd
          go_wp2_with (go_at_call 31; refine HSET.out.mono ?_; rintro e w3 ⟨v3, rfl, o3, b3⟩; obtain ⟨a3, c3, rfl⟩ := own_shape o3)
          have hg3 : wr.grownBy w3 none := ⟨b3.1, b3.2, b3.3, b3.size, fun i hi _ => b3.block i hi⟩
          have hown3 := hown.kept hg3 (by simp) (hown.rowsAbove (fun j hj => by cases hj))
          have hnx3 : Below W1.heap.size W1 w3 := hnx.trans (b3.mono hnx.size)
          have hws3 : W1.heap.size + 1 ≤ w3.heap.size := Nat.le_trans hws b3.size
          have HO3 := Lib.hid o3
          obtain ⟨sl, hsl2⟩ : ∃ z, z = (setOf (terms docs[f + k])).length := ⟨_, rfl⟩
          rw [← hsl2] at HO3 hsl ⊢
          have hownr := hown
          have hwsr := hws
          clear hown hws o3 hg3
          have hsh3 : w3.Shuns W1.heap.size (fun g => (Value.slice a3 sl c3).ownBlock = some g) := by
            refine World.Shuns.kept (w := wr) ?_ ⟨b3.1, b3.2, b3.3, b3.size, fun i hi _ => b3.block i hi⟩ (Nat.lt_of_lt_of_le (Nat.lt_succ_self _) hwsr) (row := none) (by simp)
            exact World.Shuns.reno (No := fun _ => False) (fun _ _ _ _ _ _ _ h => h) hownr (fun g hg => .inr (HO3.out.lt g hg).1)
          clear hownr
          obtain ⟨B3, hB3⟩ : ∃ B, B = wr.heap.size := ⟨_, rfl⟩
          rw [← hB3] at HO3
          have hwsr3 : W1.heap.size + 1 ≤ B3 := by omega
          have HSL := Lib.hid hsl2
          clear hsl2 hB3
          go_loopw [62] (fun i wq => ∃ (j : Nat) (D : DataW Unit) (nn : Nat), j ≤ sl ∧ i = .int .i64 j ∧ wq.ownsGroups Tryz.prog 9 (W1.heap.size + 1) 3 .i64 W1.heap.size nn D ∧ Hid (MapF D (midF docs f k j)) ∧ nn ≤ k * 2001 + j ∧ Below W1.heap.size W1 wq ∧ W1.heap.size + 1 ≤ wq.heap.size ∧ Hid (wq.ownsRow B3 9 1 (.slice a3 sl c3) sl (scells (setOf (terms docs[f + k])))) ∧ wq.Shuns W1.heap.size (fun g => (Value.slice a3 sl c3).ownBlock = some g)) (fun i _ => sl - (intOf i).toNat)
          case atStart => exact ⟨0, D, nn, Nat.zero_le _, rfl, hown3, HMJ.out, by omega, hnx3, hws3, HO3.out, hsh3⟩
          case round =>
            obtain ⟨j, D, nn, hj, rfl, hown, HMJ, hnn, hnx, hws, HO, hsh⟩ := hrel
            by_cases hjl : j < sl
            · have hjs : j < (setOf (terms docs[f + k])).length := by rw [← HSL.out]; exact hjl
              have HST := Lib.hid (midF_step docs f k j (setOf (terms docs[f + k]))[j] (by rw [HGET.out]; exact hjs) (by simp only [HGET.out]))
              have hs64 : ((setOf (terms docs[f + k]))[j]).length ≤ 64 := terms_le _ _ (mem_setOf.1 (List.getElem_mem hjs))
              obtain ⟨aw, cw, hvw, -, HCS⟩ := strs_cells' (n := sl) (by have := HSL.out; omega) (Rd.of_own HO.out)
              simp only [Value.slice.injEq, true_and] at hvw
              obtain ⟨rfl, rfl⟩ := hvw
              obtain ⟨sb, so, rfl, hcj⟩ := HCS.out j hjs
              have hmem := List.getElem_mem hjs
              obtain ⟨s, hs⟩ : ∃ s, s = (setOf (terms docs[f + k]))[j] := ⟨_, rfl⟩
              rw [← hs] at HST hs64 hcj hmem
              change _ = some (Value.string (bstr s)) at hcj
              have hkey : keyOf Tryz.prog 9 (.string (bstr s)) = some (.string s) := by
                have := Go.WideMaps.keyOf_string_mk (P := Tryz.prog) Tryz.underlying9 (s := bstr s) (by rw [bstr_size]; unfold maxLen; omega)
                rw [this]; simp [bstr]
              have kj : (j : Int) < (sl : Int) := by omega
              have j0 : (0 : Int) ≤ (j : Int) := by omega
              have hnl : nn ≤ 1000 * 2001 + 100000 := by omega
              clear hs
              go_wp2_with (first
                | (at_lookup; refine wpList_lookup_groups_shuns _ rfl _ _ 68 rfl 9 46 3 .i64 lawS Tryz.underlying68 (zeroInts _) (W1.heap.size + 1) W1.heap.size nn _ rfl hown (by unfold maxLen; omega) _ _ rfl hkey ?_; intro v zs hat hoi hzl hback hsv)
                | (at_builtin; refine wpList_append_own_at _ rfl _ _ 46 rfl (W1.heap.size + 1) 3 i0 (.int .i64 0) 1 8 Tryz.underlying46 hi hz0 hz1 hz2 rfl (by decide) _ _ _ rfl (hoi.1.alloc _) ⟨wr.heap.size, 0, none⟩ 1 1 [.int .i64 ((f + k : Nat) : Int)] rfl rfl (cell_one_new _ _ _) (ints_oneCell .i64 [((f + k : Nat) : Int)]) (by unfold maxLen; omega) (by omega) (by simp; omega) ?_; intro v' w4 hown' hgrow hnil hloc)
                | (at_mapUpdate; refine wpList_mapUpdate_back_shuns _ rfl _ _ _ 68 rfl lawS Tryz.underlying68 hkey hown (by unfold maxLen; omega) hoi hsh (by intro g hg hN; rcases hloc with h | h; (exact hsv _ hsh g (h.symm.trans hg) hN); (have h6 := h.symm.trans hg; have h5 := (HO.out.lt _ hN).2; simp only [Option.some.injEq, World.size_alloc] at h6; omega)) hback rfl rfl rfl ((World.grownBy_alloc _ _ _).trans hgrow) (hoi.appended hown' (WalkArith.wf_i64 (by omega))) (by simp; omega) (hloc.imp id (fun h => ⟨_, h, by simp⟩)) ?_; intro w5 hown5 hgrow5 hsh5))
              have hzF := row_is hoi (((HMJ.out.2 s).1.symm).trans hat)
              have hoi2 := hoi.appended hown' (WalkArith.wf_i64 (by omega))
              have hall : wr.grownBy w4 v.ownBlock := (World.grownBy_alloc wr _ _).trans hgrow
              have HM5 : Hid (MapF (D.put (.string s) (rowDatum .i64 v' (zs ++ [((f + k : Nat) : Int)]))) (midF docs f k (j + 1))) := by
                show MapF _ _
                rw [hoi2.datum_pos (by simp), hzF]
                exact (HMJ.out.put s _).congr HST.out.2
              have hO5 : Hid (w5.ownsRow B3 9 1 (.slice (some ⟨sb, so, none⟩) sl c3) sl (scells (setOf (terms docs[f + k])))) := by
                show World.ownsRow _ _ _ _ _ _ _
                refine own_same' HO.out fun g hg => ?_
                have hlt := HO.out.lt g hg
                rw [hgrow5.block g (by have := hall.size; omega) (by intro e; simp only [Option.some.injEq] at e; omega)]
                exact hall.block g hlt.2 (fun e => hsv _ hsh g e.symm hg)
              go_roundw
              case rel =>
                refine ⟨j + 1, D.put (.string s) (rowDatum .i64 v' (zs ++ [((f + k : Nat) : Int)])), nn + 1, by omega, by go_num, hown5, HM5, by omega, hnx.groups hoi hall hgrow5 hnx.size (Nat.le_succ _) (Nat.le_refl _), Nat.le_trans hws (Nat.le_trans hall.size hgrow5.size), hO5.out, hsh5⟩
              case measure => simp [intOf]; omega
            · have hje : j = sl := by omega
              have kj : ¬ (j : Int) < (sl : Int) := by omega
              have HMN : Hid (MapF D (fun u => inDocs docs u f (k + 1))) := by
                show MapF _ _
                exact HMJ.out.congr (midF_all docs f k j (by rw [HGET.out, hje, HSL.out]; exact Nat.le_refl _))
              clear hje
              go_wp2
              go_roundw
              case rel => exact ⟨k + 1, D, nn, by omega, by go_num, hown, HMN, by omega, hnx, hws⟩
              case measure => simp [intOf]; omega
        · have hkt : k = t - f := by omega
          have HKT := Lib.hid hkt
          have ki : ¬ ((f + k : Nat) : Int) < (t : Int) := by omega
          have hom : Hid (wr.ownsMap Tryz.prog 9 (rowElem (H := Unit) wr (W1.heap.size + 1) 3 .i64) W1.heap.size nn D) := by
            obtain ⟨es, clock, hb, F, hs, hD, -⟩ := hown
            exact ⟨es, clock, hb, F, hs, hD⟩
          have hsz := hom.out.size_le
          have hKY : Hid (∀ ss : List (List UInt8), ss.Perm (strKeys D) → ss.mergeSort (fun x y => decide (x ≤ y)) = setOf (allT docs f k)) := by
            intro ss hp
            obtain ⟨es, hD, hpw, -⟩ := hom.out.entries lawS
            obtain ⟨es', hD', hko⟩ := hom.out.keysOf
            refine keys_terms HMF.out ⟨es, hD, hpw, fun p hp => ?_⟩ (fun t => mem_allT) hp
            obtain rfl : es = es' := by rw [hD] at hD'; simpa using hD'
            obtain ⟨v, hv⟩ := hko p hp
            obtain ⟨x, _, hx, _⟩ := Maps.keyOf_str Tryz.underlying9 hv
            exact ⟨x, hx⟩
          have hnn2 : nn ≤ 2001000 := by omega
          have HKEYS := Lib.hid (callsIn_wide.1 (Tryz.maps_Keys_M (some W1.heap.size) wr))
          have HSORT := Lib.hid (callsIn_wide.1 (Tryz.slices_Sorted_keys_M W1.heap.size nn D _ wr hom.out (by unfold maxLen; omega) (by omega)))
          clear hkt hlt hsz
          go_wp2_with (first
            | (go_at_call 33; refine HKEYS.out.mono ?_; rintro e w2 ⟨rfl, rfl⟩)
            | (go_at_call 32; refine HSORT.out.mono ?_; rintro e ws ⟨sv, ss, rfl, hS, hrow, -, hbs⟩; obtain ⟨sa, sc, rfl⟩ := own_shape hrow))
          have hbA : Below wr.heap.size wr (wr.alloc (.cells #[.map (some W1.heap.size)] 68)) := (Below.refl _ _).alloc (Nat.le_refl _) _
          have hbS : Below wr.heap.size wr ws := hbA.trans (hbs.mono hbA.size)
          have hKS := hKY.out ss hS
          have hTL : ss.length = (setOf (allT docs f k)).length := by rw [← hKS, List.length_mergeSort]
          have HTL := Lib.hid hTL
          rw [hKS] at hrow
          have hg3 : wr.grownBy ws none := ⟨hbS.1, hbS.2, hbS.3, hbS.size, fun i hi _ => hbS.block i hi⟩
          have hownS := hown.kept hg3 (by simp) (hown.rowsAbove (fun j hj => by cases hj))
          have hshS : ws.Shuns W1.heap.size (fun g => ws.heap.size ≤ g) := World.Shuns.reno (No := fun _ => False) (fun _ _ _ _ _ _ _ h => h) hownS (fun g hg => .inr hg)
          have hszS := hbS.size
          obtain ⟨TS, hTS⟩ : ∃ z, z = setOf (allT docs f k) := ⟨_, rfl⟩
          rw [← hTS] at hrow HTL
          have HROW : Hid (ws.ownsRow (wr.alloc (.cells #[.map (some W1.heap.size)] 68)).heap.size 9 1 (.slice sa ss.length sc) ss.length (scells TS)) := hrow
          have HTS := Lib.hid hTS
          have hTSl : ∀ s ∈ TS, s.length ≤ 64 := fun s hs => by
            rw [hTS, mem_setOf] at hs
            unfold allT at hs
            obtain ⟨i, -, hi⟩ := List.mem_flatMap.1 hs
            exact terms_le _ _ (mem_setOf.1 hi)
          have hTn : ss.length ≤ 2001000 := by
            rw [hTL]
            have h1 := setOf_len (allT docs f k)
            have h2 : (allT docs f k).length ≤ k * 2000 := allT_len docs 2000 H2.out k f
            omega
          generalize ss.length = nT at *
          have HTSL := Lib.hid hTSl
          have HHM := HMF
          obtain ⟨i2, hi2, hi2a, hi2b, hi2c⟩ := info_parts infoEntM
          clear hKS hTL hrow hTS hTSl hS hKY hom HKEYS HSORT
          go_loopw [12, 79] (fun dv i wq => ∃ (j : Nat) (cells : List Value), j ≤ nT ∧ i = .int .i64 j ∧ Hid (MIn (W1.heap.size + 1) ws wq j dv (fun u => inDocs docs u f k) TS cells)) (fun _ i _ => nT - (intOf i).toNat)
          case atStart => exact ⟨0, [], Nat.zero_le _, rfl, ⟨⟨rfl, .inl ⟨rfl, rfl⟩⟩, fun i hi h => by omega, Below.refl _ _⟩⟩
          case round =>
            obtain ⟨j, cells, hj, rfl, HIN⟩ := hrel
            have hbq := HIN.out.bel
            by_cases hjl : j < nT
            · have hjs : j < TS.length := by rw [← HTL.out]; exact hjl
              obtain ⟨aw, cw, hvw, -, HCS⟩ := strs_cells' (n := nT) HTL.out.symm (Rd.of_own HROW.out)
              simp only [Value.slice.injEq, true_and] at hvw
              obtain ⟨rfl, rfl⟩ := hvw
              obtain ⟨sb, so, rfl, hcj⟩ := HCS.out j hjs
              have hcq := cell_later hbq hcj
              have hs64 := HTSL.out _ (List.getElem_mem hjs)
              obtain ⟨s, hs⟩ : ∃ s, s = TS[j] := ⟨_, rfl⟩
              rw [← hs] at hcq hs64
              have HSJ := Lib.hid hs.symm
              change _ = some (Value.string (bstr s)) at hcq
              have hkey : keyOf Tryz.prog 9 (.string (bstr s)) = some (.string s) := by
                have := Go.WideMaps.keyOf_string_mk (P := Tryz.prog) Tryz.underlying9 (s := bstr s) (by rw [bstr_size]; unfold maxLen; omega)
                rw [this]; simp [bstr]
              have kj : (j : Int) < (nT : Int) := by omega
              have j0 : (0 : Int) ≤ (j : Int) := by omega
              have hgq : ws.grownBy wr none := ⟨hbq.1, hbq.2, hbq.3, hbq.size, fun i hi _ => hbq.block i hi⟩
              have hownq := hownS.kept hgq (by simp) (hownS.rowsAbove (fun j hj => by cases hj))
              have hshq := hshS.kept hgq (by omega) (by simp)
              have hszq := hbq.size
              clear hs hcj hgq
              go_wp2_with (first
                | (at_lookup; refine wpList_lookup_groups_shuns _ rfl _ _ 68 rfl 9 46 3 .i64 lawS Tryz.underlying68 (zeroInts _) (W1.heap.size + 1) W1.heap.size nn _ rfl hownq (by unfold maxLen; omega) _ _ rfl hkey ?_; intro v zs hat hoi hzl hback hsv; obtain ⟨va, vc, rfl⟩ := own_shape hoi.1)
                | (at_builtin; refine wpList_app rfl _ _ _ _ rfl ws.heap.size 61 i2 _ 2 40 Tryz.underlying31 hi2 hi2a hi2b hi2c rfl _ j _ rfl (own_below HIN.out.own ((Below.refl _ _).alloc (Nat.le_refl _) _)) _ 1 [.string (bstr s), .slice va zs.length vc] rfl (src_new Tryz.underlying31 wr _ 2 1 1 rfl (by intro u hu; simp at hu; rcases hu with rfl | rfl <;> rfl)) (by unfold maxLen; omega) (by omega) (by simp; omega) ?_; intro v' w7 hown7 hgr7 hv7 _))
              have hzF := row_is hoi (((HMF.out.2 s).1.symm).trans hat)
              go_roundw
              case rel => exact ⟨j + 1, cells ++ [str s, .slice va zs.length vc], by omega, by go_num, HIN.out.step hjs HSJ.out hzF rfl hoi.1 (fun g hg => by have := hsv _ hshq g hg; omega) ((Below.refl _ _).alloc (Nat.le_refl _) _) hown7 hgr7⟩
              case measure => simp [intOf]; omega
            · have hje : j = nT := by omega
              have kj : ¬ (j : Int) < (nT : Int) := by omega
              have hB := (hb0.trans (hnx.mono hb0.size)).trans ((hbS.trans (hbq.mono hbS.size)).mono (hb0.trans (hnx.mono hb0.size)).size)
              have hszq := hbq.size
              have hszw := hb0.size
              have HB := Lib.hid hB
              have HJE := Lib.hid hje
              clear hB hje
              go_wp2
              go_ret2
              refine ⟨_, rfl, fun w2 h2 => ?_, HB.out⟩
              have := HIN.out.later (lo := w.heap.size) (by rw [HJE.out, HTL.out]) (by omega) (by omega) h2
              rw [HTS.out, HKT.out] at this
              exact this
end Go.Proofs.YteegbjjpjdlcmaaGreatDoor
