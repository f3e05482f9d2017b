/- RSet, RMake, RBuild: in one text. -/
import Derived.Test.YteegbjjpjdlcmaaGreatDoorTokSet17
import Derived.Test.YteegbjjpjdlcmaaGreatDoorRefAll
import Derived.Test.YteegbjjpjdlcmaaGreatDoorPostLaw
import Derived.Test.YteegbjjpjdlcmaaGreatDoorMake
import Derived.Test.YteegbjjpjdlcmaaGreatDoorHeld2
import Derived.Deep.LoopGhost
/- rubrickref05.Set and Places. -/
set_option linter.unusedVariables false
namespace Go.Proofs.YteegbjjpjdlcmaaGreatDoor
open Go.RowKit Go.Sort

set_option maxRecDepth 100000 in
set_option maxHeartbeats 4000000 in
theorem rset_any (v : Value) (l : List UInt8) (w : World) (h : Rd w v l.length 1 (bcells l)) (hn : l.length ≤ 100000) :
    Calls Tryz.prog 28 #[v] w (Gives w 9 1 (setOf (terms l)).length (scells (setOf (terms l)))) := by
  have hT := rterms_any v l w h hn
  have hlen := terms_len' l hn
  generalize terms l = ts at *
  have HT := Lib.hid hT
  clear hT h
  go_enter Tryz.func28, Tryz.ntmps28
  go_wp2_with (first
    | (go_at_call 38; refine HT.out.mono ?_; rintro e w1 ⟨v1, rfl, hown1, hb1⟩; have HR := Lib.hid (rsorted_any v1 ts.length ts w1 rfl (Rd.of_own hown1) hlen); clear hown1)
    | (go_at_call 29; refine HR.out.mono ?_; rintro e w2 ⟨v2, rfl, hown2, hb2⟩))
  go_ret
  exact ⟨_, rfl, own_mono hown2 hb1.size, hb1.trans (hb2.mono hb1.size)⟩

theorem placesFrom_take (t : List UInt8) (l : List (List UInt8)) (k : Nat) (hk : k < l.length) : placesFrom 0 t (l.take (k + 1)) = placesFrom 0 t (l.take k) ++ (if l[k] = t then [(k : Int)] else []) := by
  rw [List.take_succ_eq_append_getElem hk, placesFrom_app]
  congr 1
  simp only [placesFrom]
  rw [List.length_take, Nat.min_eq_left (Nat.le_of_lt hk), Nat.zero_add]

set_option maxRecDepth 100000 in
set_option maxHeartbeats 4000000 in
theorem rplaces_any (v : Value) (l t : List UInt8) (w : World) (h : Rd w v l.length 1 (bcells l)) (hn : l.length ≤ 100000) :
    Calls Tryz.prog 40 #[v, .string (bstr t)] w (Gives w 3 1 (placesFrom 0 t (terms l)).length (icells (placesFrom 0 t (terms l)))) := by
  obtain ⟨i0, hi, hz0, hz1, hz2⟩ := info_parts infoInt
  have hT := rterms_any v l w h hn
  have hlen := terms_len' l hn
  generalize terms l = ts at *
  have HT := Lib.hid hT
  have HN : Hid (∀ z : Int, ∀ u ∈ [Value.int .i64 z], u.oneCell' = true) := fun z u hu => by simp at hu; subst hu; rfl
  clear hT h
  go_enter Tryz.func40, Tryz.ntmps40
  go_wp2_with (go_at_call 38; refine HT.out.mono ?_; rintro e w1 ⟨v1, rfl, hown1, hb1⟩; obtain ⟨a1, c1, rfl⟩ := own_shape hown1)
  obtain ⟨ao, c, hv, hm, HC⟩ := strs_cells (Rd.of_own hown1)
  simp only [Value.slice.injEq, true_and] at hv
  obtain ⟨rfl, rfl⟩ := hv
  have hsz1 := hb1.size
  clear hown1
  go_loopw [6, 7] (fun o i wr => ∃ k : Nat, k ≤ ts.length ∧ i = .int .i64 k ∧ wr.ownsRow w1.heap.size 3 1 o (placesFrom 0 t (ts.take k)).length (icells (placesFrom 0 t (ts.take k))) ∧ Below w1.heap.size w1 wr) (fun _ i _ => ts.length - (intOf i).toNat)
  case atStart => exact ⟨0, Nat.zero_le _, rfl, World.ownsRow_nil _ _ _ _, Below.refl _ _⟩
  case round =>
    obtain ⟨k, hk, rfl, hown, hbel⟩ := hrel
    have hsz := hbel.size
    obtain ⟨oa, oc, rfl⟩ := own_shape hown
    by_cases hlt : k < ts.length
    · obtain ⟨b, off, rfl, hc0⟩ := HC.out k hlt
      have hcur := cell_later hbel hc0
      have hpl := placesFrom_len t (ts.take k) 0
      have hpt := placesFrom_take t ts k hlt
      have hpb : (placesFrom 0 t (ts.take k)).length ≤ 100000 := by rw [List.length_take] at hpl; omega
      have ki : (k : Int) < (ts.length : Int) := by omega
      generalize placesFrom 0 t (ts.take k) = ps at *
      obtain ⟨x, hx⟩ : ∃ x, x = ts[k] := ⟨_, rfl⟩
      rw [← hx] at hcur hpt
      have e1 := btoList x
      have e2 := btoList t
      unfold str at hcur
      clear hx hc0 hpl
      by_cases hxt : x = t
      · have n1 : ((bstr x).toList == (bstr t).toList) = true := by rw [hxt]; exact beq_self_eq_true _
        rw [if_pos hxt] at hpt
        have HPT := Lib.hid hpt
        clear hpt hxt e1 e2
        go_wp2_with (at_builtin; refine wpList_app rfl _ _ _ _ rfl w1.heap.size 3 i0 _ 1 8 Tryz.underlying46 hi hz0 hz1 hz2 rfl (.slice oa ps.length oc) ps.length _ rfl (hown.alloc _) _ 1 [Value.int .i64 k] rfl (src_new Tryz.underlying46 wr _ 1 1 1 rfl (HN.out k)) (by unfold maxLen; omega) (by omega) (by simp; omega) ?_; intro v3 w3 hown3 hgr3 _ _)
        have hB3 : Below w1.heap.size w1 w3 := (hbel.alloc hsz _).grown hgr3 (by simp; omega) (fun j hj => (hown.lt j hj).1)
        clear hgr3
        go_wp2
        go_roundw
        case rel => exact ⟨k + 1, by omega, by go_num, by rw [HPT.out, List.length_append, icells_append]; exact hown3, hB3⟩
        case measure => simp [intOf]; omega
      · have n1 : ((bstr x).toList == (bstr t).toList) = false := by rw [e1, e2]; simpa using hxt
        rw [if_neg hxt, List.append_nil] at hpt
        have HPT := Lib.hid hpt
        clear hpt hxt e1 e2
        go_wp2
        go_roundw
        case rel => exact ⟨k + 1, by omega, by go_num, by rw [HPT.out]; exact hown, hbel⟩
        case measure => simp [intOf]; omega
    · have hke : ts.take k = ts := List.take_of_length_le (by omega)
      have ki : ¬ (k : Int) < (ts.length : Int) := by omega
      rw [hke] at hown ⊢
      have HO := Lib.hid hown
      clear hown hke
      go_wp2
      go_ret
      exact ⟨_, rfl, own_mono HO.out hsz1, hb1.trans (hbel.mono hsz1)⟩
end Go.Proofs.YteegbjjpjdlcmaaGreatDoor

/- rubrickref10.Has, Make. -/
set_option linter.unusedVariables false
namespace Go.Proofs.YteegbjjpjdlcmaaGreatDoor
open Go.RowKit Go.Sort Go.Maps

theorem placesFrom_iff (t : List UInt8) : ∀ (l : List (List UInt8)) (k : Nat), 0 < (placesFrom k t l).length ↔ t ∈ l
  | [], k => by simp [placesFrom]
  | x :: r, k => by
    have ih := placesFrom_iff t r (k + 1)
    unfold placesFrom
    by_cases h : x = t
    · subst h; simp
    · simp only [if_neg h, List.mem_cons]
      simp [ih, Ne.symm h]

set_option maxRecDepth 100000 in
set_option maxHeartbeats 1000000 in
theorem rhas_any (v : Value) (l t : List UInt8) (w : World) (b : Bool) (h : Rd w v l.length 1 (bcells l)) (hn : l.length ≤ 100000) (hb : b = decide (t ∈ terms l)) :
    Calls Tryz.prog 30 #[v, .string (bstr t)] w fun e w' => e = .returned (.bool b) ∧ Below w.heap.size w w' := by
  have HP := Lib.hid (rplaces_any v l t w h hn)
  have HB : Hid (b = decide (0 < (placesFrom 0 t (terms l)).length)) := by
    show _ = _
    rw [hb]
    congr 1
    exact propext (placesFrom_iff t (terms l) 0).symm
  generalize placesFrom 0 t (terms l) = ps at *
  clear h hb
  go_enter Tryz.func30, Tryz.ntmps30
  go_wp2_with (go_at_call 40; refine HP.out.mono ?_; rintro e w1 ⟨v1, rfl, hown1, hb1⟩; obtain ⟨a1, c1, rfl⟩ := own_shape hown1)
  go_ret
  exact ⟨by rw [HB.out]; first | rfl | simp, hb1⟩

theorem allT_snoc (docs : List (List UInt8)) (lo n : Nat) : allT docs lo (n + 1) = allT docs lo n ++ setOf (terms (docs.getD (lo + n) [])) := by
  unfold allT
  rw [List.range'_concat, List.flatMap_append, Nat.one_mul]
  simp

/-- the dictionary is being written: k entries are. -/
structure RIn (ws wr : World) (k : Nat) (dv : Value) (d : List Ent) (cells : List Value) : Prop where
  own : wr.ownsRow ws.heap.size 61 2 dv k cells
  out : ∀ i (hi : i < d.length), i < k → cells[i * 2]? = some (str d[i].1) ∧ ∃ xv, cells[i * 2 + 1]? = some xv ∧ wr.ownsRow ws.heap.size 3 1 xv d[i].2.length (icells d[i].2) ∧ ∀ g, xv.ownBlock = some g → dv.ownBlock ≠ some g
  bel : Below ws.heap.size ws wr
/-- an entry is being written. -/
structure RMid (ws W5 : World) (eb : Nat) (tt : List UInt8) (ds : List Int) (dv : Value) (wz : World) : Prop where
  ent : wz.heap[eb]? = some (.cells #[.string (bstr tt), dv] 61 (0, 0))
  own : wz.ownsRow W5.heap.size 3 1 dv ds.length (icells ds)
  keep : ∀ b, b < W5.heap.size → b ≠ eb → wz.heap[b]? = W5.heap[b]?
  bel : Below ws.heap.size ws wz
  size : W5.heap.size ≤ wz.heap.size
theorem RMid.below {ws W5 wz w2 : World} {eb : Nat} {tt : List UInt8} {ds : List Int} {dv : Value} (h : RMid ws W5 eb tt ds dv wz) (hb : Below wz.heap.size wz w2) : RMid ws W5 eb tt ds dv w2 :=
  ⟨by rw [hb.block _ (lt_of_block h.ent)]; exact h.ent, own_below h.own hb, fun b h1 h2 => by rw [hb.block b (by have := h.size; omega)]; exact h.keep b h1 h2, h.bel.trans (hb.mono h.bel.size), by have := h.size; have := hb.size; omega⟩

theorem RIn.step {ws w1 W5 wz w6 w7 : World} {k eb : Nat} {dv v' ev : Value} {d : List Ent} {cells : List Value} {tt : List UInt8} {ds : List Int}
    (h : RIn ws w1 k dv d cells) (h5 : Below w1.heap.size w1 W5) (heb : w1.heap.size ≤ eb) (hk : k < d.length) (hd : d[k] = (tt, ds)) (he : RMid ws W5 eb tt ds ev wz)
    (h6 : Below wz.heap.size wz w6) (happ : w7.ownsRow ws.heap.size 61 2 v' (k + 1) (cells ++ [str tt, ev])) (hgr : w6.grownBy w7 dv.ownBlock) (hv : v'.ownBlock = dv.ownBlock ∨ v'.ownBlock = some w6.heap.size) :
    RIn ws w7 (k + 1) v' d (cells ++ [str tt, ev]) := by
  have hs0 := h.bel.size
  have hs1 := h5.size
  have hs2 := he.size
  have hs3 := h6.size
  have hcl : cells.length = k * 2 := h.own.1
  refine ⟨happ, fun i hi hik => ?_, (he.bel.trans (h6.mono he.bel.size)).grown hgr (by omega) (fun q hq => (h.own.lt q hq).1)⟩
  by_cases e : i = k
  · subst e
    refine ⟨?_, ev, ?_, ?_, ?_⟩
    · simp only [hd]
      rw [List.getElem?_append_right (by omega), hcl, Nat.sub_self]; rfl
    · rw [List.getElem?_append_right (by omega), hcl, show i * 2 + 1 - i * 2 = 1 from by omega]; rfl
    · simp only [hd]
      refine own_same' (own_mono (own_below he.own h6) (by omega)) fun g hg => ?_
      have hlt := (own_below he.own h6).lt g hg
      refine hgr.block g hlt.2 ?_
      intro e
      have := (h.own.lt g e.symm).2
      omega
    · intro g hg
      have hlt := (own_below he.own h6).lt g hg
      intro e
      rcases hv with hv | hv
      · rw [hv] at e
        have := (h.own.lt g e).2
        omega
      · rw [hv] at e
        simp only [Option.some.injEq] at e
        have := (he.own.lt g hg).2
        omega
  · have hik2 : i < k := by omega
    obtain ⟨g1, xv, g2, g3, g4⟩ := h.out i hi hik2
    refine ⟨?_, xv, ?_, ?_, ?_⟩
    · rw [List.getElem?_append_left (by omega)]; exact g1
    · rw [List.getElem?_append_left (by omega)]; exact g2
    · refine own_same' g3 fun g hg => ?_
      have hlt := (g3.lt g hg).2
      have n2 := g4 g hg
      rw [hgr.block g (by omega) (fun e => n2 e.symm), h6.block g (by omega), he.keep g (by omega) (by omega), h5.block g hlt]
    · intro g hg
      have hlt := (g3.lt g hg).2
      have n2 := g4 g hg
      rcases hv with hv | hv
      · rw [hv]; exact n2
      · rw [hv]
        intro e
        simp only [Option.some.injEq] at e
        omega

theorem RIn.later {ws wr w2 : World} {lo k : Nat} {dv : Value} {d : List Ent} {cells : List Value} (h : RIn ws wr k dv d cells) (hl : d.length = k) (hlo : lo ≤ ws.heap.size) (hag : ∀ b, lo ≤ b → b < wr.heap.size → w2.heap[b]? = wr.heap[b]?) : DRd w2 dv d.length d := by
  refine ⟨rfl, cells, ?_, fun i hi => ?_⟩
  · rw [hl]
    exact Rd.of_own (own_same' h.own fun g hg => hag g (by have := (h.own.lt g hg).1; omega) (h.own.lt g hg).2)
  · obtain ⟨g1, xv, g2, g3, -⟩ := h.out i hi (by omega)
    exact ⟨g1, xv, g2, Rd.of_own (own_same' g3 fun g hg => hag g (by have := (g3.lt g hg).1; omega) (g3.lt g hg).2)⟩

def RMakePost (U : List Ent) (w : World) (e : Ending) (w' : World) : Prop := ∃ v', e = .returned v' ∧ (∀ w2 : World, (∀ b, w.heap.size ≤ b → b < w'.heap.size → w2.heap[b]? = w'.heap[b]?) → DRd w2 v' U.length U) ∧ Below w.heap.size w w'

theorem infoStrR : (Tryz.prog.info? 9).map (fun i => (i.zero, i.size, i.bytes)) = some (some (.string ByteArray.empty), 1, 16) := by kernel_rfl

set_option maxRecDepth 100000 in
set_option maxHeartbeats 8000000 in
theorem rmake_any (dv : Value) (docs : List (List UInt8)) (w : World) (hd : DocsRd w dv docs) (h1 : docs.length ≤ 40) (h2 : ∀ d ∈ docs, d.length ≤ 2000) :
    Calls Tryz.prog 19 #[dv, .agg #[.int .i64 0, .int .i64 docs.length]] w (RMakePost (makeF docs 0 docs.length) w) := by
  have mixed : Tryz.prog.follows .mixedOrders = true := by kernel_rfl
  obtain ⟨n, hnn⟩ : ∃ n, n = docs.length := ⟨_, rfl⟩
  have hb0 : Below w.heap.size w (w.alloc (.cells #[.int .i64 0, .int .i64 n] 26)) := (Below.refl _ _).alloc (Nat.le_refl _) _
  have hnew := heap_alloc_new w (.cells #[.int .i64 0, .int .i64 n] 26)
  obtain ⟨ao, c, rfl, hm, hcell⟩ := docs_cells hd
  rw [← hnn] at h1 hm ⊢
  have HC := hcell
  have H2 := Lib.hid h2
  have HNN := Lib.hid hnn
  obtain ⟨i0, hi0, hi0a, hi0b, hi0c⟩ := info_parts infoStrR
  obtain ⟨i1, hi1, hi1a, hi1b, hi1c⟩ := info_parts infoIntM
  obtain ⟨i2, hi2, hi2a, hi2b, hi2c⟩ := info_parts infoEntM
  clear hcell hd h2 hnn
  go_enter Tryz.func19, Tryz.ntmps19
  go_wp2_with fail
  generalize hW1 : (w.alloc (.cells #[.int .i64 0, .int .i64 n] 26)) = W1 at *
  have hc0 : W1.cell? ⟨w.heap.size, 0, none⟩ = some (.int .i64 0) := by rw [cell_of_row _ _ _ _ _ _ hnew]; rfl
  have hc1 : W1.cell? ⟨w.heap.size, 1, none⟩ = some (.int .i64 n) := by rw [cell_of_row _ _ _ _ _ _ hnew]; rfl
  clear hW1 hnew
  go_loopw [5, 6] (fun av iv wr => ∃ k : Nat, k ≤ n ∧ iv = .int .i64 k ∧ Hid (wr.ownsRow W1.heap.size 9 1 av (allT docs 0 k).length (scells (allT docs 0 k))) ∧ Below W1.heap.size W1 wr) (fun _ iv _ => n - (intOf iv).toNat)
  case atStart => exact ⟨0, Nat.zero_le _, rfl, ⟨rfl, .inl ⟨rfl, rfl⟩⟩, Below.refl _ _⟩
  case round =>
    obtain ⟨k, hk, rfl, HA, hbr⟩ := hrel
    have d0 := cell_later hbr hc0
    have d1 := cell_later hbr hc1
    have Bw := hb0.trans (hbr.mono hb0.size)
    by_cases hlt : k < n
    · have hkd : k < docs.length := by have := HNN.out; omega
      obtain ⟨b, off, da, dc, rfl, c1, hrd⟩ := HC.out k hkd
      have c2 := cell_later Bw c1
      have ki : (k : Int) < (n : Int) := by omega
      have k0 : (0 : Int) ≤ (k : Int) := by omega
      have hdk := H2.out _ (List.getElem_mem hkd)
      have HSET := Lib.hid (rset_any (.slice da docs[k].length dc) docs[k] wr (hrd.below Bw) (by omega))
      have hal : (allT docs 0 k).length ≤ k * 2000 := allT_len docs 2000 H2.out k 0
      have hsl := setOf_len (terms docs[k])
      have htl := terms_len docs[k]
      have HSN : Hid (allT docs 0 (k + 1) = allT docs 0 k ++ setOf (terms docs[k])) := by
        show _ = _
        rw [allT_snoc, Nat.zero_add]
        rw [List.getD_eq_getElem?_getD, List.getElem?_eq_getElem hkd]; rfl
      generalize docs[k].length = dl at *
      generalize setOf (terms docs[k]) = ss at *
      obtain ⟨aa, ac, rfl⟩ := own_shape HA.out
      obtain ⟨al, hale⟩ : ∃ z, z = (allT docs 0 k).length := ⟨_, rfl⟩
      rw [← hale] at HA hal ⊢
      have HAL := Lib.hid hale
      obtain ⟨sl, hsle⟩ : ∃ z, z = ss.length := ⟨_, rfl⟩
      rw [← hsle] at hsl HSET
      have HSL := Lib.hid hsle
      have hszr := hbr.size
      clear c1 hrd hale hsle
      go_wp2_with (first
        | (go_at_call 28; refine HSET.out.mono ?_; rintro e w3 ⟨v3, rfl, o3, b3⟩; obtain ⟨a3, c3, rfl⟩ := own_shape o3; have HO3 := Lib.hid o3; clear o3)
        | (at_builtin; refine wpList_app rfl _ _ _ _ rfl W1.heap.size 9 i0 _ 1 16 Tryz.underlying64 hi0 hi0a hi0b hi0c rfl _ al _ rfl (own_below HA.out b3) _ sl (scells ss) rfl ((Rd.of_own HO3.out).src Tryz.underlying64 (scells_one _)) (by unfold maxLen; omega) (by omega) (by have := b3.size; omega) ?_; intro v' w7 hown7 hgr7 hv7 _))
      go_roundw
      case rel =>
        refine ⟨k + 1, by omega, by go_num, ?_, (hbr.trans (b3.mono hbr.size)).grown hgr7 (by have := b3.size; omega) (fun q hq => (HA.out.lt q hq).1)⟩
        rw [HSN.out, List.length_append, ← HAL.out, ← HSL.out, scells_append]
        exact hown7
      case measure => simp [intOf]; omega
    · have hkn : k = n := by omega
      have ki : ¬ (k : Int) < (n : Int) := by omega
      have hal : (allT docs 0 k).length ≤ k * 2000 := allT_len docs 2000 H2.out k 0
      obtain ⟨aa, ac, rfl⟩ := own_shape HA.out
      have HSORT := Lib.hid (rsorted_any (.slice aa (allT docs 0 k).length ac) (allT docs 0 k).length (allT docs 0 k) wr rfl (Rd.of_own HA.out) (by omega))
      have HU : Hid ((setOf (allT docs 0 k)).map (fun t => (t, inDocs docs t 0 n)) = makeF docs 0 n) := by show _ = _; rw [hkn]; rfl
      have hTn : (setOf (allT docs 0 k)).length ≤ 80000 := by have := setOf_len (allT docs 0 k); omega
      generalize makeF docs 0 n = U at *
      generalize setOf (allT docs 0 k) = TS at *
      generalize (allT docs 0 k).length = al at *
      obtain ⟨nT, hnT⟩ : ∃ z, z = TS.length := ⟨_, rfl⟩
      rw [← hnT] at HSORT hTn
      have HNT := Lib.hid hnT
      have HUL : Hid (U.length = nT) := by show _ = _; rw [← HU.out, List.length_map, hnT]
      clear hkn HA hnT hal
      go_wp2_with (go_at_call 29; refine HSORT.out.mono ?_; rintro e ws ⟨sv, rfl, os, bs⟩; obtain ⟨sa, sc, rfl⟩ := own_shape os)
      have hbS := hbr.trans (bs.mono hbr.size)
      have BwS := hb0.trans (hbS.mono hb0.size)
      have HOS := Lib.hid os
      clear os HSORT bs d0 d1
      go_loopw [7, 8] (fun ov iv wq => ∃ (j : Nat) (cells : List Value), j ≤ nT ∧ iv = .int .i64 j ∧ Hid (RIn ws wq j ov U cells)) (fun _ iv _ => nT - (intOf iv).toNat)
      case atStart => exact ⟨0, [], Nat.zero_le _, rfl, ⟨⟨rfl, .inl ⟨rfl, rfl⟩⟩, fun i hi h => by omega, Below.refl _ _⟩⟩
      case round =>
        obtain ⟨j, cells, hj, rfl, HIN⟩ := hrel
        rename World => w1
        have hbq := HIN.out.bel
        by_cases hjl : j < nT
        · have hjs : j < TS.length := by rw [← HNT.out]; exact hjl
          have hjU : j < U.length := by rw [HUL.out]; exact hjl
          obtain ⟨aw, cw, hvw, -, HCS⟩ := strs_cells' (n := nT) HNT.out.symm (Rd.of_own HOS.out)
          simp only [Value.slice.injEq, true_and] at hvw
          obtain ⟨rfl, rfl⟩ := hvw
          obtain ⟨sb, so, rfl, hcj⟩ := HCS.out j hjs
          have HUJ : Hid (U[j] = (TS[j], inDocs docs TS[j] 0 n)) := by
            show _ = _
            have h1 := HU.out
            subst h1
            simp
          obtain ⟨tt, htt⟩ : ∃ s, s = TS[j] := ⟨_, rfl⟩
          rw [← htt] at hcj HUJ
          change _ = some (Value.string (bstr tt)) at hcj
          have hcq := cell_later hbq hcj
          have kj : (j : Int) < (nT : Int) := by omega
          have j0 : (0 : Int) ≤ (j : Int) := by omega
          have s0 := cell_later (hbS.trans (hbq.mono hbS.size)) hc0
          have hbA : Below w1.heap.size w1 (w1.alloc (.cells #[.string (bstr tt), .slice none 0 0] 61)) := (Below.refl _ _).alloc (Nat.le_refl _) _
          have hE5 : (w1.alloc (.cells #[.string (bstr tt), .slice none 0 0] 61)).heap[w1.heap.size]? = some (.cells #[.string (bstr tt), .slice none 0 0] 61 (0, 0)) := heap_alloc_new w1 _
          have hs5 : w1.heap.size < (w1.alloc (.cells #[.string (bstr tt), .slice none 0 0] 61)).heap.size := lt_of_block hE5
          have s05 := cell_later hbA s0
          clear htt s0
          go_wp2_with fail
          generalize hW5 : (w1.alloc (.cells #[.string (bstr tt), .slice none 0 0] 61)) = W5 at *
          clear hW5
          have HEM : Hid (∃ ev, RMid ws W5 w1.heap.size tt (inDocs docs tt 0 0) ev W5) := ⟨.slice none 0 0, hE5, ⟨rfl, .inl ⟨rfl, rfl⟩⟩, fun _ _ _ => rfl, hbq.trans (hbA.mono hbq.size), Nat.le_refl _⟩
          have hbq5 := hbq.trans (hbA.mono hbq.size)
          clear hE5
          go_loopw [10] (fun iv wz => ∃ i : Nat, i ≤ n ∧ iv = .int .i64 i ∧ Hid (∃ ev, RMid ws W5 w1.heap.size tt (inDocs docs tt 0 i) ev wz)) (fun iv _ => n - (intOf iv).toNat)
          case atStart => exact ⟨0, Nat.zero_le _, rfl, HEM.out⟩
          case round =>
            obtain ⟨i, hi, rfl, HZ⟩ := hrel
            clear HEM
            obtain ⟨ev, hED⟩ := HZ.out
            obtain ⟨ea, ec, rfl⟩ := own_shape hED.own
            have HED := Lib.hid hED
            have hbz := hED.bel
            have hbz1 := hbS.trans (hbz.mono hbS.size)
            have hbzw := BwS.trans (hbz.mono BwS.size)
            have e1 := cell_later hbz1 hc1
            have x0 : wr.cell? ⟨w1.heap.size, 0, none⟩ = some (.string (bstr tt)) := by rw [cell_of_row _ _ _ _ _ _ hED.ent]; rfl
            have x1 : wr.cell? ⟨w1.heap.size, 1, none⟩ = some (.slice ea (inDocs docs tt 0 i).length ec) := by rw [cell_of_row _ _ _ _ _ _ hED.ent]; rfl
            have hdl := inDocs_len docs tt 0 i
            have hsz5 := hED.size
            clear HZ
            by_cases hin : i < n
            · have hid : i < docs.length := by rw [← HNN.out]; exact hin
              obtain ⟨b, off, da, dc, rfl, dc1, hrd⟩ := HC.out i hid
              have dcz := cell_later hbzw dc1
              have tcz := cell_later hbz hcj
              have ki : (i : Int) < (n : Int) := by omega
              have i00 : (0 : Int) ≤ (i : Int) := by omega
              have hdk := H2.out _ (List.getElem_mem hid)
              have HRD := Lib.hid (hrd.below hbzw)
              have HSN : Hid (inDocs docs tt 0 (i + 1) = inDocs docs tt 0 i ++ (if tt ∈ terms docs[i] then [(i : Int)] else [])) := by
                show _ = _
                rw [inDocs_snoc, Nat.zero_add]
                rw [List.getD_eq_getElem?_getD, List.getElem?_eq_getElem hid]; rfl
              have HHAS := Lib.hid (fun (W : World) (hW : Below wr.heap.size wr W) (bb : Bool) (hbb : bb = decide (tt ∈ terms docs[i])) => rhas_any (.slice da docs[i].length dc) docs[i] tt W bb (HRD.out.below hW) (by omega) hbb)
              obtain ⟨dl, hdle⟩ : ∃ z, z = docs[i].length := ⟨_, rfl⟩
              rw [← hdle] at dcz HHAS hdk
              clear hdle hrd dc1 HRD
              have hH : Hid (∀ (W : World) (bb : Bool), bb = decide (tt ∈ terms docs[i]) → (Below wr.heap.size wr W ∧ W.cell? ⟨b, off + i, none⟩ = some (.slice da dl dc) ∧ W.cell? ⟨sb, so + j, none⟩ = some (.string (bstr tt))) → Calls Tryz.prog 30 #[.slice da dl dc, .string (bstr tt)] W fun e W' => e = .returned (.bool bb) ∧ (Below wr.heap.size wr W' ∧ W'.cell? ⟨b, off + i, none⟩ = some (.slice da dl dc) ∧ W'.cell? ⟨sb, so + j, none⟩ = some (.string (bstr tt)))) := fun W bb hbb ⟨q1, q2, q3⟩ => by
                refine (HHAS.out W q1 bb hbb).mono ?_
                rintro e W' ⟨rfl, hb⟩
                exact ⟨rfl, q1.trans (hb.mono q1.size), cell_later hb q2, cell_later hb q3⟩
              have hSd : (Below wr.heap.size wr wr.drew ∧ wr.drew.cell? ⟨b, off + i, none⟩ = some (.slice da dl dc) ∧ wr.drew.cell? ⟨sb, so + j, none⟩ = some (.string (bstr tt))) := ⟨(Below.refl _ _).drew, dcz, tcz⟩
              obtain ⟨M, hM⟩ : ∃ M, M = (inDocs docs tt 0 i).length := ⟨_, rfl⟩
              rw [← hM] at hdl x1
              have HM := Lib.hid hM
              clear hM hED
              go_wp2_with fail
              by_cases hmem : tt ∈ terms docs[i]
              · have HBB : Hid (true = decide (tt ∈ terms docs[i])) := (decide_eq_true hmem).symm
                have HDS : Hid (inDocs docs tt 0 (i + 1) = inDocs docs tt 0 i ++ [(i : Int)]) := by show _ = _; rw [HSN.out, if_pos hmem]
                clear hmem
                go_region_held3 (fun W => (Below wr.heap.size wr W ∧ W.cell? ⟨b, off + i, none⟩ = some (.slice da dl dc) ∧ W.cell? ⟨sb, so + j, none⟩ = some (.string (bstr tt))))
                  (first | exact hSd | exact hS8 | assumption)
                  ((go_at_call 30; with_reducible refine (hH.out _ true HBB.out (by assumption)).mono ?_; rintro e w8 ⟨rfl, hS8⟩))
                have hb8 := hS8.1
                have HE8 := Lib.hid (HED.out.below hb8)
                have y1 := cell_later hb8 x1
                have hE8 := HE8.out.ent
                rw [← HM.out] at hE8
                have hO8 : Hid (w8.ownsRow W5.heap.size 3 1 (.slice ea M ec) M (icells (inDocs docs tt 0 i))) := by
                  show World.ownsRow _ _ _ _ _ _ _
                  rw [HM.out]; exact HE8.out.own
                have hsz8 := HE8.out.size
                have heb5 : w1.heap.size < W5.heap.size := hs5
                clear hS8 hSd hH x0 x1 dcz tcz
                go_wp2_with (at_builtin; refine wpList_app rfl _ _ _ _ rfl W5.heap.size 3 i1 _ 1 8 Tryz.underlying46 hi1 hi1a hi1b hi1c rfl _ M _ rfl (own_below hO8.out ((Below.refl _ _).alloc (Nat.le_refl _) _)) _ 1 [.int .i64 i] rfl (src_new Tryz.underlying46 w8 _ 1 1 1 rfl (by intro u hu; simp at hu; subst hu; rfl)) (by unfold maxLen; omega) (by omega) (by simp; omega) ?_; intro v' w7 hown7 hgr7 hv7 _; obtain ⟨ea7, ec7, rfl⟩ := own_shape hown7; have hne7 : some w1.heap.size ≠ (Value.slice ea M ec).ownBlock := (fun e => by have := (hO8.out.lt w1.heap.size e.symm).1; omega); have hE7 : w7.heap[w1.heap.size]? = some (.cells #[.string (bstr tt), .slice ea M ec] 61 (0, 0)) := (by rw [hgr7.block w1.heap.size (by simp; omega) hne7, Below.heap_alloc _ _ _ (by omega)]; exact hE8); have k7 := cell_of_row _ _ 1 _ _ _ hE7; have f7 := frozen_of_row _ _ 1 _ _ hE7)
                have HE7 := Lib.hid hE7
                clear hE7 k7 f7
                go_roundw
                case rel =>
                  refine ⟨i + 1, by omega, by go_num, ⟨.slice ea7 (M + 1) ec7, ?_⟩⟩
                  have hne : ∀ q, q < W5.heap.size → some q ≠ (Value.slice ea M ec).ownBlock := fun q hq e => by
                    have := (hO8.out.lt q e.symm).1
                    omega
                  have hlen : (inDocs docs tt 0 (i + 1)).length = M + 1 := by rw [HDS.out, List.length_append, ← HM.out]; rfl
                  have hszw : w8.heap.size + 1 ≤ w7.heap.size := by have := hgr7.size; simpa using this
                  refine ⟨heap_setCell_same w7 w1.heap.size 1 _ _ _ HE7.out, ?_, ?_, ?_, ?_⟩
                  · rw [hlen, HDS.out, show icells (inDocs docs tt 0 i ++ [(i : Int)]) = icells (inDocs docs tt 0 i) ++ [.int .i64 i] from List.map_append ..]
                    exact own_same' hown7 fun g hg => heap_setCell_other _ _ _ _ (by have := (hown7.lt g hg).1; simp; omega)
                  · intro q h1 h2
                    rw [heap_setCell_other _ _ _ _ (by simpa using h2), hgr7.block q (by simp; omega) (hne q h1), Below.heap_alloc _ _ _ (by omega)]
                    exact HE8.out.keep q h1 h2
                  · exact (((HE8.out.bel.alloc HE8.out.bel.size _).grown hgr7 (by have := HE8.out.bel.size; simp; omega) (fun q hq => by have := (hO8.out.lt q hq).1; have := hbq5.size; omega))).setCell (by have := hbq.size; simp; omega) _
                  · simp; omega
                case measure => simp [intOf]; omega
              · have HBB : Hid (false = decide (tt ∈ terms docs[i])) := (decide_eq_false hmem).symm
                have HDS : Hid (inDocs docs tt 0 i = inDocs docs tt 0 (i + 1)) := by show _ = _; rw [HSN.out, if_neg hmem, List.append_nil]
                clear hmem
                go_region_held3 (fun W => (Below wr.heap.size wr W ∧ W.cell? ⟨b, off + i, none⟩ = some (.slice da dl dc) ∧ W.cell? ⟨sb, so + j, none⟩ = some (.string (bstr tt))))
                  (first | exact hSd | exact hS8 | assumption)
                  ((go_at_call 30; with_reducible refine (hH.out _ false HBB.out (by assumption)).mono ?_; rintro e w8 ⟨rfl, hS8⟩))
                have hb8 := hS8.1
                clear hS8 hSd hH
                go_wp2
                go_roundw
                case rel => exact ⟨i + 1, by omega, by go_num, ⟨_, HDS.out ▸ HED.out.below hb8⟩⟩
                case measure => simp [intOf]; omega
            · have HIE : Hid (i = n) := by show i = n; omega
              have ki : ¬ (i : Int) < (n : Int) := by omega
              obtain ⟨M, hM⟩ : ∃ M, M = (inDocs docs tt 0 i).length := ⟨_, rfl⟩
              rw [← hM] at hdl x1
              have HM := Lib.hid hM
              clear hM hED
              have hO : Hid (wr.ownsRow ws.heap.size 61 2 u7 j cells) := own_same' HIN.out.own fun g hg => by
                have h1 := (HIN.out.own.lt g hg).2
                rw [HED.out.keep g (by omega) (by omega), hbA.block g (by omega)]
              have hszz := hbz.size
              go_wp2_with (at_builtin; refine wpList_app rfl _ _ _ _ rfl ws.heap.size 61 i2 _ 2 40 Tryz.underlying31 hi2 hi2a hi2b hi2c rfl _ j _ rfl (own_below hO.out ((Below.refl _ _).alloc (Nat.le_refl _) _)) _ 1 [.string (bstr tt), .slice ea M ec] rfl (src_new Tryz.underlying31 wr _ 2 1 1 rfl (by intro u hu; simp at hu; rcases hu with rfl | rfl <;> rfl)) (by unfold maxLen; omega) (by omega) (by simp; omega) ?_; intro v' w7 hown7 hgr7 hv7 _)
              go_roundw
              case rel => exact ⟨j + 1, cells ++ [str tt, .slice ea M ec], by omega, by go_num, HIN.out.step hbA (Nat.le_refl _) hjU HUJ.out (by rw [← HIE.out, HM.out]; exact HED.out) ((Below.refl _ _).alloc (Nat.le_refl _) _) hown7 hgr7 hv7⟩
              case measure => simp [intOf]; omega
        · have hje : j = nT := by omega
          have kj : ¬ (j : Int) < (nT : Int) := by omega
          have hB := BwS.trans (hbq.mono BwS.size)
          have hszw := BwS.size
          have HB := Lib.hid hB
          have HJE := Lib.hid hje
          clear hB hje
          go_wp2
          go_ret
          refine ⟨_, rfl, fun w2 h2 => ?_, HB.out⟩
          exact HIN.out.later (lo := w.heap.size) (by rw [HUL.out, HJE.out]) hszw h2
end Go.Proofs.YteegbjjpjdlcmaaGreatDoor

/- rubrickref12.Build. -/
set_option linter.unusedVariables false
namespace Go.Proofs.YteegbjjpjdlcmaaGreatDoor
open Go.RowKit Go.Sort Go.Maps

def RBuildPost (n : Int) (U : List Ent) (w : World) (e : Ending) (w' : World) : Prop := ∃ v', e = .returned (.agg #[.int .i64 0, .int .i64 n, v']) ∧ DRd w' v' U.length U ∧ Below w.heap.size w w'

set_option maxRecDepth 100000 in
set_option maxHeartbeats 4000000 in
theorem rbuild_any (dv : Value) (docs : List (List UInt8)) (w : World) (hd : DocsRd w dv docs) (h1 : docs.length ≤ 40) (h2 : ∀ d ∈ docs, d.length ≤ 2000) :
    Calls Tryz.prog 11 #[dv, .agg #[.int .i64 0, .int .i64 docs.length]] w (RBuildPost docs.length (makeF docs 0 docs.length) w) := by
  have hb0 : Below w.heap.size w (w.alloc (.cells #[.int .i64 0, .int .i64 docs.length] 26)) := (Below.refl _ _).alloc (Nat.le_refl _) _
  have hn0 := heap_alloc_new w (.cells #[.int .i64 0, .int .i64 docs.length] 26)
  have hs0 : (w.alloc (.cells #[.int .i64 0, .int .i64 docs.length] 26)).heap.size = w.heap.size + 1 := by simp
  have hn1 := heap_alloc_new (w.alloc (.cells #[.int .i64 0, .int .i64 docs.length] 26)) (.cells #[.int .i64 0, .int .i64 0, .slice none 0 0] 38)
  have hb1 : Below (w.heap.size + 1) (w.alloc (.cells #[.int .i64 0, .int .i64 docs.length] 26)) ((w.alloc (.cells #[.int .i64 0, .int .i64 docs.length] 26)).alloc (.cells #[.int .i64 0, .int .i64 0, .slice none 0 0] 38)) := by rw [← hs0]; exact (Below.refl _ _).alloc (Nat.le_refl _) _
  rw [hs0] at hn1
  have hc0 : ((w.alloc (.cells #[.int .i64 0, .int .i64 docs.length] 26)).alloc (.cells #[.int .i64 0, .int .i64 0, .slice none 0 0] 38)).cell? ⟨w.heap.size, 0, none⟩ = some (.int .i64 0) := cell_later (by rw [hs0]; exact hb1) (by rw [cell_of_row _ _ _ _ _ _ hn0]; rfl)
  have hc1 : ((w.alloc (.cells #[.int .i64 0, .int .i64 docs.length] 26)).alloc (.cells #[.int .i64 0, .int .i64 0, .slice none 0 0] 38)).cell? ⟨w.heap.size, 1, none⟩ = some (.int .i64 docs.length) := cell_later (by rw [hs0]; exact hb1) (by rw [cell_of_row _ _ _ _ _ _ hn0]; rfl)
  have hB1 := hb0.trans (hb1.mono (by omega))
  have HM := Lib.hid (fun W (hW : Below w.heap.size w W) => rmake_any dv docs W (hd.below hW) h1 h2)
  obtain ⟨ao, c, rfl, -, -⟩ := docs_cells hd
  generalize makeF docs 0 docs.length = U at *
  generalize docs.length = n at *
  clear hd h2 hb0 hn0 hs0 hb1
  go_enter Tryz.func11, Tryz.ntmps11
  go_wp2_with fail
  generalize hW1 : ((w.alloc (.cells #[.int .i64 0, .int .i64 n] 26)).alloc (.cells #[.int .i64 0, .int .i64 0, .slice none 0 0] 38)) = W1 at *
  clear hW1
  have hsz1 : w.heap.size + 1 < W1.heap.size := lt_of_block hn1
  refine L_begin (fun W => Below W1.heap.size W1 W ∧ W.cell? ⟨w.heap.size, 0, none⟩ = some (.int .i64 0) ∧ W.cell? ⟨w.heap.size, 1, none⟩ = some (.int .i64 n)) 5 (by kernel_rfl) ?_
  have hS : Below W1.heap.size W1 W1.drew ∧ W1.drew.cell? ⟨w.heap.size, 0, none⟩ = some (.int .i64 0) ∧ W1.drew.cell? ⟨w.heap.size, 1, none⟩ = some (.int .i64 n) := ⟨(Below.refl _ _).drew, hc0, hc1⟩
  generalize W1.drew = wd at *
  refine L_take (fuel := 5) 0 (.agg #[.int .i64 0, .int .i64 n]) rfl (by kernel_rfl) (by kernel_rfl) (by kernel_rfl) (by kernel_rfl) (fun _ _ _ h => h) (by kernel_rfl) ?_ hS ?_
  · rintro W ⟨q0, q1, q2⟩
    go_simp
  refine L_free (fuel := 4) 1 (.slice ao n c) rfl (by kernel_rfl) (by kernel_rfl) (by kernel_rfl) (by kernel_rfl) (fun _ _ _ h => h) (by kernel_rfl) ?_ hS ?_
  · intro W
    go_simp
  refine L_take (fuel := 3) 2 (.agg #[.int .i64 0, .int .i64 n]) rfl (by kernel_rfl) (by kernel_rfl) (by kernel_rfl) (by kernel_rfl) (fun _ _ _ h => h) (by kernel_rfl) ?_ hS ?_
  · rintro W ⟨q0, q1, q2⟩
    go_simp
  refine L_one (fuel := 2) 3 (by kernel_rfl) rfl ?_
  intro K hK
  go_simp
  have Bd : Below w.heap.size w wd := hB1.trans (hS.1.mono hB1.size)
  refine (HM.out _ Bd).mono ?_
  rintro e w5 ⟨v5, rfl, hd5, hb5⟩
  obtain ⟨a5, c5, rfl, -⟩ := dict_cells (hd5 w5 fun _ _ _ => rfl)
  go_simp
  have HD5 := Lib.hid hd5
  have hS5 : Below W1.heap.size W1 w5 ∧ w5.cell? ⟨w.heap.size, 0, none⟩ = some (.int .i64 0) ∧ w5.cell? ⟨w.heap.size, 1, none⟩ = some (.int .i64 n) := ⟨hS.1.trans (hb5.mono hS.1.size), cell_later hb5 hS.2.1, cell_later hb5 hS.2.2⟩
  refine hK _ _ hS5 ?_
  clear hK K hd5
  have B5 : Below w.heap.size w w5 := Bd.trans (hb5.mono Bd.size)
  have hR5 : w5.heap[w.heap.size + 1]? = some (.cells #[.int .i64 0, .int .i64 0, .slice none 0 0] 38 (0, 0)) := (hS5.1.block _ hsz1).trans hn1
  refine L_one (fuel := 1) 4 (by kernel_rfl) rfl ?_
  intro K hK
  go_simp
  refine hK _ _ hS5 ?_
  clear hK K
  refine L_end (fuel := 0) 5 (by kernel_rfl) rfl (by kernel_rfl) ?_
  intro K hK
  have c0 := cell_of_row _ _ 0 _ _ _ hR5
  have c1 := cell_of_row _ _ 1 _ _ _ hR5
  have c2 := cell_of_row _ _ 2 _ _ _ hR5
  have f0 := frozen_of_row _ _ 0 _ _ hR5
  have f1 := frozen_of_row _ _ 1 _ _ hR5
  have f2 := frozen_of_row _ _ 2 _ _ hR5
  go_simp
  refine hK _ _ ?_
  clear hK K
  have h1 := heap_setCell_same w5 (w.heap.size + 1) 0 _ _ (.int .i64 0) hR5
  have h2 := heap_setCell_same _ (w.heap.size + 1) 1 _ _ (.int .i64 n) h1
  have h3 := heap_setCell_same _ (w.heap.size + 1) 2 _ _ (.slice a5 U.length c5) h2
  have hbf : Below w.heap.size w (((w5.setCell ⟨w.heap.size + 1, 0, none⟩ (.int .i64 0)).setCell ⟨w.heap.size + 1, 1, none⟩ (.int .i64 n)).setCell ⟨w.heap.size + 1, 2, none⟩ (.slice a5 U.length c5)) := (((B5.setCell (by simp) _).setCell (by simp) _).setCell (by simp) _)
  have hsw := hS.1.size
  have hdf := HD5.out (((w5.setCell ⟨w.heap.size + 1, 0, none⟩ (.int .i64 0)).setCell ⟨w.heap.size + 1, 1, none⟩ (.int .i64 n)).setCell ⟨w.heap.size + 1, 2, none⟩ (.slice a5 U.length c5)) (fun b g1 g2 => by
    rw [heap_setCell_other _ _ _ _ (by simp; omega), heap_setCell_other _ _ _ _ (by simp; omega), heap_setCell_other _ _ _ _ (by simp; omega)])
  refine L_done (by kernel_rfl) ?_ 0
  have HF := Lib.hid hdf
  have H3 := Lib.hid h3
  have HBF := Lib.hid hbf
  clear hdf h1 h2 h3 hbf
  go_wp2
  exact bodyPost_ret (v := .agg #[.int .i64 0, .int .i64 n, .slice a5 U.length c5]) (results_cell_row (p := 4) (ty := 38) rfl _ _ (w.heap.size + 1) 38 _ (0, 0) _ rfl H3.out Tryz.underlying38 rfl (by kernel_rfl)) rfl ⟨_, rfl, HF.out, HBF.out⟩
end Go.Proofs.YteegbjjpjdlcmaaGreatDoor
