/- QTerms2, Run, Run2, Run3: in one text. -/
import Derived.Test.YteegbjjpjdlcmaaDoorQRight
import Derived.Test.YteegbjjpjdlcmaaDoorSetLaw
import Derived.Test.YteegbjjpjdlcmaaDoorOwn
import Derived.Test.YteegbjjpjdlcmaaDoorShelf
import Derived.Lib.OwnBridge
import Derived.Test.YteegbjjpjdlcmaaDoorPerfI
import Derived.Test.YteegbjjpjdlcmaaDoorMatch
/- query.Terms: its terms, each once, rising. -/
set_option linter.unusedVariables false
namespace Go.Proofs.YteegbjjpjdlcmaaDoor
open Go.RowKit Go.Sort

def wordsOf (l : List QOp) : List (List UInt8) := (l.filter fun s => s.1 == 0).map (·.2)
theorem wordsOf_len (l : List QOp) : (wordsOf l).length ≤ l.length := by
  unfold wordsOf
  rw [List.length_map]
  exact List.length_filter_le _ _
theorem wordsOf_snoc (l : List QOp) (s : QOp) : wordsOf (l ++ [s]) = if s.1 = 0 then wordsOf l ++ [s.2] else wordsOf l := by
  unfold wordsOf
  by_cases h : s.1 = 0
  · simp [h]
  · simp [h]

theorem setOf_sort (ws : List (List UInt8)) : setOf ws = Lib.compact (ws.mergeSort fun x y => decide (x ≤ y)) := by
  have h : (fun x y : List UInt8 => decide (x ≤ y)) = fun x y => !ltStr y x := by
    funext x y
    simp only [ltStr, ← decide_not, List.not_lt]
  unfold setOf rise
  rw [h]

theorem compact_pos (zs : List (List UInt8)) (h : 0 < zs.length) : 0 < (Lib.compact zs).length := by
  unfold Lib.compact Lib.compactUpTo
  rw [List.length_map]
  exact List.length_pos_of_mem (List.mem_filter.2 ⟨List.mem_range.2 h, Lib.keeps_lt_one _ 0 (by decide)⟩)

theorem below_grow {B : Nat} {w0 w : World} (h : Below B w0 w) (hB : B ≤ w.heap.size) (os : Array Obj) : Below B w0 (grow w os) :=
  h.trans ⟨rfl, rfl, rfl, by simp [grow], fun k hk => heap_grow_old w os (by omega)⟩

set_option maxRecDepth 100000 in
set_option maxHeartbeats 4000000 in
theorem qterms2_any (v : Value) (l : List QOp) (w : World) (h : Rd w v l.length 2 (ocells l)) (hn : l.length ≤ 100000) :
    Calls Tryd.prog 38 #[v] w (Gives w 9 1 (setOf (wordsOf l)).length (scells (setOf (wordsOf l)))) := by
  obtain ⟨j0, hj, hy0, hy1, hy2⟩ := info_parts infoStr
  obtain ⟨ao, c, rfl, hm, hcell⟩ := ops_cells h
  have HC := Lib.hid hcell
  clear hcell h hm
  go_enter Tryd.func38, Tryd.ntmps38
  go_wp2
  go_loopw [3, 8] (fun o i wr => ∃ k : Nat, k ≤ l.length ∧ i = .int .i64 k ∧ wr.ownsRow w.heap.size 9 1 o (wordsOf (l.take k)).length (scells (wordsOf (l.take k))) ∧ Below w.heap.size w wr) (fun _ i _ => l.length - (intOf i).toNat)
  case atStart => exact ⟨0, Nat.zero_le _, rfl, World.ownsRow_nil _ _ _ _, Below.refl _ _⟩
  case round =>
    obtain ⟨k, hk, rfl, hown, hbel⟩ := hrel
    have hsz := hbel.size
    obtain ⟨xa, xc, rfl⟩ := own_shape hown
    by_cases hlt : k < l.length
    · obtain ⟨b, off, rfl, h1, h2⟩ := HC.out k hlt
      have c1 := (hbel.cell (World.block_lt_of_cell? w _ h1)).trans h1
      have c2 := (hbel.cell (World.block_lt_of_cell? w _ h2)).trans h2
      have htk : wordsOf (l.take (k + 1)) = if l[k].1 = 0 then wordsOf (l.take k) ++ [l[k].2] else wordsOf (l.take k) := by rw [List.take_succ_eq_append_getElem hlt, wordsOf_snoc]
      have hwl : (wordsOf (l.take k)).length ≤ 100000 := by have := wordsOf_len (l.take k); rw [List.length_take] at this; omega
      obtain ⟨⟨kk, tt⟩, hx⟩ : ∃ s, s = l[k] := ⟨_, rfl⟩
      rw [← hx] at c1 c2 htk
      simp only at c1 c2 htk
      have HTK := Lib.hid htk
      clear hx htk h1 h2
      generalize wordsOf (l.take k) = ws at *
      by_cases hk0 : kk = 0
      · subst hk0
        go_wp2_with (at_builtin; refine wpList_app rfl _ _ _ _ rfl w.heap.size 9 j0 _ 1 16 Tryd.underlying75 hj hy0 hy1 hy2 rfl (.slice xa ws.length xc) ws.length _ rfl ((hown.alloc (.cells #[.int .i64 0, .string (bstr tt)] 55)).alloc _) _ 1 [.string (bstr tt)] rfl (src_at Tryd.underlying75 (wr.alloc (.cells #[.int .i64 0, .string (bstr tt)] 55)) #[.string (bstr tt)] 1 1 1 (wr.heap.size + 1) (by simp) rfl (by intro u hu; simp at hu; subst hu; rfl)) (by unfold maxLen; omega) (by omega) (by simp; omega) ?_; intro v1 w1 hown1 hgr1 _ _; have hb1 : Below w.heap.size w w1 := ((hbel.alloc hsz _).alloc (by simp; omega) _).grown hgr1 (by simp; omega) (fun j hj => (hown.lt j hj).1); obtain ⟨na, nc, rfl⟩ := own_shape hown1)
        go_roundw
        case rel => exact ⟨k + 1, by omega, by go_num, by rw [HTK.out, if_pos rfl, scells_append, List.length_append]; exact hown1, hb1⟩
        case measure => simp [intOf]; omega
      · have hk0' : (kk == 0) = false := beq_eq_false_iff_ne.2 hk0
        have HN := Lib.hid hk0
        clear hk0
        go_wp2
        go_roundw
        case rel => exact ⟨k + 1, by omega, by go_num, by rw [HTK.out, if_neg HN.out]; exact hown.alloc _, hbel.alloc hsz _⟩
        case measure => simp [intOf]; omega
    · have hke : k = l.length := by omega
      subst hke
      rw [List.take_length] at hown ⊢
      have hwl : (wordsOf l).length ≤ 100000 := by have := wordsOf_len l; omega
      generalize hws : wordsOf l = ws at *
      have hsl : (scells ws).length = ws.length := scells_len ws
      generalize hnl : ws.length = nn at *
      rcases Nat.eq_zero_or_pos nn with h0 | h0
      · obtain rfl : nn = 0 := h0
        have S := fun W => Tryd.slices_Sort_string_none xa xc W
        have C := fun W => Tryd.slices_Compact_string_empty xa xc W
        have HS := Lib.hid S
        have HCC := Lib.hid C
        clear S C
        go_wp2_with (first
          | (go_at_call 63; refine (HS.out _).mono ?_; rintro e w1 ⟨rfl, rfl⟩)
          | (go_at_call 64; refine (HCC.out _).mono ?_; rintro e w1 ⟨rfl, rfl⟩))
        go_ret
        have hw0 : ws = [] := List.length_eq_zero_iff.1 hnl
        have hs0 : setOf ws = [] := by rw [hw0]; exact List.eq_nil_iff_forall_not_mem.2 fun x hx => by rw [mem_setOf] at hx; cases hx
        rw [hs0]
        rw [hw0] at hown
        exact ⟨_, rfl, hown, hbel⟩
      · obtain ⟨g, cap, he, hbg, hgl, hncap, hcm, hzl, hH⟩ := Lib.holds_of_ownsRow (enc := encStr) (zs := ws) hown (by intro e; simp only [Value.slice.injEq] at e; omega)
        simp only [Value.slice.injEq] at he
        obtain ⟨rfl, _, rfl⟩ := he
        have hS0 := Tryd.slices_Sort_string g 0 xc ws wr hH hgl (by omega)
        rw [hnl] at hS0
        have HS := Lib.hid hS0
        clear hS0
        have hset := setOf_sort ws
        have hperm : (ws.mergeSort fun x y => decide (x ≤ y)).length = nn := by rw [List.length_mergeSort]; exact hnl
        generalize (ws.mergeSort fun x y => decide (x ≤ y)) = ss at *
        have HSET := Lib.hid hset
        clear hset
        have hW : ∀ n os, (grow (putRow encStr (Sort.ahead wr n) g 0 ss.toArray) os).ownsRow w.heap.size 9 1 (.slice (some ⟨g, 0, none⟩) nn xc) nn (ss.map encStr) ∧ Below w.heap.size w (grow (putRow encStr (Sort.ahead wr n) g 0 ss.toArray) os) := by
          intro n os
          have o1 := Lib.ownsRow_putRow (q := n) (k := nn) (ys := ss) (zs := ws) (enc := encStr) hown hperm (Nat.le_refl _)
          rw [List.take_of_length_le (by omega)] at o1
          have b1 : Below w.heap.size w (putRow encStr (Sort.ahead wr n) g 0 ss.toArray) := Lib.below_putRow hbel hbg
          exact ⟨own_below' o1 (below_grow (Below.refl _ _) (Nat.le_refl _) os), below_grow b1 b1.size os⟩
        have HW := Lib.hid hW
        have hcl := Lib.compact_length_le ss
        have hcp := compact_pos ss (by omega)
        clear hW
        go_wp2_with (first
          | (go_at_call 63; refine HS.out.mono ?_; rintro e w1 ⟨rfl, nq, os, rfl⟩; obtain ⟨o1, b1⟩ := HW.out nq os; generalize (grow (putRow encStr (Sort.ahead wr nq) g 0 ss.toArray) os) = w1 at *; obtain ⟨g', cap', he', hbg', hgl', _, _, _, hH'⟩ := Lib.holds_of_ownsRow (enc := encStr) (zs := ss) o1 (by intro e; simp only [Value.slice.injEq] at e; omega); simp only [Value.slice.injEq, Option.some.injEq, Addr.mk.injEq] at he'; obtain ⟨⟨rfl, _, _⟩, _, rfl⟩ := he'; have hC0 := Tryd.slices_Compact_string g 0 xc ss w1 hH' (by omega) (by omega); rw [hperm] at hC0; have HC0 := Lib.hid hC0; clear hC0)
          | (go_at_call 64; refine HC0.out.mono ?_; rintro e w2 ⟨rfl, q, rfl⟩))
        go_ret
        have o2 := Lib.ownsRow_putRow (q := q) (k := (Lib.compact ss).length) (ys := Lib.compact ss ++ List.replicate (nn - (Lib.compact ss).length) []) (zs := ss) (enc := encStr) o1 (by simp; omega) (by omega)
        rw [List.take_left] at o2
        rw [HSET.out]
        exact ⟨_, rfl, o2, Lib.below_putRow b1 hbg⟩
end Go.Proofs.YteegbjjpjdlcmaaDoor

/- eval.Run. -/
set_option linter.unusedVariables false
namespace Go.Proofs.YteegbjjpjdlcmaaDoor
open Go.RowKit Go.Sort

/-- the list that stands beside a term. -/
def atL (t : List UInt8) : List (List UInt8) → List (List Int) → List Int
  | x :: xs, d :: ds => if x = t then d else atL t xs ds
  | _, _ => []
theorem atL_none {t : List UInt8} : ∀ {xs : List (List UInt8)} {ds : List (List Int)}, t ∉ xs → atL t xs ds = []
  | [], _, _ => by simp [atL]
  | x :: xs, [], _ => by simp [atL]
  | x :: xs, d :: ds, h => by
    simp only [List.mem_cons, not_or] at h
    simp only [atL]
    rw [if_neg (fun e => h.1 e.symm), atL_none h.2]
theorem atL_at {t : List UInt8} : ∀ {xs : List (List UInt8)} {ds : List (List Int)} (i : Nat) (hi : i < xs.length) (hd : i < ds.length), Rises ltStr xs → xs[i] = t → atL t xs ds = ds[i]
  | [], _, i, hi, _, _, _ => by simp at hi
  | _ :: _, [], i, _, hd, _, _ => by simp at hd
  | x :: xs, d :: ds, i, hi, hd, hr, h => by
    have hr' := List.pairwise_cons.1 hr
    simp only [atL]
    cases i with
    | zero => rw [if_pos (by simpa using h)]; rfl
    | succ i =>
      simp only [List.getElem_cons_succ] at h ⊢
      have hlt := hr'.1 t (by rw [← h]; exact List.getElem_mem _)
      rw [if_neg (by rintro rfl; simp [swo_ltStr.irrefl] at hlt)]
      exact atL_at i (by simpa using hi) (by simpa using hd) hr'.2 h
theorem atL_right {t : List UInt8} : ∀ {xs : List (List UInt8)} {ds : List (List Int)}, (∀ d ∈ ds, postRight d = true) → postRight (atL t xs ds) = true
  | [], _, _ => by simp [atL, postRight, postGo]
  | _ :: _, [], _ => by simp [atL, postRight, postGo]
  | x :: xs, d :: ds, h => by
    simp only [atL]
    split
    · exact h d (by simp)
    · exact atL_right (fun d' hd => h d' (by simp [hd]))

/-- what postings lead to. -/
def runF (l : List QOp) (found : List (List Int)) : List Int := evL (fun t => atL t (setOf (wordsOf l)) found) opI [] l

/-- a slice of lists of numbers that can be read. -/
def IntsRd (w : World) (v : Value) (found : List (List Int)) : Prop := ∃ vs : List Value, Rd w v found.length 1 vs ∧ ∀ i (hi : i < found.length), ∃ dv, vs[i]? = some dv ∧ Rd w dv found[i].length 1 (icells found[i])
theorem IntsRd.below {w w' : World} {v : Value} {found : List (List Int)} (h : IntsRd w v found) (hb : Below w.heap.size w w') : IntsRd w' v found := by
  obtain ⟨vs, h1, h2⟩ := h
  refine ⟨vs, h1.below hb, fun i hi => ?_⟩
  obtain ⟨dv, g1, g2⟩ := h2 i hi
  exact ⟨dv, g1, g2.below hb⟩
theorem ints2_cells {w : World} {v : Value} {found : List (List Int)} (h : IntsRd w v found) : ∃ ao c, v = .slice ao found.length c ∧ found.length ≤ 9223372036854775807 ∧
    Hid (∀ i (hi : i < found.length), ∃ b off da dc, ao = some ⟨b, off, none⟩ ∧ w.cell? ⟨b, off + i, none⟩ = some (.slice da found[i].length dc) ∧ Rd w (.slice da found[i].length dc) found[i].length 1 (icells found[i])) := by
  obtain ⟨vs, ⟨hl, hm, hh⟩, hE⟩ := h
  unfold maxLen at hm
  rcases hh with ⟨ao, c, rfl, h0⟩ | ⟨b, off, c, rfl, h0, hnc, hcm, hcell⟩
  · exact ⟨ao, c, by rw [h0], by omega, fun i hi => by omega⟩
  · refine ⟨_, c, rfl, by omega, fun i hi => ?_⟩
    obtain ⟨dv, g1, g2⟩ := hE i hi
    obtain ⟨da, dc, rfl, -⟩ := ints_cells rfl g2
    exact ⟨b, off, da, dc, rfl, hcell _ _ g1, g2⟩

theorem clone_ints_any (v : Value) (l : List Int) (w : World) (h : Rd w v l.length 1 (icells l)) (hn : l.length ≤ 100000) :
    Calls Tryd.prog 42 #[v] w (Gives w 3 1 l.length (icells l)) := by
  have hil := icells_len l
  obtain ⟨-, hm, ⟨ao, c, rfl, h0⟩ | ⟨b, off, c, rfl, h0, hnc, hcm, hcell⟩⟩ := h
  · have hl : l = [] := List.length_eq_zero_iff.1 h0
    subst hl
    cases ao with
    | none =>
      refine (Tryd.slices_Clone_int_nil 0 c w).mono ?_
      rintro e w' ⟨rfl, rfl⟩
      exact ⟨_, rfl, World.ownsRow_nil _ _ _ _, Below.refl _ _⟩
    | some a =>
      refine (Tryd.slices_Clone_int_zero a c w).mono ?_
      rintro e w' ⟨v', rfl, ho, -, hb⟩
      exact ⟨_, rfl, ho, hb⟩
  · refine (Tryd.slices_Clone_int b off l.length c l w (Nat.le_refl _) (by omega) (fun j hj => ?_)).mono ?_
    · refine hcell j _ ?_
      simp [icells, List.getElem?_eq_getElem hj, List.getD]
    · rintro e w' ⟨v', rfl, ho, -, hb⟩
      rw [List.take_length] at ho
      exact ⟨_, rfl, ho, hb⟩

theorem below_drewN' {B : Nat} {w : World} (n : Nat) : Below B w (w.drewN n) := ⟨rfl, rfl, rfl, Nat.le_refl _, fun _ _ => rfl⟩
theorem less_isR (x y : List UInt8) : Op.bytesLess (bstr x).toList (bstr y).toList = ltStr x y := by
  rw [btoList, btoList, bytesLess_eq]; rfl

theorem bs_none {terms : List (List UInt8)} {t : List UInt8} (h : t ∉ terms) (I : Nat) (Sx : Nat → ByteArray) (hS : ∀ j (hj : j < terms.length), Sx j = bstr terms[j]) : decide (I < terms.length ∧ Sx I = bstr t) = false := by
  rw [decide_eq_false_iff_not]
  rintro ⟨h1, h2⟩
  rw [hS I h1] at h2
  have := congrArg ByteArray.toList h2
  rw [btoList, btoList] at this
  exact h (this ▸ List.getElem_mem _)

theorem bs_some {terms : List (List UInt8)} {t : List UInt8} (hr : Rises ltStr terms) (i : Nat) (hi : i < terms.length) (h : terms[i] = t) (Sx : Nat → ByteArray) (hS : ∀ j (hj : j < terms.length), Sx j = bstr terms[j]) (hS2 : ∀ j, terms.length ≤ j → Sx j = bstr t) :
    Lib.bsGo (fun j => Op.bytesLess (Sx j).toList (bstr t).toList) terms.length 0 terms.length = i ∧ Sx i = bstr t := by
  refine ⟨Lib.bsGo_spec _ i (fun j hj => ?_) (fun j hj => ?_) _ _ _ (by omega) (by omega) (by omega), by rw [hS i hi, h]⟩
  · rw [hS j (by omega), less_isR, ← h]
    exact List.pairwise_iff_getElem.1 hr j i (by omega) hi hj
  · by_cases hl : j < terms.length
    · rw [hS j hl, less_isR]
      by_cases e : j = i
      · subst e; rw [h]; exact swo_ltStr.irrefl t
      · have h1 := List.pairwise_iff_getElem.1 hr i j hi hl (by omega)
        rw [h] at h1
        cases h2 : ltStr terms[j] t with
        | false => rfl
        | true => have := swo_ltStr.trans _ _ _ h1 h2; rw [swo_ltStr.irrefl] at this; cases this
    · rw [hS2 j (by omega), less_isR]; exact swo_ltStr.irrefl t

set_option maxRecDepth 100000 in
set_option maxHeartbeats 4000000 in
theorem run1_any (p p2 : Nat) (tv fv : Value) (terms : List (List UInt8)) (found : List (List Int)) (t : List UInt8) (W : World) (hr : Rises ltStr terms) (hlen : found.length = terms.length) (hl : terms.length ≤ 100000) (hfl : ∀ d ∈ found, d.length ≤ 100000)
    (htv : Rd W tv terms.length 1 (scells terms)) (hfv : IntsRd W fv found) (c1 : W.cell? ⟨p, 0, none⟩ = some tv) (c2 : W.cell? ⟨p2, 0, none⟩ = some fv) :
    Calls Tryd.prog 40 #[.string (bstr t), .pointer (some ⟨p, 0, none⟩), .pointer (some ⟨p2, 0, none⟩)] W (Gives W 3 1 (atL t terms found).length (icells (atL t terms found))) := by
  obtain ⟨ta, tc, rfl, -, HTC⟩ := strs_cellsP htv
  obtain ⟨fa, fc, rfl, -, HFC⟩ := ints2_cells hfv
  by_cases hmem : t ∈ terms
  · obtain ⟨i, hi, hit⟩ := List.mem_iff_getElem.1 hmem
    have hat := atL_at (ds := found) i hi (by omega) hr hit
    obtain ⟨b, off, rfl, -⟩ := HTC.out i hi
    obtain ⟨b2, off2, da, dc, rfl, hdc, hdr⟩ := HFC.out i (by omega)
    have hS : ∀ j (hj : j < terms.length), (fun j => if h : j < terms.length then bstr terms[j] else bstr t) j = bstr terms[j] := fun j hj => by simp [hj]
    obtain ⟨hI, hIt⟩ := bs_some hr i hi hit (fun j => if h : j < terms.length then bstr terms[j] else bstr t) hS (fun j hj => by simp [Nat.not_lt.2 hj])
    have hbs := Tryd.slices_BinarySearch_string b off terms.length tc (fun j => if h : j < terms.length then bstr terms[j] else bstr t) (bstr t) W (by omega) (fun j hj => by
      obtain ⟨b', off', he, hc⟩ := HTC.out j hj
      simp only [Option.some.injEq, Addr.mk.injEq, and_true] at he
      obtain ⟨rfl, rfl⟩ := he
      rw [hc, dif_pos hj]; rfl)
    rw [hI, decide_eq_true (show i < terms.length ∧ _ from ⟨hi, hIt⟩)] at hbs
    have HBS := Lib.hid hbs
    have hcl : Hid (∀ W', Below W.heap.size W W' → Calls Tryd.prog 42 #[.slice da found[i].length dc] W' (Gives W' 3 1 found[i].length (icells found[i]))) := fun W' hW' => clone_ints_any _ found[i] W' (hdr.below hW') (hfl _ (List.getElem_mem _))
    have HAT : Hid (atL t terms found = found[i]) := hat
    generalize found[i] = ds at *
    obtain ⟨dn, hdn⟩ : ∃ dn, dn = ds.length := ⟨_, rfl⟩
    rw [← hdn] at hcl hdc
    have HDN : Hid (ds.length = dn) := hdn.symm
    have ki : (i : Int) < (found.length : Int) := by omega
    have k0 : (0 : Int) ≤ (i : Int) := by omega
    have HC2 := Lib.hid (fun W' (hW' : Below W.heap.size W W') => And.intro (cell_later hW' c2) (cell_later hW' hdc))
    clear hdn hmem hit hat hS hI hIt hbs hdr hr hlen hfl htv hfv HTC HFC hdc hi
    go_enter Tryd.func40, Tryd.ntmps40
    go_wp2_with (first
      | (go_at_call 41; refine HBS.out.mono ?_; rintro e w1 ⟨rfl, q, hq⟩; have hb1 : Below W.heap.size W w1 := (by rw [hq]; exact below_drewN' q); obtain ⟨g1, g2⟩ := HC2.out w1 hb1; clear hq)
      | (go_at_call 42; refine (hcl.out _ hb1).mono ?_; rintro e w2 ⟨v2, rfl, ho2, hb2⟩))
    go_ret
    rw [HAT.out, HDN.out]
    exact ⟨_, rfl, own_mono ho2 hb1.size, hb1.trans (hb2.mono hb1.size)⟩
  · have hat := atL_none (ds := found) hmem
    have hbs : ∃ I : Nat, Calls Tryd.prog 41 #[.slice ta terms.length tc, .string (bstr t)] W fun e w' => e = .returned (.tuple #[.int .i64 I, .bool false]) ∧ Below W.heap.size W w' := by
      rcases Nat.eq_zero_or_pos terms.length with h0 | h0
      · refine ⟨0, ?_⟩
        rw [h0]
        refine (Tryd.slices_BinarySearch_string_empty ta tc (bstr t) W).mono ?_
        rintro e w' ⟨rfl, rfl⟩
        exact ⟨rfl, Below.refl _ _⟩
      · obtain ⟨b, off, rfl, -⟩ := HTC.out 0 h0
        obtain ⟨Sx, hS⟩ : ∃ Sx : Nat → ByteArray, ∀ j (hj : j < terms.length), Sx j = bstr terms[j] := ⟨fun j => if h : j < terms.length then bstr terms[j] else bstr t, fun j hj => by simp [hj]⟩
        have hbs := Tryd.slices_BinarySearch_string b off terms.length tc Sx (bstr t) W (by omega) (fun j hj => by
          obtain ⟨b', off', he, hc⟩ := HTC.out j hj
          simp only [Option.some.injEq, Addr.mk.injEq, and_true] at he
          obtain ⟨rfl, rfl⟩ := he
          rw [hc, hS j hj]; rfl)
        refine ⟨Lib.bsGo (fun q => Op.bytesLess (Sx q).toList (bstr t).toList) terms.length 0 terms.length, hbs.mono ?_⟩
        rintro e w' ⟨rfl, q, rfl⟩
        exact ⟨by rw [bs_none hmem _ _ hS], below_drewN' q⟩
    obtain ⟨I, hbs⟩ := hbs
    have HBS := Lib.hid hbs
    have HAT := Lib.hid hat
    clear hmem hat hbs hr hlen hfl htv hfv HTC HFC
    go_enter Tryd.func40, Tryd.ntmps40
    go_wp2_with (go_at_call 41; refine HBS.out.mono ?_; rintro e w1 ⟨rfl, hb1⟩)
    go_ret
    rw [HAT.out]
    exact ⟨_, rfl, World.ownsRow_nil _ _ _ _, hb1⟩
end Go.Proofs.YteegbjjpjdlcmaaDoor

/- eval.Run: the walk. -/
set_option linter.unusedVariables false
namespace Go.Proofs.YteegbjjpjdlcmaaDoor
open Go.RowKit Go.Sort

/-- may it be run? -/
def runOK (l : List QOp) (found : List (List Int)) : Bool := qRight l && decide (found.length = (setOf (wordsOf l)).length) && found.all postRight

theorem setOf_len (ws : List (List UInt8)) : (setOf ws).length ≤ ws.length := by
  rw [setOf_sort]
  have := Lib.compact_length_le (ws.mergeSort fun x y => decide (x ≤ y))
  rw [List.length_mergeSort] at this
  exact this

/-- none, and an error. -/
def NoneN (w : World) (e : Ending) (w' : World) : Prop := e = .returned (.tuple #[.slice none 0 0, .int .i64 1]) ∧ Below w.heap.size w w'

set_option maxRecDepth 100000 in
set_option maxHeartbeats 4000000 in
theorem run_no1 (lv fv : Value) (l : List QOp) (found : List (List Int)) (w : World) (ht : Tabs w) (hf : IntsRd w fv found) (h : Rd w lv l.length 2 (ocells l)) (hl : l.length ≤ 100000) (hts : ∀ s ∈ l, s.2.length ≤ 100000) (hks : ∀ s ∈ l, -9223372036854775808 ≤ s.1 ∧ s.1 ≤ 9223372036854775807) (hr : qRight l = false) :
    Calls Tryd.prog 17 #[lv, fv] w (NoneN w) := by
  have hb0 : Below w.heap.size w (w.alloc (.cells #[fv] 39)) := (Below.refl _ _).alloc (Nat.le_refl _) _
  have HQ := qright_any lv l (w.alloc (.cells #[fv] 39)) (ht.below hb0) (h.below hb0) hl hts hks
  rw [hr] at HQ
  have HQR := Lib.hid HQ
  obtain ⟨la, lc, rfl, -⟩ := ops_cells h
  obtain ⟨fa, fc, rfl, -⟩ := ints2_cells hf
  have HB := Lib.hid hb0
  clear HQ ht h hts hks hr hf hb0
  go_enter Tryd.func17, Tryd.ntmps17
  go_wp2_with (go_at_call 37; refine HQR.out.mono ?_; rintro e w1 ⟨rfl, hb1⟩)
  go_ret2
  exact ⟨rfl, HB.out.trans (hb1.mono HB.out.size)⟩

set_option maxRecDepth 100000 in
set_option maxHeartbeats 8000000 in
theorem run_no2 (lv fv : Value) (l : List QOp) (found : List (List Int)) (w : World) (ht : Tabs w) (hf : IntsRd w fv found) (h : Rd w lv l.length 2 (ocells l)) (hl : l.length ≤ 100000) (hts : ∀ s ∈ l, s.2.length ≤ 100000) (hks : ∀ s ∈ l, -9223372036854775808 ≤ s.1 ∧ s.1 ≤ 9223372036854775807) (hr : qRight l = true)
    (hlen : found.length ≠ (setOf (wordsOf l)).length) :
    Calls Tryd.prog 17 #[lv, fv] w (NoneN w) := by
  have hb0 : Below w.heap.size w (w.alloc (.cells #[fv] 39)) := (Below.refl _ _).alloc (Nat.le_refl _) _
  have hnew := heap_alloc_new w (.cells #[fv] 39)
  have c0 : (w.alloc (.cells #[fv] 39)).cell? ⟨w.heap.size, 0, none⟩ = some fv := by rw [cell_of_row _ _ _ _ _ _ hnew]; rfl
  have HQ := qright_any lv l (w.alloc (.cells #[fv] 39)) (ht.below hb0) (h.below hb0) hl hts hks
  rw [hr] at HQ
  have HQR := Lib.hid HQ
  have HQT := Lib.hid (fun W (hW : Below w.heap.size w W) => qterms2_any lv l W (h.below hW) hl)
  have hsl := setOf_len (wordsOf l)
  have hwl := wordsOf_len l
  generalize setOf (wordsOf l) = ts at *
  obtain ⟨la, lc, rfl, -⟩ := ops_cells h
  obtain ⟨fa, fc, rfl, hfm, -⟩ := ints2_cells hf
  have HB := Lib.hid hb0
  have hne : ((found.length : Int) != (ts.length : Int)) = true := by rw [bne_iff_ne]; omega
  generalize found.length = fl at *
  clear HQ ht h hts hks hr hf hb0 hnew hwl hlen
  go_enter Tryd.func17, Tryd.ntmps17
  go_wp2_with (first
    | (go_at_call 37; refine HQR.out.mono ?_; rintro e w1 ⟨rfl, hb1⟩; have B1 := HB.out.trans (hb1.mono HB.out.size); have c1 := cell_later hb1 c0)
    | (go_at_call 38; refine (HQT.out _ B1).mono ?_; rintro e w2 ⟨tv, rfl, hown2, hb2⟩; obtain ⟨ta, tc, rfl⟩ := own_shape hown2; have B2 := B1.trans (hb2.mono B1.size); have hbA : Below w2.heap.size w2 (w2.alloc (.cells #[.slice ta ts.length tc] 75)) := (Below.refl _ _).alloc (Nat.le_refl _) _; have c3 := cell_later (hb2.trans (hbA.mono hb2.size)) c1; clear hown2))
  go_ret2
  exact ⟨rfl, B2.trans (hbA.mono B2.size)⟩
end Go.Proofs.YteegbjjpjdlcmaaDoor

/- eval.Run: the lists as many as the terms. -/
set_option linter.unusedVariables false
namespace Go.Proofs.YteegbjjpjdlcmaaDoor
open Go.RowKit Go.Sort

set_option maxRecDepth 100000 in
set_option maxHeartbeats 8000000 in
theorem run_no3 (lv fv : Value) (l : List QOp) (found : List (List Int)) (w : World) (ht : Tabs w) (hf : IntsRd w fv found) (h : Rd w lv l.length 2 (ocells l)) (hl : l.length ≤ 100000) (hts : ∀ s ∈ l, s.2.length ≤ 100000) (hks : ∀ s ∈ l, -9223372036854775808 ≤ s.1 ∧ s.1 ≤ 9223372036854775807) (hr : qRight l = true)
    (hlen : found.length = (setOf (wordsOf l)).length) (hbad : found.all postRight = false) :
    Calls Tryd.prog 17 #[lv, fv] w (NoneN w) := by
  have hb0 : Below w.heap.size w (w.alloc (.cells #[fv] 39)) := (Below.refl _ _).alloc (Nat.le_refl _) _
  have hnew := heap_alloc_new w (.cells #[fv] 39)
  have c0 : (w.alloc (.cells #[fv] 39)).cell? ⟨w.heap.size, 0, none⟩ = some fv := by rw [cell_of_row _ _ _ _ _ _ hnew]; rfl
  have HQ := qright_any lv l (w.alloc (.cells #[fv] 39)) (ht.below hb0) (h.below hb0) hl hts hks
  rw [hr] at HQ
  have HQR := Lib.hid HQ
  have HQT := Lib.hid (fun W (hW : Below w.heap.size w W) => qterms2_any lv l W (h.below hW) hl)
  have hsl := setOf_len (wordsOf l)
  have hwl := wordsOf_len l
  have hri := rises_setOf (wordsOf l)
  generalize setOf (wordsOf l) = ts at *
  obtain ⟨la, lc, rfl, -⟩ := ops_cells h
  obtain ⟨fa, fc, rfl, hfm, HFC⟩ := ints2_cells hf
  have HB := Lib.hid hb0
  have hne : ((found.length : Int) != (ts.length : Int)) = false := by rw [hlen]; simp
  have HLEN := Lib.hid hlen
  have HBAD := Lib.hid hbad
  clear HQ ht h hts hks hr hf hb0 hnew hwl hlen hsl hri hbad
  go_enter Tryd.func17, Tryd.ntmps17
  go_wp2_with (first
    | (go_at_call 37; refine HQR.out.mono ?_; rintro e w1 ⟨rfl, hb1⟩; have B1 := HB.out.trans (hb1.mono HB.out.size); have c1 := cell_later hb1 c0)
    | (go_at_call 38; refine (HQT.out _ B1).mono ?_; rintro e w2 ⟨tv, rfl, hown2, hb2⟩; obtain ⟨ta, tc, rfl⟩ := own_shape hown2; have B2 := B1.trans (hb2.mono B1.size); have hbA : Below w2.heap.size w2 (w2.alloc (.cells #[.slice ta ts.length tc] 75)) := (Below.refl _ _).alloc (Nat.le_refl _) _; have c3 := cell_later (hb2.trans (hbA.mono hb2.size)) c1; have HOW := Lib.hid hown2; clear hown2))
  have hnA := heap_alloc_new w2 (.cells #[.slice ta ts.length tc] 75)
  have c4 : (w2.alloc (.cells #[.slice ta ts.length tc] 75)).cell? ⟨w2.heap.size, 0, none⟩ = some (.slice ta ts.length tc) := by rw [cell_of_row _ _ _ _ _ _ hnA]; rfl
  have BA := B2.trans (hbA.mono B2.size)
  have HOA := Lib.hid (own_below HOW.out hbA)
  generalize (w2.alloc (.cells #[.slice ta ts.length tc] 75)) = WA at *
  generalize w2.heap.size = tp at *
  clear hnA
  go_loopw [22] (fun i wr => ∃ k : Nat, k ≤ found.length ∧ i = .int .i64 k ∧ Hid (∀ j (hj : j < found.length), j < k → postRight found[j] = true) ∧ Below WA.heap.size WA wr) (fun i _ => found.length - (intOf i).toNat)
  case atStart => exact ⟨0, Nat.zero_le _, rfl, fun j hj h => by omega, Below.refl _ _⟩
  case round =>
    obtain ⟨k, hk, rfl, HA, hbel⟩ := hrel
    by_cases hlt : k < found.length
    · obtain ⟨b, off, da, dc, rfl, hc0, hdr⟩ := HFC.out k hlt
      have hcur := cell_later (BA.trans (hbel.mono BA.size)) hc0
      have ki : (k : Int) < (found.length : Int) := by omega
      have k0 : (0 : Int) ≤ (k : Int) := by omega
      have hpr := postright_any (.slice da found[k].length dc) found[k].length found[k] wr rfl (hdr.below (BA.trans (hbel.mono BA.size)))
      generalize found[k].length = dn at *
      cases hp : postRight found[k] with
      | true =>
        rw [hp] at hpr
        have HPR := Lib.hid hpr
        have HX : Hid (∀ j (hj : j < found.length), j < k + 1 → postRight found[j] = true) := fun j hj h => by
          by_cases e : j = k
          · subst e; exact hp
          · exact HA.out j hj (by omega)
        clear hpr hp hdr hc0
        go_wp2_with (go_at_call 39; refine HPR.out.mono ?_; rintro e w5 ⟨rfl, rfl⟩)
        go_roundw
        case rel => exact ⟨k + 1, by omega, by go_num, HX.out, hbel⟩
        case measure => simp [intOf]; omega
      | false =>
        rw [hp] at hpr
        have HPR := Lib.hid hpr
        clear hpr hp hdr hc0
        go_wp2_with (go_at_call 39; refine HPR.out.mono ?_; rintro e w5 ⟨rfl, rfl⟩)
        go_ret2
        exact ⟨rfl, BA.trans (hbel.mono BA.size)⟩
    · exfalso
      have : found.all postRight = true := by
        rw [List.all_eq_true]
        intro d hd
        obtain ⟨j, hj, rfl⟩ := List.mem_iff_getElem.1 hd
        exact HA.out j hj (by omega)
      rw [HBAD.out] at this
      cases this

set_option maxRecDepth 100000 in
set_option maxHeartbeats 8000000 in
theorem run_yes (lv fv : Value) (l : List QOp) (found : List (List Int)) (w : World) (ht : Tabs w) (hf : IntsRd w fv found) (h : Rd w lv l.length 2 (ocells l)) (hl : l.length ≤ 100000) (hts : ∀ s ∈ l, s.2.length ≤ 100000) (hks : ∀ s ∈ l, -9223372036854775808 ≤ s.1 ∧ s.1 ≤ 9223372036854775807) (hr : qRight l = true)
    (hlen : found.length = (setOf (wordsOf l)).length) (hgood : found.all postRight = true) :
    Calls Tryd.prog 17 #[lv, fv] w (GivesN w (runF l found)) := by
  have hb0 : Below w.heap.size w (w.alloc (.cells #[fv] 39)) := (Below.refl _ _).alloc (Nat.le_refl _) _
  have hnew := heap_alloc_new w (.cells #[fv] 39)
  have c0 : (w.alloc (.cells #[fv] 39)).cell? ⟨w.heap.size, 0, none⟩ = some fv := by rw [cell_of_row _ _ _ _ _ _ hnew]; rfl
  have HQ := qright_any lv l (w.alloc (.cells #[fv] 39)) (ht.below hb0) (h.below hb0) hl hts hks
  rw [hr] at HQ
  have HQR := Lib.hid HQ
  have HQT := Lib.hid (fun W (hW : Below w.heap.size w W) => qterms2_any lv l W (h.below hW) hl)
  have hsl := setOf_len (wordsOf l)
  have hwl := wordsOf_len l
  have hri := rises_setOf (wordsOf l)
  have hgd : ∀ d ∈ found, postRight d = true := List.all_eq_true.1 hgood
  have hmf : ∀ (fn : Fn) (first cap : Array Value) (w : World), (Instr.makeFunc fn first cap).run Tryd.prog w = .ok (.func fn first cap) w := fun _ _ _ _ => rfl
  have HRF : Hid (runF l found = evL (fun t => atL t (setOf (wordsOf l)) found) opI [] l) := rfl
  generalize setOf (wordsOf l) = ts at *
  have HPF : Hid (∀ (tp : Nat) (tv : Value) (W : World), Below w.heap.size w W → Rd W tv ts.length 1 (scells ts) → W.cell? ⟨tp, 0, none⟩ = some tv → W.cell? ⟨w.heap.size, 0, none⟩ = some fv →
      Calls Tryd.prog 43 #[lv, .agg #[.func (.func 40) #[] #[.pointer (some ⟨tp, 0, none⟩), .pointer (some ⟨w.heap.size, 0, none⟩)], .func (.func 44) #[] #[], .func (.func 45) #[] #[], .func (.func 46) #[] #[]]] W (Gives W 3 1 (evL (fun t => atL t ts found) opI [] l).length (icells (evL (fun t => atL t ts found) opI [] l)))) :=
    fun tp tv W hW hrd hc1 hc2 => performI_any tp w.heap.size lv l (fun t => atL t ts found) W (h.below hW) hl hr (fun t => atL_right hgd)
      (fun t W' _ hW' => run1_any tp w.heap.size tv fv ts found t W' hri hlen (by omega) (fun d hd => by have := postRight_len (hgd d hd); omega) (hrd.below hW') ((hf.below hW).below hW') (cell_later hW' hc1) (cell_later hW' hc2))
  obtain ⟨la, lc, rfl, -⟩ := ops_cells h
  obtain ⟨fa, fc, rfl, hfm, HFC⟩ := ints2_cells hf
  have HB := Lib.hid hb0
  have hne : ((found.length : Int) != (ts.length : Int)) = false := by rw [hlen]; simp
  have HGD := Lib.hid hgd
  generalize evL (fun t => atL t ts found) opI [] l = r at *
  clear HQ ht h hts hks hr hf hb0 hnew hwl hlen hsl hri hgood hgd
  go_enter Tryd.func17, Tryd.ntmps17
  go_wp2_with (first
    | (go_at_call 37; refine HQR.out.mono ?_; rintro e w1 ⟨rfl, hb1⟩; have B1 := HB.out.trans (hb1.mono HB.out.size); have c1 := cell_later hb1 c0)
    | (go_at_call 38; refine (HQT.out _ B1).mono ?_; rintro e w2 ⟨tv, rfl, hown2, hb2⟩; obtain ⟨ta, tc, rfl⟩ := own_shape hown2; have B2 := B1.trans (hb2.mono B1.size); have hbA : Below w2.heap.size w2 (w2.alloc (.cells #[.slice ta ts.length tc] 75)) := (Below.refl _ _).alloc (Nat.le_refl _) _; have c3 := cell_later (hb2.trans (hbA.mono hb2.size)) c1; have HOW := Lib.hid hown2; clear hown2))
  have hnA := heap_alloc_new w2 (.cells #[.slice ta ts.length tc] 75)
  have c4 : (w2.alloc (.cells #[.slice ta ts.length tc] 75)).cell? ⟨w2.heap.size, 0, none⟩ = some (.slice ta ts.length tc) := by rw [cell_of_row _ _ _ _ _ _ hnA]; rfl
  have BA := B2.trans (hbA.mono B2.size)
  have HOA := Lib.hid (own_below HOW.out hbA)
  generalize (w2.alloc (.cells #[.slice ta ts.length tc] 75)) = WA at *
  generalize w2.heap.size = tp at *
  clear hnA
  go_loopw [22] (fun i wr => ∃ k : Nat, k ≤ found.length ∧ i = .int .i64 k ∧ Hid (∀ j (hj : j < found.length), j < k → postRight found[j] = true) ∧ Below WA.heap.size WA wr) (fun i _ => found.length - (intOf i).toNat)
  case atStart => exact ⟨0, Nat.zero_le _, rfl, fun j hj h => by omega, Below.refl _ _⟩
  case round =>
    obtain ⟨k, hk, rfl, HA, hbel⟩ := hrel
    by_cases hlt : k < found.length
    · obtain ⟨b, off, da, dc, rfl, hc0, hdr⟩ := HFC.out k hlt
      have hcur := cell_later (BA.trans (hbel.mono BA.size)) hc0
      have ki : (k : Int) < (found.length : Int) := by omega
      have k0 : (0 : Int) ≤ (k : Int) := by omega
      have hpr := postright_any (.slice da found[k].length dc) found[k].length found[k] wr rfl (hdr.below (BA.trans (hbel.mono BA.size)))
      generalize found[k].length = dn at *
      have hp : postRight found[k] = true := HGD.out _ (List.getElem_mem _)
      rw [hp] at hpr
      have HPR := Lib.hid hpr
      have HX : Hid (∀ j (hj : j < found.length), j < k + 1 → postRight found[j] = true) := fun j hj h => by
        by_cases e : j = k
        · subst e; exact hp
        · exact HA.out j hj (by omega)
      clear hpr hp hdr hc0
      go_wp2_with (go_at_call 39; refine HPR.out.mono ?_; rintro e w5 ⟨rfl, rfl⟩)
      go_roundw
      case rel => exact ⟨k + 1, by omega, by go_num, HX.out, hbel⟩
      case measure => simp [intOf]; omega
    · have ki : ¬ (k : Int) < (found.length : Int) := by omega
      have BR := BA.trans (hbel.mono BA.size)
      have HPC := Lib.hid (HPF.out tp _ wr BR ((Rd.of_own HOA.out).below hbel) (cell_later hbel c4) (cell_later hbel c3))
      clear hk HA hlt
      go_wp2_with (go_at_call 43; refine HPC.out.mono ?_; rintro e w6 ⟨v6, rfl, hown6, hb6⟩)
      go_ret2
      exact ⟨_, rfl, by rw [HRF.out]; exact own_mono hown6 BR.size, BR.trans (hb6.mono BR.size)⟩
end Go.Proofs.YteegbjjpjdlcmaaDoor
