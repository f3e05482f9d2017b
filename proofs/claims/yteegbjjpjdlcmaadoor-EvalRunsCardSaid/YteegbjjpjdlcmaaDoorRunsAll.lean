/- Sorted17, Terms16, PickLaw, Lower17, Pick09, Run17, Fair17: in one text. -/
import Derived.Test.YteegbjjpjdlcmaaDoorRunAll
import Derived.Test.YteegbjjpjdlcmaaDoorSetLaw
import Derived.Sort.Walk0
import Derived.WalkLawsBesides
import Derived.Test.YteegbjjpjdlcmaaDoorAs17
import Derived.Test.YteegbjjpjdlcmaaDoorPerfI
import Derived.Test.YteegbjjpjdlcmaaDoorGreat17
import Derived.Test.YteegbjjpjdlcmaaDoorRefDict
import Derived.Test.YteegbjjpjdlcmaaDoorRef16
import Derived.Test.YteegbjjpjdlcmaaDoorEvalLaw2
/- rubrickref05.least, Sorted. -/
set_option linter.unusedVariables false
namespace Go.Proofs.YteegbjjpjdlcmaaDoor
open Go.RowKit Go.Sort

theorem less_is (x y : List UInt8) : Op.bytesLess (bstr x).toList (bstr y).toList = ltStr x y := by
  rw [btoList, btoList, bytesLess_eq]; rfl

theorem strs_cells {w : World} {v : Value} {l : List (List UInt8)} (h : Rd w v l.length 1 (scells l)) :
    ∃ ao c, v = .slice ao l.length c ∧ l.length ≤ 9223372036854775807 ∧ Hid (∀ i (hi : i < l.length), ∃ b off, ao = some ⟨b, off, none⟩ ∧ w.cell? ⟨b, off + i, none⟩ = some (str l[i])) := by
  obtain ⟨-, hm, ⟨ao, c, rfl, h0⟩ | ⟨b, off, c, rfl, -, -, -, h3⟩⟩ := h
  · exact ⟨ao, c, by rw [h0], by omega, fun i hi => by omega⟩
  · exact ⟨_, c, rfl, by unfold maxLen at hm; omega, fun i hi => ⟨b, off, rfl, h3 i _ (by simp [scells, hi])⟩⟩
theorem strs_cells' {w : World} {v : Value} {l : List (List UInt8)} {n : Nat} (hln : l.length = n) (h : Rd w v n 1 (scells l)) :
    ∃ ao c, v = .slice ao n c ∧ n ≤ 9223372036854775807 ∧ Hid (∀ i (hi : i < l.length), ∃ b off, ao = some ⟨b, off, none⟩ ∧ w.cell? ⟨b, off + i, none⟩ = some (str l[i])) := by
  subst hln
  exact strs_cells h

def LeastIs (l : List (List UInt8)) (w : World) (e : Ending) (w' : World) : Prop := ∃ (m : Nat) (hm : m < l.length), e = .returned (.int .i64 m) ∧ (∀ j (hj : j < l.length), ltStr l[j] l[m] = false) ∧ Below w.heap.size w w'

set_option maxRecDepth 100000 in
set_option maxHeartbeats 4000000 in
theorem rleast05_any (v : Value) (n : Nat) (l : List (List UInt8)) (w : World) (hln : l.length = n) (h : Rd w v n 1 (scells l)) (h0 : 0 < n) :
    Calls Tryd.prog 100 #[v] w (LeastIs l w) := by
  obtain ⟨ao, c, rfl, hm, HC⟩ := strs_cells' hln h
  have HLN := Lib.hid hln
  have mixed : Tryd.prog.follows .mixedOrders = true := by kernel_rfl
  clear h hln
  go_enter Tryd.func100, Tryd.ntmps100
  go_wp2
  go_loopw [3, 4] (fun mv i wr => ∃ (k m : Nat) (hml : m < l.length), k ≤ n ∧ 1 ≤ k ∧ mv = .int .i64 m ∧ i = .int .i64 k ∧ Hid (∀ j (hj : j < l.length), j < k → ltStr l[j] l[m] = false) ∧ Below w.heap.size w wr) (fun _ i _ => n - (intOf i).toNat)
  case atStart => exact ⟨1, 0, by have := HLN.out; omega, h0, Nat.le_refl _, rfl, rfl, fun j hj h1 => by obtain rfl : j = 0 := (by omega); exact swo_ltStr.irrefl _, Below.refl _ _⟩
  case round =>
    obtain ⟨k, m, hml, hk, hk1, rfl, rfl, HT, hbel⟩ := hrel
    have hmn : m < n := by have := HLN.out; omega
    by_cases hlt : k < n
    · have hkl : k < l.length := by have := HLN.out; omega
      obtain ⟨b, off, rfl, c1⟩ := HC.out k hkl
      obtain ⟨b', off', he, c2⟩ := HC.out m hml
      simp only [Option.some.injEq, Addr.mk.injEq, and_true] at he
      obtain ⟨rfl, rfl⟩ := he
      have r1 := cell_regrown (cell_later hbel c1)
      have r2 := cell_regrown (cell_later hbel c2)
      have i1 : (k : Int) < (n : Int) := by omega
      have i2 : (0 : Int) ≤ (k : Int) := by omega
      have i3 : (m : Int) < (n : Int) := by omega
      have i4 : (0 : Int) ≤ (m : Int) := by omega
      have hl := less_is l[k] l[m]
      have HY : Hid (ltStr l[k] l[m] = true → ∀ j (hj : j < l.length), j < k + 1 → ltStr l[j] l[k] = false) := fun h j hj h1 => by
        by_cases e : j = k
        · subst e; exact swo_ltStr.irrefl _
        · exact swo_ltStr.ntrans _ _ _ (HT.out j hj (by omega)) (swo_ltStr.asymmA h)
      have HZ : Hid (ltStr l[k] l[m] = false → ∀ j (hj : j < l.length), j < k + 1 → ltStr l[j] l[m] = false) := fun h j hj h1 => by
        by_cases e : j = k
        · subst e; exact h
        · exact HT.out j hj (by omega)
      cases hb : ltStr l[k] l[m] with
      | true =>
        have HY2 := Lib.hid (HY.out hb)
        rw [hb] at hl
        obtain ⟨tx, hx⟩ : ∃ t, t = l[k] := ⟨_, rfl⟩
        obtain ⟨ty, hy⟩ : ∃ t, t = l[m] := ⟨_, rfl⟩
        rw [← hx] at r1 hl
        rw [← hy] at r2 hl
        unfold str at r1 r2
        clear c1 c2 HY HZ hb hx hy
        go_wp2_with fail
        refine wp_region_quiet_below mixed (by kernel_rfl) ?_
        repeat (go_big_quiet_step (fail))
        refine wpQuiet_nil ?_
        intro W2 hw'
        obtain ⟨⟨dq, osq⟩, hw''⟩ := hw'
        have hbq := hbel.trans ((below_regrown wr dq osq).mono hbel.size)
        rw [← hw''] at hbq
        clear hw'' r1 r2
        go_wp2
        go_roundw
        case rel => exact ⟨k + 1, k, hkl, by omega, by omega, rfl, by go_num, HY2.out, hbq⟩
        case measure => simp [intOf]; omega
      | false =>
        have HZ2 := Lib.hid (HZ.out hb)
        rw [hb] at hl
        obtain ⟨tx, hx⟩ : ∃ t, t = l[k] := ⟨_, rfl⟩
        obtain ⟨ty, hy⟩ : ∃ t, t = l[m] := ⟨_, rfl⟩
        rw [← hx] at r1 hl
        rw [← hy] at r2 hl
        unfold str at r1 r2
        clear c1 c2 HY HZ hb hx hy
        go_wp2_with fail
        refine wp_region_quiet_below mixed (by kernel_rfl) ?_
        repeat (go_big_quiet_step (fail))
        refine wpQuiet_nil ?_
        intro W2 hw'
        obtain ⟨⟨dq, osq⟩, hw''⟩ := hw'
        have hbq := hbel.trans ((below_regrown wr dq osq).mono hbel.size)
        rw [← hw''] at hbq
        clear hw'' r1 r2
        go_wp2
        go_roundw
        case rel => exact ⟨k + 1, m, hml, by omega, by omega, rfl, by go_num, HZ2.out, hbq⟩
        case measure => simp [intOf]; omega
    · have i1 : ¬ (k : Int) < (n : Int) := by omega
      go_wp2
      go_ret
      exact ⟨m, hml, rfl, fun j hj => HT.out j hj (by have := HLN.out; omega), hbel⟩

/-! ### Sorted -/
def SelInv (out l' l : List (List UInt8)) : Prop := Rises ltStr out ∧ (∀ x ∈ out, ∀ y ∈ l', ltStr x y = true) ∧ ∀ t, (t ∈ out ∨ t ∈ l') ↔ t ∈ l

theorem SelInv.start (l : List (List UInt8)) : SelInv [] l l := ⟨List.Pairwise.nil, by simp, by simp⟩
theorem SelInv.done {out l : List (List UInt8)} (h : SelInv out [] l) : out = setOf l := setOf_unique h.1 fun t => by have := h.2.2 t; simpa using this
theorem SelInv.step {out l' l : List (List UInt8)} {s : List UInt8} (hs : s ∈ l') (hmin : ∀ y ∈ l', ltStr y s = false) (h : SelInv out l' l) : SelInv (out ++ [s]) (l'.filter (· != s)) l := by
  obtain ⟨h1, h2, h3⟩ := h
  refine ⟨?_, ?_, ?_⟩
  · refine List.pairwise_append.2 ⟨h1, by simp, fun x hx y hy => ?_⟩
    obtain rfl := List.mem_singleton.1 hy
    exact h2 x hx _ hs
  · intro x hx y hy
    obtain ⟨hy1, hy2⟩ := List.mem_filter.1 hy
    rcases List.mem_append.1 hx with hx | hx
    · exact h2 x hx y hy1
    · obtain rfl := List.mem_singleton.1 hx
      have hne : y ≠ x := by simpa using hy2
      cases h4 : ltStr x y with
      | true => rfl
      | false => exact absurd (totStr y x (hmin y hy1) h4) hne
  · intro t
    rw [← h3 t, List.mem_append, List.mem_singleton, List.mem_filter]
    constructor
    · rintro ((h | rfl) | h)
      · exact .inl h
      · exact .inr hs
      · exact .inr h.1
    · rintro (h | h)
      · exact .inl (.inl h)
      · by_cases e : t = s
        · exact .inl (.inr e)
        · exact .inr ⟨h, by simpa using e⟩

theorem filter_lt {l : List (List UInt8)} {s : List UInt8} (hs : s ∈ l) : (l.filter (· != s)).length < l.length := by
  rw [List.length_filter_lt_length_iff_exists]
  exact ⟨s, hs, by simp⟩

theorem Rd.kept {w w' : World} {v : Value} {n sz : Nat} {cells : List Value} {r : Option Nat} (h : Rd w v n sz cells) (hg : w.grownBy w' r) (hne : ∀ a m c, v = .slice (some a) m c → some a.block ≠ r) : Rd w' v n sz cells := by
  obtain ⟨h1, hm, h2⟩ := h
  refine ⟨h1, hm, ?_⟩
  rcases h2 with h2 | ⟨b, off, c, hv, h3, h4, h5, h6⟩
  · exact .inl h2
  · refine .inr ⟨b, off, c, hv, h3, h4, h5, fun i u hi => ?_⟩
    have h7 := h6 i u hi
    rw [World.cell?_of_block (hg.block b (World.block_lt_of_cell? w _ h7) (hne _ _ _ hv))]
    exact h7

/-- two slices that lie apart. -/
def Apart (v o : Value) : Prop := ∀ a m c, v = .slice (some a) m c → some a.block ≠ o.ownBlock

theorem mem_min {l : List (List UInt8)} {m : Nat} (hm : m < l.length) (h : ∀ j (hj : j < l.length), ltStr l[j] l[m] = false) : ∀ y ∈ l, ltStr y l[m] = false := by
  intro y hy
  obtain ⟨j, hj, rfl⟩ := List.mem_iff_getElem.1 hy
  exact h j hj

theorem filter_snoc (l : List (List UInt8)) (s : List UInt8) (k : Nat) (hk : k < l.length) : (l.take (k + 1)).filter (· != s) = (l.take k).filter (· != s) ++ (if l[k] = s then [] else [l[k]]) := by
  rw [List.take_succ_eq_append_getElem hk, List.filter_append]
  congr 1
  by_cases h : l[k] = s <;> simp [h]

theorem rd_form {w : World} {ao : Option Addr} {c n : Nat} {l : List (List UInt8)} (hln : l.length = n) (h : Rd w (.slice ao n c) n 1 (scells l)) (h0 : 0 < n) :
    ∃ b off, ao = some ⟨b, off, none⟩ ∧ n ≤ c ∧ c ≤ maxLen ∧ ∀ i (hi : i < l.length), w.cell? ⟨b, off + i, none⟩ = some (str l[i]) := by
  obtain ⟨-, -, ⟨ao', c', hv, h0'⟩ | ⟨b, off, c', hv, -, h2, h3, h4⟩⟩ := h
  · omega
  · simp only [Value.slice.injEq] at hv
    obtain ⟨rfl, -, rfl⟩ := hv
    exact ⟨b, off, rfl, h2, h3, fun i hi => h4 i _ (by simp [scells, hi])⟩

set_option maxRecDepth 100000 in
set_option maxHeartbeats 8000000 in
theorem rsorted_any (v : Value) (n : Nat) (l : List (List UInt8)) (w : World) (hln : l.length = n) (h : Rd w v n 1 (scells l)) (hn : n ≤ 100000) :
    Calls Tryd.prog 74 #[v] w (Gives w 9 1 (setOf l).length (scells (setOf l))) := by
  obtain ⟨j0, hj, hy0, hy1, hy2⟩ := info_parts infoStr
  obtain ⟨ao0, c0, rfl⟩ : ∃ ao c, v = .slice ao n c := by
    obtain ⟨a, c, h, -⟩ := strs_cells' hln h
    exact ⟨a, c, h⟩
  have HR := Lib.hid h
  have HLN := Lib.hid hln
  clear h hln
  go_enter Tryd.func74, Tryd.ntmps74
  go_wp2
  go_loopw [0, 3] (fun lv o wr => ∃ (q m : Nat) (l' out : List (List UInt8)), Hid (l'.length = q ∧ out.length = m) ∧ q + m ≤ n ∧ Hid (Rd wr lv q 1 (scells l')) ∧ lenOf lv = q ∧ wr.ownsRow w.heap.size 9 1 o m (scells out) ∧ Hid (Apart lv o) ∧ Hid (SelInv out l' l) ∧ Below w.heap.size w wr) (fun lv _ _ => lenOf lv)
  case atStart =>
    refine ⟨n, 0, l, [], ⟨HLN.out, rfl⟩, Nat.le_refl _, HR.out, rfl, World.ownsRow_nil _ _ _ _, ?_, SelInv.start l, Below.refl _ _⟩
    intro a m c _ h
    simp [Value.ownBlock] at h
  case round =>
    obtain ⟨q, m, l', out, HL, hqm, HRD, hlv, hown, HA, HI, hbel⟩ := hrel
    obtain ⟨la, lc, rfl⟩ : ∃ ao c, u0 = .slice ao q c := by
      obtain ⟨a, c, h, -⟩ := strs_cells' HL.out.1 HRD.out
      exact ⟨a, c, h⟩
    have hsz := hbel.size
    rcases Nat.eq_zero_or_pos q with h0 | h0
    · subst h0
      have hfin : Hid (setOf l = out) := by
        have hx : l' = [] := List.length_eq_zero_iff.1 HL.out.1
        have := HI.out
        rw [hx] at this
        exact this.done.symm
      go_wp2
      go_ret
      rw [hfin.out]
      exact ⟨_, rfl, by rw [HL.out.2]; exact hown, hbel⟩
    · have i0 : (0 : Int) < (q : Int) := by omega
      have HLS := Lib.hid (rleast05_any _ q l' wr HL.out.1 HRD.out h0)
      clear hlv
      obtain ⟨oa, oc, rfl⟩ := own_shape hown
      have hNs : ∀ s : List UInt8, ∀ u ∈ [Value.string (bstr s)], u.oneCell' = true := by intro s u hu; simp at hu; subst hu; rfl
      have HNs := Lib.hid hNs
      clear hNs
      have hml1 : m ≤ 100000 := by omega
      go_wp2_with (first | (at_builtin; refine wpList_app rfl _ _ _ _ rfl w.heap.size 9 j0 _ 1 16 Tryd.underlying75 hj hy0 hy1 hy2 rfl (.slice oa m oc) m _ rfl ((own_below' hown hb1).alloc _) _ 1 [Value.string (bstr s)] rfl (src_new Tryd.underlying75 w1 _ 1 1 1 rfl (HNs.out s)) (by unfold maxLen; omega) (by omega) (by have := hb1.size; simp; omega) ?_; intro v2 w2 hown2 hgr2 hob2 _; have hbA : Below wr.heap.size wr (w1.alloc (.cells #[Value.string (bstr s)] 9)) := hb1.alloc hb1.size _; have HRD2 := Lib.hid ((HRD.out.below hbA).kept hgr2 HA.out); have hB2 : Below w.heap.size w w2 := ((hbel.trans (hb1.mono hsz)).alloc (by have := hb1.size; omega) _).grown hgr2 (by have := hb1.size; simp; omega) (fun j hj => (hown.lt j hj).1); clear hgr2) | (go_at_call 100; refine HLS.out.mono ?_; rintro e w1 ⟨ml, hml, rfl, hmin, hb1⟩; have hmq : ml < q := (by have := HL.out.1; omega); obtain ⟨b, off, rfl, cs0, hcm, hcl⟩ := rd_form HL.out.1 HRD.out h0; have c1 := cell_later hb1 (hcl ml hml); have hmi : (ml : Int) < (q : Int) := (by omega); have HMIN := Lib.hid (mem_min hml hmin); have HMEM := Lib.hid (List.getElem_mem hml); obtain ⟨s, hs⟩ : ∃ s, s = l'[ml] := ⟨_, rfl⟩; rw [← hs] at c1 HMIN HMEM; have HCL := Lib.hid hcl; clear hcl hmin hs; unfold str at c1))
      have hO2 := Lib.hid hown2
      have HOB := Lib.hid hob2
      have HB2 := Lib.hid hB2
      have hsz2 := hB2.size
      clear hown2 hob2 hbA hB2 hown c1 hb1
      obtain ⟨b2, off2, hbo, -, -, hcl2⟩ := rd_form HL.out.1 HRD2.out h0
      simp only [Option.some.injEq, Addr.mk.injEq, and_true] at hbo
      obtain ⟨rfl, rfl⟩ := hbo
      have HC2 := Lib.hid hcl2
      clear hcl2
      go_loopw [5, 6] (fun rv iv W => ∃ k : Nat, k ≤ q ∧ iv = .int .i64 k ∧ W.ownsRow w2.heap.size 9 1 rv ((l'.take k).filter (· != s)).length (scells ((l'.take k).filter (· != s))) ∧ Below w2.heap.size w2 W) (fun _ iv _ => q - (intOf iv).toNat)
      case atStart => exact ⟨0, Nat.zero_le _, rfl, World.ownsRow_nil _ _ _ _, Below.refl _ _⟩
      case round =>
        obtain ⟨k, hk, rfl, hownR, hbelR⟩ := hrel
        have hszR := hbelR.size
        obtain ⟨ra, rc, rfl⟩ := own_shape hownR
        by_cases hkq : k < q
        · have hkl : k < l'.length := by have := HL.out.1; omega
          have c1 := cell_later hbelR (HC2.out k hkl)
          have ki : (k : Int) < (q : Int) := by omega
          have HF := Lib.hid (filter_snoc l' s k hkl)
          have hfl : ((l'.take k).filter (· != s)).length ≤ 100000 := by
            have h1 := List.length_filter_le (· != s) (l'.take k)
            rw [List.length_take] at h1
            omega
          generalize (l'.take k).filter (· != s) = fl at *
          obtain ⟨t, ht⟩ : ∃ t, t = l'[k] := ⟨_, rfl⟩
          have e1 := btoList t
          have e2 := btoList s
          by_cases hts : t = s
          · have n1 : ((bstr t).toList == (bstr s).toList) = true := by rw [hts]; exact beq_self_eq_true _
            have HF2 : Hid ((l'.take (k + 1)).filter (· != s) = fl) := by show _ = _; rw [HF.out, ← ht, if_pos hts, List.append_nil]
            rw [← ht] at c1
            unfold str at c1
            clear hts ht e1 e2
            go_wp2
            go_roundw
            case rel => exact ⟨k + 1, by omega, by go_num, by rw [HF2.out]; exact hownR, hbelR⟩
            case measure => simp [intOf]; omega
          · have n1 : ((bstr t).toList == (bstr s).toList) = false := by rw [e1, e2]; simpa using hts
            have HF2 : Hid ((l'.take (k + 1)).filter (· != s) = fl ++ [t]) := by show _ = _; rw [HF.out, ← ht, if_neg hts]
            rw [← ht] at c1
            unfold str at c1
            clear hts ht e1 e2
            go_wp2_with (at_builtin; refine wpList_app rfl _ _ _ _ rfl w2.heap.size 9 j0 _ 1 16 Tryd.underlying75 hj hy0 hy1 hy2 rfl (.slice ra fl.length rc) fl.length _ rfl (hownR.alloc _) _ 1 [Value.string (bstr t)] rfl (src_new Tryd.underlying75 wr _ 1 1 1 rfl (HNs.out t)) (by unfold maxLen; omega) (by omega) (by simp; omega) ?_; intro v3 w3 hown3 hgr3 _ _)
            have hB3 : Below w2.heap.size w2 w3 := (hbelR.alloc hszR _).grown hgr3 (by simp; omega) (fun j hj => (hownR.lt j hj).1)
            clear hgr3
            go_wp2
            go_roundw
            case rel => exact ⟨k + 1, by omega, by go_num, by rw [HF2.out, List.length_append, scells_append]; exact hown3, hB3⟩
            case measure => simp [intOf]; omega
        · have hke : k = q := by omega
          subst hke
          have ki : ¬ (k : Int) < (k : Int) := by omega
          rw [show l'.take k = l' from List.take_of_length_le (by have := HL.out.1; omega)] at hownR ⊢
          have hlt := filter_lt HMEM.out
          have hql := HL.out.1
          have hSI := Lib.hid (SelInv.step HMEM.out HMIN.out HI.out)
          go_wp2
          go_roundw
          case rel =>
            refine ⟨(l'.filter (· != s)).length, m + 1, l'.filter (· != s), out ++ [s], ⟨rfl, by rw [List.length_append, HL.out.2]; rfl⟩, by omega, Rd.of_own hownR, rfl, ?_, ?_, hSI.out, HB2.out.trans (hbelR.mono hsz2)⟩
            · rw [scells_append]
              exact own_below' hO2.out hbelR
            · intro a mm cc hv hbk
              have h1 := hownR.lt a.block (by rw [hv]; rfl)
              have h2 := hO2.out.lt a.block hbk.symm
              omega
          case measure => show (l'.filter (· != s)).length < k; omega
end Go.Proofs.YteegbjjpjdlcmaaDoor

/- rubrickref16.Terms. -/
set_option linter.unusedVariables false
namespace Go.Proofs.YteegbjjpjdlcmaaDoor
open Go.RowKit Go.Sort

/-- it returns a row that can be read. -/
def GivesRd (w : World) (n sz : Nat) (cells : List Value) (e : Ending) (w' : World) : Prop := ∃ v, e = .returned v ∧ Rd w' v n sz cells ∧ Below w.heap.size w w'

set_option maxRecDepth 100000 in
set_option maxHeartbeats 4000000 in
theorem rterms16_any (v : Value) (n : Nat) (l : List QOp) (w : World) (hln : l.length = n) (h : Rd w v n 2 (ocells l)) (hn : n ≤ 100000) :
    Calls Tryd.prog 47 #[v] w (GivesRd w (setOf (wordsOf l)).length 1 (scells (setOf (wordsOf l)))) := by
  subst hln
  obtain ⟨j0, hj, hy0, hy1, hy2⟩ := info_parts infoStr
  obtain ⟨ao, c, rfl, hm, hcell⟩ := ops_cells h
  have HC := Lib.hid hcell
  have HN2 : Hid (∀ tt : List UInt8, ∀ u ∈ [Value.string (bstr tt)], u.oneCell' = true) := by intro tt u hu; simp at hu; subst hu; rfl
  clear hcell h hm
  go_enter Tryd.func47, Tryd.ntmps47
  go_wp2
  go_loopw [3, 4] (fun o i wr => ∃ k : Nat, k ≤ l.length ∧ i = .int .i64 k ∧ wr.ownsRow w.heap.size 9 1 o (wordsOf (l.take k)).length (scells (wordsOf (l.take k))) ∧ Below w.heap.size w wr) (fun _ i _ => l.length - (intOf i).toNat)
  case atStart => exact ⟨0, Nat.zero_le _, rfl, World.ownsRow_nil _ _ _ _, Below.refl _ _⟩
  case round =>
    obtain ⟨k, hk, rfl, hown, hbel⟩ := hrel
    have hsz := hbel.size
    obtain ⟨xa, xc, rfl⟩ := own_shape hown
    by_cases hlt : k < l.length
    · obtain ⟨b, off, rfl, h1, h2⟩ := HC.out k hlt
      have c1 := (hbel.cell (World.block_lt_of_cell? w _ h1)).trans h1
      have c2 := (hbel.cell (World.block_lt_of_cell? w _ h2)).trans h2
      have htk : wordsOf (l.take (k + 1)) = if l[k].1 = 0 then wordsOf (l.take k) ++ [l[k].2] else wordsOf (l.take k) := by rw [List.take_succ_eq_append_getElem hlt, wordsOf_snoc]
      have hwl : (wordsOf (l.take k)).length ≤ 100000 := by have := wordsOf_len (l.take k); rw [List.length_take] at this; omega
      have ki : (k : Int) < (l.length : Int) := by omega
      have k0 : (0 : Int) ≤ (k : Int) := by omega
      obtain ⟨⟨kk, tt⟩, hx⟩ : ∃ s, s = l[k] := ⟨_, rfl⟩
      rw [← hx] at c1 c2 htk
      simp only at c1 c2 htk
      have HTK := Lib.hid htk
      clear hx htk h1 h2
      generalize wordsOf (l.take k) = ws at *
      by_cases hk0 : kk = 0
      · subst hk0
        go_wp2_with (at_builtin; refine wpList_app rfl _ _ _ _ rfl w.heap.size 9 j0 _ 1 16 Tryd.underlying75 hj hy0 hy1 hy2 rfl (.slice xa ws.length xc) ws.length _ rfl (hown.alloc _) _ 1 [.string (bstr tt)] rfl (src_new Tryd.underlying75 wr _ 1 1 1 rfl (HN2.out tt)) (by unfold maxLen; omega) (by omega) (by simp; omega) ?_; intro v1 w1 hown1 hgr1 _ _; have hb1 : Below w.heap.size w w1 := (hbel.alloc hsz _).grown hgr1 (by simp; omega) (fun j hj => (hown.lt j hj).1); obtain ⟨na, nc, rfl⟩ := own_shape hown1)
        go_roundw
        case rel => exact ⟨k + 1, by omega, by go_num, by rw [HTK.out, if_pos rfl, scells_append, List.length_append]; exact hown1, hb1⟩
        case measure => simp [intOf]; omega
      · have hk0' : (kk == 0) = false := beq_eq_false_iff_ne.2 hk0
        have HN := Lib.hid hk0
        clear hk0
        go_wp2
        go_roundw
        case rel => exact ⟨k + 1, by omega, by go_num, by rw [HTK.out, if_neg HN.out]; exact hown, hbel⟩
        case measure => simp [intOf]; omega
    · have hke : k = l.length := by omega
      subst hke
      rw [List.take_length] at hown
      have hwl : (wordsOf l).length ≤ 100000 := by have := wordsOf_len l; omega
      have ki : ¬ (l.length : Int) < (l.length : Int) := by omega
      have HS := Lib.hid (rsorted_any (.slice xa (wordsOf l).length xc) (wordsOf l).length (wordsOf l) wr rfl (Rd.of_own hown) hwl)
      clear hown
      go_wp2_with (go_at_call 74; refine HS.out.mono ?_; rintro e w2 ⟨v2, rfl, o2, b2⟩; have R2 := Lib.hid (Rd.of_own o2); clear o2)
      go_ret
      exact ⟨_, rfl, R2.out, hbel.trans (b2.mono hbel.size)⟩
end Go.Proofs.YteegbjjpjdlcmaaDoor

/- Numbers of two lists, picked by number: the document's way and the program's. Plain laws, no program. -/
set_option linter.unusedVariables false
namespace Go.Proofs.YteegbjjpjdlcmaaDoor

/-- the numbers from lo on, n of them, that are kept. -/
def rpF (keep : Bool → Bool → Bool) (a b : List Int) (lo n : Nat) : List Int := ((List.range' lo n).filter fun i : Nat => keep (hasN a (i : Int)) (hasN b (i : Int))).map fun i : Nat => (i : Int)
theorem rpF_snoc (keep : Bool → Bool → Bool) (a b : List Int) (n : Nat) : rpF keep a b 0 (n + 1) = rpF keep a b 0 n ++ (if keep (hasN a (n : Int)) (hasN b (n : Int)) = true then [(n : Int)] else []) := by
  unfold rpF
  rw [List.range'_concat, List.filter_append, List.map_append]
  congr 1
  simp only [Nat.zero_add, Nat.one_mul]
  by_cases h : keep (hasN a (n : Int)) (hasN b (n : Int)) = true
  · rw [if_pos h, List.filter_cons_of_pos (by simpa using h)]; rfl
  · rw [if_neg h, List.filter_cons_of_neg (by simpa using h)]; rfl
theorem rpF_len (keep : Bool → Bool → Bool) (a b : List Int) (n : Nat) : (rpF keep a b 0 n).length ≤ n := by
  unfold rpF
  rw [List.length_map]
  exact Nat.le_trans (List.length_filter_le _ _) (by simp)
theorem hasN_cons (x : Int) (a : List Int) (i : Int) : hasN (x :: a) i = (decide (i = x) || hasN a i) := by
  rw [Bool.eq_iff_iff, Bool.or_eq_true, hasN_iff, hasN_iff, List.mem_cons, decide_eq_true_iff]
theorem hasN_lo {a : List Int} {lo : Nat} (h : ∀ x ∈ a, (lo : Int) < x) : hasN a (lo : Int) = false := by
  rw [Bool.eq_false_iff]
  intro hc
  rw [hasN_iff] at hc
  have := h _ hc
  omega
theorem rpF_cut (keep : Bool → Bool → Bool) (a a' b b' : List Int) (lo n : Nat) (ha : ∀ i : Int, (lo : Int) < i → hasN a i = hasN a' i) (hb : ∀ i : Int, (lo : Int) < i → hasN b i = hasN b' i) :
    rpF keep a b lo (n + 1) = (if keep (hasN a (lo : Int)) (hasN b (lo : Int)) = true then [(lo : Int)] else []) ++ rpF keep a' b' (lo + 1) n := by
  unfold rpF
  rw [List.range'_succ]
  have hf : (List.range' (lo + 1) n).filter (fun i : Nat => keep (hasN a (i : Int)) (hasN b (i : Int))) = (List.range' (lo + 1) n).filter (fun i : Nat => keep (hasN a' (i : Int)) (hasN b' (i : Int))) := by
    refine List.filter_congr fun i hi => ?_
    have := (List.mem_range'_1.1 hi).1
    rw [ha _ (by omega), hb _ (by omega)]
  by_cases h : keep (hasN a (lo : Int)) (hasN b (lo : Int)) = true
  · rw [if_pos h, List.filter_cons_of_pos (by simpa using h), List.map_cons, hf]; rfl
  · rw [if_neg h, List.filter_cons_of_neg (by simpa using h), hf]; rfl

theorem rpF_pick (kp : Int → Bool → Bool → Bool) (keep : Bool → Bool → Bool) (hk : ∀ x p q, (p || q) = true → kp x p q = keep p q) (h0 : keep false false = false) : ∀ (n lo : Nat) (a b : List Int),
    a.Pairwise (· < ·) → b.Pairwise (· < ·) → (∀ x ∈ a, (lo : Int) ≤ x ∧ x < lo + n) → (∀ x ∈ b, (lo : Int) ≤ x ∧ x < lo + n) → rpF keep a b lo n = pickL kp a b := by
  intro n
  induction n with
  | zero =>
    intro lo a b _ _ ha hb
    have h1 : a = [] := List.eq_nil_iff_forall_not_mem.2 fun x hx => by have := ha x hx; omega
    have h2 : b = [] := List.eq_nil_iff_forall_not_mem.2 fun x hx => by have := hb x hx; omega
    rw [h1, h2]; rfl
  | succ n ih =>
    intro lo a b pa pb ha hb
    have key : ∀ c : List Int, c.Pairwise (· < ·) → (∀ x ∈ c, (lo : Int) ≤ x ∧ x < lo + (n + 1 : Nat)) →
        ∃ c', c'.Pairwise (· < ·) ∧ (∀ x ∈ c', ((lo + 1 : Nat) : Int) ≤ x ∧ x < (lo + 1 : Nat) + n) ∧ (∀ i : Int, (lo : Int) < i → hasN c i = hasN c' i) ∧ ((c = (lo : Int) :: c' ∧ hasN c (lo : Int) = true) ∨ (c = c' ∧ hasN c (lo : Int) = false)) := by
      intro c pc hc
      cases c with
      | nil => exact ⟨[], List.Pairwise.nil, by simp, fun _ _ => rfl, .inr ⟨rfl, rfl⟩⟩
      | cons x c =>
        have hx := hc x (by simp)
        have hpc := List.pairwise_cons.1 pc
        by_cases he : x = (lo : Int)
        · subst he
          refine ⟨c, hpc.2, fun y hy => ?_, fun i hi => ?_, .inl ⟨rfl, ?_⟩⟩
          · have h1 := hpc.1 y hy
            have h2 := (hc y (by simp [hy])).2
            constructor <;> omega
          · rw [hasN_cons, decide_eq_false (by omega)]; rfl
          · rw [hasN_cons, decide_eq_true rfl]; rfl
        · have hall : ∀ y ∈ x :: c, (lo : Int) < y := by
            intro y hy
            rw [List.mem_cons] at hy
            rcases hy with rfl | hy
            · omega
            · have := hpc.1 y hy; omega
          refine ⟨x :: c, pc, fun y hy => ?_, fun _ _ => rfl, .inr ⟨rfl, hasN_lo hall⟩⟩
          have h1 := hall y hy
          have h2 := (hc y hy).2
          constructor <;> omega
    obtain ⟨a', pa', ha', ea, ca⟩ := key a pa ha
    obtain ⟨b', pb', hb', eb, cb⟩ := key b pb hb
    rw [rpF_cut keep a a' b b' lo n ea eb, ih (lo + 1) a' b' pa' pb' ha' hb']
    have hgt : ∀ {c : List Int}, (∀ x ∈ c, ((lo + 1 : Nat) : Int) ≤ x ∧ x < (lo + 1 : Nat) + n) → ∀ y r, c = y :: r → (lo : Int) < y := by
      intro c hc y r h
      have := (hc y (by rw [h]; simp)).1
      omega
    rcases ca with ⟨ra, na⟩ | ⟨ra, na⟩ <;> rcases cb with ⟨rb, nb⟩ | ⟨rb, nb⟩
    · rw [na, nb, ra, rb, pickL_eq, hk _ _ _ rfl]
    · rw [na, nb, ra, rb]
      cases hbb : b' with
      | nil => rw [pickL_a, hk _ _ _ rfl]
      | cons y r => rw [pickL_lt _ _ _ (hgt hb' y r hbb), hk _ _ _ rfl]
    · rw [na, nb, ra, rb]
      cases haa : a' with
      | nil => rw [pickL_b, hk _ _ _ rfl]
      | cons y r => rw [pickL_gt _ _ _ (hgt ha' y r haa), hk _ _ _ rfl]
    · rw [na, nb, ra, rb, h0, if_neg (by simp), List.nil_append]

/-- the three ways, by their number from 0 on. -/
def keepK (k : Int) (x y : Bool) : Bool := if k = 0 then x && y else if k = 1 then x || y else x && !y
def rpK (k : Int) (a b : List Int) : List Int := rpF (keepK k) a b 0 1000
theorem rpK_is {k : Int} (hk : k = 1 ∨ k = 2 ∨ k = 3) {a b : List Int} (ha : postRight a = true) (hb : postRight b = true) : rpK (k - 1) a b = opI k a b := by
  obtain ⟨pa, ra⟩ := (postRight_iff a).1 ha
  obtain ⟨pb, rb⟩ := (postRight_iff b).1 hb
  have h := fun (kp : Int → Bool → Bool → Bool) (keep : Bool → Bool → Bool) h1 h2 => rpF_pick kp keep h1 h2 1000 0 a b pa pb (fun x hx => by have := ra x hx; constructor <;> omega) (fun x hx => by have := rb x hx; constructor <;> omega)
  rcases hk with rfl | rfl | rfl
  · exact h keepBoth (keepK (1 - 1)) (fun x p q hpq => rfl) rfl
  · exact h keepEither (keepK (2 - 1)) (fun x p q hpq => by cases p <;> cases q <;> first | rfl | cases hpq) rfl
  · exact h keepBut (keepK (3 - 1)) (fun x p q hpq => rfl) rfl
end Go.Proofs.YteegbjjpjdlcmaaDoor

/- rubrickref17.lower, rubrickref17.at, rubrickref09.Good. -/
set_option linter.unusedVariables false
namespace Go.Proofs.YteegbjjpjdlcmaaDoor
open Go.RowKit Go.Sort

/-- where the scan comes to that goes down from a place with so many things needed. -/
def lowO (l : List QOp) : Nat → Int → Option Nat
  | 0, need => if need ≤ 0 then some 0 else none
  | i + 1, need => if need ≤ 0 then some (i + 1) else lowO l i (if (l.getD i (0, [])).1 = 0 then need - 1 else need + 1)
theorem lowO_qt : ∀ (T : QT), T.ok → ∀ (l pre post : List QOp) (need : Int), 1 ≤ need → l = pre ++ T.steps ++ post → lowO l (pre.length + T.steps.length) need = lowO l pre.length (need - 1) := by
  intro T
  induction T with
  | leaf t =>
    intro _ l pre post need hn hl
    have hg : l.getD pre.length (0, []) = (0, t) := by rw [hl]; simp [QT.steps]
    simp only [QT.steps, List.length_singleton, lowO]
    rw [if_neg (by omega), hg, if_pos rfl]
  | node k a b iha ihb =>
    intro hok l pre post need hn hl
    obtain ⟨hk, ha, hb⟩ := hok
    have hg : l.getD (pre.length + a.steps.length + b.steps.length) (0, []) = (k, []) := by
      rw [hl]
      simp only [QT.steps]
      rw [show pre ++ (a.steps ++ (b.steps ++ [(k, [])])) ++ post = (pre ++ a.steps ++ b.steps) ++ ([(k, [])] ++ post) from by simp]
      rw [List.getD_eq_getElem?_getD, List.getElem?_append_right (by simp; omega)]
      simp [Nat.add_assoc]
    rw [show pre.length + (QT.node k a b).steps.length = (pre.length + a.steps.length + b.steps.length) + 1 from by simp only [QT.steps, List.length_append, List.length_singleton]; omega]
    simp only [lowO]
    rw [if_neg (by omega), hg, if_neg (show ¬ k = 0 by omega)]
    have h1 := ihb hb l (pre ++ a.steps) ([(k, [])] ++ post) (need + 1) (by omega) (by rw [hl]; simp [QT.steps])
    have h2 := iha ha l pre (b.steps ++ ([(k, [])] ++ post)) need hn (by rw [hl]; simp [QT.steps])
    rw [List.length_append] at h1
    rw [h1, show need + 1 - 1 = need from by omega, h2]
theorem lowO_node {k : Int} {a b : QT} (hb : b.ok) : lowO (QT.node k a b).steps (a.steps.length + b.steps.length) 1 = some a.steps.length := by
  rw [lowO_qt b hb _ a.steps [(k, [])] 1 (by omega) (by simp [QT.steps])]
  cases a.steps.length <;> rfl

set_option maxRecDepth 100000 in
set_option maxHeartbeats 2000000 in
theorem lower17_any (v : Value) (n : Nat) (l : List QOp) (r : Nat) (w : World) (hln : l.length = n) (h : Rd w v n 2 (ocells l)) (hn : n ≤ 100000) (h0 : 0 < n) (hr : lowO l (n - 1) 1 = some r) :
    Calls Tryd.prog 76 #[v] w fun e w' => e = .returned (.int .i64 r) ∧ w = w' := by
  subst hln
  obtain ⟨ao, c, rfl, hm, hcell⟩ := ops_cells h
  have HC := Lib.hid hcell
  clear hcell h hm
  have HR := Lib.hid hr
  have i0 : IntKind.i64.wrap ((l.length : Int) - 1) = ((l.length - 1 : Nat) : Int) := by rw [IntKind.wrap_i64]; omega
  clear hr
  go_enter Tryd.func76, Tryd.ntmps76
  go_wp2
  go_loopw [3, 4] (fun u i wr => ∃ (k : Nat) (q : Int), k ≤ l.length ∧ i = .int .i64 k ∧ u = .int .i64 q ∧ 0 ≤ q ∧ q + k ≤ l.length ∧ Hid (lowO l k q = some r) ∧ w = wr) (fun _ i _ => (intOf i).toNat)
  case atStart => exact ⟨l.length - 1, 1, by omega, rfl, rfl, by omega, by omega, HR.out, by first | rfl | trivial⟩
  case round =>
    obtain ⟨k, q, hk, rfl, rfl, hq, hqk, HP, rfl⟩ := hrel
    by_cases hpos : 0 < q
    · cases k with
      | zero =>
        have := HP.out
        simp only [lowO] at this
        rw [if_neg (by omega)] at this
        cases this
      | succ j =>
        have hj : j < l.length := by omega
        obtain ⟨b, off, rfl, c1, c2⟩ := HC.out j hj
        have hp := HP.out
        simp only [lowO] at hp
        rw [if_neg (by omega), List.getD_eq_getElem?_getD, List.getElem?_eq_getElem hj, Option.getD_some] at hp
        have ki : (j : Int) < (l.length : Int) := by omega
        have k0 : (0 : Int) ≤ (j : Int) := by omega
        have i1 : IntKind.i64.wrap (((j + 1 : Nat) : Int) - 1) = (j : Int) := by rw [IntKind.wrap_i64]; omega
        have i2 : IntKind.i64.wrap (q - 1) = q - 1 := by rw [IntKind.wrap_i64]; omega
        have i3 : IntKind.i64.wrap (q + 1) = q + 1 := by rw [IntKind.wrap_i64]; omega
        obtain ⟨⟨kk, tt⟩, hx⟩ : ∃ s, s = l[j] := ⟨_, rfl⟩
        rw [← hx] at c1 c2 hp
        simp only at c1 c2 hp
        clear hx HP
        by_cases hk0 : kk = 0
        · subst hk0
          rw [if_pos rfl] at hp
          have HP := Lib.hid hp
          clear hp
          go_wp2
          go_roundw
          case rel => exact ⟨j, q - 1, by omega, by go_num, by go_num, by omega, by omega, HP.out, by first | rfl | trivial⟩
          case measure => simp [intOf]
        · have hk0' : (kk == 0) = false := beq_eq_false_iff_ne.2 hk0
          rw [if_neg hk0] at hp
          have HP := Lib.hid hp
          clear hp hk0
          go_wp2
          go_roundw
          case rel => exact ⟨j, q + 1, by omega, by go_num, by go_num, by omega, by omega, HP.out, by first | rfl | trivial⟩
          case measure => simp [intOf]
    · have hq0 : q = 0 := by omega
      subst hq0
      have hp : k = r := by
        have := HP.out
        cases k <;> simpa [lowO] using this
      have HK := Lib.hid hp
      clear hp
      go_wp2
      go_ret
      exact ⟨by rw [HK.out]; first | done | rfl, rfl⟩

set_option maxRecDepth 100000 in
set_option maxHeartbeats 2000000 in
theorem at17_any (t : List UInt8) (tv : Value) (m : Nat) (terms : List (List UInt8)) (fv : Value) (found : List (List Int)) (w : World) (hm : terms.length = m) (hlen : found.length = m) (h : Rd w tv m 1 (scells terms)) (hf : IntsRd w fv found) (hn : m ≤ 100000) :
    Calls Tryd.prog 75 #[.string (bstr t), tv, fv] w fun e w' => ∃ v, e = .returned v ∧ Rd w v (atL t terms found).length 1 (icells (atL t terms found)) ∧ w = w' := by
  obtain ⟨aa, ca, rfl, hma, hca⟩ := strs_cells' hm h
  obtain ⟨af, cf, hfv, hmf, hcf⟩ := ints2_cells hf
  rw [hlen] at hfv
  subst hfv
  have HCA := Lib.hid hca
  have HCF := Lib.hid hcf
  have HM := Lib.hid hm
  have HL := Lib.hid hlen
  clear hca hcf hm hlen h hf hma hmf
  go_enter Tryd.func75, Tryd.ntmps75
  go_wp2
  go_loopw [7] (fun i wr => ∃ k : Nat, k ≤ m ∧ i = .int .i64 k ∧ Hid (atL t terms found = atL t (terms.drop k) (found.drop k)) ∧ w = wr) (fun i _ => m - (intOf i).toNat)
  case atStart => exact ⟨0, Nat.zero_le _, rfl, rfl, by first | rfl | trivial⟩
  case round =>
    obtain ⟨k, hk, rfl, HP, rfl⟩ := hrel
    by_cases hlt : k < m
    · have h1 : k < terms.length := by have := HM.out; omega
      have h2 : k < found.length := by have := HL.out; omega
      obtain ⟨b, off, rfl, c1⟩ := HCA.out k h1
      obtain ⟨b2, off2, da, dc, rfl, c2, c3⟩ := HCF.out k h2
      have ki : (k : Int) < (m : Int) := by omega
      have k0 : (0 : Int) ≤ (k : Int) := by omega
      have hp := HP.out
      rw [List.drop_eq_getElem_cons h1, List.drop_eq_getElem_cons h2] at hp
      simp only [atL] at hp
      have HRD := Lib.hid c3
      clear HP c3
      generalize terms[k] = tt at *
      generalize found[k] = ff at *
      change _ = some (Value.string (bstr tt)) at c1
      by_cases ht : tt = t
      · rw [if_pos ht] at hp
        have n1 : ((bstr tt).toList == (bstr t).toList) = true := by rw [ht]; exact beq_self_eq_true _
        have HX := Lib.hid hp
        clear hp ht
        go_wp2
        go_ret
        exact ⟨_, rfl, by rw [HX.out]; exact HRD.out, rfl⟩
      · rw [if_neg ht] at hp
        have n1 : ((bstr tt).toList == (bstr t).toList) = false := by rw [btoList, btoList, beq_eq_false_iff_ne]; exact ht
        have HX := Lib.hid hp
        clear hp ht
        go_wp2
        go_roundw
        case rel => exact ⟨k + 1, by omega, by go_num, HX.out, by first | rfl | trivial⟩
        case measure => simp [intOf]; omega
    · have ki : ¬ (k : Int) < (m : Int) := by omega
      have hp := HP.out
      rw [List.drop_of_length_le (by have := HM.out; omega)] at hp
      have he : atL t terms found = [] := hp
      have HE := Lib.hid he
      clear hp he HP
      go_wp2
      go_ret
      exact ⟨_, rfl, by rw [HE.out]; exact ⟨rfl, by unfold maxLen; simp, .inl ⟨_, _, rfl, rfl⟩⟩, rfl⟩

theorem good09_any (v : Value) (n : Nat) (l : List Int) (w : World) (hn : l.length = n) (h : Rd w v n 1 (icells l)) (hr : postRight l = true) :
    Calls Tryd.prog 101 #[v] w fun e w' => e = .returned v ∧ Below w.heap.size w w' := by
  have hp := rpost_any v n l w hn h
  rw [hr] at hp
  have HP := Lib.hid hp
  obtain ⟨ao, c, rfl, -, -⟩ := ints_cells hn h
  clear hp h hr
  go_enter Tryd.func101, Tryd.ntmps101
  go_wp2_with (go_at_call 48; refine HP.out.mono ?_; rintro e w1 ⟨rfl, hb1⟩)
  go_ret
  exact ⟨rfl, hb1⟩
end Go.Proofs.YteegbjjpjdlcmaaDoor

/- rubrickref09.Pick. -/
set_option linter.unusedVariables false
namespace Go.Proofs.YteegbjjpjdlcmaaDoor
open Go.RowKit Go.Sort

set_option maxRecDepth 100000 in
set_option maxHeartbeats 8000000 in
theorem rpick_any (v1 v2 : Value) (n m : Nat) (a b : List Int) (q : Int) (w : World) (hn : a.length = n) (hm : b.length = m) (h1 : Rd w v1 n 1 (icells a)) (h2 : Rd w v2 m 1 (icells b)) (ha : postRight a = true) (hb : postRight b = true) (hq : q = 0 ∨ q = 1 ∨ q = 2) :
    Calls Tryd.prog 77 #[v1, v2, .int .i64 q] w (Gives w 3 1 (rpK q a b).length (icells (rpK q a b))) := by
  obtain ⟨i0, hi, hz0, hz1, hz2⟩ := info_parts infoInt
  have HG1 := Lib.hid (good09_any v1 n a w hn h1 ha)
  have HG2 := Lib.hid (fun W (hW : Below w.heap.size w W) => good09_any v2 m b W hm (h2.below hW) hb)
  have HA := Lib.hid (fun z W (hW : Below w.heap.size w W) => has09_any v1 n a z W hn (h1.below hW))
  have HB := Lib.hid (fun z W (hW : Below w.heap.size w W) => has09_any v2 m b z W hm (h2.below hW))
  have HLEN := Lib.hid (rpF_len (keepK q) a b)
  have HSN := Lib.hid (rpF_snoc (keepK q) a b)
  have HQ := Lib.hid hq
  have HN1 : Hid (∀ z : Int, ∀ u ∈ [Value.int .i64 z], u.oneCell' = true) := by intro z u hu; simp at hu; subst hu; rfl
  obtain ⟨aa, ca, rfl, -, -⟩ := ints_cells hn h1
  obtain ⟨ab, cb, rfl, -, -⟩ := ints_cells hm h2
  clear h1 h2 ha hb hn hm hq
  go_enter Tryd.func77, Tryd.ntmps77
  go_wp2_with (first
    | (go_at_call 101; (with_reducible refine HG1.out.mono ?_); rintro e w1 ⟨rfl, hb1⟩)
    | (go_at_call 101; (with_reducible refine (HG2.out w1 hb1).mono ?_); rintro e w2 ⟨rfl, hb2⟩; have hB2 := hb1.trans (hb2.mono hb1.size)))
  go_loopw [7, 8] (fun o i wr => ∃ k : Nat, k ≤ 1000 ∧ i = .int .i64 k ∧ wr.ownsRow w.heap.size 3 1 o (rpF (keepK q) a b 0 k).length (icells (rpF (keepK q) a b 0 k)) ∧ Below w.heap.size w wr) (fun _ i _ => 1000 - (intOf i).toNat)
  case atStart => exact ⟨0, Nat.zero_le _, rfl, World.ownsRow_nil _ _ _ _, hB2⟩
  case round =>
    obtain ⟨k, hk, rfl, hown, hbel⟩ := hrel
    obtain ⟨oa, oc, rfl⟩ := own_shape hown
    have hsz := hbel.size
    by_cases hlt : k < 1000
    · have ki : (k : Int) < 1000 := by omega
      have HX := Lib.hid (HA.out k wr hbel)
      have HY := Lib.hid (HB.out k wr hbel)
      have hsn := HSN.out k
      have hl := HLEN.out k
      generalize hasN a (k : Int) = x at *
      generalize hasN b (k : Int) = y at *
      cases hkp : keepK q x y with
      | true =>
        rw [hkp, if_pos rfl] at hsn
        have HT := Lib.hid hsn
        clear hsn
        generalize rpF (keepK q) a b 0 k = ps at *
        have hq := HQ.out
        clear HQ HA HB HSN HLEN HG1 HG2
        rcases hq with rfl | rfl | rfl <;> cases x <;> cases y <;> first | (exact absurd hkp (by decide)) | skip
        all_goals
          clear hkp
          go_wp2_with (first
            | (go_at_call 24; (with_reducible refine HX.out.mono ?_); rintro e w' ⟨rfl, rfl⟩)
            | (go_at_call 24; (with_reducible refine HY.out.mono ?_); rintro e w' ⟨rfl, rfl⟩)
            | (at_builtin; refine wpList_app rfl _ _ _ _ rfl w.heap.size 3 i0 _ 1 8 Tryd.underlying41 hi hz0 hz1 hz2 rfl (.slice oa ps.length oc) ps.length _ rfl (hown.alloc _) _ 1 [Value.int .i64 k] rfl (src_new Tryd.underlying41 wr _ 1 1 1 rfl (HN1.out k)) (by unfold maxLen; omega) (by omega) (by simp; omega) ?_; intro v3 w3 hown3 hgr3 _ _; have hb3 : Below w.heap.size w w3 := (hbel.alloc hsz _).grown hgr3 (by simp; omega) (fun j hj => (hown.lt j hj).1); obtain ⟨na, nc, rfl⟩ := own_shape hown3))
          go_roundw
          case rel => exact ⟨k + 1, by omega, by go_num, by rw [HT.out, icells_append, List.length_append]; exact hown3, hb3⟩
          case measure => simp [intOf]; omega
      | false =>
        rw [hkp, if_neg (by simp), List.append_nil] at hsn
        have HT := Lib.hid hsn
        clear hsn
        generalize rpF (keepK q) a b 0 k = ps at *
        have hq := HQ.out
        clear HQ HA HB HSN HLEN HG1 HG2
        rcases hq with rfl | rfl | rfl <;> cases x <;> cases y <;> first | (exact absurd hkp (by decide)) | skip
        all_goals
          clear hkp
          go_wp2_with (first
            | (go_at_call 24; (with_reducible refine HX.out.mono ?_); rintro e w' ⟨rfl, rfl⟩)
            | (go_at_call 24; (with_reducible refine HY.out.mono ?_); rintro e w' ⟨rfl, rfl⟩))
          go_roundw
          case rel => exact ⟨k + 1, by omega, by go_num, by rw [HT.out]; exact hown, hbel⟩
          case measure => simp [intOf]; omega
    · have hk1 : k = 1000 := by omega
      subst hk1
      have ki : ¬ ((1000 : Nat) : Int) < 1000 := by omega
      go_wp2
      go_ret
      exact ⟨_, rfl, hown, hbel⟩
end Go.Proofs.YteegbjjpjdlcmaaDoor

/- rubrickref17.run. -/
set_option linter.unusedVariables false
namespace Go.Proofs.YteegbjjpjdlcmaaDoor
open Go.RowKit Go.Sort

/-- the front of a row, and what is behind it. -/
theorem rd_front {w : World} {b : Nat} {off c n sz : Nat} {x y : List Value} {k : Nat} (hx : x.length = k * sz) (hk : 0 < k) (hkn : k ≤ n) (h : Rd w (.slice (some ⟨b, off, none⟩) n c) n sz (x ++ y)) : Rd w (.slice (some ⟨b, off, none⟩) k c) k sz x := by
  obtain ⟨h1, hm, ⟨ao, c', he, h0⟩ | ⟨b', off', c', he, h2, h3, h4, h5⟩⟩ := h
  · omega
  · simp only [Value.slice.injEq, Option.some.injEq, Addr.mk.injEq] at he
    obtain ⟨⟨rfl, rfl, -⟩, -, rfl⟩ := he
    exact ⟨hx, by omega, .inr ⟨b, off, c, rfl, hk, by omega, h4, fun i u hi => h5 i u (by
      have := (List.getElem?_eq_some_iff.1 hi).1
      rw [List.getElem?_append_left this]; exact hi)⟩⟩
theorem rd_back {w : World} {b : Nat} {off c n sz : Nat} {x y z : List Value} {k j : Nat} (hx : x.length = k * sz) (hy : y.length = j * sz) (hj : 0 < j) (hkn : k + j ≤ n) (h : Rd w (.slice (some ⟨b, off, none⟩) n c) n sz (x ++ (y ++ z))) : Rd w (.slice (some ⟨b, off + k * sz, none⟩) j (c - k)) j sz y := by
  obtain ⟨h1, hm, ⟨ao, c', he, h0⟩ | ⟨b', off', c', he, h2, h3, h4, h5⟩⟩ := h
  · omega
  · simp only [Value.slice.injEq, Option.some.injEq, Addr.mk.injEq] at he
    obtain ⟨⟨rfl, rfl, -⟩, -, rfl⟩ := he
    refine ⟨hy, by omega, .inr ⟨b, off + k * sz, c - k, rfl, hj, by omega, by omega, fun i u hi => ?_⟩⟩
    have h6 := (List.getElem?_eq_some_iff.1 hi).1
    have := h5 (k * sz + i) u (by rw [List.getElem?_append_right (by omega), hx, Nat.add_sub_cancel_left, List.getElem?_append_left h6]; exact hi)
    rw [Nat.add_assoc]; exact this
theorem steps_pos : ∀ T : QT, 0 < T.steps.length
  | .leaf t => by simp [QT.steps]
  | .node k a b => by simp only [QT.steps, List.length_append, List.length_singleton]; omega
theorem ev_right {terms : List (List UInt8)} {found : List (List Int)} (h : ∀ d ∈ found, postRight d = true) : ∀ T : QT, postRight (T.ev (fun t => atL t terms found) opI) = true
  | .leaf t => atL_right h
  | .node k a b => opI_right k (ev_right h a) (ev_right h b)

set_option maxRecDepth 100000 in
set_option maxHeartbeats 8000000 in
theorem run17_any (W0 : World) (terms : List (List UInt8)) (m : Nat) (found : List (List Int)) (tv fv : Value) (hm : terms.length = m) (hlen : found.length = m) (hn : m ≤ 100000) (ht : Rd W0 tv m 1 (scells terms)) (hf : IntsRd W0 fv found) (hpr : ∀ d ∈ found, postRight d = true) :
    ∀ T : QT, T.ok → ∀ (v : Value) (n : Nat) (w : World), Below W0.heap.size W0 w → T.steps.length = n → n ≤ 100000 → Rd w v n 2 (ocells T.steps) →
      Calls Tryd.prog 49 #[v, tv, fv] w (GivesRd w (T.ev (fun t => atL t terms found) opI).length 1 (icells (T.ev (fun t => atL t terms found) opI))) := by
  intro T
  induction T with
  | leaf t =>
    intro _ v n w hw hln hnn h
    obtain rfl : n = 1 := hln.symm
    have HAT := Lib.hid (at17_any t tv m terms fv found w hm hlen (ht.below hw) (hf.below hw) hn)
    obtain ⟨at0, ct0, rfl, -, -⟩ := strs_cells' hm ht
    obtain ⟨af0, cf0, hfv, -, -⟩ := ints2_cells hf
    rw [hlen] at hfv
    subst hfv
    obtain ⟨ao, c, rfl, -, hcell⟩ := ops_cells (l := [((0 : Int), t)]) h
    obtain ⟨B, off, rfl, c1, c2⟩ := hcell 0 (by simp)
    simp only [List.getElem_cons_zero, Nat.zero_mul, Nat.add_zero] at c1 c2
    have hev : QT.ev (fun t => atL t terms found) opI (.leaf t) = atL t terms found := rfl
    rw [hev]
    clear hcell h ht hf hpr hev hln
    go_enter Tryd.func49, Tryd.ntmps49
    go_wp2_with (go_at_call 75; refine HAT.out.mono ?_; rintro e w1 ⟨v1, rfl, r1, rfl⟩; obtain ⟨a1, c1', rfl, -, -⟩ := ints_cells rfl r1; have R1 := Lib.hid r1; clear r1)
    go_ret
    exact ⟨_, rfl, R1.out, Below.refl _ _⟩
  | node k a b iha ihb =>
    intro hok v n w hw hln hnn h
    have hka := hok.1
    have hra := ev_right (terms := terms) hpr a
    have hrb := ev_right (terms := terms) hpr b
    have hev : QT.ev (fun t => atL t terms found) opI (.node k a b) = opI k (a.ev (fun t => atL t terms found) opI) (b.ev (fun t => atL t terms found) opI) := rfl
    rw [hev]
    obtain ⟨la, hla⟩ : ∃ z, a.steps.length = z := ⟨_, rfl⟩
    obtain ⟨lb, hlb⟩ : ∃ z, b.steps.length = z := ⟨_, rfl⟩
    have hpa := steps_pos a
    have hpb := steps_pos b
    rw [hla] at hpa
    rw [hlb] at hpb
    obtain rfl : n = la + lb + 1 := by rw [← hln, ← hla, ← hlb]; simp [QT.steps]; omega
    have hsh : (QT.node k a b).steps = a.steps ++ (b.steps ++ [(k, [])]) := rfl
    have HLOW := Lib.hid (lower17_any v (la + lb + 1) (QT.node k a b).steps la w hln h hnn (by omega) (by rw [show la + lb + 1 - 1 = la + lb from rfl, ← hla, ← hlb]; exact lowO_node hok.2.2))
    have hcells : Rd w v (la + lb + 1) 2 (ocells a.steps ++ (ocells b.steps ++ ocells [(k, [])])) := by
      rw [hsh, ocells_append, ocells_append] at h; exact h
    obtain ⟨B, off, c, rfl, hcc, hcm⟩ : ∃ B off c, v = .slice (some ⟨B, off, none⟩) (la + lb + 1) c ∧ la + lb + 1 ≤ c ∧ c ≤ maxLen := by
      obtain ⟨-, -, ⟨ao, c', he, h0⟩ | ⟨b', off', c', he, h2, h3, h4, h5⟩⟩ := hcells
      · omega
      · exact ⟨b', off', c', he, h3, h4⟩
    have hla2 : (ocells a.steps).length = la * 2 := by rw [ocells_len, hla]
    have hlb2 : (ocells b.steps).length = lb * 2 := by rw [ocells_len, hlb]
    have hA := rd_front hla2 hpa (by omega) hcells
    have hB := rd_back hla2 hlb2 hpb (by omega) hcells
    have ck : w.cell? ⟨B, off + (la + lb) * 2, none⟩ = some (.int .i64 k) := by
      obtain ⟨-, -, ⟨ao, c', he, h0⟩ | ⟨b', off', c', he, h2, h3, h4, h5⟩⟩ := hcells
      · omega
      · simp only [Value.slice.injEq, Option.some.injEq, Addr.mk.injEq] at he
        obtain ⟨⟨rfl, rfl, -⟩, -, rfl⟩ := he
        refine h5 _ _ ?_
        rw [List.getElem?_append_right (by omega), List.getElem?_append_right (by omega), show (la + lb) * 2 - (ocells a.steps).length - (ocells b.steps).length = 0 from by omega]
        rfl
    have H1 := Lib.hid (fun W (hW : Below w.heap.size w W) => iha hok.2.1 (.slice (some ⟨B, off, none⟩) la c) la W (hw.trans (hW.mono hw.size)) hla (by omega) (hA.below hW))
    have H2 := Lib.hid (fun W (hW : Below w.heap.size w W) => ihb hok.2.2 (.slice (some ⟨B, off + la * 2, none⟩) lb (c - la)) lb W (hw.trans (hW.mono hw.size)) hlb (by omega) (hB.below hW))
    generalize a.ev (fun t => atL t terms found) opI = X at *
    generalize b.ev (fun t => atL t terms found) opI = Y at *
    have H3 : Hid (∀ (x y : Value) (W : World), Rd W x X.length 1 (icells X) → Rd W y Y.length 1 (icells Y) → Calls Tryd.prog 77 #[x, y, .int .i64 (k - 1)] W (Gives W 3 1 (opI k X Y).length (icells (opI k X Y)))) := by
      intro x y W hx hy
      rw [← rpK_is hka hra hrb]
      exact rpick_any x y X.length Y.length X Y (k - 1) W rfl rfl hx hy hra hrb (by omega)
    obtain ⟨at0, ct0, rfl, -, -⟩ := strs_cells' hm ht
    obtain ⟨af0, cf0, hfv, -, -⟩ := ints2_cells hf
    rw [hlen] at hfv
    subst hfv
    have i1 : IntKind.i64.wrap (((la + lb + 1 : Nat) : Int) - 1) = ((la + lb : Nat) : Int) := by rw [IntKind.wrap_i64]; omega
    have i2 : IntKind.i64.wrap (k - 1) = k - 1 := by rw [IntKind.wrap_i64]; omega
    have hk0' : (k == 0) = false := beq_eq_false_iff_ne.2 (by omega)
    have j1 : ((la + lb : Nat) : Int) < ((la + lb + 1 : Nat) : Int) := by omega
    have j2 : (0 : Int) ≤ ((la + lb : Nat) : Int) := by omega
    have s1 : ¬ c < la := by omega
    have s2 : ¬ c = 0 := by omega
    have s3 : ¬ c < la + lb := by omega
    have s4 : ¬ la + lb < la := by omega
    have s5 : ¬ c = la := by omega
    have s6 : la + lb - la = lb := by omega
    clear h ht hf hpr hcells hA hB hev hsh hka hok iha ihb hra hrb hln hla hlb hla2 hlb2
    go_enter Tryd.func49, Tryd.ntmps49
    go_wp2_with (go_at_call 76; refine HLOW.out.mono ?_; rintro e w' ⟨rfl, rfl⟩)
    refine L_begin (fun W => Below w.heap.size w W) 20 (by kernel_rfl) ?_
    have hS : Below w.heap.size w w.drew := (Below.refl _ _).drew
    generalize w.drew = wd at *
    refine L_free (fuel := 20) 0 (.slice (some ⟨B, off, none⟩) (la + lb + 1) c) rfl (by kernel_rfl) (by kernel_rfl) (by kernel_rfl) (by kernel_rfl) (fun _ _ _ h => h) (by kernel_rfl) ?_ hS ?_
    · intro W
      go_simp
    refine L_free (fuel := 19) 1 (.int .i64 la) rfl (by kernel_rfl) (by kernel_rfl) (by kernel_rfl) (by kernel_rfl) (fun _ _ _ h => h) (by kernel_rfl) ?_ hS ?_
    · intro W
      go_simp
    refine L_free (fuel := 18) 2 (.slice (some ⟨B, off, none⟩) la c) rfl (by kernel_rfl) (by kernel_rfl) (by kernel_rfl) (by kernel_rfl) (fun _ _ _ h => h) (by kernel_rfl) ?_ hS ?_
    · intro W
      go_simp
    refine L_free (fuel := 17) 3 (.slice at0 m ct0) rfl (by kernel_rfl) (by kernel_rfl) (by kernel_rfl) (by kernel_rfl) (fun _ _ _ h => h) (by kernel_rfl) ?_ hS ?_
    · intro W
      go_simp
    refine L_free (fuel := 16) 4 (.slice af0 m cf0) rfl (by kernel_rfl) (by kernel_rfl) (by kernel_rfl) (by kernel_rfl) (fun _ _ _ h => h) (by kernel_rfl) ?_ hS ?_
    · intro W
      go_simp
    refine L_free (fuel := 15) 6 (.slice (some ⟨B, off, none⟩) (la + lb + 1) c) rfl (by kernel_rfl) (by kernel_rfl) (by kernel_rfl) (by kernel_rfl) (fun _ _ _ h => h) (by kernel_rfl) ?_ hS ?_
    · intro W
      go_simp
    refine L_free (fuel := 14) 7 (.int .i64 la) rfl (by kernel_rfl) (by kernel_rfl) (by kernel_rfl) (by kernel_rfl) (fun _ _ _ h => h) (by kernel_rfl) ?_ hS ?_
    · intro W
      go_simp
    refine L_free (fuel := 13) 8 (.int .i64 ((la + lb : Nat) : Int)) rfl (by kernel_rfl) (by kernel_rfl) (by kernel_rfl) (by kernel_rfl) (fun _ _ _ h => h) (by kernel_rfl) ?_ hS ?_
    · intro W
      go_simp
    refine L_free (fuel := 12) 9 (.slice (some ⟨B, off + la * 2, none⟩) lb (c - la)) rfl (by kernel_rfl) (by kernel_rfl) (by kernel_rfl) (by kernel_rfl) (fun _ _ _ h => h) (by kernel_rfl) ?_ hS ?_
    · intro W
      go_simp
      rw [if_pos (by omega), show ((la : Int) + (lb : Int)).toNat = la + lb from by omega, if_pos (by omega), s6]
    refine L_free (fuel := 11) 10 (.slice at0 m ct0) rfl (by kernel_rfl) (by kernel_rfl) (by kernel_rfl) (by kernel_rfl) (fun _ _ _ h => h) (by kernel_rfl) ?_ hS ?_
    · intro W
      go_simp
    refine L_free (fuel := 10) 11 (.slice af0 m cf0) rfl (by kernel_rfl) (by kernel_rfl) (by kernel_rfl) (by kernel_rfl) (fun _ _ _ h => h) (by kernel_rfl) ?_ hS ?_
    · intro W
      go_simp
    refine L_free (fuel := 9) 13 (.slice (some ⟨B, off, none⟩) (la + lb + 1) c) rfl (by kernel_rfl) (by kernel_rfl) (by kernel_rfl) (by kernel_rfl) (fun _ _ _ h => h) (by kernel_rfl) ?_ hS ?_
    · intro W
      go_simp
    refine L_free (fuel := 8) 14 (.int .i64 ((la + lb : Nat) : Int)) rfl (by kernel_rfl) (by kernel_rfl) (by kernel_rfl) (by kernel_rfl) (fun _ _ _ h => h) (by kernel_rfl) ?_ hS ?_
    · intro W
      go_simp
    refine L_free (fuel := 7) 15 (.pointer (some ⟨B, off + (la + lb) * 2, none⟩)) rfl (by kernel_rfl) (by kernel_rfl) (by kernel_rfl) (by kernel_rfl) (fun _ _ _ h => h) (by kernel_rfl) ?_ hS ?_
    · intro W
      go_simp
      rw [if_pos (by omega), show ((la : Int) + (lb : Int)).toNat = la + lb from by omega]
    refine L_free (fuel := 6) 16 (.pointer (some ⟨B, off + (la + lb) * 2, none⟩)) rfl (by kernel_rfl) (by kernel_rfl) (by kernel_rfl) (by kernel_rfl) (fun _ _ _ h => h) (by kernel_rfl) ?_ hS ?_
    · intro W
      go_simp
    refine L_take (fuel := 5) 17 (.int .i64 k) rfl (by kernel_rfl) (by kernel_rfl) (by kernel_rfl) (by kernel_rfl) (fun _ _ _ h => h) (by kernel_rfl) ?_ hS ?_
    · intro W hW
      have c1 := cell_later hW ck
      go_simp
    refine L_free (fuel := 4) 18 (.int .i64 (k - 1)) rfl (by kernel_rfl) (by kernel_rfl) (by kernel_rfl) (by kernel_rfl) (fun _ _ _ h => h) (by kernel_rfl) ?_ hS ?_
    · intro W
      go_simp
    refine L_one (fuel := 3) 5 (by kernel_rfl) rfl ?_
    intro K hK
    go_simp
    refine (H1.out _ hS).mono ?_
    rintro e w5 ⟨v5, rfl, r5, b5⟩
    obtain ⟨a5, c5, rfl, -, -⟩ := ints_cells rfl r5
    go_simp
    have hS5 := hS.trans (b5.mono hS.size)
    refine hK _ _ hS5 ?_
    clear hK K
    refine L_one (fuel := 2) 12 (by kernel_rfl) rfl ?_
    intro K hK
    go_simp
    refine (H2.out _ hS5).mono ?_
    rintro e w6 ⟨v6, rfl, r6, b6⟩
    obtain ⟨a6, c6, rfl, -, -⟩ := ints_cells rfl r6
    go_simp
    have hS6 := hS5.trans (b6.mono hS5.size)
    have R5 := r5.below b6
    refine hK _ _ hS6 ?_
    clear hK K
    refine L_one (fuel := 1) 19 (by kernel_rfl) rfl ?_
    intro K hK
    go_simp
    refine (H3.out _ _ _ R5 r6).mono ?_
    rintro e w7 ⟨v7, rfl, o7, b7⟩
    go_simp
    have hS7 := hS6.trans (b7.mono hS6.size)
    have R7 := Lib.hid (Rd.of_own o7)
    refine hK _ _ hS7 ?_
    clear hK K o7
    refine L_end (fuel := 0) 20 (by kernel_rfl) rfl (by kernel_rfl) ?_
    intro K hK
    go_simp
    refine hK _ _ ?_
    clear hK K
    refine L_done (by kernel_rfl) ?_ 0
    go_wp2
    go_ret
    exact ⟨_, rfl, R7.out, hS7⟩
end Go.Proofs.YteegbjjpjdlcmaaDoor

/- rubrickref17.Fair, Run. -/
set_option linter.unusedVariables false
namespace Go.Proofs.YteegbjjpjdlcmaaDoor
open Go.RowKit Go.Sort

set_option maxRecDepth 100000 in
set_option maxHeartbeats 4000000 in
theorem fair17_any (lv fv : Value) (l : List QOp) (found : List (List Int)) (w : World) (hf : IntsRd w fv found) (h : Rd w lv l.length 2 (ocells l)) (hl : l.length ≤ 100000) (hts : ∀ s ∈ l, s.2.length ≤ 100000) (hks : ∀ s ∈ l, -9223372036854775808 ≤ s.1 ∧ s.1 ≤ 9223372036854775807) :
    Calls Tryd.prog 19 #[lv, fv] w fun e w' => e = .returned (.bool (runOK l found)) ∧ Below w.heap.size w w' := by
  have h1 := r16_any lv l w h hl hts hks
  have HTM := Lib.hid (fun W (hW : Below w.heap.size w W) => rterms16_any lv l.length l W rfl (h.below hW) hl)
  have HFR := Lib.hid hf
  have hsl : (setOf (wordsOf l)).length ≤ 100000 := Nat.le_trans (setOf_len _) (Nat.le_trans (wordsOf_len _) hl)
  obtain ⟨al, cl, rfl, -⟩ := ops_cells h
  obtain ⟨af, cf, rfl, hmf, HC⟩ := ints2_cells hf
  cases hq : qRight l with
  | false =>
    have hok : runOK l found = false := by unfold runOK; rw [hq]; rfl
    rw [hok]
    rw [hq] at h1
    have H1 := Lib.hid h1
    clear h1 hok hq HTM HFR HC h hf hts hks
    go_enter Tryd.func19, Tryd.ntmps19
    go_wp2_with (go_at_call 25; refine H1.out.mono ?_; rintro e w1 ⟨rfl, b1⟩)
    go_ret
    exact ⟨rfl, b1⟩
  | true =>
    rw [hq] at h1
    have H1 := Lib.hid h1
    have HOK : Hid (runOK l found = (decide (found.length = (setOf (wordsOf l)).length) && found.all postRight)) := by show _ = _; unfold runOK; rw [hq]; rfl
    generalize setOf (wordsOf l) = ts at *
    by_cases hlen : found.length = ts.length
    · have HOK2 : Hid (runOK l found = found.all postRight) := by show _ = _; rw [HOK.out, decide_eq_true hlen]; rfl
      have n1 : ((found.length : Int) != (ts.length : Int)) = false := by rw [hlen]; simp
      rw [hlen] at hmf ⊢
      have HLEN := Lib.hid hlen
      clear h1 hq h hf hts hks HOK hlen
      go_enter Tryd.func19, Tryd.ntmps19
      go_wp2_with (first
        | (go_at_call 25; refine H1.out.mono ?_; rintro e w1 ⟨rfl, b1⟩)
        | (go_at_call 47; refine (HTM.out w1 b1).mono ?_; rintro e w2 ⟨v2, rfl, r2, b2⟩; obtain ⟨a2, c2, rfl, -, -⟩ := strs_cells' rfl r2; have B2 := b1.trans (b2.mono b1.size); clear r2))
      go_loopw [5] (fun i wr => ∃ k : Nat, k ≤ ts.length ∧ i = .int .i64 k ∧ Hid (runOK l found = (found.drop k).all postRight) ∧ Below w.heap.size w wr) (fun i _ => ts.length - (intOf i).toNat)
      case atStart => exact ⟨0, Nat.zero_le _, rfl, HOK2.out, B2⟩
      case round =>
        obtain ⟨k, hk, rfl, HP, hbel⟩ := hrel
        by_cases hlt : k < ts.length
        · have h2 : k < found.length := by have := HLEN.out; omega
          obtain ⟨b, off, da, dc, rfl, c0, c3⟩ := HC.out k h2
          have c1 := (hbel.cell (World.block_lt_of_cell? w _ c0)).trans c0
          have ki : (k : Int) < (ts.length : Int) := by omega
          have k0 : (0 : Int) ≤ (k : Int) := by omega
          have hp := HP.out
          rw [List.drop_eq_getElem_cons h2, List.all_cons] at hp
          have hr := rpost_any (.slice da found[k].length dc) found[k].length found[k] wr rfl (c3.below hbel)
          clear HP c3 c0
          generalize found[k] = ff at *
          cases hpr : postRight ff with
          | true =>
            rw [hpr] at hr hp
            rw [Bool.true_and] at hp
            have HX := Lib.hid hp
            have HR := Lib.hid hr
            clear hp hr hpr
            go_wp2_with (go_at_call 48; refine HR.out.mono ?_; rintro e w3 ⟨rfl, b3⟩)
            go_roundw
            case rel => exact ⟨k + 1, by omega, by go_num, HX.out, hbel.trans (b3.mono hbel.size)⟩
            case measure => simp [intOf]; omega
          | false =>
            rw [hpr] at hr hp
            rw [Bool.false_and] at hp
            have HX := Lib.hid hp
            have HR := Lib.hid hr
            clear hp hr hpr
            go_wp2_with (go_at_call 48; refine HR.out.mono ?_; rintro e w3 ⟨rfl, b3⟩)
            go_ret
            exact ⟨by rw [HX.out]; rfl, hbel.trans (b3.mono hbel.size)⟩
        · have ki : ¬ (k : Int) < (ts.length : Int) := by omega
          have hp := HP.out
          rw [List.drop_of_length_le (by have := HLEN.out; omega)] at hp
          have HX := Lib.hid hp
          clear hp HP
          go_wp2
          go_ret
          exact ⟨by rw [HX.out]; rfl, hbel⟩
    · have HOK2 : Hid (runOK l found = false) := by show _ = _; rw [HOK.out, decide_eq_false hlen]; rfl
      have n1 : ((found.length : Int) != (ts.length : Int)) = true := by rw [bne_iff_ne]; omega
      clear h1 hq h hf hts hks HOK HC HFR hlen
      go_enter Tryd.func19, Tryd.ntmps19
      go_wp2_with (first
        | (go_at_call 25; refine H1.out.mono ?_; rintro e w1 ⟨rfl, b1⟩)
        | (go_at_call 47; refine (HTM.out w1 b1).mono ?_; rintro e w2 ⟨v2, rfl, r2, b2⟩; obtain ⟨a2, c2, rfl, -, -⟩ := strs_cells' rfl r2; have B2 := b1.trans (b2.mono b1.size); clear r2))
      go_ret
      exact ⟨by rw [HOK2.out]; rfl, B2⟩

theorem runOK_parts {l : List QOp} {found : List (List Int)} (h : runOK l found = true) : qRight l = true ∧ found.length = (setOf (wordsOf l)).length ∧ found.all postRight = true := by
  unfold runOK at h
  simp only [Bool.and_eq_true, decide_eq_true_eq] at h
  exact ⟨h.1.1, h.1.2, h.2⟩

set_option maxRecDepth 100000 in
set_option maxHeartbeats 4000000 in
theorem run17all_any (lv fv : Value) (l : List QOp) (found : List (List Int)) (w : World) (hf : IntsRd w fv found) (h : Rd w lv l.length 2 (ocells l)) (hl : l.length ≤ 100000) (hok : runOK l found = true) :
    Calls Tryd.prog 21 #[lv, fv] w (GivesRd w (runF l found).length 1 (icells (runF l found))) := by
  obtain ⟨hq, hlen, hall⟩ := runOK_parts hok
  obtain ⟨T, hT, hst, -⟩ := right_qt hq
  have hev : runF l found = T.ev (fun t => atL t (setOf (wordsOf l)) found) opI := by unfold runF; rw [← hst]; exact evL_qt _ _ hT _
  have HTM := Lib.hid (rterms16_any lv l.length l w rfl h hl)
  have hsl : (setOf (wordsOf l)).length ≤ 100000 := Nat.le_trans (setOf_len _) (Nat.le_trans (wordsOf_len _) hl)
  have HRN := Lib.hid (fun (tv : Value) (W : World) (hW : Below w.heap.size w W) (hr : Rd W tv (setOf (wordsOf l)).length 1 (scells (setOf (wordsOf l)))) =>
    run17_any W (setOf (wordsOf l)) (setOf (wordsOf l)).length found tv fv rfl hlen hsl hr (hf.below hW) (by simpa using hall) T hT lv l.length W (Below.refl _ _) (by rw [hst]) hl (by rw [hst]; exact h.below hW))
  rw [← hev] at HRN
  obtain ⟨al, cl, rfl, -⟩ := ops_cells h
  obtain ⟨af, cf, rfl, -, -⟩ := ints2_cells hf
  generalize runF l found = R at *
  generalize setOf (wordsOf l) = ts at *
  clear hall hlen hev hst hT hq hok h hf
  go_enter Tryd.func21, Tryd.ntmps21
  go_wp2_with (first
    | (go_at_call 47; refine HTM.out.mono ?_; rintro e w2 ⟨v2, rfl, r2, b2⟩; obtain ⟨a2, c2, rfl, -, -⟩ := strs_cells' rfl r2)
    | (go_at_call 49; refine (HRN.out _ w2 b2 r2).mono ?_; rintro e w3 ⟨v3, rfl, r3, b3⟩; have R3 := Lib.hid r3; clear r3))
  go_ret
  exact ⟨_, rfl, R3.out, b2.trans (b3.mono b2.size)⟩

theorem run_er (lv fv : Value) (l : List QOp) (found : List (List Int)) (w : World) (ht : Tabs w) (hf : IntsRd w fv found) (h : Rd w lv l.length 2 (ocells l)) (hl : l.length ≤ 100000) (hts : ∀ s ∈ l, s.2.length ≤ 100000) (hks : ∀ s ∈ l, -9223372036854775808 ≤ s.1 ∧ s.1 ≤ 9223372036854775807) :
    Calls Tryd.prog 17 #[lv, fv] w (GivesR w (if runOK l found = true then 0 else 1) (if runOK l found = true then runF l found else [])) := by
  have no : ∀ {f}, Calls Tryd.prog f #[lv, fv] w (NoneN w) → Calls Tryd.prog f #[lv, fv] w (GivesR w 1 []) := fun h => h.mono fun e w' ⟨he, hb⟩ => ⟨_, he, World.ownsRow_nil _ _ _ _, hb⟩
  cases hq : qRight l with
  | false =>
    have hok : runOK l found = false := by unfold runOK; rw [hq]; rfl
    rw [hok]
    exact no (run_no1 lv fv l found w ht hf h hl hts hks hq)
  | true =>
    by_cases hlen : found.length = (setOf (wordsOf l)).length
    · cases hall : found.all postRight with
      | true =>
        have hok : runOK l found = true := by unfold runOK; rw [hq, decide_eq_true hlen, hall]; rfl
        rw [hok]
        exact run_yes lv fv l found w ht hf h hl hts hks hq hlen hall
      | false =>
        have hok : runOK l found = false := by unfold runOK; rw [hq, decide_eq_true hlen, hall]; rfl
        rw [hok]
        exact no (run_no3 lv fv l found w ht hf h hl hts hks hq hlen hall)
    · have hok : runOK l found = false := by unfold runOK; rw [hq, decide_eq_false hlen]; rfl
      rw [hok]
      exact no (run_no2 lv fv l found w ht hf h hl hts hks hq hlen)
end Go.Proofs.YteegbjjpjdlcmaaDoor
