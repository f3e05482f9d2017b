/- rubrickref05.least, Sorted. -/
import Derived.Test.YteegbjjpjdlcmaaGreatDoorTokRight
import Derived.Test.YteegbjjpjdlcmaaGreatDoorOwn
import Derived.Test.YteegbjjpjdlcmaaGreatDoorSetLaw
import Derived.Sort.Walk0
import Derived.Lib.QuietBelow
import Derived.BigQuiet
import Derived.WalkLawsBesides
set_option linter.unusedVariables false
namespace Go.Proofs.YteegbjjpjdlcmaaGreatDoor
open Go.RowKit Go.Sort

theorem less_is (x y : List UInt8) : Op.bytesLess (bstr x).toList (bstr y).toList = ltStr x y := by
  rw [btoList, btoList, bytesLess_eq]; rfl

theorem strs_cells {w : World} {v : Value} {l : List (List UInt8)} (h : Rd w v l.length 1 (scells l)) :
    ∃ ao c, v = .slice ao l.length c ∧ l.length ≤ 9223372036854775807 ∧ Hid (∀ i (hi : i < l.length), ∃ b off, ao = some ⟨b, off, none⟩ ∧ w.cell? ⟨b, off + i, none⟩ = some (str l[i])) := by
  obtain ⟨-, hm, ⟨ao, c, rfl, h0⟩ | ⟨b, off, c, rfl, -, -, -, h3⟩⟩ := h
  · exact ⟨ao, c, by rw [h0], by omega, fun i hi => by omega⟩
  · exact ⟨_, c, rfl, by unfold maxLen at hm; omega, fun i hi => ⟨b, off, rfl, h3 i _ (by simp [scells, hi])⟩⟩
theorem strs_cells' {w : World} {v : Value} {l : List (List UInt8)} {n : Nat} (hln : l.length = n) (h : Rd w v n 1 (scells l)) :
    ∃ ao c, v = .slice ao n c ∧ n ≤ 9223372036854775807 ∧ Hid (∀ i (hi : i < l.length), ∃ b off, ao = some ⟨b, off, none⟩ ∧ w.cell? ⟨b, off + i, none⟩ = some (str l[i])) := by
  subst hln
  exact strs_cells h

def LeastIs (l : List (List UInt8)) (w : World) (e : Ending) (w' : World) : Prop := ∃ (m : Nat) (hm : m < l.length), e = .returned (.int .i64 m) ∧ (∀ j (hj : j < l.length), ltStr l[j] l[m] = false) ∧ Below w.heap.size w w'

set_option maxRecDepth 100000 in
set_option maxHeartbeats 4000000 in
theorem rleast05_any (v : Value) (n : Nat) (l : List (List UInt8)) (w : World) (hln : l.length = n) (h : Rd w v n 1 (scells l)) (h0 : 0 < n) :
    Calls Tryz.prog 39 #[v] w (LeastIs l w) := by
  obtain ⟨ao, c, rfl, hm, HC⟩ := strs_cells' hln h
  have HLN := Lib.hid hln
  have mixed : Tryz.prog.follows .mixedOrders = true := by kernel_rfl
  clear h hln
  go_enter Tryz.func39, Tryz.ntmps39
  go_wp2
  go_loopw [3, 4] (fun mv i wr => ∃ (k m : Nat) (hml : m < l.length), k ≤ n ∧ 1 ≤ k ∧ mv = .int .i64 m ∧ i = .int .i64 k ∧ Hid (∀ j (hj : j < l.length), j < k → ltStr l[j] l[m] = false) ∧ Below w.heap.size w wr) (fun _ i _ => n - (intOf i).toNat)
  case atStart => exact ⟨1, 0, by have := HLN.out; omega, h0, Nat.le_refl _, rfl, rfl, fun j hj h1 => by obtain rfl : j = 0 := (by omega); exact swo_ltStr.irrefl _, Below.refl _ _⟩
  case round =>
    obtain ⟨k, m, hml, hk, hk1, rfl, rfl, HT, hbel⟩ := hrel
    have hmn : m < n := by have := HLN.out; omega
    by_cases hlt : k < n
    · have hkl : k < l.length := by have := HLN.out; omega
      obtain ⟨b, off, rfl, c1⟩ := HC.out k hkl
      obtain ⟨b', off', he, c2⟩ := HC.out m hml
      simp only [Option.some.injEq, Addr.mk.injEq, and_true] at he
      obtain ⟨rfl, rfl⟩ := he
      have r1 := cell_regrown (cell_later hbel c1)
      have r2 := cell_regrown (cell_later hbel c2)
      have i1 : (k : Int) < (n : Int) := by omega
      have i2 : (0 : Int) ≤ (k : Int) := by omega
      have i3 : (m : Int) < (n : Int) := by omega
      have i4 : (0 : Int) ≤ (m : Int) := by omega
      have hl := less_is l[k] l[m]
      have HY : Hid (ltStr l[k] l[m] = true → ∀ j (hj : j < l.length), j < k + 1 → ltStr l[j] l[k] = false) := fun h j hj h1 => by
        by_cases e : j = k
        · subst e; exact swo_ltStr.irrefl _
        · exact swo_ltStr.ntrans _ _ _ (HT.out j hj (by omega)) (swo_ltStr.asymmA h)
      have HZ : Hid (ltStr l[k] l[m] = false → ∀ j (hj : j < l.length), j < k + 1 → ltStr l[j] l[m] = false) := fun h j hj h1 => by
        by_cases e : j = k
        · subst e; exact h
        · exact HT.out j hj (by omega)
      cases hb : ltStr l[k] l[m] with
      | true =>
        have HY2 := Lib.hid (HY.out hb)
        rw [hb] at hl
        obtain ⟨tx, hx⟩ : ∃ t, t = l[k] := ⟨_, rfl⟩
        obtain ⟨ty, hy⟩ : ∃ t, t = l[m] := ⟨_, rfl⟩
        rw [← hx] at r1 hl
        rw [← hy] at r2 hl
        unfold str at r1 r2
        clear c1 c2 HY HZ hb hx hy
        go_wp2_with fail
        refine wp_region_quiet_below mixed (by kernel_rfl) ?_
        repeat (go_big_quiet_step (fail))
        refine wpQuiet_nil ?_
        intro W2 hw'
        obtain ⟨⟨dq, osq⟩, hw''⟩ := hw'
        have hbq := hbel.trans ((below_regrown wr dq osq).mono hbel.size)
        rw [← hw''] at hbq
        clear hw'' r1 r2
        go_wp2
        go_roundw
        case rel => exact ⟨k + 1, k, hkl, by omega, by omega, rfl, by go_num, HY2.out, hbq⟩
        case measure => simp [intOf]; omega
      | false =>
        have HZ2 := Lib.hid (HZ.out hb)
        rw [hb] at hl
        obtain ⟨tx, hx⟩ : ∃ t, t = l[k] := ⟨_, rfl⟩
        obtain ⟨ty, hy⟩ : ∃ t, t = l[m] := ⟨_, rfl⟩
        rw [← hx] at r1 hl
        rw [← hy] at r2 hl
        unfold str at r1 r2
        clear c1 c2 HY HZ hb hx hy
        go_wp2_with fail
        refine wp_region_quiet_below mixed (by kernel_rfl) ?_
        repeat (go_big_quiet_step (fail))
        refine wpQuiet_nil ?_
        intro W2 hw'
        obtain ⟨⟨dq, osq⟩, hw''⟩ := hw'
        have hbq := hbel.trans ((below_regrown wr dq osq).mono hbel.size)
        rw [← hw''] at hbq
        clear hw'' r1 r2
        go_wp2
        go_roundw
        case rel => exact ⟨k + 1, m, hml, by omega, by omega, rfl, by go_num, HZ2.out, hbq⟩
        case measure => simp [intOf]; omega
    · have i1 : ¬ (k : Int) < (n : Int) := by omega
      go_wp2
      go_ret
      exact ⟨m, hml, rfl, fun j hj => HT.out j hj (by have := HLN.out; omega), hbel⟩

/-! ### Sorted -/
def SelInv (out l' l : List (List UInt8)) : Prop := Rises ltStr out ∧ (∀ x ∈ out, ∀ y ∈ l', ltStr x y = true) ∧ ∀ t, (t ∈ out ∨ t ∈ l') ↔ t ∈ l

theorem SelInv.start (l : List (List UInt8)) : SelInv [] l l := ⟨List.Pairwise.nil, by simp, by simp⟩
theorem SelInv.done {out l : List (List UInt8)} (h : SelInv out [] l) : out = setOf l := setOf_unique h.1 fun t => by have := h.2.2 t; simpa using this
theorem SelInv.step {out l' l : List (List UInt8)} {s : List UInt8} (hs : s ∈ l') (hmin : ∀ y ∈ l', ltStr y s = false) (h : SelInv out l' l) : SelInv (out ++ [s]) (l'.filter (· != s)) l := by
  obtain ⟨h1, h2, h3⟩ := h
  refine ⟨?_, ?_, ?_⟩
  · refine List.pairwise_append.2 ⟨h1, by simp, fun x hx y hy => ?_⟩
    obtain rfl := List.mem_singleton.1 hy
    exact h2 x hx _ hs
  · intro x hx y hy
    obtain ⟨hy1, hy2⟩ := List.mem_filter.1 hy
    rcases List.mem_append.1 hx with hx | hx
    · exact h2 x hx y hy1
    · obtain rfl := List.mem_singleton.1 hx
      have hne : y ≠ x := by simpa using hy2
      cases h4 : ltStr x y with
      | true => rfl
      | false => exact absurd (totStr y x (hmin y hy1) h4) hne
  · intro t
    rw [← h3 t, List.mem_append, List.mem_singleton, List.mem_filter]
    constructor
    · rintro ((h | rfl) | h)
      · exact .inl h
      · exact .inr hs
      · exact .inr h.1
    · rintro (h | h)
      · exact .inl (.inl h)
      · by_cases e : t = s
        · exact .inl (.inr e)
        · exact .inr ⟨h, by simpa using e⟩

theorem filter_lt {l : List (List UInt8)} {s : List UInt8} (hs : s ∈ l) : (l.filter (· != s)).length < l.length := by
  rw [List.length_filter_lt_length_iff_exists]
  exact ⟨s, hs, by simp⟩

theorem Rd.kept {w w' : World} {v : Value} {n sz : Nat} {cells : List Value} {r : Option Nat} (h : Rd w v n sz cells) (hg : w.grownBy w' r) (hne : ∀ a m c, v = .slice (some a) m c → some a.block ≠ r) : Rd w' v n sz cells := by
  obtain ⟨h1, hm, h2⟩ := h
  refine ⟨h1, hm, ?_⟩
  rcases h2 with h2 | ⟨b, off, c, hv, h3, h4, h5, h6⟩
  · exact .inl h2
  · refine .inr ⟨b, off, c, hv, h3, h4, h5, fun i u hi => ?_⟩
    have h7 := h6 i u hi
    rw [World.cell?_of_block (hg.block b (World.block_lt_of_cell? w _ h7) (hne _ _ _ hv))]
    exact h7

/-- two slices that lie apart. -/
def Apart (v o : Value) : Prop := ∀ a m c, v = .slice (some a) m c → some a.block ≠ o.ownBlock

theorem mem_min {l : List (List UInt8)} {m : Nat} (hm : m < l.length) (h : ∀ j (hj : j < l.length), ltStr l[j] l[m] = false) : ∀ y ∈ l, ltStr y l[m] = false := by
  intro y hy
  obtain ⟨j, hj, rfl⟩ := List.mem_iff_getElem.1 hy
  exact h j hj

theorem filter_snoc (l : List (List UInt8)) (s : List UInt8) (k : Nat) (hk : k < l.length) : (l.take (k + 1)).filter (· != s) = (l.take k).filter (· != s) ++ (if l[k] = s then [] else [l[k]]) := by
  rw [List.take_succ_eq_append_getElem hk, List.filter_append]
  congr 1
  by_cases h : l[k] = s <;> simp [h]

theorem rd_form {w : World} {ao : Option Addr} {c n : Nat} {l : List (List UInt8)} (hln : l.length = n) (h : Rd w (.slice ao n c) n 1 (scells l)) (h0 : 0 < n) :
    ∃ b off, ao = some ⟨b, off, none⟩ ∧ n ≤ c ∧ c ≤ maxLen ∧ ∀ i (hi : i < l.length), w.cell? ⟨b, off + i, none⟩ = some (str l[i]) := by
  obtain ⟨-, -, ⟨ao', c', hv, h0'⟩ | ⟨b, off, c', hv, -, h2, h3, h4⟩⟩ := h
  · omega
  · simp only [Value.slice.injEq] at hv
    obtain ⟨rfl, -, rfl⟩ := hv
    exact ⟨b, off, rfl, h2, h3, fun i hi => h4 i _ (by simp [scells, hi])⟩

set_option maxRecDepth 100000 in
set_option maxHeartbeats 8000000 in
theorem rsorted_any (v : Value) (n : Nat) (l : List (List UInt8)) (w : World) (hln : l.length = n) (h : Rd w v n 1 (scells l)) (hn : n ≤ 100000) :
    Calls Tryz.prog 29 #[v] w (Gives w 9 1 (setOf l).length (scells (setOf l))) := by
  obtain ⟨j0, hj, hy0, hy1, hy2⟩ := info_parts infoStr
  obtain ⟨ao0, c0, rfl⟩ : ∃ ao c, v = .slice ao n c := by
    obtain ⟨a, c, h, -⟩ := strs_cells' hln h
    exact ⟨a, c, h⟩
  have HR := Lib.hid h
  have HLN := Lib.hid hln
  clear h hln
  go_enter Tryz.func29, Tryz.ntmps29
  go_wp2
  go_loopw [0, 3] (fun lv o wr => ∃ (q m : Nat) (l' out : List (List UInt8)), Hid (l'.length = q ∧ out.length = m) ∧ q + m ≤ n ∧ Hid (Rd wr lv q 1 (scells l')) ∧ lenOf lv = q ∧ wr.ownsRow w.heap.size 9 1 o m (scells out) ∧ Hid (Apart lv o) ∧ Hid (SelInv out l' l) ∧ Below w.heap.size w wr) (fun lv _ _ => lenOf lv)
  case atStart =>
    refine ⟨n, 0, l, [], ⟨HLN.out, rfl⟩, Nat.le_refl _, HR.out, rfl, World.ownsRow_nil _ _ _ _, ?_, SelInv.start l, Below.refl _ _⟩
    intro a m c _ h
    simp [Value.ownBlock] at h
  case round =>
    obtain ⟨q, m, l', out, HL, hqm, HRD, hlv, hown, HA, HI, hbel⟩ := hrel
    obtain ⟨la, lc, rfl⟩ : ∃ ao c, u0 = .slice ao q c := by
      obtain ⟨a, c, h, -⟩ := strs_cells' HL.out.1 HRD.out
      exact ⟨a, c, h⟩
    have hsz := hbel.size
    rcases Nat.eq_zero_or_pos q with h0 | h0
    · subst h0
      have hfin : Hid (setOf l = out) := by
        have hx : l' = [] := List.length_eq_zero_iff.1 HL.out.1
        have := HI.out
        rw [hx] at this
        exact this.done.symm
      go_wp2
      go_ret
      rw [hfin.out]
      exact ⟨_, rfl, by rw [HL.out.2]; exact hown, hbel⟩
    · have i0 : (0 : Int) < (q : Int) := by omega
      have HLS := Lib.hid (rleast05_any _ q l' wr HL.out.1 HRD.out h0)
      clear hlv
      obtain ⟨oa, oc, rfl⟩ := own_shape hown
      have hNs : ∀ s : List UInt8, ∀ u ∈ [Value.string (bstr s)], u.oneCell' = true := by intro s u hu; simp at hu; subst hu; rfl
      have HNs := Lib.hid hNs
      clear hNs
      have hml1 : m ≤ 100000 := by omega
      go_wp2_with (first | (at_builtin; refine wpList_app rfl _ _ _ _ rfl w.heap.size 9 j0 _ 1 16 Tryz.underlying64 hj hy0 hy1 hy2 rfl (.slice oa m oc) m _ rfl ((own_below' hown hb1).alloc _) _ 1 [Value.string (bstr s)] rfl (src_new Tryz.underlying64 w1 _ 1 1 1 rfl (HNs.out s)) (by unfold maxLen; omega) (by omega) (by have := hb1.size; simp; omega) ?_; intro v2 w2 hown2 hgr2 hob2 _; have hbA : Below wr.heap.size wr (w1.alloc (.cells #[Value.string (bstr s)] 9)) := hb1.alloc hb1.size _; have HRD2 := Lib.hid ((HRD.out.below hbA).kept hgr2 HA.out); have hB2 : Below w.heap.size w w2 := ((hbel.trans (hb1.mono hsz)).alloc (by have := hb1.size; omega) _).grown hgr2 (by have := hb1.size; simp; omega) (fun j hj => (hown.lt j hj).1); clear hgr2) | (go_at_call 39; refine HLS.out.mono ?_; rintro e w1 ⟨ml, hml, rfl, hmin, hb1⟩; have hmq : ml < q := (by have := HL.out.1; omega); obtain ⟨b, off, rfl, cs0, hcm, hcl⟩ := rd_form HL.out.1 HRD.out h0; have c1 := cell_later hb1 (hcl ml hml); have hmi : (ml : Int) < (q : Int) := (by omega); have HMIN := Lib.hid (mem_min hml hmin); have HMEM := Lib.hid (List.getElem_mem hml); obtain ⟨s, hs⟩ : ∃ s, s = l'[ml] := ⟨_, rfl⟩; rw [← hs] at c1 HMIN HMEM; have HCL := Lib.hid hcl; clear hcl hmin hs; unfold str at c1))
      have hO2 := Lib.hid hown2
      have HOB := Lib.hid hob2
      have HB2 := Lib.hid hB2
      have hsz2 := hB2.size
      clear hown2 hob2 hbA hB2 hown c1 hb1
      obtain ⟨b2, off2, hbo, -, -, hcl2⟩ := rd_form HL.out.1 HRD2.out h0
      simp only [Option.some.injEq, Addr.mk.injEq, and_true] at hbo
      obtain ⟨rfl, rfl⟩ := hbo
      have HC2 := Lib.hid hcl2
      clear hcl2
      go_loopw [5, 6] (fun rv iv W => ∃ k : Nat, k ≤ q ∧ iv = .int .i64 k ∧ W.ownsRow w2.heap.size 9 1 rv ((l'.take k).filter (· != s)).length (scells ((l'.take k).filter (· != s))) ∧ Below w2.heap.size w2 W) (fun _ iv _ => q - (intOf iv).toNat)
      case atStart => exact ⟨0, Nat.zero_le _, rfl, World.ownsRow_nil _ _ _ _, Below.refl _ _⟩
      case round =>
        obtain ⟨k, hk, rfl, hownR, hbelR⟩ := hrel
        have hszR := hbelR.size
        obtain ⟨ra, rc, rfl⟩ := own_shape hownR
        by_cases hkq : k < q
        · have hkl : k < l'.length := by have := HL.out.1; omega
          have c1 := cell_later hbelR (HC2.out k hkl)
          have ki : (k : Int) < (q : Int) := by omega
          have HF := Lib.hid (filter_snoc l' s k hkl)
          have hfl : ((l'.take k).filter (· != s)).length ≤ 100000 := by
            have h1 := List.length_filter_le (· != s) (l'.take k)
            rw [List.length_take] at h1
            omega
          generalize (l'.take k).filter (· != s) = fl at *
          obtain ⟨t, ht⟩ : ∃ t, t = l'[k] := ⟨_, rfl⟩
          have e1 := btoList t
          have e2 := btoList s
          by_cases hts : t = s
          · have n1 : ((bstr t).toList == (bstr s).toList) = true := by rw [hts]; exact beq_self_eq_true _
            have HF2 : Hid ((l'.take (k + 1)).filter (· != s) = fl) := by show _ = _; rw [HF.out, ← ht, if_pos hts, List.append_nil]
            rw [← ht] at c1
            unfold str at c1
            clear hts ht e1 e2
            go_wp2
            go_roundw
            case rel => exact ⟨k + 1, by omega, by go_num, by rw [HF2.out]; exact hownR, hbelR⟩
            case measure => simp [intOf]; omega
          · have n1 : ((bstr t).toList == (bstr s).toList) = false := by rw [e1, e2]; simpa using hts
            have HF2 : Hid ((l'.take (k + 1)).filter (· != s) = fl ++ [t]) := by show _ = _; rw [HF.out, ← ht, if_neg hts]
            rw [← ht] at c1
            unfold str at c1
            clear hts ht e1 e2
            go_wp2_with (at_builtin; refine wpList_app rfl _ _ _ _ rfl w2.heap.size 9 j0 _ 1 16 Tryz.underlying64 hj hy0 hy1 hy2 rfl (.slice ra fl.length rc) fl.length _ rfl (hownR.alloc _) _ 1 [Value.string (bstr t)] rfl (src_new Tryz.underlying64 wr _ 1 1 1 rfl (HNs.out t)) (by unfold maxLen; omega) (by omega) (by simp; omega) ?_; intro v3 w3 hown3 hgr3 _ _)
            have hB3 : Below w2.heap.size w2 w3 := (hbelR.alloc hszR _).grown hgr3 (by simp; omega) (fun j hj => (hownR.lt j hj).1)
            clear hgr3
            go_wp2
            go_roundw
            case rel => exact ⟨k + 1, by omega, by go_num, by rw [HF2.out, List.length_append, scells_append]; exact hown3, hB3⟩
            case measure => simp [intOf]; omega
        · have hke : k = q := by omega
          subst hke
          have ki : ¬ (k : Int) < (k : Int) := by omega
          rw [show l'.take k = l' from List.take_of_length_le (by have := HL.out.1; omega)] at hownR ⊢
          have hlt := filter_lt HMEM.out
          have hql := HL.out.1
          have hSI := Lib.hid (SelInv.step HMEM.out HMIN.out HI.out)
          go_wp2
          go_roundw
          case rel =>
            refine ⟨(l'.filter (· != s)).length, m + 1, l'.filter (· != s), out ++ [s], ⟨rfl, by rw [List.length_append, HL.out.2]; rfl⟩, by omega, Rd.of_own hownR, rfl, ?_, ?_, hSI.out, HB2.out.trans (hbelR.mono hsz2)⟩
            · rw [scells_append]
              exact own_below' hO2.out hbelR
            · intro a mm cc hv hbk
              have h1 := hownR.lt a.block (by rw [hv]; rfl)
              have h2 := hO2.out.lt a.block hbk.symm
              omega
          case measure => show (l'.filter (· != s)).length < k; omega
end Go.Proofs.YteegbjjpjdlcmaaGreatDoor
