/- merge.union of any number of segments. -/
import Derived.Test.YteegbjjpjdlcmaaGreatDoorMakeUni
import Derived.Test.YteegbjjpjdlcmaaGreatDoorDictWz
import Derived.Test.YteegbjjpjdlcmaaGreatDoorOwn
import Derived.Test.YteegbjjpjdlcmaaGreatDoorElemA
import Derived.Test.YteegbjjpjdlcmaaGreatDoorHeld2
import Derived.Deep.RegionHeld3
import Derived.WalkMore
import Derived.Deep.LoopGhost
import Derived.Deep.OwnRows
import Derived.Test.YteegbjjpjdlcmaaGreatDoorSame09
set_option linter.unusedVariables false
namespace Go.Proofs.YteegbjjpjdlcmaaGreatDoor
open Go.RowKit Go.Sort

theorem own_same {w w' : World} {base : Nat} {e : TypeId} {size : Nat} {v : Value} {n : Nat} {xs : List Value} (h : w.ownsRow base e size v n xs) (hb : ∀ g, v.ownBlock = some g → w'.heap[g]? = w.heap[g]?) : w'.ownsRow base e size v n xs := by
  obtain ⟨hl, hh⟩ := h
  refine ⟨hl, ?_⟩
  rcases hh with h | ⟨g, cap, cur, hv, hbg, hg, hr⟩
  · exact .inl h
  · exact .inr ⟨g, cap, cur, hv, hbg, by rw [hb g (by rw [hv]; rfl)]; exact hg, hr⟩

/-- segments that lie in a row of cells. -/
structure SegIn (w : World) (g off m : Nat) (F T : Nat → Int) (V : Nat → Value) (D : Nat → List Ent) : Prop where
  c0 : ∀ i, i < m → w.cell? ⟨g, off + i * 3, none⟩ = some (.int .i64 (F i))
  c1 : ∀ i, i < m → w.cell? ⟨g, off + i * 3 + 1, none⟩ = some (.int .i64 (T i))
  c2 : ∀ i, i < m → w.cell? ⟨g, off + i * 3 + 2, none⟩ = some (V i)
  rd : ∀ i, i < m → DRd w (V i) (D i).length (D i)
theorem SegIn.below {w w' : World} {g off m : Nat} {F T : Nat → Int} {V : Nat → Value} {D : Nat → List Ent} (h : SegIn w g off m F T V D) (hb : Below w.heap.size w w') : SegIn w' g off m F T V D :=
  ⟨fun i hi => cell_later hb (h.c0 i hi), fun i hi => cell_later hb (h.c1 i hi), fun i hi => cell_later hb (h.c2 i hi), fun i hi => (h.rd i hi).below hb⟩

/-- the numbers of what is done. -/
def NextIs (w : World) (nb m : Nat) (p : Nat → Nat) : Prop := ∃ cs : Array Value, w.heap[nb]? = some (.cells cs 3 (0, 0)) ∧ cs.size = m ∧ ∀ i, i < m → cs[i]? = some (.int .i64 (p i))
theorem NextIs.cell {w : World} {nb m : Nat} {p : Nat → Nat} (h : NextIs w nb m p) {i : Nat} (hi : i < m) : w.cell? ⟨nb, i, none⟩ = some (.int .i64 (p i)) ∧ w.frozen? ⟨nb, i, none⟩ = false ∧ nb < w.heap.size := by
  obtain ⟨cs, h1, h2, h3⟩ := h
  exact ⟨by rw [cell_of_row _ _ _ _ _ _ h1]; exact h3 i hi, frozen_of_row _ _ _ _ _ h1, lt_of_block h1⟩
theorem NextIs.same {w w' : World} {nb m : Nat} {p : Nat → Nat} (h : NextIs w nb m p) (hb : w'.heap[nb]? = w.heap[nb]?) : NextIs w' nb m p := by
  obtain ⟨cs, h1, h2, h3⟩ := h
  exact ⟨cs, by rw [hb]; exact h1, h2, h3⟩
theorem NextIs.congr {w : World} {nb m : Nat} {p q : Nat → Nat} (h : NextIs w nb m p) (hq : ∀ i, i < m → p i = q i) : NextIs w nb m q := by
  obtain ⟨cs, h1, h2, h3⟩ := h
  exact ⟨cs, h1, h2, fun i hi => by rw [← hq i hi]; exact h3 i hi⟩
theorem NextIs.set {w : World} {nb m : Nat} {p q : Nat → Nat} (h : NextIs w nb m p) (j : Nat) (x : Int) (hx : x = (q j : Int)) (hq : ∀ i, i < m → i ≠ j → p i = q i) : NextIs (w.setCell ⟨nb, j, none⟩ (.int .i64 x)) nb m q := by
  obtain ⟨cs, h1, h2, h3⟩ := h
  refine ⟨_, heap_setCell_same w nb j cs _ _ h1, by simpa using h2, fun i hi => ?_⟩
  by_cases e : i = j
  · subst e
    simp [h2, hi, hx]
  · rw [Array.getElem?_setIfInBounds_ne (fun e' => e e'.symm), ← hq i hi e]
    exact h3 i hi

/-- the entries that have been written down. -/
def EOut (w : World) (B nb : Nat) (dv : Value) (d : List Ent) (cells : List Value) : Prop :=
  ∀ i (hi : i < d.length), cells[i * 2]? = some (str d[i].1) ∧ ∃ xv, cells[i * 2 + 1]? = some xv ∧ w.ownsRow B 3 1 xv d[i].2.length (icells d[i].2) ∧ ∀ g, xv.ownBlock = some g → g ≠ nb ∧ dv.ownBlock ≠ some g

/-- where the merging stands: k entries are written. -/
structure UIn (w wr : World) (m k : Nat) (p : Nat → Nat) (dv : Value) (d : List Ent) (cells : List Value) : Prop where
  own : wr.ownsRow w.heap.size 61 2 dv k cells
  out : EOut wr w.heap.size w.heap.size dv (d.take k) cells
  next : NextIs wr w.heap.size m p
  off : dv.ownBlock ≠ some w.heap.size
  bel : Below w.heap.size w wr

theorem infoIntU : (Tryz.prog.info? 3).map (fun i => (i.zero, i.size, i.bytes)) = some (some (.int .i64 0), 1, 8) := by kernel_rfl
theorem infoEnt : (Tryz.prog.info? 61).map (fun i => (i.zero, i.size, i.bytes)) = some (some (.agg #[.string ByteArray.empty, .slice none 0 0]), 2, 40) := by kernel_rfl

theorem UIn.later {w wr w2 : World} {m n : Nat} {p : Nat → Nat} {dv : Value} {d : List Ent} {cells : List Value} (h : UIn w wr m n p dv d cells) (hl : d.length = n) (hk : ∀ b, w.heap.size ≤ b → b < wr.heap.size → w2.heap[b]? = wr.heap[b]?) : DRd w2 dv n d := by
  refine ⟨hl, cells, Rd.of_own (own_same h.own fun g hg => hk g (h.own.lt g hg).1 (h.own.lt g hg).2), fun i hi => ?_⟩
  obtain ⟨g1, xv, g2, g3, -⟩ := h.out i (by rw [List.length_take]; omega)
  simp only [List.getElem_take] at g1 g3
  exact ⟨g1, xv, g2, Rd.of_own (own_same g3 fun g hg => hk g (g3.lt g hg).1 (g3.lt g hg).2)⟩

/-- an entry is being written: its term, and the documents so far. -/
structure EMid (w W5 : World) (eb m : Nat) (q : Nat → Nat) (tt : List UInt8) (ds : List Int) (dv : Value) (wz : World) : Prop where
  ent : wz.heap[eb]? = some (.cells #[.string (bstr tt), dv] 61 (0, 0))
  next : NextIs wz w.heap.size m q
  own : wz.ownsRow W5.heap.size 3 1 dv ds.length (icells ds)
  keep : ∀ b, b < W5.heap.size → b ≠ eb → b ≠ w.heap.size → wz.heap[b]? = W5.heap[b]?
  bel : Below w.heap.size w wz
  size : W5.heap.size ≤ wz.heap.size

theorem EMid.below {w W5 wz w2 : World} {eb m : Nat} {q : Nat → Nat} {tt : List UInt8} {ds : List Int} {dv : Value} (h : EMid w W5 eb m q tt ds dv wz) (hb : Below wz.heap.size wz w2) : EMid w W5 eb m q tt ds dv w2 := by
  obtain ⟨cs, n1, n2, n3⟩ := h.next
  refine ⟨by rw [hb.block _ (lt_of_block h.ent)]; exact h.ent, h.next.same (hb.block _ (lt_of_block n1)), own_below h.own hb, fun b h1 h2 h3 => by rw [hb.block b (by have := h.size; omega)]; exact h.keep b h1 h2 h3, h.bel.trans (hb.mono h.bel.size), by have := h.size; have := hb.size; omega⟩
theorem EMid.congr {w W5 wz : World} {eb m : Nat} {q q' : Nat → Nat} {tt : List UInt8} {ds ds' : List Int} {dv : Value} (h : EMid w W5 eb m q tt ds dv wz) (hq : ∀ i, i < m → q i = q' i) (hd : ds = ds') : EMid w W5 eb m q' tt ds' dv wz := by
  subst hd
  exact ⟨h.ent, h.next.congr hq, h.own, h.keep, h.bel, h.size⟩

theorem UIn.step {w w1 W5 wz w6 w7 : World} {k eb m : Nat} {p q : Nat → Nat} {dv v' ev : Value} {d : List Ent} {cells : List Value} {tt : List UInt8} {ds : List Int}
    (h : UIn w w1 m k p dv d cells) (h5 : Below w1.heap.size w1 W5) (heb : w1.heap.size ≤ eb) (hk : k < d.length) (hd : d[k] = (tt, ds)) (he : EMid w W5 eb m q tt ds ev wz)
    (h6 : Below wz.heap.size wz w6) (happ : w7.ownsRow w.heap.size 61 2 v' (k + 1) (cells ++ [str tt, ev])) (hgr : w6.grownBy w7 dv.ownBlock) (hv : v'.ownBlock = dv.ownBlock ∨ v'.ownBlock = some w6.heap.size) :
    UIn w w7 m (k + 1) q v' d (cells ++ [str tt, ev]) := by
  have hs0 : w.heap.size < w1.heap.size := by obtain ⟨cs, n1, -⟩ := h.next; exact lt_of_block n1
  have hs1 := h5.size
  have hs2 := he.size
  have hs3 := h6.size
  have hcl : cells.length = k * 2 := h.own.1
  have hdk : (d.take k).length = k := by rw [List.length_take]; omega
  refine ⟨happ, ?_, ?_, ?_, ?_⟩
  · intro i hi
    rw [List.length_take] at hi
    by_cases hik : i = k
    · subst hik
      refine ⟨?_, ev, ?_, ?_, ?_⟩
      · simp only [List.getElem_take, hd]
        rw [List.getElem?_append_right (by omega), hcl, Nat.sub_self]; rfl
      · rw [List.getElem?_append_right (by omega), hcl, show i * 2 + 1 - i * 2 = 1 from by omega]; rfl
      · simp only [List.getElem_take, hd]
        refine own_same (own_mono (own_below he.own h6) (by omega)) fun g hg => ?_
        have hlt := (own_below he.own h6).lt g hg
        refine hgr.block g hlt.2 ?_
        intro e
        have := (h.own.lt g e.symm).2
        omega
      · intro g hg
        have hlt := (own_below he.own h6).lt g hg
        refine ⟨by omega, ?_⟩
        intro e
        rcases hv with hv | hv
        · rw [hv] at e
          have := (h.own.lt g e).2
          omega
        · rw [hv] at e
          simp only [Option.some.injEq] at e
          omega
    · have hik2 : i < k := by omega
      obtain ⟨g1, xv, g2, g3, g4⟩ := h.out i (by rw [hdk]; exact hik2)
      simp only [List.getElem_take] at g1 g3
      refine ⟨?_, xv, ?_, ?_, ?_⟩
      · simp only [List.getElem_take]
        rw [List.getElem?_append_left (by omega)]; exact g1
      · rw [List.getElem?_append_left (by omega)]; exact g2
      · simp only [List.getElem_take]
        refine own_same g3 fun g hg => ?_
        have hlt := (g3.lt g hg).2
        obtain ⟨n1, n2⟩ := g4 g hg
        rw [hgr.block g (by omega) (fun e => n2 e.symm), h6.block g (by omega), he.keep g (by omega) (by omega) n1, h5.block g hlt]
      · intro g hg
        have hlt := (g3.lt g hg).2
        obtain ⟨n1, n2⟩ := g4 g hg
        refine ⟨n1, ?_⟩
        rcases hv with hv | hv
        · rw [hv]; exact n2
        · rw [hv]
          intro e
          simp only [Option.some.injEq] at e
          omega
  · refine he.next.same ?_
    rw [hgr.block _ (by omega) (fun e => h.off e.symm), h6.block _ (by omega)]
  · rcases hv with hv | hv
    · rw [hv]; exact h.off
    · rw [hv]
      intro e
      simp only [Option.some.injEq] at e
      omega
  · exact (he.bel.trans (h6.mono he.bel.size)).grown hgr (by omega) (fun q hq => (h.own.lt q hq).1)

theorem madeInts_next (w : World) (m : Nat) : NextIs (w.alloc (.cells (madeCells #[Value.int .i64 0] m) 3)) w.heap.size m (fun _ => 0) := by
  refine ⟨_, heap_alloc_new w _, by simp [madeCells], fun i hi => ?_⟩
  simp [madeCells, hi, Nat.mod_one]

theorem hd_at {D : Nat → List Ent} {p : Nat → Nat} {j pj : Nat} (h : pj = p j) (hl : pj < (D j).length) : (D j)[pj] = hdE D p j := by
  subst h
  unfold hdE
  rw [List.getD_eq_getElem?_getD, List.getElem?_eq_getElem hl]; rfl

def UniPost (U : List Ent) (w : World) (e : Ending) (w' : World) : Prop := ∃ v', e = .returned v' ∧ (∀ w2 : World, (∀ b, w.heap.size ≤ b → b < w'.heap.size → w2.heap[b]? = w'.heap[b]?) → DRd w2 v' U.length U) ∧ Below w.heap.size w w'

set_option maxRecDepth 100000 in
set_option maxHeartbeats 8000000 in
theorem unionM_any (g off m c : Nat) (F T : Nat → Int) (V : Nat → Value) (D : Nat → List Ent) (U : List Ent) (FU : Nat) (w : World) (h : SegIn w g off m F T V D) (hm : m ≤ 1000) (hU : unionF FU (remL D (fun _ => 0) m) = U) (hFU : total (remL D (fun _ => 0) m) ≤ FU) (hF : FU ≤ 1000000) (hts : ∀ i, ∀ e ∈ D i, e.2.length ≤ 1000) :
    Calls Tryz.prog 17 #[.slice (some ⟨g, off, none⟩) m c] w (UniPost U w) := by
  have mixed : Tryz.prog.follows .mixedOrders = true := by kernel_rfl
  have HS := Lib.hid h
  have HT := Lib.hid hts
  have hUl : U.length ≤ 1000000 := by rw [← hU]; have := unionF_len FU (remL D (fun _ => 0) m); omega
  have hmk : ∀ w, (Instr.makeSlice 46 (.int .i64 m) (.int .i64 m)).run Tryz.prog w = .ok (.slice (some ⟨w.heap.size, 0, none⟩) m m) (w.alloc (.cells (madeCells #[Value.int .i64 0] m) 3)) := fun w => run_make_row' 46 3 (.int .i64 0) 8 Tryz.underlying46 infoIntU rfl .i64 .i64 m (by omega) (by omega) w
  have hb0 : Below w.heap.size w (w.alloc (.cells (madeCells #[Value.int .i64 0] m) 3)) := (Below.refl _ _).alloc (Nat.le_refl _) _
  have HU : Hid (UIn w (w.alloc (.cells (madeCells #[Value.int .i64 0] m) 3)) m 0 (fun _ => 0) (.slice none 0 0) U []) := ⟨⟨rfl, .inl ⟨rfl, rfl⟩⟩, fun i hi => by simp at hi, madeInts_next w m, by simp [Value.ownBlock], hb0⟩
  have HUF : Hid (unionF FU (remL D (fun _ => 0) m) = U.drop 0) := hU
  have HTF := Lib.hid hFU
  clear h hts hb0 hU hFU
  go_enter Tryz.func17, Tryz.ntmps17
  go_wp2
  go_step3
  go_wp2
  generalize hW0 : (w.alloc (.cells (madeCells #[Value.int .i64 0] m) 3)) = W0 at *
  clear hW0 hmk
  go_step3
  go_wp2
  go_loopg [3] FU (fun gg s3 wr => ∃ (k : Nat) (p : Nat → Nat) (cells : List Value), k ≤ U.length ∧ Hid (unionF gg (remL D p m) = U.drop k) ∧ Hid (total (remL D p m) ≤ gg) ∧ Hid (∀ i, i < m → p i ≤ (D i).length) ∧ Hid (UIn w wr m k p s3 U cells))
  case atStart => exact ⟨0, _, [], by omega, HUF, HTF, fun i _ => Nat.zero_le _, HU⟩
  case round =>
    obtain ⟨k, p, cells, hk, HUF2, HTF2, HP, HU2⟩ := hrel
    clear HU HUF HTF
    obtain ⟨gq, hgq⟩ : ∃ z, z = gk := ⟨_, rfl⟩
    rw [← hgq] at HUF2 HTF2
    have hgq1 : gq ≤ gk := by omega
    have hgq2 : gk ≤ gq := by omega
    clear hgq
    have hbel := HU2.out.bel
    rename World => w1
    go_wp2
    go_loopg [5, 16] m (fun g2 s5 s16 wy => ∃ (j : Nat) (x : Int), j + g2 = m ∧ s5 = .int .i64 x ∧ s16 = .int .i64 j ∧ Hid (Least D p j x) ∧ Below w1.heap.size w1 wy)
    case atStart => exact ⟨0, -1, by omega, rfl, rfl, Least.zero D p, Below.refl _ _⟩
    case round =>
      obtain ⟨j, x, hj, rfl, rfl, HL, hby⟩ := hrel
      have Bw := hbel.trans (hby.mono hbel.size)
      cases gk with
      | zero =>
        obtain rfl : j = m := by omega
        rcases HL.out.form with hx | ⟨i0, hx, hi0, hpi0⟩
        · have HKN : Hid (U.length = k) := by
            show U.length = k
            have h1 := HL.out
            rw [hx] at h1
            have h2 := HUF2.out
            rw [unionF_none h1.none] at h2
            have h3 := congrArg List.length h2
            rw [List.length_drop, List.length_nil] at h3
            omega
          rw [hx]
          clear hx
          go_wp2
          try rw [Exit.noGoto_ret]
          go_ret
          refine ⟨_, rfl, fun w2 h2 => ?_, Bw⟩
          have := HU2.out
          rw [← HKN.out] at this
          exact this.later rfl fun b g1 g2 => (h2 b g1 (by have := hby.size; omega)).trans (hby.block b g2)
        · have him := hi0
          have HLS := HL.out
          rw [hx] at HLS
          have hMH := HLS.some
          clear HLS
          obtain ⟨tt, htt⟩ : ∃ u, u = (hdE D p i0).1 := ⟨_, rfl⟩
          rw [← htt] at hMH
          have hgt := minHead_total hMH
          obtain ⟨gz, rfl⟩ : ∃ gz, gq = gz + 1 := ⟨gq - 1, by have := HTF2.out; omega⟩
          have hUS := HUF2.out
          rw [unionF_some hMH] at hUS
          have hkU : k < U.length := by
            rcases Nat.lt_or_ge k U.length with h | h
            · exact h
            · rw [List.drop_eq_nil_of_le h] at hUS; cases hUS
          rw [List.drop_eq_getElem_cons hkU] at hUS
          obtain ⟨hU1, hU2⟩ := List.cons.inj hUS
          have HUK : Hid (U[k] = (tt, dpre D p tt j)) := hU1.symm
          have HUN : Hid (unionF gz (remL D (bumpTo D p tt j) j) = U.drop (k + 1)) := by show _; rw [remL_bumpTo]; exact hU2
          have HTN : Hid (total (remL D (bumpTo D p tt j) j) ≤ gz) := by show total _ ≤ gz; rw [remL_bumpTo]; have := HTF2.out; omega
          have HTT := Lib.hid htt
          clear hMH hgt hUS hU1 hU2
          have m2 := cell_later Bw (HS.out.c2 i0 him)
          obtain ⟨a0, c0, hv0, hm0, HC0⟩ := dict_cells ((HS.out.rd i0 him).below Bw)
          obtain ⟨b0, of0, da0, dc0, rfl, d1, -, -⟩ := HC0.out (p i0) hpi0
          rw [hv0] at m2
          rw [hd_at rfl, ← htt] at d1
          unfold str at d1
          have mn := cell_later hby (HU2.out.next.cell him).1
          clear hv0 HC0 htt
          generalize hp0 : p i0 = p0 at *
          generalize hn0 : (D i0).length = n0 at *
          clear hp0 hn0
          have k00 : (p0 : Int) < (n0 : Int) := by omega
          have k01 : (0 : Int) ≤ (p0 : Int) := by omega
          have k02 : (i0 : Int) < (j : Int) := by omega
          have k03 : (0 : Int) ≤ (i0 : Int) := by omega
          have k04 : ¬ (i0 : Int) < 0 := by omega
          have k06 : ((p0 : Int)).toNat = p0 := by omega
          have k07 : ((i0 : Int)).toNat = i0 := by omega
          rw [hx]
          clear hx HL
          go_wp2_with fail
          have hsz1 := hby.size
          go_region_held3 (fun W => W.cell? ⟨g, off + i0 * 3 + 2, none⟩ = some (.slice (some ⟨b0, of0, none⟩) n0 c0) ∧ W.cell? ⟨w.heap.size, i0, none⟩ = some (.int .i64 p0) ∧ W.cell? ⟨b0, of0 + p0 * 2, none⟩ = some (.string (bstr tt)))
            (first | exact ⟨m2, mn, d1⟩ | assumption | go_keep)
            (fail)
          have hB5 : Below w1.heap.size w1 (wr.alloc (.cells #[.string (bstr tt), .slice none 0 0] 61)).drew := ((hby.alloc hsz1 _).drew)
          have hE5 : (wr.alloc (.cells #[.string (bstr tt), .slice none 0 0] 61)).drew.heap[wr.heap.size]? = some (.cells #[.string (bstr tt), .slice none 0 0] 61 (0, 0)) := heap_alloc_new wr _
          have hs5 : wr.heap.size < (wr.alloc (.cells #[.string (bstr tt), .slice none 0 0] 61)).drew.heap.size := lt_of_block hE5
          generalize hW5 : (wr.alloc (.cells #[.string (bstr tt), .slice none 0 0] 61)).drew = W5 at *
          clear hW5 m2 mn d1
          generalize heb : wr.heap.size = eb at *
          clear heb
          have hw1 : w.heap.size < w1.heap.size := by obtain ⟨cs, n1, -⟩ := HU2.out.next; exact lt_of_block n1
          have hB5w := hbel.trans (hB5.mono hbel.size)
          have HEM : Hid (∃ ev, EMid w W5 eb j (bumpTo D p tt 0) tt (dpre D p tt 0) ev W5) := ⟨.slice none 0 0, hE5, (HU2.out.next.same (hB5.block _ hw1)).congr fun i _ => (bumpTo_zero D p tt i).symm, ⟨rfl, .inl ⟨rfl, rfl⟩⟩, fun _ _ _ _ => rfl, hB5w, Nat.le_refl _⟩
          obtain ⟨i1, hi1, hi1a, hi1b, hi1c⟩ := info_parts infoIntU
          obtain ⟨i2, hi2, hi2a, hi2b, hi2c⟩ := info_parts infoEnt
          clear hE5
          have hb0w : b0 < w.heap.size ∨ True := .inr trivial
          go_wp2
          go_loopg [74] j (fun g2 s74 wz => ∃ i : Nat, i + g2 = j ∧ s74 = .int .i64 i ∧ Hid (∃ ev, EMid w W5 eb j (bumpTo D p tt i) tt (dpre D p tt i) ev wz))
          case atStart => exact ⟨0, by omega, rfl, HEM.out⟩
          case round =>
            obtain ⟨i, hi, rfl, HZ⟩ := hrel
            clear HEM
            obtain ⟨ev, hED⟩ := HZ.out
            obtain ⟨ea, ec, rfl⟩ := own_shape hED.own
            have HED := Lib.hid hED
            have x0 : wr.cell? ⟨eb, 0, none⟩ = some (.string (bstr tt)) := by rw [cell_of_row _ _ _ _ _ _ hED.ent]; rfl
            have x1 : wr.cell? ⟨eb, 1, none⟩ = some (.slice ea (dpre D p tt i).length ec) := by rw [cell_of_row _ _ _ _ _ _ hED.ent]; rfl
            have hdl := dpre_len D p tt 1000 HT.out i
            clear HZ
            cases gk with
            | zero =>
              obtain rfl : i = j := by omega
              have hO : Hid (wr.ownsRow w.heap.size 61 2 u3 k cells) := own_same HU2.out.own fun g hg => by
                have h1 := (HU2.out.own.lt g hg).2
                rw [hED.keep g (by have := hB5.size; omega) (by omega) (fun e => HU2.out.off (by rw [hg, e])), hB5.block g h1]
              have hszr : w.heap.size ≤ wr.heap.size := by have := hED.size; have := hB5.size; omega
              have HPN : Hid (∀ q, q < i → bumpTo D p tt i q ≤ (D q).length) := fun q hq => by
                have h1 := HP.out q hq
                unfold bumpTo
                rw [if_pos hq]
                unfold bump
                split
                · rename_i h2; have := h2.1; omega
                · exact h1
              have HLN : Hid (∃ M, M = (dpre D p tt i).length) := ⟨_, rfl⟩
              clear hED
              go_wp2_with (at_builtin; refine wpList_app rfl _ _ _ _ rfl w.heap.size 61 i2 _ 2 40 Tryz.underlying31 hi2 hi2a hi2b hi2c rfl _ k _ rfl (own_below hO.out ((Below.refl _ _).alloc (Nat.le_refl _) _)) _ 1 [.string (bstr tt), .slice ea (dpre D p tt i).length ec] rfl (src_new Tryz.underlying31 wr _ 2 1 1 rfl (by intro u hu; simp at hu; rcases hu with rfl | rfl <;> rfl)) (by unfold maxLen; omega) (by omega) (by simp; omega) ?_; intro v' w7 hown7 hgr7 hv7 _)
              go_roundg gz
              case rel => exact ⟨k + 1, bumpTo D p tt i, cells ++ [str tt, .slice ea (dpre D p tt i).length ec], by omega, HUN.out, HTN.out, HPN.out, UIn.step HU2.out hB5 (by omega) hkU HUK.out HED.out ((Below.refl _ _).alloc (Nat.le_refl _) _) hown7 hgr7 hv7⟩
              case measure => omega
            | succ g3 =>
              have him2 : i < j := by omega
              have kj : (i : Int) < (j : Int) := by omega
              have j0 : (0 : Int) ≤ (i : Int) := by omega
              have BZ := hED.bel
              have l0 := cell_later BZ (HS.out.c0 i him2)
              have l1 := cell_later BZ (HS.out.c1 i him2)
              have l2 := cell_later BZ (HS.out.c2 i him2)
              obtain ⟨aj, cj, hvj, hmj, HCj⟩ := dict_cells (HS.out.rd i him2)
              rw [hvj] at l2
              obtain ⟨cn, -, hnlt⟩ := hED.next.cell him2
              rw [bumpTo_at] at cn
              have hszr := hED.size
              have hOE := hED.own
              generalize F i = fj at l0
              generalize T i = tj at l1
              have HPJ : Hid (∃ pj, pj = p i) := ⟨_, rfl⟩
              obtain ⟨pj, hpe⟩ := HPJ.out
              have HNJ : Hid (∃ nj, nj = (D i).length) := ⟨_, rfl⟩
              obtain ⟨nj, hne⟩ := HNJ.out
              have hpj := HP.out i him2
              rw [← hpe] at cn hpj
              rw [← hne] at l2 hmj hpj
              have HPE := Lib.hid hpe
              have HNE := Lib.hid hne
              obtain ⟨M, hM⟩ : ∃ M, M = (dpre D p tt i).length := ⟨_, rfl⟩
              rw [← hM] at hdl x1
              have HM := Lib.hid hM
              clear hpe hne HPJ HNJ hvj hED
              have hbA : Below wr.heap.size wr (wr.alloc (.cells #[.int .i64 fj, .int .i64 tj, .slice aj nj cj] 33)) := (Below.refl _ _).alloc (Nat.le_refl _) _
              have hnew := heap_alloc_new wr (.cells #[.int .i64 fj, .int .i64 tj, .slice aj nj cj] 33)
              have b2 : (wr.alloc (.cells #[.int .i64 fj, .int .i64 tj, .slice aj nj cj] 33)).cell? ⟨wr.heap.size, 2, none⟩ = some (.slice aj nj cj) := by rw [cell_of_row _ _ _ _ _ _ hnew]; rfl
              have hs6 : wr.heap.size < (wr.alloc (.cells #[.int .i64 fj, .int .i64 tj, .slice aj nj cj] 33)).heap.size := lt_of_block hnew
              have mn := cell_later hbA cn
              have y0 := cell_later hbA x0
              have y1 := cell_later hbA x1
              have HSB : Hid (∀ q, (Value.slice ea M ec).ownBlock = some q → q ≠ wr.heap.size ∧ W5.heap.size ≤ q) := fun q hq => by
                rw [hM] at hq
                have := hOE.lt q hq
                omega
              clear hnew cn x0 x1 hM hOE
              by_cases hex : pj < nj
              · obtain ⟨b, of, da, dc, rfl, e1, e2, hdr⟩ := HCj.out pj (by rw [← HNE.out]; exact hex)
                rw [hd_at HPE.out] at e1 e2 hdr
                have hbb := World.block_lt_of_cell? _ _ e1
                replace e1 := cell_later BZ e1
                replace e2 := cell_later BZ e2
                replace hdr := hdr.below BZ
                have hmd := HT.out i (hdE D p i) (by rw [← hd_at HPE.out (by rw [← HNE.out]; exact hex)]; exact List.getElem_mem _)
                obtain ⟨uj, huj⟩ : ∃ u, u = (hdE D p i).1 := ⟨_, rfl⟩
                obtain ⟨ds, hds⟩ : ∃ u, u = (hdE D p i).2 := ⟨_, rfl⟩
                rw [← huj] at e1
                rw [← hds] at e2 hdr hmd
                have HUJ := Lib.hid huj
                have HDS := Lib.hid hds
                clear huj hds
                obtain ⟨md, hmdl⟩ : ∃ u, u = ds.length := ⟨_, rfl⟩
                rw [← hmdl] at e2 hdr hmd
                have HMD := Lib.hid hmdl
                clear hmdl
                unfold str at e1
                have e1' := cell_later hbA e1
                have e2' := cell_later hbA e2
                have HDR := Lib.hid hdr
                have kp : (pj : Int) < (nj : Int) := by omega
                have kp0 : (0 : Int) ≤ (pj : Int) := by omega
                have hd2 : decide ((pj : Int) < (nj : Int)) = true := decide_eq_true kp
                clear e1 e2 hdr
                by_cases hut : uj = tt
                · subst hut
                  have n1 : ((bstr uj).toList == (bstr uj).toList) = true := beq_self_eq_true _
                  have HYES : Hid (p i < (D i).length ∧ (hdE D p i).1 = uj) := ⟨by rw [← HPE.out, ← HNE.out]; exact hex, HUJ.out.symm⟩
                  go_wp2_with fail
                  generalize hW6 : (wr.alloc (.cells #[.int .i64 fj, .int .i64 tj, .slice (some ⟨b, of, none⟩) nj cj] 33)) = W6 at *
                  clear hW6
                  have r1 := cell_regrown mn
                  have r2 := cell_regrown b2
                  have r3 := cell_regrown e1'
                  have r4 := cell_regrown y0
                  refine wp_region_quiet_below mixed (by kernel_rfl) ?_
                  repeat (go_big_quiet_step (fail))
                  refine wpQuiet_nil ?_
                  intro W7 hw'
                  obtain ⟨⟨dq, osq⟩, hw''⟩ := hw'
                  have hb67 := below_regrown W6 dq osq
                  rw [← hw''] at hb67
                  clear hw'' r1 r2 r3 r4
                  have e71 := cell_later hb67 y1
                  have s72 := cell_later hb67 b2
                  have n7 := cell_later hb67 mn
                  have d72 := cell_later hb67 e2'
                  have B7 := hbA.trans (hb67.mono hbA.size)
                  clear hb67 y0 y1 b2 mn e1' e2' hbA
                  go_wp2_with fail
                  refine L_begin (fun W => W.cell? ⟨eb, 1, none⟩ = some (.slice ea M ec) ∧ W.cell? ⟨wr.heap.size, 2, none⟩ = some (.slice (some ⟨b, of, none⟩) nj cj) ∧ W.cell? ⟨w.heap.size, i, none⟩ = some (.int .i64 pj) ∧ W.cell? ⟨b, of + pj * 2 + 1, none⟩ = some (.slice da md dc)) 12 (by kernel_rfl) ?_
                  have hS : W7.drew.cell? ⟨eb, 1, none⟩ = some (.slice ea M ec) ∧ W7.drew.cell? ⟨wr.heap.size, 2, none⟩ = some (.slice (some ⟨b, of, none⟩) nj cj) ∧ W7.drew.cell? ⟨w.heap.size, i, none⟩ = some (.int .i64 pj) ∧ W7.drew.cell? ⟨b, of + pj * 2 + 1, none⟩ = some (.slice da md dc) := ⟨e71, s72, n7, d72⟩
                  have hB7 := B7.drew
                  clear B7 e71 s72 n7 d72
                  generalize W7.drew = wd at *
                  refine L_free (fuel := 13) 0 (.pointer (some ⟨eb, 1, none⟩)) rfl (by kernel_rfl) (by kernel_rfl) (by kernel_rfl) (by kernel_rfl) (fun _ _ _ h => h) (by kernel_rfl) ?_ hS ?_
                  · intro W
                    go_simp
                  refine L_take (fuel := 12) 1 (.slice ea M ec) rfl (by kernel_rfl) (by kernel_rfl) (by kernel_rfl) (by kernel_rfl) (fun _ _ _ h => h) (by kernel_rfl) ?_ hS ?_
                  · intro W hW
                    obtain ⟨q1, q2, q3, q4⟩ := hW
                    go_simp
                  refine L_free (fuel := 11) 2 (.pointer (some ⟨wr.heap.size, 2, none⟩)) rfl (by kernel_rfl) (by kernel_rfl) (by kernel_rfl) (by kernel_rfl) (fun _ _ _ h => h) (by kernel_rfl) ?_ hS ?_
                  · intro W
                    go_simp
                  refine L_take (fuel := 10) 3 (.slice (some ⟨b, of, none⟩) nj cj) rfl (by kernel_rfl) (by kernel_rfl) (by kernel_rfl) (by kernel_rfl) (fun _ _ _ h => h) (by kernel_rfl) ?_ hS ?_
                  · intro W hW
                    obtain ⟨q1, q2, q3, q4⟩ := hW
                    go_simp
                  refine L_free (fuel := 9) 4 (.slice (some ⟨w.heap.size, 0, none⟩) j j) rfl (by kernel_rfl) (by kernel_rfl) (by kernel_rfl) (by kernel_rfl) (fun _ _ _ h => h) (by kernel_rfl) ?_ hS ?_
                  · intro W
                    go_simp
                  refine L_free (fuel := 8) 5 (.int .i64 i) rfl (by kernel_rfl) (by kernel_rfl) (by kernel_rfl) (by kernel_rfl) (fun _ _ _ h => h) (by kernel_rfl) ?_ hS ?_
                  · intro W
                    go_simp
                  refine L_free (fuel := 7) 6 (.pointer (some ⟨w.heap.size, i, none⟩)) rfl (by kernel_rfl) (by kernel_rfl) (by kernel_rfl) (by kernel_rfl) (fun _ _ _ h => h) (by kernel_rfl) ?_ hS ?_
                  · intro W
                    go_simp
                  refine L_take (fuel := 6) 7 (.int .i64 pj) rfl (by kernel_rfl) (by kernel_rfl) (by kernel_rfl) (by kernel_rfl) (fun _ _ _ h => h) (by kernel_rfl) ?_ hS ?_
                  · intro W hW
                    obtain ⟨q1, q2, q3, q4⟩ := hW
                    go_simp
                  refine L_free (fuel := 5) 8 (.pointer (some ⟨b, of + pj * 2, none⟩)) rfl (by kernel_rfl) (by kernel_rfl) (by kernel_rfl) (by kernel_rfl) (fun _ _ _ h => h) (by kernel_rfl) ?_ hS ?_
                  · intro W
                    go_simp
                  refine L_free (fuel := 4) 9 (.pointer (some ⟨b, of + pj * 2 + 1, none⟩)) rfl (by kernel_rfl) (by kernel_rfl) (by kernel_rfl) (by kernel_rfl) (fun _ _ _ h => h) (by kernel_rfl) ?_ hS ?_
                  · intro W
                    go_simp
                  refine L_take (fuel := 3) 10 (.slice da md dc) rfl (by kernel_rfl) (by kernel_rfl) (by kernel_rfl) (by kernel_rfl) (fun _ _ _ h => h) (by kernel_rfl) ?_ hS ?_
                  · intro W hW
                    obtain ⟨q1, q2, q3, q4⟩ := hW
                    go_simp
                  refine L_one (fuel := 2) 11 (by kernel_rfl) rfl ?_
                  intro K hK
                  have hOE : Hid (wr.ownsRow W5.heap.size 3 1 (.slice ea M ec) M (icells (dpre D p uj i))) := by
                    show World.ownsRow _ _ _ _ _ _ _
                    rw [HM.out]; exact HED.out.own
                  have hwd := hB7.size
                  have hb5 : w.heap.size ≤ W5.heap.size := hB5w.size
                  have hs7 : wr.heap.size < wd.heap.size := World.block_lt_of_cell? _ _ hS.2.1
                  refine step_app (by rfl) (.tmp 102) (.tmp 111) _ _ (by rfl) W5.heap.size 3 i1 _ 1 8 Tryz.underlying46 hi1 hi1a hi1b hi1c rfl (.slice ea M ec) M (icells (dpre D p uj i)) (by kernel_rfl) (own_below hOE.out hB7) (.slice da md dc) md (icells ds) (by kernel_rfl) (Rd.src Tryz.underlying46 (HDR.out.below hB7) (fun u hu => by simp only [icells, List.mem_map] at hu; obtain ⟨x, _, rfl⟩ := hu; rfl)) (by unfold maxLen; omega) (by omega) (by omega) ?_
                  intro ev8 w8 hown8 hgr8 _
                  obtain ⟨ea8, ec8, rfl⟩ := own_shape hown8
                  have hne : ∀ q, (q = eb ∨ q = wr.heap.size ∨ q = w.heap.size ∨ q = b) → some q ≠ (Value.slice ea M ec).ownBlock := fun q hq e => by
                    have := HSB.out q e.symm
                    omega
                  have hE8 : w8.heap[eb]? = some (.cells #[.string (bstr uj), .slice ea M ec] 61 (0, 0)) := by
                    rw [hgr8.block _ (by omega) (hne eb (.inl rfl)), hB7.block _ (by omega)]
                    have := HED.out.ent
                    rw [← HM.out] at this
                    exact this
                  have hN8 : Hid (NextIs w8 w.heap.size j (bumpTo D p uj i)) := (HED.out.next.same (hB7.block _ hnlt)).same (hgr8.block _ (by omega) (hne _ (.inr (.inr (.inl rfl)))))
                  have hK8 : Hid (∀ q, q < W5.heap.size → w8.heap[q]? = wd.heap[q]?) := fun q hq => hgr8.block q (by omega) (fun e => by have := (HSB.out q e.symm).2; omega)
                  have hs8 := hgr8.size
                  have hgrK := Lib.hid hgr8
                  refine hK _ _ ⟨hgr8.cell hS.1 (hne eb (.inl rfl)), hgr8.cell hS.2.1 (hne _ (.inr (.inl rfl))), hgr8.cell hS.2.2.1 (hne _ (.inr (.inr (.inl rfl)))), hgr8.cell hS.2.2.2 (hne b (.inr (.inr (.inr rfl))))⟩ ?_
                  clear hK K hgr8
                  have k8 : w8.cell? ⟨eb, 1, none⟩ = some (.slice ea M ec) := by rw [cell_of_row _ _ _ _ _ _ hE8]; rfl
                  have f8 : w8.frozen? ⟨eb, 1, none⟩ = false := frozen_of_row _ _ _ _ _ hE8
                  refine L_end (fuel := 1) 12 (by kernel_rfl) rfl (by kernel_rfl) ?_
                  intro K hK
                  go_simp
                  refine hK _ _ ?_
                  clear hK K
                  refine L_end (fuel := 0) 13 (by kernel_rfl) rfl (by kernel_rfl) ?_
                  intro K hK
                  go_simp
                  refine hK _ _ ?_
                  clear hK K
                  refine L_done (by kernel_rfl) ?_ 0
                  have hE9 : (w8.setCell ⟨eb, 1, none⟩ (.slice ea8 (M + md) ec8)).heap[eb]? = some (.cells #[.string (bstr uj), .slice ea8 (M + md) ec8] 61 (0, 0)) := heap_setCell_same w8 eb 1 _ _ (.slice ea8 (M + md) ec8) hE8
                  have hN9 : NextIs (w8.setCell ⟨eb, 1, none⟩ (.slice ea8 (M + md) ec8)) w.heap.size j (bumpTo D p uj i) := hN8.out.same (heap_setCell_other _ _ _ _ (by simp; omega))
                  have hown9 : Hid ((w8.setCell ⟨eb, 1, none⟩ (.slice ea8 (M + md) ec8)).ownsRow W5.heap.size 3 1 (.slice ea8 (M + md) ec8) (M + md) (icells (dpre D p uj i) ++ icells ds)) := own_same hown8 fun g hg => heap_setCell_other _ _ _ _ (by have := (hown8.lt g hg).1; simp; omega)
                  have hkeep9 : Hid (∀ q, q < W5.heap.size → q ≠ eb → q ≠ w.heap.size → (w8.setCell ⟨eb, 1, none⟩ (.slice ea8 (M + md) ec8)).heap[q]? = W5.heap[q]?) := fun q h1 h2 h3 => by
                    rw [heap_setCell_other _ _ _ _ (by simpa using h2), hK8.out q h1, hB7.block q (by omega)]
                    exact HED.out.keep q h1 h2 h3
                  have hbel9 : Hid (Below w.heap.size w (w8.setCell ⟨eb, 1, none⟩ (.slice ea8 (M + md) ec8))) := ((HED.out.bel.trans (hB7.mono HED.out.bel.size)).grown hgrK.out (by omega) (fun q hq => by have := (HSB.out q hq).2; omega)).setCell (by simp; omega) _
                  have hsz9 : W5.heap.size ≤ (w8.setCell ⟨eb, 1, none⟩ (.slice ea8 (M + md) ec8)).heap.size := by simp; omega
                  generalize w8.setCell ⟨eb, 1, none⟩ (.slice ea8 (M + md) ec8) = w9 at *
                  clear hown8 hE8 hN8 hK8 k8 f8 hS hB7
                  have k9 : w9.cell? ⟨w.heap.size, i, none⟩ = some (.int .i64 pj) := by
                    have := (hN9.cell him2).1
                    rw [bumpTo_at, ← HPE.out] at this
                    exact this
                  have f9 : w9.frozen? ⟨w.heap.size, i, none⟩ = false := (hN9.cell him2).2.1
                  have hwk : IntKind.i64.wrap ((pj : Int) + 1) = (pj : Int) + 1 := by rw [IntKind.wrap_i64]; omega
                  have HE9 := Lib.hid hE9
                  have HN9 := Lib.hid hN9
                  clear hE9 hN9
                  go_wp2
                  go_roundg g3
                  case rel =>
                    refine ⟨i + 1, by omega, by go_num, ⟨.slice ea8 (M + md) ec8, ?_⟩⟩
                    have hlen : (dpre D p uj (i + 1)).length = M + md := by
                      rw [dpre_yes HYES.out.1 HYES.out.2, List.length_append, ← HDS.out, ← HMD.out, ← HM.out]
                    refine ⟨?_, ?_, ?_, ?_, ?_, ?_⟩
                    · rw [heap_setCell_other _ _ _ _ (by simp; omega)]; exact HE9.out
                    · refine HN9.out.set i _ ?_ fun q hq hqi => ?_
                      · rw [bumpTo_yes HYES.out.1 HYES.out.2, if_pos rfl, ← HPE.out]; rfl
                      · rw [bumpTo_yes HYES.out.1 HYES.out.2, if_neg hqi]
                    · rw [hlen, dpre_yes HYES.out.1 HYES.out.2, ← HDS.out, show icells (dpre D p uj i ++ ds) = icells (dpre D p uj i) ++ icells ds from List.map_append ..]
                      exact own_same hown9.out fun g hg => heap_setCell_other _ _ _ _ (by have := (hown9.out.lt g hg).1; simp; omega)
                    · intro q h1 h2 h3
                      rw [heap_setCell_other _ _ _ _ (by simpa using h3)]
                      exact hkeep9.out q h1 h2 h3
                    · exact hbel9.out.setCell (Nat.le_refl _) _
                    · simpa using hsz9
                  case measure => omega
                · have n1 : ((bstr uj).toList == (bstr tt).toList) = false := by rw [btoList, btoList, beq_eq_false_iff_ne]; exact hut
                  have HNO : Hid (¬ (p i < (D i).length ∧ (hdE D p i).1 = tt)) := fun h => hut (by rw [HUJ.out]; exact h.2)
                  clear hut
                  go_wp2_with fail
                  generalize hW6 : (wr.alloc (.cells #[.int .i64 fj, .int .i64 tj, .slice (some ⟨b, of, none⟩) nj cj] 33)) = W6 at *
                  clear hW6
                  have r1 := cell_regrown mn
                  have r2 := cell_regrown b2
                  have r3 := cell_regrown e1'
                  have r4 := cell_regrown y0
                  refine wp_region_quiet_below mixed (by kernel_rfl) ?_
                  repeat (go_big_quiet_step (fail))
                  refine wpQuiet_nil ?_
                  intro W7 hw'
                  obtain ⟨⟨dq, osq⟩, hw''⟩ := hw'
                  have hb67 := hbA.trans ((below_regrown W6 dq osq).mono hbA.size)
                  rw [← hw''] at hb67
                  clear hw'' r1 r2 r3 r4
                  go_wp2
                  go_roundg g3
                  case rel => exact ⟨i + 1, by omega, by go_num, ⟨_, (HED.out.below hb67).congr (fun q _ => (bumpTo_no HNO.out q).symm) (dpre_no HNO.out).symm⟩⟩
                  case measure => omega
              · have hd2 : decide ((pj : Int) < (nj : Int)) = false := decide_eq_false (by omega)
                have hd3 : decide (pj < nj) = false := decide_eq_false hex
                have hd4 : ¬ (pj : Int) < (nj : Int) := by omega
                have HNO : Hid (¬ (p i < (D i).length ∧ (hdE D p i).1 = tt)) := fun h => hex (by rw [HPE.out, HNE.out]; exact h.1)
                clear hex
                go_wp2_with fail
                generalize hW6 : (wr.alloc (.cells #[.int .i64 fj, .int .i64 tj, .slice aj nj cj] 33)) = W6 at *
                clear hW6
                have r1 := cell_regrown mn
                have r2 := cell_regrown b2
                refine wp_region_quiet_below mixed (by kernel_rfl) ?_
                repeat (go_big_quiet_step (fail))
                refine wpQuiet_nil ?_
                intro W7 hw'
                obtain ⟨⟨dq, osq⟩, hw''⟩ := hw'
                have hb67 := hbA.trans ((below_regrown W6 dq osq).mono hbA.size)
                rw [← hw''] at hb67
                clear hw'' r1 r2
                go_wp2
                go_roundg g3
                case rel => exact ⟨i + 1, by omega, by go_num, ⟨_, (HED.out.below hb67).congr (fun q _ => (bumpTo_no HNO.out q).symm) (dpre_no HNO.out).symm⟩⟩
                case measure => omega
      | succ g3 =>
        have hjm : j < m := by omega
        have kj : (j : Int) < (m : Int) := by omega
        have j0 : (0 : Int) ≤ (j : Int) := by omega
        have l0 := cell_later Bw (HS.out.c0 j hjm)
        have l1 := cell_later Bw (HS.out.c1 j hjm)
        have l2 := cell_later Bw (HS.out.c2 j hjm)
        obtain ⟨aj, cj, hvj, hmj, HCj⟩ := dict_cells ((HS.out.rd j hjm).below Bw)
        rw [hvj] at l2
        have cn := cell_later hby (HU2.out.next.cell hjm).1
        have hpj := HP.out j hjm
        generalize F j = fj at l0
        generalize T j = tj at l1
        have HPJ : Hid (∃ pj, pj = p j) := ⟨_, rfl⟩
        obtain ⟨pj, hpe⟩ := HPJ.out
        have HNJ : Hid (∃ nj, nj = (D j).length) := ⟨_, rfl⟩
        obtain ⟨nj, hne⟩ := HNJ.out
        rw [← hpe] at cn hpj
        rw [← hne] at l2 hmj hpj
        have HPE := Lib.hid hpe
        have HNE := Lib.hid hne
        clear hpe hne HPJ HNJ hvj
        have hbA : Below wr.heap.size wr (wr.alloc (.cells #[.int .i64 fj, .int .i64 tj, .slice aj nj cj] 33)) := (Below.refl _ _).alloc (Nat.le_refl _) _
        have hB1 : Below w1.heap.size w1 (wr.alloc (.cells #[.int .i64 fj, .int .i64 tj, .slice aj nj cj] 33)) := hby.alloc hby.size _
        have hnew := heap_alloc_new wr (.cells #[.int .i64 fj, .int .i64 tj, .slice aj nj cj] 33)
        have b2 : (wr.alloc (.cells #[.int .i64 fj, .int .i64 tj, .slice aj nj cj] 33)).cell? ⟨wr.heap.size, 2, none⟩ = some (.slice aj nj cj) := by rw [cell_of_row _ _ _ _ _ _ hnew]; rfl
        have mn' := cell_later hbA cn
        clear hnew cn
        by_cases hex : pj < nj
        · have q1 : ((pj : Int) == (nj : Int)) = false := beq_eq_false_iff_ne.2 (by omega)
          have HLP : Hid (p j < (D j).length) := by show _; rw [← HPE.out, ← HNE.out]; exact hex
          obtain ⟨b, of, da, dc, rfl, e1, -, -⟩ := HCj.out pj (by rw [← HNE.out]; exact hex)
          rw [hd_at HPE.out] at e1
          obtain ⟨uj, huj⟩ : ∃ u, u = (hdE D p j).1 := ⟨_, rfl⟩
          rw [← huj] at e1
          have HUJ := Lib.hid huj
          clear huj
          unfold str at e1
          have e1' := cell_later hbA e1
          have kp : (pj : Int) < (nj : Int) := by omega
          have kp0 : (0 : Int) ≤ (pj : Int) := by omega
          rcases HL.out.form with hx | ⟨i0, hx, hi0, hpi0⟩
          · have HLF : Hid (Least D p (j + 1) (j : Int)) := by
              show _
              have := HL.out
              rw [hx] at this
              exact this.first HLP.out
            rw [hx]
            clear hx e1
            go_wp2_with fail
            generalize hW1 : (wr.alloc (.cells #[.int .i64 fj, .int .i64 tj, .slice (some ⟨b, of, none⟩) nj cj] 33)) = W1 at *
            clear hW1
            have r1 := cell_regrown b2
            have r2 := cell_regrown mn'
            refine wp_region_quiet_below mixed (by kernel_rfl) ?_
            repeat (go_big_quiet_step (fail))
            refine wpQuiet_nil ?_
            intro W2 hw'
            obtain ⟨⟨dq, osq⟩, hw''⟩ := hw'
            have hbq := hB1.trans ((below_regrown W1 dq osq).mono hB1.size)
            rw [← hw''] at hbq
            clear hw'' r1 r2
            go_wp2_with fail
            refine wp_region_quiet_below mixed (by kernel_rfl) ?_
            repeat (go_big_quiet_step (fail))
            refine wpQuiet_nil ?_
            intro W3 hw'
            obtain ⟨⟨dq3, osq3⟩, hw''⟩ := hw'
            have hbq3 := hbq.trans ((below_regrown W2 dq3 osq3).mono hbq.size)
            rw [← hw''] at hbq3
            clear hw''
            go_wp2
            go_roundg g3
            case rel => exact ⟨j + 1, j, by omega, rfl, by go_num, HLF.out, hbq3⟩
            case measure => omega
          · have him : i0 < m := by omega
            have y2 := cell_later Bw (HS.out.c2 i0 him)
            obtain ⟨a0, c0, hv0, -, HC0⟩ := dict_cells ((HS.out.rd i0 him).below Bw)
            obtain ⟨b0, of0, da0, dc0, rfl, e0, -, -⟩ := HC0.out (p i0) hpi0
            rw [hv0] at y2
            rw [hd_at rfl] at e0
            have yn := cell_later hby (HU2.out.next.cell him).1
            obtain ⟨u0, hu0⟩ : ∃ u, u = (hdE D p i0).1 := ⟨_, rfl⟩
            rw [← hu0] at e0
            have HU0 := Lib.hid hu0
            unfold str at e0
            have y2' := cell_later hbA y2
            have e0' := cell_later hbA e0
            have yn' := cell_later hbA yn
            clear hu0 hv0 y2 e0 yn e1 HC0
            generalize hp0 : p i0 = p0 at *
            generalize hn0 : (D i0).length = n0 at *
            have k00 : (p0 : Int) < (n0 : Int) := by omega
            have k01 : (0 : Int) ≤ (p0 : Int) := by omega
            have k02 : (i0 : Int) < (m : Int) := by omega
            have k03 : (0 : Int) ≤ (i0 : Int) := by omega
            have k04 : decide ((i0 : Int) < 0) = false := decide_eq_false (by omega)
            have k05 : ¬ (i0 : Int) < 0 := by omega
            have hls := less_is' uj u0
            have HL0 := HL.out
            rw [hx] at HL0
            have HLX := Lib.hid HL0
            clear HL0 hp0 hn0
            rw [hx]
            clear hx HL
            cases hlt : ltStr uj u0 with
            | true =>
              rw [hlt] at hls
              have HLF : Hid (Least D p (j + 1) (j : Int)) := by
                show _
                exact HLX.out.less HLP.out (by rw [← HUJ.out, ← HU0.out]; exact hlt)
              clear hlt HLX
              go_wp2_with fail
              generalize hW1 : (wr.alloc (.cells #[.int .i64 fj, .int .i64 tj, .slice (some ⟨b, of, none⟩) nj cj] 33)) = W1 at *
              clear hW1
              have r1 := cell_regrown b2
              have r2 := cell_regrown mn'
              refine wp_region_quiet_below mixed (by kernel_rfl) ?_
              repeat (go_big_quiet_step (fail))
              refine wpQuiet_nil ?_
              intro W2 hw'
              obtain ⟨⟨dq, osq⟩, hw''⟩ := hw'
              have hb12 := below_regrown W1 dq osq
              rw [← hw''] at hb12
              have hbq := hB1.trans (hb12.mono hB1.size)
              have b3 := cell_later hb12 b2
              have mn3 := cell_later hb12 mn'
              have e13 := cell_later hb12 e1'
              have y23 := cell_later hb12 y2'
              have e03 := cell_later hb12 e0'
              have yn3 := cell_later hb12 yn'
              clear hw'' r1 r2 b2 mn' e1' y2' e0' yn' hb12
              go_wp2_with fail
              have r1 := cell_regrown b3
              have r2 := cell_regrown mn3
              have r3 := cell_regrown e13
              have r4 := cell_regrown y23
              have r5 := cell_regrown e03
              have r6 := cell_regrown yn3
              refine wp_region_quiet_below mixed (by kernel_rfl) ?_
              repeat (go_big_quiet_step (fail))
              refine wpQuiet_nil ?_
              intro W3 hw'
              obtain ⟨⟨dq3, osq3⟩, hw''⟩ := hw'
              have hbq3 := hbq.trans ((below_regrown W2 dq3 osq3).mono hbq.size)
              rw [← hw''] at hbq3
              clear hw'' r1 r2 r3 r4 r5 r6
              go_wp2
              go_roundg g3
              case rel => exact ⟨j + 1, j, by omega, rfl, by go_num, HLF.out, hbq3⟩
              case measure => omega
            | false =>
              rw [hlt] at hls
              have HLF : Hid (Least D p (j + 1) (i0 : Int)) := by
                show _
                exact HLX.out.stay (by rw [← HUJ.out, ← HU0.out]; exact hlt)
              clear hlt HLX
              go_wp2_with fail
              generalize hW1 : (wr.alloc (.cells #[.int .i64 fj, .int .i64 tj, .slice (some ⟨b, of, none⟩) nj cj] 33)) = W1 at *
              clear hW1
              have r1 := cell_regrown b2
              have r2 := cell_regrown mn'
              refine wp_region_quiet_below mixed (by kernel_rfl) ?_
              repeat (go_big_quiet_step (fail))
              refine wpQuiet_nil ?_
              intro W2 hw'
              obtain ⟨⟨dq, osq⟩, hw''⟩ := hw'
              have hb12 := below_regrown W1 dq osq
              rw [← hw''] at hb12
              have hbq := hB1.trans (hb12.mono hB1.size)
              have b3 := cell_later hb12 b2
              have mn3 := cell_later hb12 mn'
              have e13 := cell_later hb12 e1'
              have y23 := cell_later hb12 y2'
              have e03 := cell_later hb12 e0'
              have yn3 := cell_later hb12 yn'
              clear hw'' r1 r2 b2 mn' e1' y2' e0' yn' hb12
              go_wp2_with fail
              have r1 := cell_regrown b3
              have r2 := cell_regrown mn3
              have r3 := cell_regrown e13
              have r4 := cell_regrown y23
              have r5 := cell_regrown e03
              have r6 := cell_regrown yn3
              refine wp_region_quiet_below mixed (by kernel_rfl) ?_
              repeat (go_big_quiet_step (fail))
              refine wpQuiet_nil ?_
              intro W3 hw'
              obtain ⟨⟨dq3, osq3⟩, hw''⟩ := hw'
              have hbq3 := hbq.trans ((below_regrown W2 dq3 osq3).mono hbq.size)
              rw [← hw''] at hbq3
              clear hw'' r1 r2 r3 r4 r5 r6
              go_wp2
              go_roundg g3
              case rel => exact ⟨j + 1, i0, by omega, rfl, by go_num, HLF.out, hbq3⟩
              case measure => omega
        · have q1 : ((pj : Int) == (nj : Int)) = true := by rw [show pj = nj by omega]; exact beq_self_eq_true _
          have HLN := Lib.hid (HL.out.skip (by rw [← HPE.out, ← HNE.out]; exact hex))
          go_wp2_with fail
          generalize hW1 : (wr.alloc (.cells #[.int .i64 fj, .int .i64 tj, .slice aj nj cj] 33)) = W1 at *
          clear hW1
          have r1 := cell_regrown b2
          have r2 := cell_regrown mn'
          refine wp_region_quiet_below mixed (by kernel_rfl) ?_
          repeat (go_big_quiet_step (fail))
          refine wpQuiet_nil ?_
          intro W2 hw'
          obtain ⟨⟨dq, osq⟩, hw''⟩ := hw'
          have hbq := hB1.trans ((below_regrown W1 dq osq).mono hB1.size)
          rw [← hw''] at hbq
          clear hw'' r1 r2
          go_wp2
          go_roundg g3
          case rel => exact ⟨j + 1, x, by omega, rfl, by go_num, HLN.out, hbq⟩
          case measure => omega
end Go.Proofs.YteegbjjpjdlcmaaGreatDoor
