/- merge.union of one segment. -/
import Derived.Test.YteegbjjpjdlcmaaDoorDictW
import Derived.Test.YteegbjjpjdlcmaaDoorOwn
import Derived.Test.YteegbjjpjdlcmaaDoorElem
import Derived.Test.YteegbjjpjdlcmaaDoorHeld2
import Derived.Deep.RegionHeld3
import Derived.WalkMore
import Derived.Deep.LoopGhost
import Derived.Test.YteegbjjpjdlcmaaDoorRefDict
set_option linter.unusedVariables false
namespace Go.Proofs.YteegbjjpjdlcmaaDoor
open Go.RowKit Go.Sort

theorem own_same {w w' : World} {base : Nat} {e : TypeId} {size : Nat} {v : Value} {n : Nat} {xs : List Value} (h : w.ownsRow base e size v n xs) (hb : ∀ g, v.ownBlock = some g → w'.heap[g]? = w.heap[g]?) : w'.ownsRow base e size v n xs := by
  obtain ⟨hl, hh⟩ := h
  refine ⟨hl, ?_⟩
  rcases hh with h | ⟨g, cap, cur, hv, hbg, hg, hr⟩
  · exact .inl h
  · exact .inr ⟨g, cap, cur, hv, hbg, by rw [hb g (by rw [hv]; rfl)]; exact hg, hr⟩

/-- the entries that have been written down. -/
def EOut (w : World) (B nb : Nat) (dv : Value) (d : List Ent) (cells : List Value) : Prop :=
  ∀ i (hi : i < d.length), cells[i * 2]? = some (str d[i].1) ∧ ∃ xv, cells[i * 2 + 1]? = some xv ∧ w.ownsRow B 3 1 xv d[i].2.length (icells d[i].2) ∧ ∀ g, xv.ownBlock = some g → g ≠ nb ∧ dv.ownBlock ≠ some g

/-- where the merging stands: k entries are written. -/
structure UIn (w wr : World) (k : Nat) (dv : Value) (d : List Ent) (cells : List Value) : Prop where
  own : wr.ownsRow w.heap.size 64 2 dv k cells
  out : EOut wr w.heap.size w.heap.size dv (d.take k) cells
  next : wr.heap[w.heap.size]? = some (.cells #[.int .i64 k] 3 (0, 0))
  off : dv.ownBlock ≠ some w.heap.size
  bel : Below w.heap.size w wr

theorem UIn.drd {w wr : World} {n : Nat} {dv : Value} {d : List Ent} {cells : List Value} (h : UIn w wr n dv d cells) (hl : d.length = n) : DRd wr dv n d := by
  refine ⟨hl, cells, Rd.of_own h.own, fun i hi => ?_⟩
  obtain ⟨g1, xv, g2, g3, -⟩ := h.out i (by rw [List.length_take]; omega)
  simp only [List.getElem_take] at g1 g3
  exact ⟨g1, xv, g2, Rd.of_own g3⟩

theorem infoIntU : (Tryd.prog.info? 3).map (fun i => (i.zero, i.size, i.bytes)) = some (some (.int .i64 0), 1, 8) := by kernel_rfl
theorem infoEnt : (Tryd.prog.info? 64).map (fun i => (i.zero, i.size, i.bytes)) = some (some (.agg #[.string ByteArray.empty, .slice none 0 0]), 2, 40) := by kernel_rfl

theorem UIn.later {w wr w2 : World} {n : Nat} {dv : Value} {d : List Ent} {cells : List Value} (h : UIn w wr n dv d cells) (hl : d.length = n) (hk : ∀ b, w.heap.size ≤ b → b < wr.heap.size → w2.heap[b]? = wr.heap[b]?) : DRd w2 dv n d := by
  refine ⟨hl, cells, Rd.of_own (own_same h.own fun g hg => hk g (h.own.lt g hg).1 (h.own.lt g hg).2), fun i hi => ?_⟩
  obtain ⟨g1, xv, g2, g3, -⟩ := h.out i (by rw [List.length_take]; omega)
  simp only [List.getElem_take] at g1 g3
  exact ⟨g1, xv, g2, Rd.of_own (own_same g3 fun g hg => hk g (g3.lt g hg).1 (g3.lt g hg).2)⟩

/-- an entry is written: its terms and its documents. -/
structure EDone (w W5 : World) (eb k m : Nat) (tt : List UInt8) (ds : List Int) (dv : Value) (wz : World) : Prop where
  ent : wz.heap[eb]? = some (.cells #[.string (bstr tt), dv] 64 (0, 0))
  next : wz.heap[w.heap.size]? = some (.cells #[.int .i64 ((k : Int) + 1)] 3 (0, 0))
  own : wz.ownsRow W5.heap.size 3 1 dv m (icells ds)
  keep : ∀ b, b < W5.heap.size → b ≠ eb → b ≠ w.heap.size → wz.heap[b]? = W5.heap[b]?
  bel : Below w.heap.size w wz
  size : W5.heap.size ≤ wz.heap.size

theorem UIn.step {w w1 W5 wz w6 w7 : World} {k eb m : Nat} {dv v' ev : Value} {d : List Ent} {cells : List Value} {tt : List UInt8} {ds : List Int}
    (h : UIn w w1 k dv d cells) (h5 : Below w1.heap.size w1 W5) (heb : w1.heap.size ≤ eb) (hk : k < d.length) (hd : d[k] = (tt, ds)) (hl : ds.length = m) (he : EDone w W5 eb k m tt ds ev wz)
    (h6 : Below wz.heap.size wz w6) (happ : w7.ownsRow w.heap.size 64 2 v' (k + 1) (cells ++ [str tt, ev])) (hgr : w6.grownBy w7 dv.ownBlock) (hv : v'.ownBlock = dv.ownBlock ∨ v'.ownBlock = some w6.heap.size) :
    UIn w w7 (k + 1) v' d (cells ++ [str tt, ev]) := by
  have hs0 : w.heap.size < w1.heap.size := lt_of_block h.next
  have hs1 := h5.size
  have hs2 := he.size
  have hs3 := h6.size
  have hcl : cells.length = k * 2 := h.own.1
  have hdk : (d.take k).length = k := by rw [List.length_take]; omega
  refine ⟨happ, ?_, ?_, ?_, ?_⟩
  · intro i hi
    rw [List.length_take] at hi
    by_cases hik : i = k
    · subst hik
      refine ⟨?_, ev, ?_, ?_, ?_⟩
      · simp only [List.getElem_take, hd]
        rw [List.getElem?_append_right (by omega), hcl, Nat.sub_self]; rfl
      · rw [List.getElem?_append_right (by omega), hcl, show i * 2 + 1 - i * 2 = 1 from by omega]; rfl
      · simp only [List.getElem_take, hd, hl]
        refine own_same (own_mono (own_below he.own h6) (by omega)) fun g hg => ?_
        have hlt := (own_below he.own h6).lt g hg
        refine hgr.block g hlt.2 ?_
        intro e
        have := (h.own.lt g e.symm).2
        omega
      · intro g hg
        have hlt := (own_below he.own h6).lt g hg
        refine ⟨by omega, ?_⟩
        intro e
        rcases hv with hv | hv
        · rw [hv] at e
          have := (h.own.lt g e).2
          omega
        · rw [hv] at e
          simp only [Option.some.injEq] at e
          omega
    · have hik2 : i < k := by omega
      obtain ⟨g1, xv, g2, g3, g4⟩ := h.out i (by rw [hdk]; exact hik2)
      simp only [List.getElem_take] at g1 g3
      refine ⟨?_, xv, ?_, ?_, ?_⟩
      · simp only [List.getElem_take]
        rw [List.getElem?_append_left (by omega)]; exact g1
      · rw [List.getElem?_append_left (by omega)]; exact g2
      · simp only [List.getElem_take]
        refine own_same g3 fun g hg => ?_
        have hlt := (g3.lt g hg).2
        obtain ⟨n1, n2⟩ := g4 g hg
        rw [hgr.block g (by omega) (fun e => n2 e.symm), h6.block g (by omega), he.keep g (by omega) (by omega) n1, h5.block g hlt]
      · intro g hg
        have hlt := (g3.lt g hg).2
        obtain ⟨n1, n2⟩ := g4 g hg
        refine ⟨n1, ?_⟩
        rcases hv with hv | hv
        · rw [hv]; exact n2
        · rw [hv]
          intro e
          simp only [Option.some.injEq] at e
          omega
  · rw [hgr.block _ (by omega) (fun e => h.off e.symm), h6.block _ (by omega)]
    exact he.next
  · rcases hv with hv | hv
    · rw [hv]; exact h.off
    · rw [hv]
      intro e
      simp only [Option.some.injEq] at e
      omega
  · exact (he.bel.trans (h6.mono he.bel.size)).grown hgr (by omega) (fun q hq => (h.own.lt q hq).1)

set_option maxRecDepth 100000 in
set_option maxHeartbeats 8000000 in
theorem union_any (f t : Int) (g : Nat) (v : Value) (n : Nat) (d : List Ent) (w : World) (h : DRd w v n d) (hn : n ≤ 100000) (hts : ∀ e ∈ d, e.2.length ≤ 100000)
    (l0 : w.cell? ⟨g, 0, none⟩ = some (.int .i64 f)) (l1 : w.cell? ⟨g, 1, none⟩ = some (.int .i64 t)) (l2 : w.cell? ⟨g, 2, none⟩ = some v) :
    Calls Tryd.prog 32 #[.slice (some ⟨g, 0, none⟩) 1 1] w fun e w' => ∃ v', e = .returned v' ∧ (∀ w2 : World, (∀ b, w.heap.size ≤ b → b < w'.heap.size → w2.heap[b]? = w'.heap[b]?) → DRd w2 v' n d) ∧ Below w.heap.size w w' := by
  obtain ⟨ao, c, rfl, hm, HC⟩ := dict_cells h
  have mixed : Tryd.prog.follows .mixedOrders = true := by kernel_rfl
  have HL := Lib.hid h.1
  have HL012 := Lib.hid (And.intro l0 (And.intro l1 l2))
  have hmk : ∀ w, (Instr.makeSlice 41 (.int .i64 1) (.int .i64 1)).run Tryd.prog w = .ok (.slice (some ⟨w.heap.size, 0, none⟩) 1 1) (w.alloc (.cells #[.int .i64 0] 3)) := fun _ => by kernel_rfl
  have hb0 : Below w.heap.size w (w.alloc (.cells #[.int .i64 0] 3)) := (Below.refl _ _).alloc (Nat.le_refl _) _
  have hnew := heap_alloc_new w (.cells #[.int .i64 0] 3)
  have HU : Hid (UIn w (w.alloc (.cells #[.int .i64 0] 3)) 0 (.slice none 0 0) d []) := ⟨⟨rfl, .inl ⟨rfl, rfl⟩⟩, fun i hi => by simp at hi, hnew, by simp [Value.ownBlock], hb0⟩
  clear h l0 l1 l2 hb0 hnew
  go_enter Tryd.func32, Tryd.ntmps32
  go_wp2
  go_step3
  go_wp2
  generalize hW0 : (w.alloc (.cells #[.int .i64 0] 3)) = W0 at *
  clear hW0 hmk
  go_step3
  go_wp2
  go_loopg [3] n (fun gg s3 wr => ∃ (k : Nat) (cells : List Value), k + gg = n ∧ Hid (UIn w wr k s3 d cells))
  case atStart => exact ⟨0, [], by omega, HU⟩
  case round =>
    obtain ⟨k, cells, hkg, HU2⟩ := hrel
    clear HU
    have hbel := HU2.out.bel
    have cn : wr.cell? ⟨w.heap.size, 0, none⟩ = some (.int .i64 k) := by rw [cell_of_row _ _ _ _ _ _ HU2.out.next]; rfl
    have l0 := cell_later hbel HL012.out.1
    have l1 := cell_later hbel HL012.out.2.1
    have l2 := cell_later hbel HL012.out.2.2
    rename World => w1
    cases gk with
    | zero =>
      have hkn : k = n := by omega
      have n1 : ((k : Int) == (n : Int)) = true := by rw [hkn]; exact beq_self_eq_true _
      have HKN := Lib.hid hkn
      clear hkn hkg
      go_wp2
      go_loopg [5, 16] 1 (fun g2 s5 s16 wy => ∃ j : Nat, j + g2 = 1 ∧ s5 = .int .i64 (-1) ∧ s16 = .int .i64 j ∧ Below w1.heap.size w1 wy)
      case atStart => exact ⟨0, rfl, rfl, rfl, Below.refl _ _⟩
      case round =>
        obtain ⟨j, hj, rfl, rfl, hby⟩ := hrel
        cases gk with
        | zero =>
          obtain rfl : j = 1 := by omega
          rw [show ((1 : Nat) : Int) = 1 from rfl]
          clear l0 l1 l2 cn
          go_wp2
          try rw [Exit.noGoto_ret]
          go_ret
          refine ⟨_, rfl, fun w2 h2 => ?_, hbel.trans (hby.mono hbel.size)⟩
          have := HU2.out
          rw [HKN.out] at this
          exact this.later HL.out fun b g1 g2 => (h2 b g1 (by have := hby.size; omega)).trans (hby.block b g2)
        | succ g3 =>
          obtain ⟨rfl, rfl⟩ : j = 0 ∧ g3 = 0 := by omega
          rw [show ((0 : Nat) : Int) = 0 from rfl]
          have m0 := cell_later hby l0
          have m1 := cell_later hby l1
          have m2 := cell_later hby l2
          have mn := cell_later hby cn
          have hB1 : Below w1.heap.size w1 (wr.alloc (.cells #[.int .i64 f, .int .i64 t, .slice ao n c] 26)) := hby.alloc hby.size _
          have hbA : Below wr.heap.size wr (wr.alloc (.cells #[.int .i64 f, .int .i64 t, .slice ao n c] 26)) := (Below.refl _ _).alloc (Nat.le_refl _) _
          have hnew := heap_alloc_new wr (.cells #[.int .i64 f, .int .i64 t, .slice ao n c] 26)
          have b2 : (wr.alloc (.cells #[.int .i64 f, .int .i64 t, .slice ao n c] 26)).cell? ⟨wr.heap.size, 2, none⟩ = some (.slice ao n c) := by rw [cell_of_row _ _ _ _ _ _ hnew]; rfl
          have mn' := cell_later hbA mn
          clear hnew hbA l0 l1 l2 cn
          go_wp2_with fail
          generalize hW1 : (wr.alloc (.cells #[.int .i64 f, .int .i64 t, .slice ao n c] 26)) = W1 at *
          clear hW1
          have r1 := cell_regrown b2
          have r2 := cell_regrown mn'
          refine wp_region_quiet_below mixed (by kernel_rfl) ?_
          repeat (go_big_quiet_step (fail))
          refine wpQuiet_nil ?_
          intro W2 hw'
          obtain ⟨⟨dq, osq⟩, hw''⟩ := hw'
          have hbq := hB1.trans ((below_regrown W1 dq osq).mono hB1.size)
          rw [← hw''] at hbq
          clear hw'' r1 r2
          go_wp2
          go_roundg 0
          case rel => exact ⟨1, rfl, rfl, by go_num, hbq⟩
          case measure => omega
    | succ g2 =>
      have hkn : k < n := by omega
      have n1 : ((k : Int) == (n : Int)) = false := beq_eq_false_iff_ne.2 (by omega)
      have hkd : k < d.length := by have := HL.out; omega
      obtain ⟨b, off, da, dc, rfl, c1, c2, hdr⟩ := HC.out k hkd
      have HTK : Hid (d.take (k + 1) = d.take k ++ [d[k]]) := List.take_succ_eq_append_getElem hkd
      have hds := hts _ (List.getElem_mem hkd)
      obtain ⟨⟨tt, ds⟩, hx⟩ : ∃ x, x = d[k] := ⟨_, rfl⟩
      have HDK : Hid (d[k] = (tt, ds)) := hx.symm
      rw [← hx] at c1 c2 hdr HTK hds
      simp only at c1 c2 hdr hds
      clear hx
      have c1w := cell_later hbel c1
      have c2w := cell_later hbel c2
      have hdr1 := hdr.below hbel
      clear c1 c2 hdr
      obtain ⟨m, hmm⟩ : ∃ m, m = ds.length := ⟨_, rfl⟩
      rw [← hmm] at c2w hdr1 hds
      have HDS : Hid (ds.length = m) := hmm.symm
      have HDR := Lib.hid hdr1
      clear hmm hdr1
      go_wp2
      go_loopg [5, 16] 1 (fun g2 s5 s16 wy => ∃ j : Nat, j + g2 = 1 ∧ s5 = .int .i64 (if j = 0 then -1 else 0) ∧ s16 = .int .i64 j ∧ Below w1.heap.size w1 wy)
      case atStart => exact ⟨0, rfl, rfl, rfl, Below.refl _ _⟩
      case round =>
        obtain ⟨j, hj, rfl, rfl, hby⟩ := hrel
        cases gk with
        | zero =>
          obtain rfl : j = 1 := by omega
          rw [show ((1 : Nat) : Int) = 1 from rfl, if_neg (by decide)]
          have m0 := cell_later hby l0
          have m1 := cell_later hby l1
          have m2 := cell_later hby l2
          have mn := cell_later hby cn
          have d1 := cell_later hby c1w
          go_wp2_with fail
          have hby' : Below w1.heap.size w1 wr.drew := hby.drew
          have hsz1 := hby.size
          unfold str at d1
          have kk0 : (0 : Int) ≤ (k : Int) := by omega
          have kk1 : (k : Int) < (n : Int) := by omega
          have kk2 : ((k : Int)).toNat = k := by omega
          go_region_held3 (fun W => W.cell? ⟨g, 2, none⟩ = some (.slice (some ⟨b, off, none⟩) n c) ∧ W.cell? ⟨w.heap.size, 0, none⟩ = some (.int .i64 k) ∧ W.cell? ⟨b, off + k * 2, none⟩ = some (.string (bstr tt)))
            (first | exact ⟨m2, mn, d1⟩ | assumption | go_keep)
            (fail)
          have hB5 : Below w1.heap.size w1 (wr.alloc (.cells #[.string (bstr tt), .slice none 0 0] 64)).drew := ((hby.alloc hsz1 _).drew)
          have hE5 : (wr.alloc (.cells #[.string (bstr tt), .slice none 0 0] 64)).drew.heap[wr.heap.size]? = some (.cells #[.string (bstr tt), .slice none 0 0] 64 (0, 0)) := heap_alloc_new wr _
          have hs5 : wr.heap.size < (wr.alloc (.cells #[.string (bstr tt), .slice none 0 0] 64)).drew.heap.size := lt_of_block hE5
          have hw1 : w.heap.size < w1.heap.size := lt_of_block HU2.out.next
          have hN5 : (wr.alloc (.cells #[.string (bstr tt), .slice none 0 0] 64)).drew.heap[w.heap.size]? = some (.cells #[.int .i64 k] 3 (0, 0)) := by rw [hB5.block _ hw1]; exact HU2.out.next
          have g50 := cell_later hB5 l0
          have g51 := cell_later hB5 l1
          have g52 := cell_later hB5 l2
          have d51 := cell_later hB5 c1w
          have d52 := cell_later hB5 c2w
          generalize hW5 : (wr.alloc (.cells #[.string (bstr tt), .slice none 0 0] 64)).drew = W5 at *
          clear hW5 m0 m1 m2 mn d1
          generalize heb : wr.heap.size = eb at *
          clear heb
          unfold str at d51
          obtain ⟨i1, hi1, hi1a, hi1b, hi1c⟩ := info_parts infoIntU
          obtain ⟨i0, hi0, hi0a, hi0b, hi0c⟩ := info_parts infoEnt
          clear l0 l1 l2 cn c1w c2w
          go_wp2
          go_loopg [74] 1 (fun g2 s74 wz => ∃ j : Nat, j + g2 = 1 ∧ s74 = .int .i64 j ∧ Hid ((j = 0 → Below W5.heap.size W5 wz) ∧ (j = 1 → ∃ ea ec, EDone w W5 eb k m tt ds (.slice ea m ec) wz)))
          case atStart => exact ⟨0, rfl, rfl, fun _ => Below.refl _ _, fun h => by omega⟩
          case round =>
            obtain ⟨j, hj, rfl, HZ⟩ := hrel
            cases gk with
            | zero =>
              obtain rfl : j = 1 := by omega
              obtain ⟨ea, ec, hED⟩ := HZ.out.2 rfl
              have HED := Lib.hid hED
              rw [show ((1 : Nat) : Int) = 1 from rfl]
              have x0 : wr.cell? ⟨eb, 0, none⟩ = some (.string (bstr tt)) := by rw [cell_of_row _ _ _ _ _ _ hED.ent]; rfl
              have x1 : wr.cell? ⟨eb, 1, none⟩ = some (.slice ea m ec) := by rw [cell_of_row _ _ _ _ _ _ hED.ent]; rfl
              have hO : Hid (wr.ownsRow w.heap.size 64 2 u3 k cells) := own_same HU2.out.own fun g hg => by
                have h1 := (HU2.out.own.lt g hg).2
                rw [hED.keep g (by have := hB5.size; omega) (by omega) (fun e => HU2.out.off (by rw [hg, e])), hB5.block g h1]
              have hszr : w.heap.size ≤ wr.heap.size := by have := hED.size; omega
              clear hED
              go_wp2_with (at_builtin; refine wpList_app rfl _ _ _ _ rfl w.heap.size 64 i0 _ 2 40 Tryd.underlying24 hi0 hi0a hi0b hi0c rfl _ k _ rfl (own_below hO.out ((Below.refl _ _).alloc (Nat.le_refl _) _)) _ 1 [.string (bstr tt), .slice ea m ec] rfl (src_new Tryd.underlying24 wr _ 2 1 1 rfl (by intro u hu; simp at hu; rcases hu with rfl | rfl <;> rfl)) (by unfold maxLen; omega) (by omega) (by simp; omega) ?_; intro v' w7 hown7 hgr7 hv7 _)
              go_roundg g2
              case rel => exact ⟨k + 1, cells ++ [str tt, .slice ea m ec], by omega, UIn.step HU2.out hB5 (by omega) hkd HDK.out HDS.out HED.out ((Below.refl _ _).alloc (Nat.le_refl _) _) hown7 hgr7 hv7⟩
              case measure => omega
            | succ g3 =>
              obtain ⟨rfl, rfl⟩ : j = 0 ∧ g3 = 0 := by omega
              have hby5 := HZ.out.1 rfl
              rw [show ((0 : Nat) : Int) = 0 from rfl]
              have g60 := cell_later hby5 g50
              have g61 := cell_later hby5 g51
              have g62 := cell_later hby5 g52
              have hB6 : Below W5.heap.size W5 (wr.alloc (.cells #[.int .i64 f, .int .i64 t, .slice (some ⟨b, off, none⟩) n c] 26)) := hby5.alloc hby5.size _
              have hnew := heap_alloc_new wr (.cells #[.int .i64 f, .int .i64 t, .slice (some ⟨b, off, none⟩) n c] 26)
              have b2 : (wr.alloc (.cells #[.int .i64 f, .int .i64 t, .slice (some ⟨b, off, none⟩) n c] 26)).cell? ⟨wr.heap.size, 2, none⟩ = some (.slice (some ⟨b, off, none⟩) n c) := by rw [cell_of_row _ _ _ _ _ _ hnew]; rfl
              have e50 : W5.cell? ⟨eb, 0, none⟩ = some (.string (bstr tt)) := by rw [cell_of_row _ _ _ _ _ _ hE5]; rfl
              have e51 : W5.cell? ⟨eb, 1, none⟩ = some (.slice none 0 0) := by rw [cell_of_row _ _ _ _ _ _ hE5]; rfl
              have n5 : W5.cell? ⟨w.heap.size, 0, none⟩ = some (.int .i64 k) := by rw [cell_of_row _ _ _ _ _ _ hN5]; rfl
              have d61 := cell_later hB6 d51
              have d62 := cell_later hB6 d52
              have e60 := cell_later hB6 e50
              have e61 := cell_later hB6 e51
              have n6 := cell_later hB6 n5
              have hs6 : wr.heap.size < (wr.alloc (.cells #[.int .i64 f, .int .i64 t, .slice (some ⟨b, off, none⟩) n c] 26)).heap.size := lt_of_block hnew
              have hs5' := hby5.size
              have hd2 : decide ((k : Int) < (n : Int)) = true := decide_eq_true kk1
              have hstr : ((bstr tt).toList == (bstr tt).toList) = true := beq_self_eq_true _
              clear hnew g50 g51 g52 d51 d52 e50 e51 n5
              go_wp2_with fail
              generalize hW6 : (wr.alloc (.cells #[.int .i64 f, .int .i64 t, .slice (some ⟨b, off, none⟩) n c] 26)) = W6 at *
              clear hW6 g60 g61 g62
              generalize hsb : wr.heap.size = sb at *
              clear hsb
              have r1 := cell_regrown n6
              have r2 := cell_regrown b2
              have r3 := cell_regrown d61
              have r4 := cell_regrown e60
              refine wp_region_quiet_below mixed (by kernel_rfl) ?_
              repeat (go_big_quiet_step (fail))
              refine wpQuiet_nil ?_
              intro W7 hw'
              obtain ⟨⟨dq, osq⟩, hw''⟩ := hw'
              have hb67 := below_regrown W6 dq osq
              rw [← hw''] at hb67
              clear hw'' r1 r2 r3 r4
              have B7 := hB6.trans (hb67.mono hB6.size)
              have e71 := cell_later hb67 e61
              have s72 := cell_later hb67 b2
              have n7 := cell_later hb67 n6
              have d72 := cell_later hb67 d62
              clear hb67 e60 e61 b2 n6 d61 d62 hB6 hby5
              go_wp2_with fail
              refine L_begin (fun W => W.cell? ⟨eb, 1, none⟩ = some (.slice none 0 0) ∧ W.cell? ⟨sb, 2, none⟩ = some (.slice (some ⟨b, off, none⟩) n c) ∧ W.cell? ⟨w.heap.size, 0, none⟩ = some (.int .i64 k) ∧ W.cell? ⟨b, off + k * 2 + 1, none⟩ = some (.slice da m dc)) 12 (by kernel_rfl) ?_
              have hS : W7.drew.cell? ⟨eb, 1, none⟩ = some (.slice none 0 0) ∧ W7.drew.cell? ⟨sb, 2, none⟩ = some (.slice (some ⟨b, off, none⟩) n c) ∧ W7.drew.cell? ⟨w.heap.size, 0, none⟩ = some (.int .i64 k) ∧ W7.drew.cell? ⟨b, off + k * 2 + 1, none⟩ = some (.slice da m dc) := ⟨e71, s72, n7, d72⟩
              have hB7 := B7.drew
              clear B7 e71 s72 n7 d72
              generalize W7.drew = wd at *
              refine L_free (fuel := 13) 0 (.pointer (some ⟨eb, 1, none⟩)) rfl (by kernel_rfl) (by kernel_rfl) (by kernel_rfl) (by kernel_rfl) (fun _ _ _ h => h) (by kernel_rfl) ?_ hS ?_
              · intro W
                go_simp
              refine L_take (fuel := 12) 1 (.slice none 0 0) rfl (by kernel_rfl) (by kernel_rfl) (by kernel_rfl) (by kernel_rfl) (fun _ _ _ h => h) (by kernel_rfl) ?_ hS ?_
              · intro W hW
                obtain ⟨q1, q2, q3, q4⟩ := hW
                go_simp
              refine L_free (fuel := 11) 2 (.pointer (some ⟨sb, 2, none⟩)) rfl (by kernel_rfl) (by kernel_rfl) (by kernel_rfl) (by kernel_rfl) (fun _ _ _ h => h) (by kernel_rfl) ?_ hS ?_
              · intro W
                go_simp
              refine L_take (fuel := 10) 3 (.slice (some ⟨b, off, none⟩) n c) rfl (by kernel_rfl) (by kernel_rfl) (by kernel_rfl) (by kernel_rfl) (fun _ _ _ h => h) (by kernel_rfl) ?_ hS ?_
              · intro W hW
                obtain ⟨q1, q2, q3, q4⟩ := hW
                go_simp
              refine L_free (fuel := 9) 4 (.slice (some ⟨w.heap.size, 0, none⟩) 1 1) rfl (by kernel_rfl) (by kernel_rfl) (by kernel_rfl) (by kernel_rfl) (fun _ _ _ h => h) (by kernel_rfl) ?_ hS ?_
              · intro W
                go_simp
              refine L_free (fuel := 8) 5 (.int .i64 0) rfl (by kernel_rfl) (by kernel_rfl) (by kernel_rfl) (by kernel_rfl) (fun _ _ _ h => h) (by kernel_rfl) ?_ hS ?_
              · intro W
                go_simp
              refine L_free (fuel := 7) 6 (.pointer (some ⟨w.heap.size, 0, none⟩)) rfl (by kernel_rfl) (by kernel_rfl) (by kernel_rfl) (by kernel_rfl) (fun _ _ _ h => h) (by kernel_rfl) ?_ hS ?_
              · intro W
                go_simp
              refine L_take (fuel := 6) 7 (.int .i64 k) rfl (by kernel_rfl) (by kernel_rfl) (by kernel_rfl) (by kernel_rfl) (fun _ _ _ h => h) (by kernel_rfl) ?_ hS ?_
              · intro W hW
                obtain ⟨q1, q2, q3, q4⟩ := hW
                go_simp
              refine L_free (fuel := 5) 8 (.pointer (some ⟨b, off + k * 2, none⟩)) rfl (by kernel_rfl) (by kernel_rfl) (by kernel_rfl) (by kernel_rfl) (fun _ _ _ h => h) (by kernel_rfl) ?_ hS ?_
              · intro W
                go_simp
              refine L_free (fuel := 4) 9 (.pointer (some ⟨b, off + k * 2 + 1, none⟩)) rfl (by kernel_rfl) (by kernel_rfl) (by kernel_rfl) (by kernel_rfl) (fun _ _ _ h => h) (by kernel_rfl) ?_ hS ?_
              · intro W
                go_simp
              refine L_take (fuel := 3) 10 (.slice da m dc) rfl (by kernel_rfl) (by kernel_rfl) (by kernel_rfl) (by kernel_rfl) (fun _ _ _ h => h) (by kernel_rfl) ?_ hS ?_
              · intro W hW
                obtain ⟨q1, q2, q3, q4⟩ := hW
                go_simp
              refine L_one (fuel := 2) 11 (by kernel_rfl) rfl ?_
              intro K hK
              refine step_app (by rfl) (.tmp 102) (.tmp 111) _ _ (by rfl) wd.heap.size 3 i1 _ 1 8 Tryd.underlying41 hi1 hi1a hi1b hi1c rfl (.slice none 0 0) 0 [] (by kernel_rfl) ⟨rfl, .inl ⟨rfl, rfl⟩⟩ (.slice da m dc) m (icells ds) (by kernel_rfl) (Rd.src Tryd.underlying41 (HDR.out.below (hB5.trans (hB7.mono hB5.size))) (fun u hu => by simp only [icells, List.mem_map] at hu; obtain ⟨x, _, rfl⟩ := hu; rfl)) (by unfold maxLen; omega) (by omega) (Nat.le_refl _) ?_
              intro ev w8 hown8 hgr8 _
              rw [Nat.zero_add, List.nil_append] at hown8
              obtain ⟨ea, ec, rfl⟩ := own_shape hown8
              have hE8 : w8.heap[eb]? = some (.cells #[.string (bstr tt), .slice none 0 0] 64 (0, 0)) := by rw [hgr8.block _ (by have := hB7.size; omega) (by simp [Value.ownBlock]), hB7.block _ (by omega)]; exact hE5
              have hN8 : w8.heap[w.heap.size]? = some (.cells #[.int .i64 k] 3 (0, 0)) := by rw [hgr8.block _ (by have := hB7.size; omega) (by simp [Value.ownBlock]), hB7.block _ (by omega)]; exact hN5
              have hbw8 : Below wd.heap.size wd w8 := ⟨hgr8.os, hgr8.tape, hgr8.output, hgr8.size, fun q hq => hgr8.block q hq (by simp [Value.ownBlock])⟩
              refine hK _ _ ⟨cell_later hbw8 hS.1, cell_later hbw8 hS.2.1, cell_later hbw8 hS.2.2.1, cell_later hbw8 hS.2.2.2⟩ ?_
              clear hK K hgr8
              have k8 : w8.cell? ⟨eb, 1, none⟩ = some (.slice none 0 0) := by rw [cell_of_row _ _ _ _ _ _ hE8]; rfl
              have f8 : w8.frozen? ⟨eb, 1, none⟩ = false := frozen_of_row _ _ _ _ _ hE8
              refine L_end (fuel := 1) 12 (by kernel_rfl) rfl (by kernel_rfl) ?_
              intro K hK
              go_simp
              refine hK _ _ ?_
              clear hK K
              refine L_end (fuel := 0) 13 (by kernel_rfl) rfl (by kernel_rfl) ?_
              intro K hK
              go_simp
              refine hK _ _ ?_
              clear hK K
              refine L_done (by kernel_rfl) ?_ 0
              have hwd := hB7.size
              have hE9 : (w8.setCell ⟨eb, 1, none⟩ (.slice ea m ec)).heap[eb]? = some (.cells #[.string (bstr tt), .slice ea m ec] 64 (0, 0)) := heap_setCell_same w8 eb 1 _ _ (.slice ea m ec) hE8
              have hN9 : (w8.setCell ⟨eb, 1, none⟩ (.slice ea m ec)).heap[w.heap.size]? = some (.cells #[.int .i64 k] 3 (0, 0)) := by rw [heap_setCell_other _ _ _ _ (by simp; omega)]; exact hN8
              have hown9 : Hid ((w8.setCell ⟨eb, 1, none⟩ (.slice ea m ec)).ownsRow wd.heap.size 3 1 (.slice ea m ec) m (icells ds)) := own_same hown8 fun g hg => heap_setCell_other _ _ _ _ (by have := (hown8.lt g hg).1; simp; omega)
              have hkeep9 : Hid (∀ b, b < W5.heap.size → b ≠ eb → (w8.setCell ⟨eb, 1, none⟩ (.slice ea m ec)).heap[b]? = W5.heap[b]?) := fun b h1 h2 => by
                rw [heap_setCell_other _ _ _ _ (by simpa using h2), hbw8.block b (by omega), hB7.block b h1]
              have hbel9 : Hid (Below w.heap.size w (w8.setCell ⟨eb, 1, none⟩ (.slice ea m ec))) := (((hbel.trans ((hB5.trans (hB7.mono hB5.size)).mono hbel.size)).trans (hbw8.mono (by omega))).setCell (by simp; omega) _)
              have hsz9 : W5.heap.size ≤ (w8.setCell ⟨eb, 1, none⟩ (.slice ea m ec)).heap.size := by have := hbw8.size; simp; omega
              generalize w8.setCell ⟨eb, 1, none⟩ (.slice ea m ec) = w9 at *
              clear hown8 hE8 hN8 hbw8 k8 f8 hS
              have k9 : w9.cell? ⟨w.heap.size, 0, none⟩ = some (.int .i64 k) := by rw [cell_of_row _ _ _ _ _ _ hN9]; rfl
              have f9 : w9.frozen? ⟨w.heap.size, 0, none⟩ = false := frozen_of_row _ _ _ _ _ hN9
              have hwk : IntKind.i64.wrap ((k : Int) + 1) = (k : Int) + 1 := by rw [IntKind.wrap_i64]; omega
              have HE9 := Lib.hid hE9
              have HN9 := Lib.hid hN9
              clear hE9 hN9
              go_wp2
              go_roundg 0
              case rel =>
                refine ⟨1, rfl, by go_num, fun h => by omega, fun _ => ⟨ea, ec, ?_⟩⟩
                refine ⟨?_, ?_, ?_, ?_, ?_, ?_⟩
                · rw [heap_setCell_other _ _ _ _ (by simp; omega)]; exact HE9.out
                · exact heap_setCell_same w9 w.heap.size 0 _ _ _ HN9.out
                · exact own_mono (own_same hown9.out fun g hg => heap_setCell_other _ _ _ _ (by have := (hown9.out.lt g hg).1; simp; omega)) (by omega)
                · intro b h1 h2 h3
                  rw [heap_setCell_other _ _ _ _ (by simpa using h3)]
                  exact hkeep9.out b h1 h2
                · exact hbel9.out.setCell (Nat.le_refl _) _
                · simpa using hsz9
              case measure => omega
        | succ g3 =>
          obtain ⟨rfl, rfl⟩ : j = 0 ∧ g3 = 0 := by omega
          rw [show ((0 : Nat) : Int) = 0 from rfl, if_pos rfl]
          have m0 := cell_later hby l0
          have m1 := cell_later hby l1
          have m2 := cell_later hby l2
          have mn := cell_later hby cn
          have hB1 : Below w1.heap.size w1 (wr.alloc (.cells #[.int .i64 f, .int .i64 t, .slice (some ⟨b, off, none⟩) n c] 26)) := hby.alloc hby.size _
          have hbA : Below wr.heap.size wr (wr.alloc (.cells #[.int .i64 f, .int .i64 t, .slice (some ⟨b, off, none⟩) n c] 26)) := (Below.refl _ _).alloc (Nat.le_refl _) _
          have hnew := heap_alloc_new wr (.cells #[.int .i64 f, .int .i64 t, .slice (some ⟨b, off, none⟩) n c] 26)
          have b2 : (wr.alloc (.cells #[.int .i64 f, .int .i64 t, .slice (some ⟨b, off, none⟩) n c] 26)).cell? ⟨wr.heap.size, 2, none⟩ = some (.slice (some ⟨b, off, none⟩) n c) := by rw [cell_of_row _ _ _ _ _ _ hnew]; rfl
          have mn' := cell_later hbA mn
          clear hnew hbA l0 l1 l2 cn
          go_wp2_with fail
          generalize hW1 : (wr.alloc (.cells #[.int .i64 f, .int .i64 t, .slice (some ⟨b, off, none⟩) n c] 26)) = W1 at *
          clear hW1
          have r1 := cell_regrown b2
          have r2 := cell_regrown mn'
          refine wp_region_quiet_below mixed (by kernel_rfl) ?_
          repeat (go_big_quiet_step (fail))
          refine wpQuiet_nil ?_
          intro W2 hw'
          obtain ⟨⟨dq, osq⟩, hw''⟩ := hw'
          have hbq := hB1.trans ((below_regrown W1 dq osq).mono hB1.size)
          rw [← hw''] at hbq
          clear hw'' r1 r2
          go_wp2_with fail
          refine wp_region_quiet_below mixed (by kernel_rfl) ?_
          repeat (go_big_quiet_step (fail))
          refine wpQuiet_nil ?_
          intro W3 hw'
          obtain ⟨⟨dq3, osq3⟩, hw''⟩ := hw'
          have hbq3 := hbq.trans ((below_regrown W2 dq3 osq3).mono hbq.size)
          rw [← hw''] at hbq3
          clear hw''
          go_wp2
          go_roundg 0
          case rel => exact ⟨1, rfl, rfl, by go_num, hbq3⟩
          case measure => omega
end Go.Proofs.YteegbjjpjdlcmaaDoor
