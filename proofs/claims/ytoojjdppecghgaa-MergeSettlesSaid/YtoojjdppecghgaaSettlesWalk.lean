/- The walk of rubricklaw13.MergeSettles. -/
import Derived.Test.YtoojjdppecghgaaKnows13
import Derived.Test.YtoojjdppecghgaaSettleLaw
import Derived.BigQuiet
import Derived.OpenShut
namespace Go.Proofs.Ytoojjdppecghgaa
open Go.RowKit Go.Sort

theorem infoInt : (Try.prog.info? 3).map (fun i => (i.zero, i.size, i.bytes)) = some (some (.int .i64 0), 1, 8) := by kernel_rfl

def intCells (ks : List Int) : List Value := ks.map (Value.int .i64)

/-- what the first loop has gathered. -/
structure Gathered (ks : List Int) (k : Nat) (n : Int) : Prop where
  one : ∀ x ∈ ks, 1 ≤ x ∧ x ≤ 199
  len : ks.length ≤ k
  sum : sumOf ks = n
  small : n ≤ 1000

theorem gathered_bd {ks : List Int} {k : Nat} {n : Int} (h : Gathered ks k n) : 0 ≤ n ∧ n ≤ 1000 := by
  have := sumOf_bd ks (fun x hx => by have := h.one x hx; omega)
  have := h.sum; have := h.small; omega

theorem gathered_step {ks : List Int} {k : Nat} {n x : Int} (h : Gathered ks k n) (h1 : 0 < x) (h2 : x ≤ 199) (h3 : n + x ≤ 1000) : Gathered (ks ++ [x]) (k + 1) (n + x) :=
  ⟨fun y hy => by
    simp only [List.mem_append, List.mem_singleton] at hy
    rcases hy with hy | rfl
    · exact h.one y hy
    · omega, by have := h.len; simp; omega, by rw [sumOf_append, h.sum]; simp [sumOf], h3⟩

theorem gathered_keep {ks : List Int} {k : Nat} {n : Int} (h : Gathered ks k n) : Gathered ks (k + 1) n := ⟨h.one, by have := h.len; omega, h.sum, h.small⟩

/-- the end of the first loop: a row of lengths and its sum. -/
def RowEnd (w : World) (l n : Value) (wr : World) : Prop :=
  ∃ ks m, l = l ∧ n = .int .i64 m ∧ Gathered ks 100 m ∧ wr.ownsRow w.heap.size 3 1 l ks.length (intCells ks) ∧ Below w.heap.size w wr

def IsRow (k : IntKind) (w : World) (a : Option Addr) (len cap : Nat) (zs : List Int) : Prop :=
  (a = none ∧ len = 0 ∧ cap = 0 ∧ zs = []) ∨
  ∃ x, a = some x ∧ len ≤ cap ∧ cap ≤ maxLen ∧ zs.length = cap ∧ (∀ i, i < zs.length → w.cell? (x.add i) = some (.int k (zs.getD i 0))) ∧ ∀ n ∈ zs, (Lit.int k n).wf = true

set_option maxHeartbeats 1000000 in
theorem walk (a0 : Option Addr) (len0 cap0 : Nat) (z0 : List Int) (w : World) (w0 : IsRow .u16 w a0 len0 cap0 z0) :
    Calls Try.prog 3 #[.slice a0 len0 cap0] w fun e w' => e = .returned (.bool true) ∧ Below w.heap.size w w' := by
  obtain ⟨i0, hi, hz0, hz1, hz2⟩ := info_parts infoInt
  have hlen : len0 ≤ cap0 ∧ cap0 ≤ maxLen := by
    rcases w0 with ⟨-, rfl, rfl, -⟩ | ⟨x, -, h1, h2, -⟩
    · exact ⟨Nat.le_refl _, Nat.zero_le _⟩
    · exact ⟨h1, h2⟩
  unfold maxLen at hlen
  have hcells : ∀ k, k < len0 → ∃ b off z, a0 = some ⟨b, off, none⟩ ∧ w.cell? ⟨b, off + k, none⟩ = some (.int .u16 z) ∧ 0 ≤ z ∧ z ≤ 65535 := by
    intro k hk
    rcases w0 with ⟨-, h, -, -⟩ | ⟨x, hx, h1, h2, h3, h4, h5⟩
    · omega
    · obtain ⟨b, off, rfl, hc⟩ := ints_at h4 (by omega)
      have hg : z0.getD k 0 = z0[k]'(by omega) := by simp [List.getD_eq_getElem?_getD, List.getElem?_eq_getElem (show k < z0.length by omega)]
      have hb := bounds_u16 (h5 (z0.getD k 0) (by rw [hg]; exact List.getElem_mem _))
      exact ⟨b, off, z0.getD k 0, hx, hc k (by omega), hb.1, hb.2⟩
  go_enter Try.func3, Try.ntmps3
  go_wp2_with fail
  go_loopw [3, 4, 5] (fun l n i wr => ∃ (k : Nat) (ks : List Int) (m : Int), k ≤ 100 ∧ i = .int .i64 k ∧ n = .int .i64 m ∧ Gathered ks k m ∧ wr.ownsRow w.heap.size 3 1 l ks.length (intCells ks) ∧ Below w.heap.size w wr) (fun _ _ i _ => 100 - (intOf i).toNat)
  case atStart => exact ⟨0, [], 0, by omega, rfl, rfl, ⟨by simp, by simp, rfl, by omega⟩, World.ownsRow_nil _ _ _ _, Below.refl _ _⟩
  case round =>
    obtain ⟨k, ks, m, hk, rfl, rfl, hg, hown, hbel⟩ := hrel
    have hmb := gathered_bd hg
    have hsz := hbel.size
    by_cases hin : k < len0 ∧ k < 100
    · obtain ⟨hk1, hk2⟩ := hin
      obtain ⟨b, off, z, rfl, hc, hzb1, hzb2⟩ := hcells k hk1
      have hcur := (hbel.cell (World.block_lt_of_cell? w _ hc)).trans hc
      clear hcells hc w0
      have hx1 : 0 ≤ z % 200 := by omega
      have hx2 : z % 200 ≤ 199 := by omega
      by_cases hx : 0 < z % 200
      · by_cases hm : m + z % 200 ≤ 1000
        · have hks := hg.len
          go_wp2_with (at_builtin; refine wpList_app rfl _ _ _ _ rfl w.heap.size 3 i0 _ 1 8 Try.underlying23 hi hz0 hz1 hz2 rfl _ ks.length _ rfl (hown.alloc _) _ 1 [.int .i64 (z % 200)] rfl (src_new Try.underlying23 wr _ 1 1 1 rfl (by intro u hu; simp at hu; subst hu; rfl)) (by unfold maxLen; omega) (by omega) (by simp; omega) ?_)
          intro v' w1 hown1 hgr _ _
          have hbel1 : Below w.heap.size w w1 := (hbel.alloc hbel.size _).grown hgr (by simp; omega) (fun j hj => (hown.lt j hj).1)
          have HO : Hid (w1.ownsRow w.heap.size 3 1 v' (ks ++ [z % 200]).length (intCells (ks ++ [z % 200]))) := by
            show World.ownsRow _ _ _ _ _ _ _
            rw [List.length_append]
            simpa [intCells] using hown1
          have HG := Lib.hid (gathered_step hg hx hx2 hm)
          clear hown1 hgr hown hbel hcur hg
          go_wp2
          go_roundw
          case rel => exact ⟨k + 1, ks ++ [z % 200], m + z % 200, by omega, by go_num, rfl, HG.out, HO.out, hbel1⟩
          case measure => simp [intOf]; omega
        · have HO := Lib.hid hown; clear hown
          have HG := Lib.hid hg; clear hg
          go_wp2
          go_roundw
          case rel => exact ⟨k + 1, ks, m, by omega, by go_num, rfl, gathered_keep HG.out, HO.out, hbel⟩
          case measure => simp [intOf]; omega
      · have HO := Lib.hid hown; clear hown
        have HG := Lib.hid hg; clear hg
        go_wp2
        go_roundw
        case rel => exact ⟨k + 1, ks, m, by omega, by go_num, rfl, gathered_keep HG.out, HO.out, hbel⟩
        case measure => simp [intOf]; omega
    · have hG := hg.len
      have hks : ∀ x ∈ ks, 0 ≤ x ∧ x ≤ 1000 := fun x hx => by have := hg.one x hx; omega
      have hr := row_any u3 ks wr (Rd.of_own hown) hks (by omega)
      have HR := Lib.hid hr; clear hr
      have hS := settled ks (fun x hx => (hg.one x hx).1) (by have := hg.sum; have := hg.small; omega)
      have hsum := hg.sum
      have hn0 : ks.length = 0 ↔ m = 0 := by
        cases ks with
        | nil => simp [sumOf] at hsum; simp; omega
        | cons x r =>
          have h1 := (hg.one x (by simp)).1
          have h2 := sumOf_bd r (fun y hy => hks y (by simp [hy]))
          simp only [sumOf] at hsum
          simp; omega
      have hw : ∀ (v1 : Value) (w1 : World), w1.ownsRow wr.heap.size 31 2 v1 ks.length (spanCells (rowOf 0 ks)) → Calls Try.prog 4 #[v1] w1 (Gives w1 31 2 (settleF ks.length (rowOf 0 ks)).length (spanCells (settleF ks.length (rowOf 0 ks)))) := by
        intro v1 w1 h1
        refine rowsettle ks _ rfl (by omega) v1 wr w1 h1 ?_
        intro s hs
        obtain ⟨i, hi, rfl⟩ := List.getElem_of_mem hs
        have := chain_get (chain_row ks (fun x hx => (hg.one x hx).1) 0) i hi
        have := gathered_bd hg
        omega
      have HW := Lib.hid hw; clear hw
      generalize settleF ks.length (rowOf 0 ks) = ys at *
      have HS := Lib.hid hS; clear hS
      have HSUM := Lib.hid hsum; clear hsum
      have HO := Lib.hid hown; clear hown
      clear hks hcells w0
      have hN : ∀ (v2 : Value) (w2 : World), Rd w2 v2 ys.length 2 (spanCells ys) → Calls Try.prog 6 #[v2] w2 fun e w' => e = .returned (.tuple #[.int .i64 0, .bool false]) ∧ Below w2.heap.size w2 w' := by
        intro v2 w2 h2
        have := next_any v2 ys w2 h2 (fun s hs => by
          obtain ⟨i, hi, rfl⟩ := List.getElem_of_mem hs
          have := HS.out.bound i hi; omega)
        rw [HS.out.next] at this
        exact this
      have HN := Lib.hid hN; clear hN
      have hex : ¬ k < len0 ∨ (k < len0 ∧ k = 100) := by omega
      clear hin
      rcases hex with hex | ⟨hex, hex2⟩
      all_goals
        try subst hex2
        go_wp2_with fail
        refine HR.out.mono ?_
        rintro e w1 ⟨v1, rfl, hown1, hb1⟩
        go_wp2_with fail
        refine (HW.out v1 w1 hown1).mono ?_
        rintro e w2 ⟨v2, rfl, hown2, hb2⟩
        have B2 : Below w.heap.size w w2 := (hbel.trans (hb1.mono hbel.size)).trans (hb2.mono (by have := hb1.size; omega))
        clear hown1 hb1 hb2
        go_wp2_with fail
        refine (HN.out v2 w2 (Rd.of_own hown2)).mono ?_
        rintro e w3 ⟨rfl, hb3⟩
        have hown3 := own_below hown2 hb3
        have B3 := B2.trans (hb3.mono B2.size)
        clear hown2 B2 hb3
        by_cases hy0 : ys.length = 0
        · have hm0 : m = 0 := hn0.1 (HS.out.empty.1 hy0)
          obtain ⟨ao, c, rfl⟩ : ∃ ao c, v2 = .slice ao 0 c := by
            obtain ⟨-, -, ⟨ao, c, h1, -⟩ | ⟨b, off, c, h1, h2, -⟩⟩ := Rd.of_own hown3
            · exact ⟨ao, c, h1⟩
            · omega
          subst hm0
          clear hown3 hy0 hn0
          go_wp2
          refine wp_loop_rounds 1 ?_; rw [rounds_succ]
          go_wp2_with (go_at_call 8; refine (knows_any _).mono ?_; rintro e w4 ⟨rfl, hb4⟩)
          go_ret
          exact ⟨rfl, B3.trans (hb4.mono B3.size)⟩
        · have hm0 : ¬ m = 0 := fun e => hy0 (HS.out.empty.2 (hn0.2 e))
          obtain ⟨g, cap, rfl⟩ := own_form hown3 (by omega)
          obtain ⟨hnc, hcm, hbg, hgs⟩ := own_parts hown3
          unfold maxLen at hcm
          have e1 : ((ys.length : Int) == 0) = false := beq_eq_false_iff_ne.2 (by omega)
          have e2 : ((m : Int) == 0) = false := beq_eq_false_iff_ne.2 (by omega)
          have e3 := HS.out.short
          have hyl : ys.length ≤ 9223372036854775807 := by omega
          have HO3 := Lib.hid hown3
          clear hown3 hn0 hbel hcm
          go_wp2
          go_loopw [10, 11] (fun a i wr => ∃ (j : Nat), j ≤ ys.length ∧ i = .int .i64 j ∧ a = .int .i64 (startAt ys j) ∧ Below w3.heap.size w3 wr) (fun _ i _ => ys.length - (intOf i).toNat)
          case atStart => exact ⟨0, by omega, rfl, rfl, Below.refl _ _⟩
          case round =>
            obtain ⟨j, hj, rfl, rfl, hbl⟩ := hrel
            have BW := B3.trans (hbl.mono B3.size)
            by_cases hlt : j < ys.length
            · have hbeg := HS.out.begins j hlt
              have hgr := HS.out.grows j hlt
              have hbd := HS.out.bound j hlt
              have kj := settle_cells (own_below HO3.out hbl) j hlt
              rw [hbeg] at kj
              have r1 := cell_regrown kj.1
              have r2 := cell_regrown kj.2
              have i2 : (j : Int) < (ys.length : Int) := by omega
              have hgrd : decide (ys[j].2 ≤ startAt ys j) = false := by simp; omega
              have HG2 := Lib.hid hgr
              have HBD := Lib.hid hbd
              have HBG := Lib.hid hbeg
              have hst : startAt ys (j + 1) = ys[j].2 := by simp only [startAt]; rw [List.getElem?_eq_getElem hlt]
              have HST := Lib.hid hst
              clear hst hgr hbd hbeg
              rcases Nat.eq_zero_or_pos j with hj0 | hj0
              · subst hj0
                go_wp2_with fail
                refine wp_region_quiet_below (by kernel_rfl) (by kernel_rfl) ?_
                repeat (go_big_quiet_step (fail))
                refine wpQuiet_nil ?_
                intro _ hw'
                obtain ⟨⟨dq, osq⟩, hw''⟩ := hw'
                have hbq := hbl.trans ((below_regrown _ dq osq).mono hbl.size)
                rw [← hw''] at hbq
                have kq := settle_cells (own_below HO3.out hbq) 0 hlt
                clear hw'' r1 r2 kj
                go_wp2
                go_roundw
                case rel => exact ⟨1, by omega, rfl, by rw [HST.out], hbq⟩
                case measure => simp [intOf]; omega
              · obtain ⟨p, rfl⟩ : ∃ p, j = p + 1 := ⟨j - 1, by omega⟩
                have hbegp := HS.out.begins p (by omega)
                have hbdp := HS.out.bound p (by omega)
                have kp := settle_cells (own_below HO3.out hbl) p (by omega)
                have r3 := cell_regrown kp.1
                have r4 := cell_regrown kp.2
                have hfall := HS.out.falls p hlt
                rw [HBG.out] at hfall
                have hft : decide (tierOf ys[p].1 ys[p].2 ≤ tierOf (startAt ys (p + 1)) ys[p + 1].2) = false := by simp; omega
                have T1 := fun d os => Calls.regrown_of (tier_any ys[p].1 ys[p].2 (grow (redrawn wr d) os) (by omega))
                have T2 := fun d os => Calls.regrown_of (tier_any (startAt ys (p + 1)) ys[p + 1].2 (grow (redrawn wr d) os) (by have := HBD.out; omega))
                have g1 : (0 : Int) < (p : Int) + 1 := by omega
                have g2 : (p : Int) < (ys.length : Int) := by omega
                have g3 : (0 : Int) ≤ (p : Int) := by omega
                have g4 : (0 : Int) ≤ (p : Int) + 1 := by omega
                have g5 : (p : Int) + 1 < (ys.length : Int) := by omega
                clear hfall hbegp hbdp kp
                go_wp2_with fail
                refine wp_region_quiet_below (by kernel_rfl) (by kernel_rfl) ?_
                repeat (go_big_quiet_step (first | (go_at_call 7; with_reducible exact T1 _ _) | (go_at_call 7; with_reducible exact T2 _ _)))
                refine wpQuiet_nil ?_
                intro _ hw'
                obtain ⟨⟨dq, osq⟩, hw''⟩ := hw'
                have hbq := hbl.trans ((below_regrown _ dq osq).mono hbl.size)
                rw [← hw''] at hbq
                have kq := settle_cells (own_below HO3.out hbq) (p + 1) hlt
                clear hw'' r1 r2 r3 r4 kj
                go_wp2
                go_roundw
                case rel => exact ⟨p + 2, by omega, by go_num, by rw [HST.out], hbq⟩
                case measure => simp [intOf]; omega
            · have hje : j = ys.length := by omega
              subst hje
              have he : startAt ys ys.length = m := HS.out.ends.trans HSUM.out
              rw [he]
              clear he
              go_wp2_with (go_at_call 8; refine (knows_any _).mono ?_; rintro e w4 ⟨rfl, hb4⟩)
              go_ret
              exact ⟨rfl, BW.trans (hb4.mono BW.size)⟩
end Go.Proofs.Ytoojjdppecghgaa
