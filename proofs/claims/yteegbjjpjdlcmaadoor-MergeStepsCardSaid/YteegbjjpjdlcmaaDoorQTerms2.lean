/- query.Terms: its terms, each once, rising. -/
import Derived.Test.YteegbjjpjdlcmaaDoorQRight
import Derived.Test.YteegbjjpjdlcmaaDoorSetLaw
import Derived.Test.YteegbjjpjdlcmaaDoorOwn
import Derived.Test.YteegbjjpjdlcmaaDoorShelf
import Derived.Lib.OwnBridge
set_option linter.unusedVariables false
namespace Go.Proofs.YteegbjjpjdlcmaaDoor
open Go.RowKit Go.Sort

def wordsOf (l : List QOp) : List (List UInt8) := (l.filter fun s => s.1 == 0).map (·.2)
theorem wordsOf_len (l : List QOp) : (wordsOf l).length ≤ l.length := by
  unfold wordsOf
  rw [List.length_map]
  exact List.length_filter_le _ _
theorem wordsOf_snoc (l : List QOp) (s : QOp) : wordsOf (l ++ [s]) = if s.1 = 0 then wordsOf l ++ [s.2] else wordsOf l := by
  unfold wordsOf
  by_cases h : s.1 = 0
  · simp [h]
  · simp [h]

theorem setOf_sort (ws : List (List UInt8)) : setOf ws = Lib.compact (ws.mergeSort fun x y => decide (x ≤ y)) := by
  have h : (fun x y : List UInt8 => decide (x ≤ y)) = fun x y => !ltStr y x := by
    funext x y
    simp only [ltStr, ← decide_not, List.not_lt]
  unfold setOf rise
  rw [h]

theorem compact_pos (zs : List (List UInt8)) (h : 0 < zs.length) : 0 < (Lib.compact zs).length := by
  unfold Lib.compact Lib.compactUpTo
  rw [List.length_map]
  exact List.length_pos_of_mem (List.mem_filter.2 ⟨List.mem_range.2 h, Lib.keeps_lt_one _ 0 (by decide)⟩)

theorem below_grow {B : Nat} {w0 w : World} (h : Below B w0 w) (hB : B ≤ w.heap.size) (os : Array Obj) : Below B w0 (grow w os) :=
  h.trans ⟨rfl, rfl, rfl, by simp [grow], fun k hk => heap_grow_old w os (by omega)⟩

set_option maxRecDepth 100000 in
set_option maxHeartbeats 4000000 in
theorem qterms2_any (v : Value) (l : List QOp) (w : World) (h : Rd w v l.length 2 (ocells l)) (hn : l.length ≤ 100000) :
    Calls Tryd.prog 38 #[v] w (Gives w 9 1 (setOf (wordsOf l)).length (scells (setOf (wordsOf l)))) := by
  obtain ⟨j0, hj, hy0, hy1, hy2⟩ := info_parts infoStr
  obtain ⟨ao, c, rfl, hm, hcell⟩ := ops_cells h
  have HC := Lib.hid hcell
  clear hcell h hm
  go_enter Tryd.func38, Tryd.ntmps38
  go_wp2
  go_loopw [3, 8] (fun o i wr => ∃ k : Nat, k ≤ l.length ∧ i = .int .i64 k ∧ wr.ownsRow w.heap.size 9 1 o (wordsOf (l.take k)).length (scells (wordsOf (l.take k))) ∧ Below w.heap.size w wr) (fun _ i _ => l.length - (intOf i).toNat)
  case atStart => exact ⟨0, Nat.zero_le _, rfl, World.ownsRow_nil _ _ _ _, Below.refl _ _⟩
  case round =>
    obtain ⟨k, hk, rfl, hown, hbel⟩ := hrel
    have hsz := hbel.size
    obtain ⟨xa, xc, rfl⟩ := own_shape hown
    by_cases hlt : k < l.length
    · obtain ⟨b, off, rfl, h1, h2⟩ := HC.out k hlt
      have c1 := (hbel.cell (World.block_lt_of_cell? w _ h1)).trans h1
      have c2 := (hbel.cell (World.block_lt_of_cell? w _ h2)).trans h2
      have htk : wordsOf (l.take (k + 1)) = if l[k].1 = 0 then wordsOf (l.take k) ++ [l[k].2] else wordsOf (l.take k) := by rw [List.take_succ_eq_append_getElem hlt, wordsOf_snoc]
      have hwl : (wordsOf (l.take k)).length ≤ 100000 := by have := wordsOf_len (l.take k); rw [List.length_take] at this; omega
      obtain ⟨⟨kk, tt⟩, hx⟩ : ∃ s, s = l[k] := ⟨_, rfl⟩
      rw [← hx] at c1 c2 htk
      simp only at c1 c2 htk
      have HTK := Lib.hid htk
      clear hx htk h1 h2
      generalize wordsOf (l.take k) = ws at *
      by_cases hk0 : kk = 0
      · subst hk0
        go_wp2_with (at_builtin; refine wpList_app rfl _ _ _ _ rfl w.heap.size 9 j0 _ 1 16 Tryd.underlying75 hj hy0 hy1 hy2 rfl (.slice xa ws.length xc) ws.length _ rfl ((hown.alloc (.cells #[.int .i64 0, .string (bstr tt)] 55)).alloc _) _ 1 [.string (bstr tt)] rfl (src_at Tryd.underlying75 (wr.alloc (.cells #[.int .i64 0, .string (bstr tt)] 55)) #[.string (bstr tt)] 1 1 1 (wr.heap.size + 1) (by simp) rfl (by intro u hu; simp at hu; subst hu; rfl)) (by unfold maxLen; omega) (by omega) (by simp; omega) ?_; intro v1 w1 hown1 hgr1 _ _; have hb1 : Below w.heap.size w w1 := ((hbel.alloc hsz _).alloc (by simp; omega) _).grown hgr1 (by simp; omega) (fun j hj => (hown.lt j hj).1); obtain ⟨na, nc, rfl⟩ := own_shape hown1)
        go_roundw
        case rel => exact ⟨k + 1, by omega, by go_num, by rw [HTK.out, if_pos rfl, scells_append, List.length_append]; exact hown1, hb1⟩
        case measure => simp [intOf]; omega
      · have hk0' : (kk == 0) = false := beq_eq_false_iff_ne.2 hk0
        have HN := Lib.hid hk0
        clear hk0
        go_wp2
        go_roundw
        case rel => exact ⟨k + 1, by omega, by go_num, by rw [HTK.out, if_neg HN.out]; exact hown.alloc _, hbel.alloc hsz _⟩
        case measure => simp [intOf]; omega
    · have hke : k = l.length := by omega
      subst hke
      rw [List.take_length] at hown ⊢
      have hwl : (wordsOf l).length ≤ 100000 := by have := wordsOf_len l; omega
      generalize hws : wordsOf l = ws at *
      have hsl : (scells ws).length = ws.length := scells_len ws
      generalize hnl : ws.length = nn at *
      rcases Nat.eq_zero_or_pos nn with h0 | h0
      · obtain rfl : nn = 0 := h0
        have S := fun W => Tryd.slices_Sort_string_none xa xc W
        have C := fun W => Tryd.slices_Compact_string_empty xa xc W
        have HS := Lib.hid S
        have HCC := Lib.hid C
        clear S C
        go_wp2_with (first
          | (go_at_call 63; refine (HS.out _).mono ?_; rintro e w1 ⟨rfl, rfl⟩)
          | (go_at_call 64; refine (HCC.out _).mono ?_; rintro e w1 ⟨rfl, rfl⟩))
        go_ret
        have hw0 : ws = [] := List.length_eq_zero_iff.1 hnl
        have hs0 : setOf ws = [] := by rw [hw0]; exact List.eq_nil_iff_forall_not_mem.2 fun x hx => by rw [mem_setOf] at hx; cases hx
        rw [hs0]
        rw [hw0] at hown
        exact ⟨_, rfl, hown, hbel⟩
      · obtain ⟨g, cap, he, hbg, hgl, hncap, hcm, hzl, hH⟩ := Lib.holds_of_ownsRow (enc := encStr) (zs := ws) hown (by intro e; simp only [Value.slice.injEq] at e; omega)
        simp only [Value.slice.injEq] at he
        obtain ⟨rfl, _, rfl⟩ := he
        have hS0 := Tryd.slices_Sort_string g 0 xc ws wr hH hgl (by omega)
        rw [hnl] at hS0
        have HS := Lib.hid hS0
        clear hS0
        have hset := setOf_sort ws
        have hperm : (ws.mergeSort fun x y => decide (x ≤ y)).length = nn := by rw [List.length_mergeSort]; exact hnl
        generalize (ws.mergeSort fun x y => decide (x ≤ y)) = ss at *
        have HSET := Lib.hid hset
        clear hset
        have hW : ∀ n os, (grow (putRow encStr (Sort.ahead wr n) g 0 ss.toArray) os).ownsRow w.heap.size 9 1 (.slice (some ⟨g, 0, none⟩) nn xc) nn (ss.map encStr) ∧ Below w.heap.size w (grow (putRow encStr (Sort.ahead wr n) g 0 ss.toArray) os) := by
          intro n os
          have o1 := Lib.ownsRow_putRow (q := n) (k := nn) (ys := ss) (zs := ws) (enc := encStr) hown hperm (Nat.le_refl _)
          rw [List.take_of_length_le (by omega)] at o1
          have b1 : Below w.heap.size w (putRow encStr (Sort.ahead wr n) g 0 ss.toArray) := Lib.below_putRow hbel hbg
          exact ⟨own_below' o1 (below_grow (Below.refl _ _) (Nat.le_refl _) os), below_grow b1 b1.size os⟩
        have HW := Lib.hid hW
        have hcl := Lib.compact_length_le ss
        have hcp := compact_pos ss (by omega)
        clear hW
        go_wp2_with (first
          | (go_at_call 63; refine HS.out.mono ?_; rintro e w1 ⟨rfl, nq, os, rfl⟩; obtain ⟨o1, b1⟩ := HW.out nq os; generalize (grow (putRow encStr (Sort.ahead wr nq) g 0 ss.toArray) os) = w1 at *; obtain ⟨g', cap', he', hbg', hgl', _, _, _, hH'⟩ := Lib.holds_of_ownsRow (enc := encStr) (zs := ss) o1 (by intro e; simp only [Value.slice.injEq] at e; omega); simp only [Value.slice.injEq, Option.some.injEq, Addr.mk.injEq] at he'; obtain ⟨⟨rfl, _, _⟩, _, rfl⟩ := he'; have hC0 := Tryd.slices_Compact_string g 0 xc ss w1 hH' (by omega) (by omega); rw [hperm] at hC0; have HC0 := Lib.hid hC0; clear hC0)
          | (go_at_call 64; refine HC0.out.mono ?_; rintro e w2 ⟨rfl, q, rfl⟩))
        go_ret
        have o2 := Lib.ownsRow_putRow (q := q) (k := (Lib.compact ss).length) (ys := Lib.compact ss ++ List.replicate (nn - (Lib.compact ss).length) []) (zs := ss) (enc := encStr) o1 (by simp; omega) (by omega)
        rw [List.take_left] at o2
        rw [HSET.out]
        exact ⟨_, rfl, o2, Lib.below_putRow b1 hbg⟩
end Go.Proofs.YteegbjjpjdlcmaaDoor
