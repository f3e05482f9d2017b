/- What a slice value reads as: 'Rd w v n sz cells': n elements of sz cells each, whose cells are these. Plain lemmas; no program. -/
import Derived.Test.YteegbjjpjdlcmaaGreatDoorProg
import Derived.WalkKit
import Derived.WalkSpells
import Derived.WalkLawsBesides
import Derived.Lib.Hide
import Derived.Lib.QuietBelow
import Derived.Deep.AppendSrc
namespace Go.Proofs.YteegbjjpjdlcmaaGreatDoor
open Go.RowKit

/-- a slice value of n elements of sz cells each, which reads as these cells in w. -/
def Rd (w : World) (v : Value) (n sz : Nat) (cells : List Value) : Prop :=
  cells.length = n * sz ∧ n ≤ maxLen ∧ ((∃ ao c, v = .slice ao 0 c ∧ n = 0) ∨ ∃ b off c, v = .slice (some ⟨b, off, none⟩) n c ∧ 0 < n ∧ n ≤ c ∧ c ≤ maxLen ∧ ∀ i u, cells[i]? = some u → w.cell? ⟨b, off + i, none⟩ = some u)

theorem Rd.below {w w' : World} {v : Value} {n sz : Nat} {cells : List Value} (h : Rd w v n sz cells) (hb : Below w.heap.size w w') : Rd w' v n sz cells := by
  obtain ⟨h1, hm, h2⟩ := h
  refine ⟨h1, hm, ?_⟩
  rcases h2 with h2 | ⟨b, off, c, hv, h3, h4, h5, h6⟩
  · exact .inl h2
  · refine .inr ⟨b, off, c, hv, h3, h4, h5, fun i u hi => ?_⟩
    have := h6 i u hi
    rw [hb.cell (World.block_lt_of_cell? w _ this)]
    exact this

theorem Rd.of_own {w : World} {base : Nat} {e : TypeId} {size : Nat} {v : Value} {n : Nat} {xs : List Value} (h : w.ownsRow base e size v n xs) : Rd w v n size xs := by
  have hx := h.1
  rcases h.2 with ⟨hv, hn⟩ | ⟨g, cap, cur, hv, hg, hh, hnc, hcm, hcs, ht⟩
  · subst hn; exact ⟨hx, by omega, .inl ⟨none, 0, hv, rfl⟩⟩
  · refine ⟨hx, by omega, ?_⟩
    by_cases hn : n = 0
    · subst hn; exact .inl ⟨_, _, hv, rfl⟩
    · refine .inr ⟨g, 0, cap, hv, by omega, hnc, hcm, fun i u hi => ?_⟩
      subst hv
      have hlt : i < n * size := by rw [← hx]; exact (List.getElem?_eq_some_iff.1 hi).1
      have := h.cellAt i hlt
      rw [show (0 + i) = i from by omega, this, hi]

/-- what is read can be appended. -/
theorem Rd.src {P : Program} {w : World} {v : Value} {n sz : Nat} {cells : List Value} {tx e' : TypeId} (hk : P.underlying tx = some (.slice e')) (h : Rd w v n sz cells) (h1 : ∀ u ∈ cells, u.oneCell' = true) : Src P sz tx v n cells w := by
  obtain ⟨hl, hm, ⟨ao, c, rfl, rfl⟩ | ⟨b, off, c, rfl, h0, hnc, hcm, hcell⟩⟩ := h
  · have hx : cells = [] := List.eq_nil_of_length_eq_zero (by simpa using hl)
    subst hx
    cases ao with
    | none => exact ⟨.inl ⟨e', hk⟩, fun _ => rfl, run_firstCells_none w sz 0 0 c, run_firstCells_none w.drew sz 0 0 c, by simp, fun _ h => by cases h⟩
    | some a => exact Src.ofSlice w hk a 0 c [] (by simp) (by simp) (by simp)
  · refine Src.ofSlice w hk ⟨b, off, none⟩ n c cells hl (fun j u hj => ?_) h1
    have hadd : (⟨b, off, none⟩ : Addr).add j = ⟨b, off + j, none⟩ := by unfold Addr.add; split <;> simp_all
    rw [hadd]; exact hcell j u hj

/-- a slice that was just built. -/
theorem src_new {P : Program} {tx e' e : TypeId} (hk : P.underlying tx = some (.slice e')) (w : World) (cs : Array Value) (sz m c : Nat) (hl : cs.size = m * sz) (h1 : ∀ u ∈ cs.toList, u.oneCell' = true) : Src P sz tx (.slice (some ⟨w.heap.size, 0, none⟩) m c) m cs.toList (w.alloc (.cells cs e)) := by
  refine Src.ofSlice _ hk ⟨w.heap.size, 0, none⟩ m c cs.toList (by simpa using hl) (fun j u hu => ?_) h1
  have hb : (w.alloc (.cells cs e)).heap[w.heap.size]? = some (.cells cs e (0, 0)) := heap_alloc_new w _
  have hadd : (⟨w.heap.size, 0, none⟩ : Addr).add j = ⟨w.heap.size, j, none⟩ := by unfold Addr.add; split <;> simp_all
  rw [hadd, cell_of_row _ w.heap.size j cs e (0, 0) hb]
  simpa using hu

/-- the same, to be read. -/
theorem rd_new (w : World) (cs : Array Value) (e : TypeId) (sz m : Nat) (hl : cs.size = m * sz) (hm : m ≤ maxLen) (h0 : 0 < m) : Rd (w.alloc (.cells cs e)) (.slice (some ⟨w.heap.size, 0, none⟩) m m) m sz cs.toList := by
  refine ⟨by simpa using hl, hm, .inr ⟨w.heap.size, 0, m, rfl, h0, Nat.le_refl _, hm, fun j u hu => ?_⟩⟩
  have hb : (w.alloc (.cells cs e)).heap[w.heap.size]? = some (.cells cs e (0, 0)) := heap_alloc_new w _
  rw [show 0 + j = j from by omega, cell_of_row _ w.heap.size j cs e (0, 0) hb]
  simpa using hu

/-- append to a slice of the call's own, of whatever is appended. -/
theorem run_app {P : Program} (w : World) (base : Nat) (t tx ty e : TypeId) (i : TypeInfo) (z : Value) (size bytes : Nat) (ht : P.underlying t = some (.slice e)) (hi : P.info? e = some i) (hz : i.zero = some z)
    (hsize : i.size = size) (hby : i.bytes = bytes) (hzs : z.cells.size = size)
    (v : Value) (n : Nat) (xs : List Value) (hown : w.ownsRow base e size v n xs)
    (x : Value) (m : Nat) (news : List Value) (hs : Src P size tx x m news w)
    (h63 : n + m ≤ maxLen) (hbytes : (n + m) * bytes ≤ 140737488355328) (hbase : base ≤ w.heap.size) :
    ∃ v' w', (Builtin.append_ #[t, tx] ty #[v, x]).run P w = .ok v' w' ∧ w'.ownsRow base e size v' (n + m) (xs ++ news) ∧ w.grownBy w' v.ownBlock ∧
      (v'.ownBlock = v.ownBlock ∨ v'.ownBlock = some w.heap.size) ∧ (v' = .slice none 0 0 ↔ v = .slice none 0 0 ∧ m = 0) := by
  subst hsize
  subst hby
  have hl := hs.newsLen
  have hsmall : n + m ≤ 9223372036854775807 := by simp only [maxLen] at h63; omega
  have hlen : (xs ++ news).length = (n + m) * i.size := by rw [List.length_append, hown.1, hl, Nat.add_mul]
  have grown : ∀ (old : Nat), old < n + m → ∀ (row : Option Nat),
      (w.drew.alloc (.cells ((xs ++ news).toArray ++ Builtin.zeroCells z.cells (grownCap w (n + m) old e - (n + m))) e)).ownsRow base e i.size
        (.slice (some ⟨w.heap.size, 0, none⟩) (n + m) (grownCap w (n + m) old e)) (n + m) (xs ++ news) ∧
      w.grownBy (w.drew.alloc (.cells ((xs ++ news).toArray ++ Builtin.zeroCells z.cells (grownCap w (n + m) old e - (n + m))) e)) row := by
    intro old ho row
    have hge := grownCap_ge w (n + m) old e
    have hcm : grownCap w (n + m) old e ≤ maxLen := grownCap_le_maxLen w (n + m) old e h63
    refine ⟨⟨hlen, .inr ⟨w.heap.size, _, _, rfl, hbase, Go.heap_alloc_new w.drew _, hge, hcm, ?_, ?_⟩⟩, ⟨rfl, rfl, rfl, by simp, fun k hk _ => Below.heap_alloc w.drew _ k hk⟩⟩
    · rw [Array.size_append, List.size_toArray, size_zeroCells, hzs, hlen, ← Nat.add_mul]
      congr 1
      omega
    · rw [Array.toList_append, ← hlen]
      exact List.take_left
  rcases hown.2 with ⟨rfl, rfl⟩ | ⟨g, cap, cur, rfl, hbg, hg, hnc, hcm, hcs, htake⟩
  · have hx : xs = [] := List.eq_nil_of_length_eq_zero (by simpa using hown.1)
    subst hx
    by_cases hm : m = 0
    · subst hm
      have hn : news = [] := List.eq_nil_of_length_eq_zero (by simpa using hl)
      subst hn
      refine ⟨.slice none 0 0, w, ?_, World.ownsRow_nil w base e i.size, ⟨rfl, rfl, rfl, Nat.le_refl _, fun _ _ _ => rfl⟩, .inl rfl, by simp⟩
      rcases hs.kind with ⟨e', hk⟩ | hk <;>
        simp [Builtin.append_, run_underlying ht, run_underlying hk, sizeOf, typeInfo, hi, hs.len, hs.cells]
    · have hr := run_append_grow_src (P := P) w t tx ty e i z ht hi hz none 0 0 [] (run_firstCells_none w.drew i.size 0 0 0) x m news hs (by omega) (by omega) (growslice_fits (by omega) hbytes)
      have hgr := grown 0 (by omega) (Value.ownBlock (.slice none 0 0))
      simp only [Nat.zero_add, List.nil_append] at hgr hr ⊢
      exact ⟨_, _, hr, hgr.1, hgr.2, .inr rfl, by simp [hm]⟩
  · by_cases hroom : n + m ≤ cap
    · have hfit : n * i.size + news.length ≤ cur.size := by rw [hl, hcs, ← Nat.add_mul]; exact Nat.mul_le_mul_right _ hroom
      have hst := run_storeCells_at P g (n * i.size) e news 0 cur w hg (by simpa using hfit) hs.one
      simp only [Nat.add_zero] at hst
      have hr : (Builtin.append_ #[t, tx] ty #[.slice (some ⟨g, 0, none⟩) n cap, x]).run P w =
          .ok (.slice (some ⟨g, 0, none⟩) (n + m) cap) (w.setRow g (cur.toList.take (n * i.size) ++ news ++ cur.toList.drop (n * i.size + news.length)).toArray) := by
        rcases hs.kind with ⟨e', hk⟩ | hk <;>
          simp [Builtin.append_, run_underlying ht, run_underlying hk, sizeOf, typeInfo, hi, hs.len, hroom, hs.cells, Addr.add_lit, hst]
      refine ⟨_, _, hr, ⟨hlen, .inr ⟨g, cap, _, rfl, hbg, setRow_heap w g cur _ e _ hg, hroom, hcm, ?_, ?_⟩⟩, ⟨rfl, rfl, rfl, by simp, fun k _ hk => setRow_other w g k _ (fun e => hk (by simp [Value.ownBlock, e]))⟩, .inl rfl, by simp⟩
      · simp only [List.size_toArray, List.length_append, List.length_take, List.length_drop, Array.length_toList]
        omega
      · rw [htake, ← hlen]
        exact List.take_left
    · have holds : ∀ j u, xs[j]? = some u → w.drew.cell? ((⟨g, 0, none⟩ : Addr).add j) = some u := hown.drew.cells (g := g) rfl
      have hr := run_append_grow_src (P := P) w t tx ty e i z ht hi hz (some ⟨g, 0, none⟩) n cap xs (run_firstCells_some w.drew i.size n ⟨g, 0, none⟩ n cap xs hown.1 holds) x m news hs (by omega) (by omega) (growslice_fits (by omega) hbytes)
      have hgr := grown cap (by omega) (Value.ownBlock (.slice (some ⟨g, 0, none⟩) n cap))
      exact ⟨_, _, hr, hgr.1, hgr.2, .inr rfl, by simp⟩

/-- the same, at the walk. -/
theorem wpList_app {P : Program} {w : World} {ops : Array Oper} {rest : List Oper} {o : Oper} {a : Act} {Q : Exit → Act → World → Prop} (hgd : o.guard = none) (s x : Operand) (t tx : TypeId)
    (ho : o.op = .call { callee := .builtin .append, args := #[s, x], argTypes := #[t, tx] })
    (base : Nat) (e : TypeId) (i : TypeInfo) (z : Value) (size bytes : Nat) (ht : P.underlying t = some (.slice e)) (hi : P.info? e = some i) (hz : i.zero = some z)
    (hsize : i.size = size) (hby : i.bytes = bytes) (hzs : z.cells.size = size)
    (v : Value) (n : Nat) (xs : List Value) (hs : a.eval s = v) (hown : w.ownsRow base e size v n xs)
    (xv : Value) (m : Nat) (news : List Value) (hx : a.eval x = xv) (hsrc : Src P size tx xv m news w)
    (h63 : n + m ≤ maxLen) (hbytes : (n + m) * bytes ≤ 140737488355328) (hbase : base ≤ w.heap.size)
    (h : ∀ v' w', w'.ownsRow base e size v' (n + m) (xs ++ news) → w.grownBy w' v.ownBlock → (v'.ownBlock = v.ownBlock ∨ v'.ownBlock = some w.heap.size) → (v' = .slice none 0 0 ↔ v = .slice none 0 0 ∧ m = 0) → wpList P ops Q rest (a.put o.dst v') w') : wpList P ops Q (o :: rest) a w := by
  refine wpList_plain hgd fun K hK => ?_
  obtain ⟨v', w', hr, h2, h3, h4, h5⟩ := run_app (P := P) w base t tx o.type e i z size bytes ht hi hz hsize hby hzs v n xs hown xv m news hsrc h63 hbytes hbase
  unfold Oper.wp execOp
  simp only [ho, resolve, invoke, builtin, Sem.run_bind, Sem.run_pure, Result.andThen_ok, List.map_toArray, List.map_cons, List.map_nil, hs, hx, hr]
  exact hK _ _ (h v' w' h2 h3 h4 h5)

/-- the length of a slice value: for measures. -/
def lenOf : Value → Nat | .slice _ n _ => n | _ => 0

theorem lenOf_own {w : World} {base : Nat} {e : TypeId} {size : Nat} {v : Value} {n : Nat} {xs : List Value} (h : w.ownsRow base e size v n xs) : lenOf v = n := by
  rcases h.2 with ⟨rfl, rfl⟩ | ⟨g, cap, cur, rfl, _⟩ <;> rfl

theorem own_shape {w : World} {base : Nat} {e : TypeId} {size : Nat} {v : Value} {n : Nat} {xs : List Value} (h : w.ownsRow base e size v n xs) : ∃ ao cap, v = .slice ao n cap := by
  rcases h.2 with ⟨rfl, rfl⟩ | ⟨g, cap, cur, rfl, _⟩
  · exact ⟨none, 0, rfl⟩
  · exact ⟨_, cap, rfl⟩

theorem own_below' {w w' : World} {base : Nat} {e : TypeId} {size : Nat} {v : Value} {n : Nat} {xs : List Value} (h : w.ownsRow base e size v n xs) (hb : Below w.heap.size w w') : w'.ownsRow base e size v n xs := by
  obtain ⟨hl, hh⟩ := h
  refine ⟨hl, ?_⟩
  rcases hh with h | ⟨g, cap, cur, hv, hbg, hg, hr⟩
  · exact .inl h
  · exact .inr ⟨g, cap, cur, hv, hbg, by rw [hb.block g (lt_of_block hg)]; exact hg, hr⟩

theorem own_mono {w : World} {base base' : Nat} {e : TypeId} {size : Nat} {v : Value} {n : Nat} {xs : List Value} (h : w.ownsRow base e size v n xs) (hb : base' ≤ base) : w.ownsRow base' e size v n xs := by
  obtain ⟨hl, hh⟩ := h
  refine ⟨hl, ?_⟩
  rcases hh with h | ⟨g, cap, cur, hv, hbg, hr⟩
  · exact .inl h
  · exact .inr ⟨g, cap, cur, hv, Nat.le_trans hb hbg, hr⟩

/-- a call hands back a slice of its own, of n elements of type E, which holds these cells; nothing that was there has changed. -/
def Gives (w : World) (E : TypeId) (sz n : Nat) (cells : List Value) (e : Ending) (w' : World) : Prop := ∃ v, e = .returned v ∧ w'.ownsRow w.heap.size E sz v n cells ∧ Below w.heap.size w w'

/-- A region that draws, whose callees end in 'Below': the world behind it. -/
theorem regrown_size (w : World) (d : Nat) (os : Array Obj) : w.heap.size ≤ (Go.Sort.grow (redrawn w d) os).heap.size := (below_regrown w d os).size
end Go.Proofs.YteegbjjpjdlcmaaGreatDoor
