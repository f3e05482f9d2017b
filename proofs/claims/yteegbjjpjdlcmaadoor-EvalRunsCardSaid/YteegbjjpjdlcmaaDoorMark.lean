/- append behind a literal of bytes that was made of a string (its row bears a mark behind its last cell). -/
import Derived.Test.YteegbjjpjdlcmaaDoorMem
namespace Go.Proofs.YteegbjjpjdlcmaaDoor
open Go.RowKit

/-- a row of the call's own, or a full literal, marked or not. -/
def MRow (w : World) (base : Nat) (e : TypeId) (size : Nat) (v : Value) (n : Nat) (xs : List Value) : Prop :=
  w.ownsRow base e size v n xs ∨ ∃ g cur fz, v = .slice (some ⟨g, 0, none⟩) n n ∧ base ≤ g ∧ w.heap[g]? = some (.cells cur e fz) ∧ n ≤ maxLen ∧ cur.toList = xs ∧ xs.length = n * size

theorem MRow.rd {w : World} {base : Nat} {e : TypeId} {size : Nat} {v : Value} {n : Nat} {xs : List Value} (h : MRow w base e size v n xs) : Rd w v n size xs := by
  rcases h with h | ⟨g, cur, fz, rfl, hb, hg, hm, hc, hl⟩
  · exact Rd.of_own h
  · refine ⟨hl, hm, ?_⟩
    rcases Nat.eq_zero_or_pos n with h0 | h0
    · subst h0; exact .inl ⟨_, _, rfl, rfl⟩
    · refine .inr ⟨g, 0, n, rfl, h0, Nat.le_refl _, hm, fun i u hu => ?_⟩
      rw [show 0 + i = i from by omega, cell_of_row w g i cur e fz hg, ← Array.getElem?_toList, hc]
      exact hu

theorem MRow.shape {w : World} {base : Nat} {e : TypeId} {size : Nat} {v : Value} {n : Nat} {xs : List Value} (h : MRow w base e size v n xs) : ∃ ao c, v = .slice ao n c := by
  rcases h with h | ⟨g, cur, fz, rfl, _⟩
  · exact own_shape h
  · exact ⟨_, _, rfl⟩

theorem MRow.below {w w' : World} {base : Nat} {e : TypeId} {size : Nat} {v : Value} {n : Nat} {xs : List Value} (h : MRow w base e size v n xs) (hb : Below w.heap.size w w') : MRow w' base e size v n xs := by
  rcases h with h | ⟨g, cur, fz, rfl, h1, hg, h2⟩
  · exact .inl (own_below' h hb)
  · exact .inr ⟨g, cur, fz, rfl, h1, by rw [hb.block _ (lt_of_block hg)]; exact hg, h2⟩

theorem MRow.lt {w : World} {base : Nat} {e : TypeId} {size : Nat} {v : Value} {n : Nat} {xs : List Value} (h : MRow w base e size v n xs) : ∀ k, v.ownBlock = some k → base ≤ k := by
  rcases h with h | ⟨g, cur, fz, rfl, h1, hg, h2⟩
  · exact fun k hk => (h.lt k hk).1
  · intro k hk
    simp only [Value.ownBlock, Option.some.injEq] at hk
    omega

theorem mrow_new (w : World) (base : Nat) (cs : Array Value) (e : TypeId) (size n : Nat) (fz : Nat × Nat) (hb : base ≤ w.heap.size) (hm : n ≤ maxLen) (hs : cs.size = n * size) : MRow (w.alloc (.cells cs e fz)) base e size (.slice (some ⟨w.heap.size, 0, none⟩) n n) n cs.toList :=
  .inr ⟨w.heap.size, cs, fz, rfl, hb, heap_alloc_new w _, hm, rfl, by simpa using hs⟩

theorem run_app_m {P : Program} (w : World) (base : Nat) (t tx ty e : TypeId) (i : TypeInfo) (z : Value) (size bytes : Nat) (ht : P.underlying t = some (.slice e)) (hi : P.info? e = some i) (hz : i.zero = some z)
    (hsize : i.size = size) (hby : i.bytes = bytes) (hzs : z.cells.size = size)
    (v : Value) (n : Nat) (xs : List Value) (hown : MRow w base e size v n xs)
    (x : Value) (m : Nat) (news : List Value) (hs : Src P size tx x m news w)
    (h63 : n + m ≤ maxLen) (hbytes : (n + m) * bytes ≤ 140737488355328) (hbase : base ≤ w.heap.size) :
    ∃ v' w', (Builtin.append_ #[t, tx] ty #[v, x]).run P w = .ok v' w' ∧ MRow w' base e size v' (n + m) (xs ++ news) ∧ w.grownBy w' v.ownBlock := by
  rcases hown with hown | ⟨g, cur, fz, rfl, hbg, hg, hnm, rfl, hxl⟩
  · obtain ⟨v', w', h1, h2, h3, _⟩ := run_app w base t tx ty e i z size bytes ht hi hz hsize hby hzs v n xs hown x m news hs h63 hbytes hbase
    exact ⟨v', w', h1, .inl h2, h3⟩
  · subst hsize
    subst hby
    have hl := hs.newsLen
    have hsmall : n + m ≤ 9223372036854775807 := by simp only [maxLen] at h63; omega
    have hlen : (cur.toList ++ news).length = (n + m) * i.size := by rw [List.length_append, hxl, hl, Nat.add_mul]
    by_cases hm : m = 0
    · subst hm
      have hn : news = [] := List.eq_nil_of_length_eq_zero (by simpa using hl)
      subst hn
      refine ⟨_, w, ?_, .inr ⟨g, cur, fz, rfl, hbg, hg, hnm, by simp, by simpa using hxl⟩, ⟨rfl, rfl, rfl, Nat.le_refl _, fun _ _ _ => rfl⟩⟩
      rcases hs.kind with ⟨e', hk⟩ | hk <;>
        simp [Builtin.append_, run_underlying ht, run_underlying hk, sizeOf, typeInfo, hi, hs.len, hs.cells, storeCells]
    · have holds : ∀ j u, cur.toList[j]? = some u → w.drew.cell? ((⟨g, 0, none⟩ : Addr).add j) = some u := by
        intro j u hj
        have hadd : (⟨g, 0, none⟩ : Addr).add j = ⟨g, j, none⟩ := by unfold Addr.add; split <;> simp_all
        rw [hadd, cell_of_row w.drew g j cur e fz hg]
        simpa using hj
      have hr := run_append_grow_src (P := P) w t tx ty e i z ht hi hz (some ⟨g, 0, none⟩) n n cur.toList (run_firstCells_some w.drew i.size n ⟨g, 0, none⟩ n n cur.toList hxl holds) x m news hs (by omega) (by omega) (growslice_fits (by omega) hbytes)
      have hge := grownCap_ge w (n + m) n e
      have hcm : grownCap w (n + m) n e ≤ maxLen := grownCap_le_maxLen w (n + m) n e h63
      refine ⟨_, _, hr, .inl ⟨hlen, .inr ⟨w.heap.size, _, _, rfl, hbase, Go.heap_alloc_new w.drew _, hge, hcm, ?_, ?_⟩⟩, ⟨rfl, rfl, rfl, by simp, fun k hk _ => Below.heap_alloc w.drew _ k hk⟩⟩
      · rw [Array.size_append, List.size_toArray, size_zeroCells, hzs, hlen, ← Nat.add_mul]
        congr 1
        omega
      · rw [Array.toList_append, ← hlen]
        exact List.take_left

theorem wpList_app_m {P : Program} {w : World} {ops : Array Oper} {rest : List Oper} {o : Oper} {a : Act} {Q : Exit → Act → World → Prop} (hgd : o.guard = none) (s x : Operand) (t tx : TypeId)
    (ho : o.op = .call { callee := .builtin .append, args := #[s, x], argTypes := #[t, tx] })
    (base : Nat) (e : TypeId) (i : TypeInfo) (z : Value) (size bytes : Nat) (ht : P.underlying t = some (.slice e)) (hi : P.info? e = some i) (hz : i.zero = some z)
    (hsize : i.size = size) (hby : i.bytes = bytes) (hzs : z.cells.size = size)
    (v : Value) (n : Nat) (xs : List Value) (hs : a.eval s = v) (hown : MRow w base e size v n xs)
    (xv : Value) (m : Nat) (news : List Value) (hx : a.eval x = xv) (hsrc : Src P size tx xv m news w)
    (h63 : n + m ≤ maxLen) (hbytes : (n + m) * bytes ≤ 140737488355328) (hbase : base ≤ w.heap.size)
    (h : ∀ v' w', MRow w' base e size v' (n + m) (xs ++ news) → w.grownBy w' v.ownBlock → wpList P ops Q rest (a.put o.dst v') w') : wpList P ops Q (o :: rest) a w := by
  refine wpList_plain hgd fun K hK => ?_
  obtain ⟨v', w', hr, h2, h3⟩ := run_app_m (P := P) w base t tx o.type e i z size bytes ht hi hz hsize hby hzs v n xs hown xv m news hsrc h63 hbytes hbase
  unfold Oper.wp execOp
  simp only [ho, resolve, invoke, builtin, Sem.run_bind, Sem.run_pure, Result.andThen_ok, List.map_toArray, List.map_cons, List.map_nil, hs, hx, hr]
  exact hK _ _ (h v' w' h2 h3)

/-- the same behind a guard that is met. -/
theorem wpList_app_mg {P : Program} {w : World} {ops : Array Oper} {rest : List Oper} {o : Oper} {a : Act} {Q : Exit → Act → World → Prop} (hgd : Region.wanted o (yielded ops a.tmps) = true) (s x : Operand) (t tx : TypeId)
    (ho : o.op = .call { callee := .builtin .append, args := #[s, x], argTypes := #[t, tx] })
    (base : Nat) (e : TypeId) (i : TypeInfo) (z : Value) (size bytes : Nat) (ht : P.underlying t = some (.slice e)) (hi : P.info? e = some i) (hz : i.zero = some z)
    (hsize : i.size = size) (hby : i.bytes = bytes) (hzs : z.cells.size = size)
    (v : Value) (n : Nat) (xs : List Value) (hs : a.eval s = v) (hown : MRow w base e size v n xs)
    (xv : Value) (m : Nat) (news : List Value) (hx : a.eval x = xv) (hsrc : Src P size tx xv m news w)
    (h63 : n + m ≤ maxLen) (hbytes : (n + m) * bytes ≤ 140737488355328) (hbase : base ≤ w.heap.size)
    (h : ∀ v' w', MRow w' base e size v' (n + m) (xs ++ news) → w.grownBy w' v.ownBlock → wpList P ops Q rest (a.put o.dst v') w') : wpList P ops Q (o :: rest) a w := by
  refine wpList_step fun K hK => ?_
  rw [if_pos hgd]
  obtain ⟨v', w', hr, h2, h3⟩ := run_app_m (P := P) w base t tx o.type e i z size bytes ht hi hz hsize hby hzs v n xs hown xv m news hsrc h63 hbytes hbase
  unfold Oper.wp execOp
  simp only [ho, resolve, invoke, builtin, Sem.run_bind, Sem.run_pure, Result.andThen_ok, List.map_toArray, List.map_cons, List.map_nil, hs, hx, hr]
  exact hK _ _ (h v' w' h2 h3)
end Go.Proofs.YteegbjjpjdlcmaaDoor
