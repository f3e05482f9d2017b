/- query.termOf, and the closure of query.elements that ends a word. -/
import Derived.Test.YteegbjjpjdlcmaaDoorQRight
import Derived.Test.YteegbjjpjdlcmaaDoorHeld
set_option linter.unusedVariables false
namespace Go.Proofs.YteegbjjpjdlcmaaDoor
open Go.RowKit

def termOf (l : List UInt8) : List UInt8 := (terms l).headD []

set_option maxHeartbeats 1000000 in
theorem termOf_any (v : Value) (l : List UInt8) (w : World) (ht : Tabs w) (h : Rd w v l.length 1 (bcells l)) (hn : l.length ≤ 100000) :
    Calls Tryd.prog 90 #[v] w fun e w' => e = .returned (.string (bstr (termOf l))) ∧ Below w.heap.size w w' := by
  have hT := terms_any v l w ht h hn
  have hlen := terms_len l
  have hr : termOf l = (terms l).headD [] := rfl
  generalize terms l = ts at *
  have HT := Lib.hid hT
  have HR := Lib.hid hr
  clear hT hr h
  cases ts with
  | nil =>
    go_enter Tryd.func90, Tryd.ntmps90
    go_wp2_with (go_at_call 96; refine HT.out.mono ?_; rintro e w1 ⟨v1, rfl, hown1, hb1⟩; obtain ⟨a1, c1, rfl⟩ := own_shape hown1)
    go_ret
    exact ⟨by rw [HR.out]; rfl, hb1⟩
  | cons t ts =>
    have hpos : (((t :: ts).length : Int) == 0) = false := beq_eq_false_iff_ne.2 (by simp only [List.length_cons]; omega)
    have hpi : (0 : Int) < ((t :: ts).length : Int) := by simp only [List.length_cons]; omega
    have hc0 : Hid (scells (t :: ts) = .string (bstr t) :: scells ts) := rfl
    generalize hnn : (t :: ts).length = n at *
    have hnp : 0 < n := by simp only [List.length_cons] at hnn; omega
    clear hnn
    go_enter Tryd.func90, Tryd.ntmps90
    go_wp2_with (go_at_call 96; refine HT.out.mono ?_; rintro e w1 ⟨v1, rfl, hown1, hb1⟩; obtain ⟨g1, c1, rfl⟩ := own_form hown1 hnp; have hc := hown1.cellAt 0 (by omega); rw [hc0.out] at hc; simp only [List.getElem?_cons_zero] at hc)
    go_ret
    exact ⟨by rw [HR.out]; rfl, hb1⟩

/-- an element of a text: its kind, where it begins, a word's term. -/
structure El where
  kind : Int
  pos : Int
  term : List UInt8

def elcells (l : List El) : List Value := l.flatMap fun s => [.int .i64 s.kind, .int .i64 s.pos, .string (bstr s.term)]
theorem elcells_len (xs : List El) : (elcells xs).length = xs.length * 3 := by
  induction xs with
  | nil => rfl
  | cons x xs ih => simp [elcells] at ih ⊢; omega
theorem elcells_append (xs ys : List El) : elcells (xs ++ ys) = elcells xs ++ elcells ys := by simp [elcells]
theorem infoEl : (Tryd.prog.info? 101).map (fun i => (i.zero, i.size, i.bytes)) = some (some (.agg #[.int .i64 0, .int .i64 0, .string ByteArray.empty]), 3, 32) := by kernel_rfl

/-- append to a row of the call's own, of whatever is appended: a step of a region. -/
theorem step_app {P : Program} {ops : Array Oper} {o : Oper} {a : Act} {w : World} {K : Act → World → Prop} {Q : Exit → Act → World → Prop} {E : Prop}
    (hg : o.guard = none) (s x : Operand) (t tx : TypeId) (ho : o.op = Op.call { callee := Callee.builtin Builtin.append, args := #[s, x], argTypes := #[t, tx] })
    (base : Nat) (e : TypeId) (i : TypeInfo) (z : Value) (size bytes : Nat) (ht : P.underlying t = some (.slice e)) (hi : P.info? e = some i) (hz : i.zero = some z)
    (hsize : i.size = size) (hby : i.bytes = bytes) (hzs : z.cells.size = size)
    (v : Value) (n : Nat) (xs : List Value) (hs : a.eval s = v) (hown : w.ownsRow base e size v n xs)
    (xv : Value) (m : Nat) (news : List Value) (hx : a.eval x = xv) (hsrc : Src P size tx xv m news w)
    (h63 : n + m ≤ maxLen) (hbytes : (n + m) * bytes ≤ 140737488355328) (hbase : base ≤ w.heap.size)
    (hK : ∀ v' w', w'.ownsRow base e size v' (n + m) (xs ++ news) → w.grownBy w' v.ownBlock → (v'.ownBlock = v.ownBlock ∨ v'.ownBlock = some w.heap.size) → K (a.put o.dst v') w') :
    if Region.wanted o (yielded ops a.tmps) = true then Oper.wp P o a w K Q else E := by
  have hw : Region.wanted o (yielded ops a.tmps) = true := by simp [Region.wanted, hg]
  rw [if_pos hw]
  obtain ⟨v', w', hr, h2, h3, h4, h5⟩ := run_app (P := P) w base t tx o.type e i z size bytes ht hi hz hsize hby hzs v n xs hown xv m news hsrc h63 hbytes hbase
  unfold Oper.wp execOp
  simp only [ho, resolve, invoke, builtin, Sem.run_bind, Sem.run_pure, Result.andThen_ok, List.map_toArray, List.map_cons, List.map_nil, hs, hx, hr]
  exact hK v' w' h2 h3 h4

/-- the cells that the closure shares: the bytes, the elements, the place, the beginning of a word. -/
structure EM (w : World) (B : Nat) (v l : Value) (pos st : Int) : Prop where
  b0 : w.heap[B]? = some (.cells #[v] 72 (0, 0))
  b1 : w.heap[B + 1]? = some (.cells #[l] 95 (0, 0))
  b2 : w.heap[B + 1 + 1]? = some (.cells #[.int .i64 pos] 3 (0, 0))
  b3 : w.heap[B + 1 + 1 + 1]? = some (.cells #[.int .i64 st] 3 (0, 0))

theorem EM.below {w w' : World} {B : Nat} {v l : Value} {pos st : Int} (h : EM w B v l pos st) (hb : Below w.heap.size w w') : EM w' B v l pos st :=
  ⟨by rw [hb.block _ (lt_of_block h.b0)]; exact h.b0, by rw [hb.block _ (lt_of_block h.b1)]; exact h.b1, by rw [hb.block _ (lt_of_block h.b2)]; exact h.b2, by rw [hb.block _ (lt_of_block h.b3)]; exact h.b3⟩

theorem EM.alloc {w : World} {B : Nat} {v l : Value} {pos st : Int} (h : EM w B v l pos st) (o : Obj) : EM (w.alloc o) B v l pos st := h.below ((Below.refl _ _).alloc (Nat.le_refl _) o)

/-- an append to the row of elements does not touch the shared cells. -/
theorem EM.grown {w w' : World} {B base : Nat} {v l u : Value} {pos st : Int} {n : Nat} {xs : List Value} (h : EM w B v l pos st) (hown : w.ownsRow base 101 3 u n xs) (hg : w.grownBy w' u.ownBlock) : EM w' B v l pos st := by
  have key : ∀ (k : Nat) (cs : Array Value) (t : TypeId), t ≠ 101 → w.heap[k]? = some (Obj.cells cs t (0, 0)) → w'.heap[k]? = some (Obj.cells cs t (0, 0)) := by
    intro k cs t ht hk
    rw [hg.block k (lt_of_block hk) (fun e => ?_)]
    · exact hk
    · rcases hown.2 with ⟨rfl, _⟩ | ⟨g, cap, cur, rfl, _, hg', _⟩
      · simp [Value.ownBlock] at e
      · simp only [Value.ownBlock, Option.some.injEq] at e
        subst e
        rw [hg'] at hk
        simp only [Option.some.injEq, Obj.cells.injEq] at hk
        exact ht hk.2.1.symm
  exact ⟨key _ _ _ (by decide) h.b0, key _ _ _ (by decide) h.b1, key _ _ _ (by decide) h.b2, key _ _ _ (by decide) h.b3⟩

theorem EM.set1 {w : World} {B : Nat} {v l : Value} {pos st : Int} (h : EM w B v l pos st) (l' : Value) : EM (w.setCell ⟨B + 1, 0, none⟩ l') B v l' pos st :=
  ⟨by rw [Below.heap_setCell _ _ _ _ (by simp only; omega)]; exact h.b0, one_setCell h.b1, by rw [Below.heap_setCell _ _ _ _ (by simp only; omega)]; exact h.b2, by rw [Below.heap_setCell _ _ _ _ (by simp only; omega)]; exact h.b3⟩
theorem EM.set2 {w : World} {B : Nat} {v l : Value} {pos st : Int} (h : EM w B v l pos st) (q : Int) : EM (w.setCell ⟨B + 1 + 1, 0, none⟩ (.int .i64 q)) B v l q st :=
  ⟨by rw [Below.heap_setCell _ _ _ _ (by simp only; omega)]; exact h.b0, by rw [Below.heap_setCell _ _ _ _ (by simp only; omega)]; exact h.b1, one_setCell h.b2, by rw [Below.heap_setCell _ _ _ _ (by simp only; omega)]; exact h.b3⟩
theorem EM.set3 {w : World} {B : Nat} {v l : Value} {pos st : Int} (h : EM w B v l pos st) (q : Int) : EM (w.setCell ⟨B + 1 + 1 + 1, 0, none⟩ (.int .i64 q)) B v l pos q :=
  ⟨by rw [Below.heap_setCell _ _ _ _ (by simp only; omega)]; exact h.b0, by rw [Below.heap_setCell _ _ _ _ (by simp only; omega)]; exact h.b1, by rw [Below.heap_setCell _ _ _ _ (by simp only; omega)]; exact h.b2, one_setCell h.b3⟩

/-- the row of elements lies in none of the shared cells. -/
theorem EM.own_ne {w : World} {B base : Nat} {v l u : Value} {pos st : Int} {n : Nat} {xs : List Value} (h : EM w B v l pos st) (hown : w.ownsRow base 101 3 u n xs) (j : Nat) (hj : j ≤ 3) : u.ownBlock ≠ some (B + j) := by
  have key : ∀ (k : Nat) (cs : Array Value) (t : TypeId), t ≠ 101 → w.heap[k]? = some (Obj.cells cs t (0, 0)) → u.ownBlock ≠ some k := by
    intro k cs t ht hk e
    rcases hown.2 with ⟨rfl, _⟩ | ⟨g, cap, cur, rfl, _, hg', _⟩
    · simp [Value.ownBlock] at e
    · simp only [Value.ownBlock, Option.some.injEq] at e
      subst e
      rw [hg'] at hk
      simp only [Option.some.injEq, Obj.cells.injEq] at hk
      exact ht hk.2.1.symm
  match j, hj with
  | 0, _ => exact key _ _ _ (by decide) h.b0
  | 1, _ => exact key _ _ _ (by decide) h.b1
  | 2, _ => exact key _ _ _ (by decide) h.b2
  | 3, _ => exact key _ _ _ (by decide) h.b3

theorem flush_none (B : Nat) (v l : Value) (pos st : Int) (w : World) (h : EM w B v l pos st) (hst : st < 0) :
    Calls Tryd.prog 89 #[.pointer (some ⟨B + 1 + 1 + 1, 0, none⟩), .pointer (some ⟨B + 1, 0, none⟩), .pointer (some ⟨B, 0, none⟩), .pointer (some ⟨B + 1 + 1, 0, none⟩)] w fun e w' => e = .returned (.tuple #[]) ∧ w = w' := by
  have c3 := cell_of_one h.b3
  clear h
  go_enter Tryd.func89, Tryd.ntmps89
  go_wp2
  go_end0
  exact ⟨rfl, rfl⟩

/-- nothing has changed but the four shared cells, and rows of elements. -/
structure Chg (B : Nat) (w w' : World) : Prop where
  os : w'.os = w.os
  tape : w'.tape = w.tape
  output : w'.output = w.output
  size : w.heap.size ≤ w'.heap.size
  low : ∀ k, k < B → w'.heap[k]? = w.heap[k]?
  high : ∀ k o, B + 3 < k → w.heap[k]? = some o → (∀ cs fr, o ≠ .cells cs 101 fr) → w'.heap[k]? = some o

theorem Chg.refl (B : Nat) (w : World) : Chg B w w := ⟨rfl, rfl, rfl, Nat.le_refl _, fun _ _ => rfl, fun _ _ _ h _ => h⟩
theorem Chg.trans {B : Nat} {a b c : World} (h : Chg B a b) (k : Chg B b c) : Chg B a c :=
  ⟨k.os.trans h.os, k.tape.trans h.tape, k.output.trans h.output, Nat.le_trans h.size k.size, fun i hi => (k.low i hi).trans (h.low i hi), fun i o hi ho hn => k.high i o hi (h.high i o hi ho hn) hn⟩
theorem Chg.of_below {B : Nat} {w w' : World} (h : Below w.heap.size w w') (hB : B ≤ w.heap.size) : Chg B w w' :=
  ⟨h.os, h.tape, h.output, h.size, fun k hk => h.block k (by omega), fun k o _ ho _ => by rw [h.block k (lt_of_block ho)]; exact ho⟩
theorem Chg.below {B : Nat} {w w' : World} (h : Chg B w w') : Below B w w' := ⟨h.os, h.tape, h.output, h.size, h.low⟩
theorem Chg.set {B j : Nat} (w : World) (u : Value) (h1 : B ≤ j) (h2 : j ≤ B + 3) : Chg B w (w.setCell ⟨j, 0, none⟩ u) :=
  ⟨rfl, rfl, rfl, by simp [World.setCell], fun k hk => Below.heap_setCell _ _ _ _ (by simp only; omega), fun k o hk ho _ => by rw [Below.heap_setCell _ _ _ _ (by simp only; omega)]; exact ho⟩
theorem Chg.grown {B : Nat} {w w' : World} {v : Value} {n : Nat} {xs : List Value} (hown : w.ownsRow B 101 3 v n xs) (h : w.grownBy w' v.ownBlock) (hB : B ≤ w.heap.size) : Chg B w w' := by
  refine ⟨h.os, h.tape, h.output, h.size, fun k hk => ?_, fun k o hk ho hn => ?_⟩
  · refine h.block k (by omega) (fun e => ?_)
    have := (hown.lt k e.symm).1; omega
  · rw [h.block k (lt_of_block ho) (fun e => ?_)]
    · exact ho
    · rcases hown.2 with ⟨rfl, _⟩ | ⟨g, cap, cur, rfl, _, hg, _⟩
      · simp [Value.ownBlock] at e
      · simp only [Value.ownBlock, Option.some.injEq] at e
        subst e
        rw [hg] at ho
        exact hn cur (0, 0) (Option.some.inj ho).symm

def Flushed (B : Nat) (v : Value) (els : List El) (pos : Int) (w : World) (e : Ending) (w' : World) : Prop :=
  e = .returned (.tuple #[]) ∧ ∃ l', EM w' B v l' pos (-1) ∧ w'.ownsRow B 101 3 l' els.length (elcells els) ∧ Chg B w w'

set_option maxRecDepth 100000 in
set_option maxHeartbeats 2000000 in
theorem flush_some (B bb boff n c : Nat) (l : Value) (els : List El) (bs : List UInt8) (s p : Nat) (w : World) (ht : Tabs w) (h : EM w B (.slice (some ⟨bb, boff, none⟩) n c) l p s) (hB : B + 3 < w.heap.size)
    (hown : w.ownsRow B 101 3 l els.length (elcells els)) (hb : ∀ i (hi : i < bs.length), w.cell? ⟨bb, boff + i, none⟩ = some (.int .u8 (ch bs[i]))) (hbB : bb < B) (hn : bs.length = n) (hnc : n ≤ c) (hc : c ≤ maxLen) (hsp : s < p) (hpn : p ≤ n) (hn1 : n ≤ 100000) (hel : els.length ≤ 100000) :
    Calls Tryd.prog 89 #[.pointer (some ⟨B + 1 + 1 + 1, 0, none⟩), .pointer (some ⟨B + 1, 0, none⟩), .pointer (some ⟨B, 0, none⟩), .pointer (some ⟨B + 1 + 1, 0, none⟩)] w (Flushed B (.slice (some ⟨bb, boff, none⟩) n c) (els ++ [⟨-1, s, termOf ((bs.drop s).take (p - s))⟩]) p w) := by
  obtain ⟨i0, hi, hz0, hz1, hz2⟩ := info_parts infoEl
  unfold maxLen at hc
  have c0 := cell_of_one h.b0
  have c1 := cell_of_one h.b1
  have c2 := cell_of_one h.b2
  have c3 := cell_of_one h.b3
  have q1 : (0 : Int) ≤ (s : Int) := by omega
  have q2 : (s : Int) ≤ (p : Int) := by omega
  have q3 : (p : Int) ≤ (c : Int) := by omega
  have q4 : ¬ c = s := by omega
  have q5 : s ≤ p := by omega
  have q6 : p ≤ c := by omega
  have hT : Hid (∀ W, Below w.heap.size w W → Calls Tryd.prog 90 #[.slice (some ⟨bb, boff + s, none⟩) (p - s) (c - s)] W fun e w' => e = .returned (.string (bstr (termOf ((bs.drop s).take (p - s))))) ∧ Below W.heap.size W w') := by
    intro W hW
    refine termOf_any _ ((bs.drop s).take (p - s)) W (ht.below hW) ?_ (by simp; omega)
    have hl : ((bs.drop s).take (p - s)).length = p - s := by simp; omega
    rw [hl]
    refine ⟨by rw [bcells_len, hl]; omega, by unfold maxLen; omega, .inr ⟨bb, boff + s, c - s, rfl, by omega, by omega, by unfold maxLen; omega, fun i u hu => ?_⟩⟩
    have hi : i < p - s := by rw [← hl, ← bcells_len]; exact (List.getElem?_eq_some_iff.1 hu).1
    have h1 := hb (s + i) (by omega)
    rw [Nat.add_assoc, hW.cell (World.block_lt_of_cell? w _ h1), h1, ← hu]
    simp only [bcells, List.getElem?_map]
    rw [List.getElem?_take_of_lt hi, List.getElem?_drop, List.getElem?_eq_getElem (by omega)]
    rfl
  go_enter Tryd.func89, Tryd.ntmps89
  go_wp2_with fail
  have hS : ∀ w', Below w.heap.size w w' → (fun w' : World => w'.cell? ⟨B, 0, none⟩ = some (.slice (some ⟨bb, boff, none⟩) n c) ∧ w'.cell? ⟨B + 1, 0, none⟩ = some l ∧ w'.cell? ⟨B + 1 + 1, 0, none⟩ = some (.int .i64 p) ∧ w'.cell? ⟨B + 1 + 1 + 1, 0, none⟩ = some (.int .i64 s)) w' :=
    fun w' hb => ⟨cell_later hb c0, cell_later hb c1, cell_later hb c2, cell_later hb c3⟩
  have HS := Lib.hid hS; clear hS
  refine L_begin (fun w' : World => w'.cell? ⟨B, 0, none⟩ = some (.slice (some ⟨bb, boff, none⟩) n c) ∧ w'.cell? ⟨B + 1, 0, none⟩ = some l ∧ w'.cell? ⟨B + 1 + 1, 0, none⟩ = some (.int .i64 p) ∧ w'.cell? ⟨B + 1 + 1 + 1, 0, none⟩ = some (.int .i64 s)) 10 (by kernel_rfl) ?_
  refine L_take (fuel := 10) 0 l rfl (by kernel_rfl) (by kernel_rfl) (by kernel_rfl) (by kernel_rfl) (fun _ _ _ h => h) (by rfl) ?_ (HS.out _ (Below.refl _ _).drew) ?_
  · rintro W ⟨s0, s1, s2, s3⟩
    go_simp
  refine L_take (fuel := 9) 1 (.int .i64 s) rfl (by kernel_rfl) (by kernel_rfl) (by kernel_rfl) (by kernel_rfl) (fun _ _ _ h => h) (by rfl) ?_ (HS.out _ (Below.refl _ _).drew) ?_
  · rintro W ⟨s0, s1, s2, s3⟩
    go_simp
  refine L_take (fuel := 8) 2 (.slice (some ⟨bb, boff, none⟩) n c) rfl (by kernel_rfl) (by kernel_rfl) (by kernel_rfl) (by kernel_rfl) (fun _ _ _ h => h) (by rfl) ?_ (HS.out _ (Below.refl _ _).drew) ?_
  · rintro W ⟨s0, s1, s2, s3⟩
    go_simp
  refine L_take (fuel := 7) 3 (.int .i64 s) rfl (by kernel_rfl) (by kernel_rfl) (by kernel_rfl) (by kernel_rfl) (fun _ _ _ h => h) (by rfl) ?_ (HS.out _ (Below.refl _ _).drew) ?_
  · rintro W ⟨s0, s1, s2, s3⟩
    go_simp
  refine L_take (fuel := 6) 4 (.int .i64 p) rfl (by kernel_rfl) (by kernel_rfl) (by kernel_rfl) (by kernel_rfl) (fun _ _ _ h => h) (by rfl) ?_ (HS.out _ (Below.refl _ _).drew) ?_
  · rintro W ⟨s0, s1, s2, s3⟩
    go_simp
  refine L_one (fuel := 5) 5 (by kernel_rfl) rfl ?_
  intro K hK
  go_simp
  refine hK _ _ (HS.out _ (Below.refl _ _).drew) ?_
  clear hK K
  refine L_one (fuel := 4) 6 (by kernel_rfl) rfl ?_
  intro K hK
  go_simp
  refine (hT.out _ (Below.refl _ _).drew).mono ?_
  rintro e w1 ⟨rfl, hb1⟩
  have hbw : Below w.heap.size w w1 := ((Below.refl _ _).drew).trans hb1
  go_simp
  refine hK _ _ (HS.out _ hbw) ?_
  clear hK K
  refine L_one (fuel := 3) 7 (by kernel_rfl) rfl ?_
  intro K hK
  go_simp
  refine hK _ _ (HS.out _ hbw) ?_
  clear hK K
  have hown1 := own_below' hown hbw
  have hbs := hbw.size
  refine L_one (fuel := 2) 8 (by kernel_rfl) rfl ?_
  intro K hK
  go_simp
  refine hK _ _ (HS.out _ (hbw.alloc hbs _)) ?_
  clear hK K
  refine L_one (fuel := 1) 9 (by kernel_rfl) rfl ?_
  intro K hK
  refine step_app (by rfl) (.tmp 6) (.tmp 14) _ _ (by rfl) B 101 i0 _ 3 32 Tryd.underlying95 hi hz0 hz1 hz2 rfl l els.length _ (by rfl) (hown1.alloc _) _ 1 [.int .i64 (-1), .int .i64 s, .string (bstr (termOf ((bs.drop s).take (p - s))))] (by rfl) (src_new Tryd.underlying95 w1 _ 3 1 1 rfl (by intro u hu; simp at hu; rcases hu with rfl | rfl | rfl <;> rfl)) (by unfold maxLen; omega) (by omega) (by simp; omega) ?_
  intro l2 w2 hown2 hgr2 _
  have hE2 := ((h.below hbw).alloc _).grown (hown1.alloc _) hgr2
  have hC2 : Chg B w w2 := ((Chg.of_below hbw (by omega)).trans (Chg.of_below ((Below.refl _ _).alloc (Nat.le_refl _) _) (by omega))).trans (Chg.grown (hown1.alloc _) hgr2 (by simp; omega))
  obtain ⟨a2, cc2, rfl⟩ := own_shape hown2
  refine hK _ _ (⟨cell_of_one hE2.b0, cell_of_one hE2.b1, cell_of_one hE2.b2, cell_of_one hE2.b3⟩) ?_
  clear hK K hgr2
  have f1 := free_of_one hE2.b1
  have k1 := cell_of_one hE2.b1
  refine L_last (fuel := 0) (by kernel_rfl) (by kernel_rfl) rfl ?_
  intro K hK
  go_simp
  refine hK _ _ ?_
  clear hK K
  refine L_done (by kernel_rfl) ?_ 0
  have hE3 : EM (w2.setCell ⟨B + 1, 0, none⟩ (.slice a2 (els.length + 1) cc2)) B (.slice (some ⟨bb, boff, none⟩) n c) (.slice a2 (els.length + 1) cc2) p s := hE2.set1 _
  have hown3 := ownsRow_setCell_other hown2 (a := ⟨B + 1, 0, none⟩) (hE2.own_ne hown2 1 (by omega)) (.slice a2 (els.length + 1) cc2)
  have hC3 := hC2.trans (Chg.set w2 (.slice a2 (els.length + 1) cc2) (show B ≤ B + 1 by omega) (by omega))
  have f3 := free_of_one hE3.b3
  have k3 := cell_of_one hE3.b3
  generalize w2.setCell ⟨B + 1, 0, none⟩ (.slice a2 (els.length + 1) cc2) = w3 at *
  go_wp2
  go_end0
  refine ⟨rfl, _, hE3.set3 _, ?_, hC3.trans (Chg.set w3 _ (show B ≤ B + 3 by omega) (by omega))⟩
  have := ownsRow_setCell_other hown3 (a := ⟨B + 1 + 1 + 1, 0, none⟩) (hE3.own_ne hown3 3 (by omega)) (.int .i64 (-1))
  rw [List.length_append, elcells_append]
  exact this
end Go.Proofs.YteegbjjpjdlcmaaDoor
