/- Which documents fit two questions together; what eval.Match gives of any steps. -/
import Derived.Test.YteegbjjpjdlcmaaDoorGreat17
import Derived.Test.YteegbjjpjdlcmaaDoorMark
set_option linter.unusedVariables false
namespace Go.Proofs.YteegbjjpjdlcmaaDoor
open Go.RowKit Go.Sort

theorem fit_node {l m : List QOp} (hl : qRight l = true) (hm : qRight m = true) {k : Int} (hk : k = 1 ∨ k = 2 ∨ k = 3) (doc : List UInt8) : fitF (l ++ m ++ [(k, [])]) doc = opB k (fitF l doc) (fitF m doc) := by
  obtain ⟨A, ha, rfl, -⟩ := right_qt hl
  obtain ⟨B, hb, rfl, -⟩ := right_qt hm
  unfold fitF
  rw [List.append_assoc]
  exact evL_node (hasT doc) opB ha hb hk false

theorem right_node {l m : List QOp} (hl : qRight l = true) (hm : qRight m = true) {j k : Int} (hj : j = 1 ∨ j = 2 ∨ j = 3) (hk : k = 1 ∨ k = 2 ∨ k = 3) : qRight (l ++ m ++ [(j, [])]) = qRight (l ++ m ++ [(k, [])]) := by
  obtain ⟨A, ha, rfl, -⟩ := right_qt hl
  obtain ⟨B, hb, rfl, -⟩ := right_qt hm
  rw [List.append_assoc, List.append_assoc, qright_node ha hb hj, qright_node ha hb hk]
theorem right_swap {l m : List QOp} (hl : qRight l = true) (hm : qRight m = true) {k : Int} (hk : k = 1 ∨ k = 2 ∨ k = 3) : qRight (l ++ m ++ [(k, [])]) = qRight (m ++ l ++ [(k, [])]) := by
  obtain ⟨A, ha, rfl, -⟩ := right_qt hl
  obtain ⟨B, hb, rfl, -⟩ := right_qt hm
  rw [List.append_assoc, List.append_assoc, qright_node ha hb hk, qright_node hb ha hk, Nat.add_comm]

/-- the error, and the numbers, that are told of any steps. -/
def erOf (l : List QOp) : Int := if qRight l = true then 0 else 1
def resF (l : List QOp) (docs : List (List UInt8)) : List Int := if qRight l = true then matchF l docs else []
theorem erOf_yes {l : List QOp} (h : qRight l = true) : erOf l = 0 := by unfold erOf; rw [if_pos h]
theorem erOf_no {l : List QOp} (h : qRight l = false) : erOf l = 1 := by unfold erOf; rw [if_neg (by simp [h])]
theorem resF_yes {l : List QOp} (docs : List (List UInt8)) (h : qRight l = true) : resF l docs = matchF l docs := by unfold resF; rw [if_pos h]
theorem resF_no {l : List QOp} (docs : List (List UInt8)) (h : qRight l = false) : resF l docs = [] := by unfold resF; rw [if_neg (by simp [h])]
theorem resF_len (l : List QOp) (docs : List (List UInt8)) : (resF l docs).length ≤ docs.length := by
  unfold resF
  split
  · exact pickFrom_len _ _ _
  · simp

theorem hasN_match (l : List QOp) (docs : List (List UInt8)) (n : Nat) (hn : n < docs.length) : hasN (matchF l docs) (n : Int) = fitF l docs[n] := by
  rw [Bool.eq_iff_iff, hasN_iff, matchF, pickFrom_mem]
  constructor
  · rintro ⟨i, hi, h1, h2⟩
    have : i = n := by omega
    subst this
    exact h2
  · intro h
    exact ⟨n, hn, by simp, h⟩

/-- what eval.Match gives. -/
def GivesR (w : World) (er : Int) (r : List Int) (e : Ending) (w' : World) : Prop := ∃ v, e = .returned (.tuple #[v, .int .i64 er]) ∧ w'.ownsRow w.heap.size 3 1 v r.length (icells r) ∧ Below w.heap.size w w'

theorem match_er (v lv : Value) (docs : List (List UInt8)) (l : List QOp) (w : World) (ht : Tabs w) (hd : DocsRd w v docs) (hdl : docs.length ≤ 1000) (hdn : ∀ d ∈ docs, d.length ≤ 100000) (h : Rd w lv l.length 2 (ocells l)) (hl : l.length ≤ 100000) (hts : ∀ s ∈ l, s.2.length ≤ 100000) (hks : ∀ s ∈ l, -9223372036854775808 ≤ s.1 ∧ s.1 ≤ 9223372036854775807) :
    Calls Tryd.prog 23 #[v, lv] w (GivesR w (erOf l) (resF l docs)) := by
  cases hr : qRight l with
  | true =>
    rw [erOf_yes hr, resF_yes docs hr]
    exact match_yes v lv docs l w ht hd hdl hdn h hl hts hks hr
  | false =>
    rw [erOf_no hr, resF_no docs hr]
    refine (match_no v lv docs l w ht h hl hts hks hr).mono ?_
    rintro e w' ⟨rfl, hb⟩
    exact ⟨_, rfl, World.ownsRow_nil _ _ _ _, hb⟩

/-- append to an empty literal: the whole is the call's own. -/
theorem wpList_first {P : Program} {ws : World} {ops : Array Oper} {rest : List Oper} {o : Oper} {a : Act} {Q : Exit → Act → World → Prop} (hgd : o.guard = none) (s x : Operand) (t : TypeId)
    (ho : o.op = .call { callee := .builtin .append, args := #[s, x], argTypes := #[t, t] })
    (e : TypeId) (i : TypeInfo) (z : Value) (size bytes : Nat) (ht : P.underlying t = some (.slice e)) (hi : P.info? e = some i) (hz : i.zero = some z)
    (hsize : i.size = size) (hby : i.bytes = bytes) (hzs : z.cells.size = size)
    (H : Nat) (hH : ws.heap.size = H) (hs : a.eval s = .slice (some ⟨H, 0, none⟩) 0 0)
    (xv : Value) (n : Nat) (cells : List Value) (hx : a.eval x = xv) (hr : Rd ws xv n size cells) (h1 : ∀ u ∈ cells, u.oneCell' = true) (hbytes : n * bytes ≤ 140737488355328)
    (h : ∀ v' w', MRow w' ws.heap.size e size v' n cells → Below ws.heap.size ws w' → wpList P ops Q rest (a.put o.dst v') w') : wpList P ops Q (o :: rest) a (ws.alloc (.cells #[] e)) := by
  subst hH
  have hb : Below ws.heap.size ws (ws.alloc (.cells #[] e)) := (Below.refl _ _).alloc (Nat.le_refl _) _
  refine wpList_app_m hgd s x t t ho ws.heap.size e i z size bytes ht hi hz hsize hby hzs _ 0 [] hs (mrow_new ws ws.heap.size #[] e size 0 (0, 0) (Nat.le_refl _) (by decide) (by simp)) xv n cells hx ((hr.below hb).src ht h1) (by have := hr.2.1; omega) (by rw [Nat.zero_add]; exact hbytes) hb.size fun v' w' hm hg => ?_
  rw [Nat.zero_add, List.nil_append] at hm
  exact h v' w' hm (hb.grown hg hb.size (by intro k hk; simp only [Value.ownBlock, Option.some.injEq] at hk; omega))

/-- append to what the call made. -/
theorem wpList_more {P : Program} {ws w : World} {ops : Array Oper} {rest : List Oper} {o : Oper} {a : Act} {Q : Exit → Act → World → Prop} (hgd : o.guard = none) (s x : Operand) (t : TypeId)
    (ho : o.op = .call { callee := .builtin .append, args := #[s, x], argTypes := #[t, t] })
    (e : TypeId) (i : TypeInfo) (z : Value) (size bytes : Nat) (ht : P.underlying t = some (.slice e)) (hi : P.info? e = some i) (hz : i.zero = some z)
    (hsize : i.size = size) (hby : i.bytes = bytes) (hzs : z.cells.size = size)
    (v : Value) (n : Nat) (xs : List Value) (hs : a.eval s = v) (hown : MRow w ws.heap.size e size v n xs) (hB : Below ws.heap.size ws w)
    (xv : Value) (m : Nat) (cells : List Value) (hx : a.eval x = xv) (hr : Rd w xv m size cells) (h1 : ∀ u ∈ cells, u.oneCell' = true) (h63 : n + m ≤ maxLen) (hbytes : (n + m) * bytes ≤ 140737488355328)
    (h : ∀ v' w', MRow w' ws.heap.size e size v' (n + m) (xs ++ cells) → Below ws.heap.size ws w' → wpList P ops Q rest (a.put o.dst v') w') : wpList P ops Q (o :: rest) a w :=
  wpList_app_m hgd s x t t ho ws.heap.size e i z size bytes ht hi hz hsize hby hzs v n xs hs hown xv m cells hx (hr.src ht h1) h63 hbytes hB.size fun v' w' hm hg =>
    h v' w' hm (hB.grown hg hB.size hown.lt)

theorem mrow_ops {w : World} {base : Nat} {e : TypeId} {v : Value} {a b : List QOp} (h : MRow w base e 2 v (a.length + b.length) (ocells a ++ ocells b)) : Rd w v (a ++ b).length 2 (ocells (a ++ b)) := by
  have := h.rd
  rw [← ocells_append, ← List.length_append] at this
  exact this
theorem infoOp : (Tryd.prog.info? 55).map (fun i => (i.zero, i.size, i.bytes)) = some (some (.agg #[.int .i64 0, .string ByteArray.empty]), 2, 24) := by kernel_rfl
theorem op_new (w : World) (k : Int) : Rd (w.alloc (.cells #[.int .i64 k, .string { data := #[] }] 55)) (.slice (some ⟨w.heap.size, 0, none⟩) 1 1) 1 2 (ocells [(k, [])]) := rd_new w #[.int .i64 k, .string { data := #[] }] 55 2 1 rfl (by decide) (by decide)
end Go.Proofs.YteegbjjpjdlcmaaDoor
