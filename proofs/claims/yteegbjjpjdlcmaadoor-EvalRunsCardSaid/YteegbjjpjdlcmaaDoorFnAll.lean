/- FnMap, FnLit: in one text. -/
import Derived.Test.YteegbjjpjdlcmaaDoorHeld2
import Derived.Maps.Own
/- A map from integers to functions that a literal makes, its entries in whatever order. No program. -/
set_option linter.unusedVariables false
namespace Go.Proofs.YteegbjjpjdlcmaaDoor
open Go.RowKit

theorem own_keep {w w' : World} {base : Nat} {e : TypeId} {size : Nat} {v : Value} {n : Nat} {xs : List Value} (h : w.ownsRow base e size v n xs) (hb : ∀ g, v.ownBlock = some g → w'.heap[g]? = w.heap[g]?) : w'.ownsRow base e size v n xs := by
  obtain ⟨hl, hh⟩ := h
  refine ⟨hl, ?_⟩
  rcases hh with h | ⟨g, cap, cur, hv, hbg, hg, hr⟩
  · exact .inl h
  · exact .inr ⟨g, cap, cur, hv, hbg, by rw [hb g (by rw [hv]; rfl)]; exact hg, hr⟩
theorem setCell_nblk (w : World) (a : Addr) (v : Value) : (w.setCell a v).heap.size = w.heap.size := by simp [World.setCell]

/-- what the entries hold. -/
def MapIs (es : Array MapEntry) (g : Int → Option Value) : Prop := ∀ z : Int, ∃ j : Nat, Instr.findNow (.int .i64) (.int .i64 z) es.toList 0 = some ((g z).map fun v => (j, v))

theorem MapIs.none : MapIs #[] (fun _ => none) := fun z => ⟨0, rfl⟩

theorem findNow_snoc (d : TypeDesc) (k : Value) (e : MapEntry) : ∀ (l : List MapEntry) (i : Nat), Instr.findNow d k (l ++ [e]) i = match Instr.findNow d k l i with
    | some none => Instr.findNow d k [e] (i + l.length)
    | r => r := by
  intro l
  induction l with
  | nil => intro i; simp [Instr.findNow]
  | cons x l ih =>
    intro i
    simp only [List.cons_append]
    rw [Instr.findNow, Instr.findNow]
    cases h : Instr.sameNow d k x.key with
    | none => rfl
    | some b =>
      cases b with
      | true => rfl
      | false =>
        simp only [ih, List.length_cons]
        rw [show i + 1 + l.length = i + (l.length + 1) from by omega]

theorem MapIs.push {es : Array MapEntry} {g : Int → Option Value} (h : MapIs es g) {k : Int} (hk : g k = Option.none) (v : Value) (born : Nat) : MapIs (es.push { key := .int .i64 k, val := v, born := born }) (fun z => if z = k then some v else g z) := by
  intro z
  obtain ⟨j, hj⟩ := h z
  simp only [Array.toList_push]
  by_cases hz : z = k
  · subst hz
    rw [hk] at hj
    refine ⟨0 + es.toList.length, ?_⟩
    rw [findNow_snoc, hj]
    simp [Instr.findNow, Instr.sameNow]
  · refine ⟨j, ?_⟩
    rw [findNow_snoc, hj, if_neg hz]
    cases hg : g z with
    | none =>
      simp only [Option.map_none]
      have : Instr.sameNow (.int .i64) (.int .i64 z) (.int .i64 k) = some false := by simp [Instr.sameNow, hz]
      simp [Instr.findNow, this]
    | some v' => simp

variable {P : Program} {w : World} {T K E : TypeId} {b : Nat} {es : Array MapEntry} {clock : Nat} {g : Int → Option Value}

theorem run_insert_new (ht : P.underlying T = some (.map K E)) (hk : P.underlying K = some (.int .i64)) (hb : w.heap[b]? = some (.map es clock)) (hm : MapIs es g) {k : Int} (hg : g k = Option.none) (v : Value) :
    (Instr.mapUpdate T (.map (some b)) (.int .i64 k) v).run P w = .ok () (Go.ChangeMaps.setBlock w b (.map (es.push { key := .int .i64 k, val := v, born := clock }) (clock + 1))) := by
  obtain ⟨j, hj⟩ := hm k
  rw [hg] at hj
  simp [Instr.mapUpdate, run_underlying ht, MapKept.run_getObj_map hb, MapKept.run_checkKey hk (show MapKept.IsKey (.int .i64) (.int .i64 k) from rfl), MapKept.run_findKey hk hj, MapKept.run_setObj_map _ hb, Result.andThen, Go.ChangeMaps.setBlock]

theorem run_lookup_at (ht : P.underlying T = some (.map K E)) (hk : P.underlying K = some (.int .i64)) (hb : w.heap[b]? = some (.map es clock)) (hm : MapIs es g) {k : Int} {v : Value} (hg : g k = some v) :
    (Instr.lookup T (.map (some b)) (.int .i64 k) false).run P w = .ok v w := by
  obtain ⟨j, hj⟩ := hm k
  rw [hg] at hj
  simp [Instr.lookup, run_underlying ht, MapKept.run_getObj_map hb, MapKept.run_checkKey hk (show MapKept.IsKey (.int .i64) (.int .i64 k) from rfl), MapKept.run_findKey hk hj, Result.andThen]

/-! ### the literal's region: a map, four entries, three calls one behind the other -/
def litL (m : Bool) (c : Nat) (b0 b1 b2 b3 : Bool) : Array Bool :=
  #[m, true, b0, true, true, true, decide (1 ≤ c), b1, true, true, true, decide (2 ≤ c), b2, true, true, true, decide (3 ≤ c), b3, false, false]
def litChk (m : Bool) (c : Nat) (b0 b1 b2 b3 : Bool) (i : Nat) : Bool :=
  (i == 0 && !m) || (i == 6 && c == 0) || (i == 11 && c == 1) || (i == 16 && c == 2) || (i == 2 && m && !b0) || (i == 7 && m && !b1 && decide (1 ≤ c)) || (i == 12 && m && !b2 && decide (2 ≤ c)) || (i == 17 && m && !b3 && decide (3 ≤ c)) || (i == 18 && m && c == 3 && b0 && b1 && b2 && b3)
def litCount (m : Bool) (c : Nat) (b0 b1 b2 b3 : Bool) : Nat := (!m).toNat + (3 - c) + (!b0).toNat + (!b1).toNat + (!b2).toNat + (!b3).toNat

section
variable {ops : Array Oper} {Q : Exit → Act → World → Prop} {md : Region.Mode} {S : World → Prop}

theorem lit_region (I : Bool → Nat → Bool → Bool → Bool → Bool → Act → World → Prop) (hS : ∀ {m c b0 b1 b2 b3 a w}, I m c b0 b1 b2 b3 a w → S w)
    (hr : ∀ (m b0 b1 b2 b3 : Bool) (c : Fin 4), (!(Region.ready md ops (litL m c.val b0 b1 b2 b3)).isEmpty && (Region.ready md ops (litL m c.val b0 b1 b2 b3)).all (litChk m c.val b0 b1 b2 b3)) = true)
    (make : ∀ c b0 b1 b2 b3 a w, I false c b0 b1 b2 b3 a w → wpOp P ops Q 0 (I true c b0 b1 b2 b3) a w)
    (call1 : ∀ m b0 b1 b2 b3 a w, I m 0 b0 b1 b2 b3 a w → wpOp P ops Q 6 (I m 1 b0 b1 b2 b3) a w)
    (call2 : ∀ m b0 b1 b2 b3 a w, I m 1 b0 b1 b2 b3 a w → wpOp P ops Q 11 (I m 2 b0 b1 b2 b3) a w)
    (call3 : ∀ m b0 b1 b2 b3 a w, I m 2 b0 b1 b2 b3 a w → wpOp P ops Q 16 (I m 3 b0 b1 b2 b3) a w)
    (put0 : ∀ c b1 b2 b3 a w, I true c false b1 b2 b3 a w → wpOp P ops Q 2 (I true c true b1 b2 b3) a w)
    (put1 : ∀ c b0 b2 b3 a w, 1 ≤ c → I true c b0 false b2 b3 a w → wpOp P ops Q 7 (I true c b0 true b2 b3) a w)
    (put2 : ∀ c b0 b1 b3 a w, 2 ≤ c → I true c b0 b1 false b3 a w → wpOp P ops Q 12 (I true c b0 b1 true b3) a w)
    (put3 : ∀ c b0 b1 b2 a w, 3 ≤ c → I true c b0 b1 b2 false a w → wpOp P ops Q 17 (I true c b0 b1 b2 true) a w)
    (fin : ∀ a w, I true 3 true true true true a w → wpOp P ops Q 18 (fun a' w' => anyL P md ops Q S 18 1 ((litL true 3 true true true true).setIfInBounds 18 true) a' w') a w) :
    ∀ n m c b0 b1 b2 b3 a w, c ≤ 3 → litCount m c b0 b1 b2 b3 = n → I m c b0 b1 b2 b3 a w → anyL P md ops Q S 18 (n + 2) (litL m c b0 b1 b2 b3) a w := by
  intro n
  induction n with
  | zero =>
    intro m c b0 b1 b2 b3 a w hc hn hI
    have hz : m = true ∧ c = 3 ∧ b0 = true ∧ b1 = true ∧ b2 = true ∧ b3 = true := by
      unfold litCount at hn
      cases m <;> cases b0 <;> cases b1 <;> cases b2 <;> cases b3 <;> simp at hn ⊢ <;> omega
    obtain ⟨rfl, rfl, rfl, rfl, rfl, rfl⟩ := hz
    have h := hr true true true true true ⟨3, by omega⟩
    rw [Bool.and_eq_true] at h
    refine ⟨fun h0 => ?_, fun i hi => ?_⟩
    · simp only at h; rw [h0] at h; simp at h
    · have hk := List.all_eq_true.1 h.2 i hi
      simp [litChk] at hk
      subst hk
      refine wpOp_mono (fun a' w' h' => ⟨fun hf => ?_, h'⟩) (fin a w hI)
      simp [litL] at hf
  | succ n ih =>
    intro m c b0 b1 b2 b3 a w hc hn hI
    have h := hr m b0 b1 b2 b3 ⟨c, by omega⟩
    rw [Bool.and_eq_true] at h
    refine ⟨fun h0 => ?_, fun i hi => ?_⟩
    · simp only at h; rw [h0] at h; simp at h
    · have hk := List.all_eq_true.1 h.2 i hi
      simp only [litChk, Bool.or_eq_true, Bool.and_eq_true, beq_iff_eq, Bool.not_eq_true', decide_eq_true_eq] at hk
      have next : ∀ m' c' b0' b1' b2' b3' a' w', c' ≤ 3 → litCount m' c' b0' b1' b2' b3' = n → (litL m c b0 b1 b2 b3).setIfInBounds i true = litL m' c' b0' b1' b2' b3' → I m' c' b0' b1' b2' b3' a' w' →
          ((((litL m c b0 b1 b2 b3).setIfInBounds i true).getD 18 true = false → S w') ∧ anyL P md ops Q S 18 (n + 2) ((litL m c b0 b1 b2 b3).setIfInBounds i true) a' w') := by
        intro m' c' b0' b1' b2' b3' a' w' hc' hn' hL hI'
        rw [hL]
        exact ⟨fun _ => hS hI', ih _ _ _ _ _ _ _ _ hc' hn' hI'⟩
      rcases hk with (((((((⟨rfl, rfl⟩ | ⟨rfl, rfl⟩) | ⟨rfl, rfl⟩) | ⟨rfl, rfl⟩) | ⟨⟨rfl, rfl⟩, rfl⟩) | ⟨⟨⟨rfl, rfl⟩, rfl⟩, hc1⟩) | ⟨⟨⟨rfl, rfl⟩, rfl⟩, hc1⟩) | ⟨⟨⟨rfl, rfl⟩, rfl⟩, hc1⟩) | ⟨⟨⟨⟨⟨⟨rfl, rfl⟩, rfl⟩, rfl⟩, rfl⟩, rfl⟩, rfl⟩
      · exact wpOp_mono (fun a' w' hI' => next true c b0 b1 b2 b3 a' w' hc (by unfold litCount at hn ⊢; simp at hn ⊢; omega) (by simp [litL]) hI') (make c b0 b1 b2 b3 a w hI)
      · exact wpOp_mono (fun a' w' hI' => next m 1 b0 b1 b2 b3 a' w' (by omega) (by unfold litCount at hn ⊢; omega) (by simp [litL]) hI') (call1 m b0 b1 b2 b3 a w hI)
      · exact wpOp_mono (fun a' w' hI' => next m 2 b0 b1 b2 b3 a' w' (by omega) (by unfold litCount at hn ⊢; omega) (by simp [litL]) hI') (call2 m b0 b1 b2 b3 a w hI)
      · exact wpOp_mono (fun a' w' hI' => next m 3 b0 b1 b2 b3 a' w' (by omega) (by unfold litCount at hn ⊢; omega) (by simp [litL]) hI') (call3 m b0 b1 b2 b3 a w hI)
      · exact wpOp_mono (fun a' w' hI' => next true c true b1 b2 b3 a' w' hc (by unfold litCount at hn ⊢; simp at hn ⊢; omega) (by simp [litL]) hI') (put0 c b1 b2 b3 a w hI)
      · exact wpOp_mono (fun a' w' hI' => next true c b0 true b2 b3 a' w' hc (by unfold litCount at hn ⊢; simp at hn ⊢; omega) (by simp [litL]) hI') (put1 c b0 b2 b3 a w hc1 hI)
      · exact wpOp_mono (fun a' w' hI' => next true c b0 b1 true b3 a' w' hc (by unfold litCount at hn ⊢; simp at hn ⊢; omega) (by simp [litL]) hI') (put2 c b0 b1 b3 a w hc1 hI)
      · exact wpOp_mono (fun a' w' hI' => next true c b0 b1 b2 true a' w' hc (by unfold litCount at hn ⊢; simp at hn ⊢; omega) (by simp [litL]) hI') (put3 c b0 b1 b2 a w hc1 hI)
      · simp [litCount] at hn
end
end Go.Proofs.YteegbjjpjdlcmaaDoor

/- What holds while a map literal of four entries, three of them calls, is being made. No program. -/
set_option linter.unusedVariables false
namespace Go.Proofs.YteegbjjpjdlcmaaDoor
open Go.RowKit

def litG (b0 b1 b2 b3 : Bool) (v0 v1 v2 v3 : Value) : Int → Option Value := fun z =>
  if z = 0 ∧ b0 = true then some v0 else if z = 1 ∧ b1 = true then some v1 else if z = 2 ∧ b2 = true then some v2 else if z = 3 ∧ b3 = true then some v3 else none

theorem litG_none (v0 v1 v2 v3 : Value) : litG false false false false v0 v1 v2 v3 = fun _ => none := by funext z; simp [litG]
theorem litG_0 (b1 b2 b3 : Bool) (v0 v1 v2 v3 : Value) : (fun z => if z = 0 then some v0 else litG false b1 b2 b3 v0 v1 v2 v3 z) = litG true b1 b2 b3 v0 v1 v2 v3 := by
  funext z; by_cases h : z = 0 <;> simp [litG, h]
theorem litG_1 (b0 b2 b3 : Bool) (v0 v1 v2 v3 : Value) : (fun z => if z = 1 then some v1 else litG b0 false b2 b3 v0 v1 v2 v3 z) = litG b0 true b2 b3 v0 v1 v2 v3 := by
  funext z; by_cases h : z = 1 <;> simp [litG, h]
theorem litG_2 (b0 b1 b3 : Bool) (v0 v1 v2 v3 : Value) : (fun z => if z = 2 then some v2 else litG b0 b1 false b3 v0 v1 v2 v3 z) = litG b0 b1 true b3 v0 v1 v2 v3 := by
  funext z; by_cases h : z = 2 <;> simp [litG, h]
theorem litG_3 (b0 b1 b2 : Bool) (v0 v1 v2 v3 : Value) : (fun z => if z = 3 then some v3 else litG b0 b1 b2 false v0 v1 v2 v3 z) = litG b0 b1 b2 true v0 v1 v2 v3 := by
  funext z; by_cases h : z = 3 <;> simp [litG, h]

section
variable (W0 : World) (TF : TypeId) (F0 : Value) (V : Nat → Value) (fn1 fn2 fn3 : Value) (T : Value → Value → Value → Value → Array Value)

def LitI (m : Bool) (c : Nat) (b0 b1 b2 b3 : Bool) (a : Act) (w : World) : Prop :=
  ∃ mb es clock c1 c2 c3, Below W0.heap.size W0 w ∧
    a = { tmps := T (if m = true then .map (some mb) else undef) (if 1 ≤ c then V c1 else undef) (if 2 ≤ c then V c2 else undef) (if 3 ≤ c then V c3 else undef), defers := [] } ∧
    (m = true → W0.heap.size ≤ mb ∧ w.heap[mb]? = some (.map es clock) ∧ MapIs es (litG b0 b1 b2 b3 F0 (V c1) (V c2) (V c3))) ∧
    (m = false → b0 = false ∧ b1 = false ∧ b2 = false ∧ b3 = false) ∧
    (1 ≤ c → W0.heap.size ≤ c1 ∧ w.heap[c1]? = some (.cells #[fn1] TF (0, 0))) ∧ (2 ≤ c → W0.heap.size ≤ c2 ∧ w.heap[c2]? = some (.cells #[fn2] TF (0, 0))) ∧ (3 ≤ c → W0.heap.size ≤ c3 ∧ w.heap[c3]? = some (.cells #[fn3] TF (0, 0))) ∧
    (b1 = true → 1 ≤ c) ∧ (b2 = true → 2 ≤ c) ∧ (b3 = true → 3 ≤ c)

variable {W0 TF F0 V fn1 fn2 fn3 T} {m : Bool} {c : Nat} {b0 b1 b2 b3 : Bool} {a : Act} {w : World}

theorem LitI.bel (h : LitI W0 TF F0 V fn1 fn2 fn3 T m c b0 b1 b2 b3 a w) : Below W0.heap.size W0 w := by obtain ⟨_, _, _, _, _, _, h, _⟩ := h; exact h

theorem LitI.start (hb : Below W0.heap.size W0 w) (ha : a = { tmps := T undef undef undef undef, defers := [] }) : LitI W0 TF F0 V fn1 fn2 fn3 T false 0 false false false false a w :=
  ⟨0, #[], 0, 0, 0, 0, hb, by rw [ha]; simp, by simp, by simp, by simp, by simp, by simp, by simp, by simp, by simp⟩

theorem LitI.made (h : LitI W0 TF F0 V fn1 fn2 fn3 T false c b0 b1 b2 b3 a w) : ∃ x1 x2 x3, a = { tmps := T undef x1 x2 x3, defers := [] } ∧
    LitI W0 TF F0 V fn1 fn2 fn3 T true c b0 b1 b2 b3 { tmps := T (.map (some w.heap.size)) x1 x2 x3, defers := [] } (w.alloc (.map #[] 0)) := by
  obtain ⟨mb, es, ck, c1, c2, c3, hB, ha, -, h2, h3, h4, h5, h6, h7, h8⟩ := h
  refine ⟨_, _, _, by rw [ha]; rfl, w.heap.size, #[], 0, c1, c2, c3, hB.alloc hB.size _, by simp, fun _ => ⟨hB.size, heap_alloc_new w _, ?_⟩, by simp, fun h => ?_, fun h => ?_, fun h => ?_, h6, h7, h8⟩
  · obtain ⟨rfl, rfl, rfl, rfl⟩ := h2 rfl
    rw [litG_none]; exact MapIs.none
  · exact ⟨(h3 h).1, by rw [Below.heap_alloc w _ _ (lt_of_block (h3 h).2)]; exact (h3 h).2⟩
  · exact ⟨(h4 h).1, by rw [Below.heap_alloc w _ _ (lt_of_block (h4 h).2)]; exact (h4 h).2⟩
  · exact ⟨(h5 h).1, by rw [Below.heap_alloc w _ _ (lt_of_block (h5 h).2)]; exact (h5 h).2⟩

theorem LitI.call1 (h : LitI W0 TF F0 V fn1 fn2 fn3 T m 0 b0 b1 b2 b3 a w) : ∃ x0, a = { tmps := T x0 undef undef undef, defers := [] } ∧
    LitI W0 TF F0 V fn1 fn2 fn3 T m 1 b0 b1 b2 b3 { tmps := T x0 (V w.heap.size) undef undef, defers := [] } (w.alloc (.cells #[fn1] TF)) := by
  obtain ⟨mb, es, ck, c1, c2, c3, hB, ha, h1, h2, h3, h4, h5, h6, h7, h8⟩ := h
  have e1 : b1 = false := by cases b1 with | true => have := h6 rfl; omega | false => rfl
  refine ⟨_, by rw [ha]; rfl, mb, es, ck, w.heap.size, c2, c3, hB.alloc hB.size _, rfl, fun h => ⟨(h1 h).1, by rw [Below.heap_alloc w _ _ (lt_of_block (h1 h).2.1)]; exact (h1 h).2.1, ?_⟩, h2, fun h => ⟨hB.size, heap_alloc_new w _⟩, by omega, by omega, fun _ => Nat.le_refl _, fun h => by have := h7 h; omega, fun h => by have := h8 h; omega⟩
  have := (h1 h).2.2
  subst e1
  have he : litG b0 false b2 b3 F0 (V w.heap.size) (V c2) (V c3) = litG b0 false b2 b3 F0 (V c1) (V c2) (V c3) := by funext z; simp [litG]
  rw [he]; exact this

theorem LitI.call2 (h : LitI W0 TF F0 V fn1 fn2 fn3 T m 1 b0 b1 b2 b3 a w) : ∃ x0 x1, a = { tmps := T x0 x1 undef undef, defers := [] } ∧
    LitI W0 TF F0 V fn1 fn2 fn3 T m 2 b0 b1 b2 b3 { tmps := T x0 x1 (V w.heap.size) undef, defers := [] } (w.alloc (.cells #[fn2] TF)) := by
  obtain ⟨mb, es, ck, c1, c2, c3, hB, ha, h1, h2, h3, h4, h5, h6, h7, h8⟩ := h
  have e1 : b2 = false := by cases b2 with | true => have := h7 rfl; omega | false => rfl
  refine ⟨_, _, by rw [ha]; rfl, mb, es, ck, c1, w.heap.size, c3, hB.alloc hB.size _, rfl, fun h => ⟨(h1 h).1, by rw [Below.heap_alloc w _ _ (lt_of_block (h1 h).2.1)]; exact (h1 h).2.1, ?_⟩, h2, fun _ => ?_, fun h => ⟨hB.size, heap_alloc_new w _⟩, by omega, fun _ => by omega, fun _ => Nat.le_refl _, fun h => by have := h8 h; omega⟩
  · have := (h1 h).2.2
    subst e1
    have he : litG b0 b1 false b3 F0 (V c1) (V w.heap.size) (V c3) = litG b0 b1 false b3 F0 (V c1) (V c2) (V c3) := by funext z; simp [litG]
    rw [he]; exact this
  · have h := h3 (Nat.le_refl _)
    exact ⟨h.1, by rw [Below.heap_alloc w _ _ (lt_of_block h.2)]; exact h.2⟩

theorem LitI.call3 (h : LitI W0 TF F0 V fn1 fn2 fn3 T m 2 b0 b1 b2 b3 a w) : ∃ x0 x1 x2, a = { tmps := T x0 x1 x2 undef, defers := [] } ∧
    LitI W0 TF F0 V fn1 fn2 fn3 T m 3 b0 b1 b2 b3 { tmps := T x0 x1 x2 (V w.heap.size), defers := [] } (w.alloc (.cells #[fn3] TF)) := by
  obtain ⟨mb, es, ck, c1, c2, c3, hB, ha, h1, h2, h3, h4, h5, h6, h7, h8⟩ := h
  have e1 : b3 = false := by cases b3 with | true => have := h8 rfl; omega | false => rfl
  refine ⟨_, _, _, by rw [ha]; rfl, mb, es, ck, c1, c2, w.heap.size, hB.alloc hB.size _, rfl, fun h => ⟨(h1 h).1, by rw [Below.heap_alloc w _ _ (lt_of_block (h1 h).2.1)]; exact (h1 h).2.1, ?_⟩, h2, fun _ => ?_, fun _ => ?_, fun h => ⟨hB.size, heap_alloc_new w _⟩, fun _ => by omega, fun _ => by omega, fun _ => Nat.le_refl _⟩
  · have := (h1 h).2.2
    subst e1
    have he : litG b0 b1 b2 false F0 (V c1) (V c2) (V w.heap.size) = litG b0 b1 b2 false F0 (V c1) (V c2) (V c3) := by funext z; simp [litG]
    rw [he]; exact this
  · have h := h3 (by omega)
    exact ⟨h.1, by rw [Below.heap_alloc w _ _ (lt_of_block h.2)]; exact h.2⟩
  · have h := h4 (by omega)
    exact ⟨h.1, by rw [Below.heap_alloc w _ _ (lt_of_block h.2)]; exact h.2⟩

/-- an entry is put into the map. -/
theorem setBlock_at {w : World} {b : Nat} {o o' : Obj} (hb : w.heap[b]? = some o) : (Go.ChangeMaps.setBlock w b o').heap[b]? = some o' ∧ ∀ b', b' ≠ b → (Go.ChangeMaps.setBlock w b o').heap[b']? = w.heap[b']? := MapKept.heap_set hb
theorem below_setBlock {B : Nat} {W w : World} (h : Below B W w) {b : Nat} (hb : B ≤ b) (o : Obj) : Below B W (Go.ChangeMaps.setBlock w b o) :=
  ⟨h.os, h.tape, h.output, by have := h.size; simpa [Go.ChangeMaps.setBlock] using this, fun k hk => by
    rw [← h.block k hk]
    simp [Go.ChangeMaps.setBlock, show b ≠ k from by omega]⟩

theorem keepMap {w : World} {mb g : Nat} {es : Array MapEntry} {ck : Nat} {cs : Array Value} {t : TypeId} {o : Obj} (hm : w.heap[mb]? = some (.map es ck)) (hg : w.heap[g]? = some (.cells cs t (0, 0))) : (Go.ChangeMaps.setBlock w mb o).heap[g]? = some (.cells cs t (0, 0)) := by
  rw [(setBlock_at hm).2 g (by rintro rfl; rw [hm] at hg; cases hg)]; exact hg

theorem LitI.put0 (h : LitI W0 TF F0 V fn1 fn2 fn3 T true c false b1 b2 b3 a w) : ∃ mb es clock x1 x2 x3 g, a = { tmps := T (.map (some mb)) x1 x2 x3, defers := [] } ∧ w.heap[mb]? = some (.map es clock) ∧ MapIs es g ∧ g 0 = none ∧
    LitI W0 TF F0 V fn1 fn2 fn3 T true c true b1 b2 b3 { tmps := T (.map (some mb)) x1 x2 x3, defers := [] } (Go.ChangeMaps.setBlock w mb (.map (es.push { key := .int .i64 0, val := F0, born := clock }) (clock + 1))) := by
  obtain ⟨mb, es, ck, c1, c2, c3, hB, ha, h1, h2, h3, h4, h5, h6, h7, h8⟩ := h
  obtain ⟨g1, g2, g3⟩ := h1 rfl
  refine ⟨mb, es, ck, _, _, _, _, by rw [ha]; rfl, g2, g3, by simp [litG], mb, _, _, c1, c2, c3, below_setBlock hB g1 _, rfl, fun _ => ⟨g1, (setBlock_at g2).1, ?_⟩, by simp, fun h => ⟨(h3 h).1, keepMap g2 (h3 h).2⟩, fun h => ⟨(h4 h).1, keepMap g2 (h4 h).2⟩, fun h => ⟨(h5 h).1, keepMap g2 (h5 h).2⟩, h6, h7, h8⟩
  rw [← litG_0]; exact g3.push (by simp [litG]) _ _
theorem LitI.put1 (hc : 1 ≤ c) (h : LitI W0 TF F0 V fn1 fn2 fn3 T true c b0 false b2 b3 a w) : ∃ mb es clock x1 x2 x3 g, a = { tmps := T (.map (some mb)) x1 x2 x3, defers := [] } ∧ w.heap[mb]? = some (.map es clock) ∧ MapIs es g ∧ g 1 = none ∧
    LitI W0 TF F0 V fn1 fn2 fn3 T true c b0 true b2 b3 { tmps := T (.map (some mb)) x1 x2 x3, defers := [] } (Go.ChangeMaps.setBlock w mb (.map (es.push { key := .int .i64 1, val := x1, born := clock }) (clock + 1))) := by
  obtain ⟨mb, es, ck, c1, c2, c3, hB, ha, h1, h2, h3, h4, h5, h6, h7, h8⟩ := h
  obtain ⟨g1, g2, g3⟩ := h1 rfl
  refine ⟨mb, es, ck, V c1, _, _, _, by rw [ha, if_pos hc]; rfl, g2, g3, by simp [litG], mb, _, _, c1, c2, c3, below_setBlock hB g1 _, by rw [if_pos hc]; rfl, fun _ => ⟨g1, (setBlock_at g2).1, ?_⟩, by simp, fun h => ⟨(h3 h).1, keepMap g2 (h3 h).2⟩, fun h => ⟨(h4 h).1, keepMap g2 (h4 h).2⟩, fun h => ⟨(h5 h).1, keepMap g2 (h5 h).2⟩, fun _ => hc, h7, h8⟩
  rw [← litG_1]; exact g3.push (by simp [litG]) _ _
theorem LitI.put2 (hc : 2 ≤ c) (h : LitI W0 TF F0 V fn1 fn2 fn3 T true c b0 b1 false b3 a w) : ∃ mb es clock x1 x2 x3 g, a = { tmps := T (.map (some mb)) x1 x2 x3, defers := [] } ∧ w.heap[mb]? = some (.map es clock) ∧ MapIs es g ∧ g 2 = none ∧
    LitI W0 TF F0 V fn1 fn2 fn3 T true c b0 b1 true b3 { tmps := T (.map (some mb)) x1 x2 x3, defers := [] } (Go.ChangeMaps.setBlock w mb (.map (es.push { key := .int .i64 2, val := x2, born := clock }) (clock + 1))) := by
  obtain ⟨mb, es, ck, c1, c2, c3, hB, ha, h1, h2, h3, h4, h5, h6, h7, h8⟩ := h
  obtain ⟨g1, g2, g3⟩ := h1 rfl
  refine ⟨mb, es, ck, _, V c2, _, _, by rw [ha, if_pos hc]; rfl, g2, g3, by simp [litG], mb, _, _, c1, c2, c3, below_setBlock hB g1 _, by rw [if_pos hc]; rfl, fun _ => ⟨g1, (setBlock_at g2).1, ?_⟩, by simp, fun h => ⟨(h3 h).1, keepMap g2 (h3 h).2⟩, fun h => ⟨(h4 h).1, keepMap g2 (h4 h).2⟩, fun h => ⟨(h5 h).1, keepMap g2 (h5 h).2⟩, h6, fun _ => hc, h8⟩
  rw [← litG_2]; exact g3.push (by simp [litG]) _ _
theorem LitI.put3 (hc : 3 ≤ c) (h : LitI W0 TF F0 V fn1 fn2 fn3 T true c b0 b1 b2 false a w) : ∃ mb es clock x1 x2 x3 g, a = { tmps := T (.map (some mb)) x1 x2 x3, defers := [] } ∧ w.heap[mb]? = some (.map es clock) ∧ MapIs es g ∧ g 3 = none ∧
    LitI W0 TF F0 V fn1 fn2 fn3 T true c b0 b1 b2 true { tmps := T (.map (some mb)) x1 x2 x3, defers := [] } (Go.ChangeMaps.setBlock w mb (.map (es.push { key := .int .i64 3, val := x3, born := clock }) (clock + 1))) := by
  obtain ⟨mb, es, ck, c1, c2, c3, hB, ha, h1, h2, h3, h4, h5, h6, h7, h8⟩ := h
  obtain ⟨g1, g2, g3⟩ := h1 rfl
  refine ⟨mb, es, ck, _, _, V c3, _, by rw [ha, if_pos hc]; rfl, g2, g3, by simp [litG], mb, _, _, c1, c2, c3, below_setBlock hB g1 _, by rw [if_pos hc]; rfl, fun _ => ⟨g1, (setBlock_at g2).1, ?_⟩, by simp, fun h => ⟨(h3 h).1, keepMap g2 (h3 h).2⟩, fun h => ⟨(h4 h).1, keepMap g2 (h4 h).2⟩, fun h => ⟨(h5 h).1, keepMap g2 (h5 h).2⟩, h6, h7, fun _ => hc⟩
  rw [← litG_3]; exact g3.push (by simp [litG]) _ _

theorem LitI.done (h : LitI W0 TF F0 V fn1 fn2 fn3 T true 3 true true true true a w) : ∃ mb es clock c1 c2 c3, a = { tmps := T (.map (some mb)) (V c1) (V c2) (V c3), defers := [] } ∧ W0.heap.size ≤ mb ∧ w.heap[mb]? = some (.map es clock) ∧ MapIs es (litG true true true true F0 (V c1) (V c2) (V c3)) ∧
    (W0.heap.size ≤ c1 ∧ w.heap[c1]? = some (.cells #[fn1] TF (0, 0))) ∧ (W0.heap.size ≤ c2 ∧ w.heap[c2]? = some (.cells #[fn2] TF (0, 0))) ∧ (W0.heap.size ≤ c3 ∧ w.heap[c3]? = some (.cells #[fn3] TF (0, 0))) := by
  obtain ⟨mb, es, ck, c1, c2, c3, hB, ha, h1, h2, h3, h4, h5, h6, h7, h8⟩ := h
  obtain ⟨g1, g2, g3⟩ := h1 rfl
  exact ⟨mb, es, ck, c1, c2, c3, by rw [ha]; rfl, g1, g2, g3, h3 (by omega), h4 (by omega), h5 (by omega)⟩
end

section
variable {P : Program} {ops : Array Oper} {Q : Exit → Act → World → Prop} {md : Region.Mode} {S : World → Prop}
theorem anyL_listed {last fuel : Nat} {listed listed' : Array Bool} {a : Act} {w : World} (he : listed = listed') (h : anyL P md ops Q S last fuel listed' a w) : anyL P md ops Q S last fuel listed a w := by rw [he]; exact h

/-- a look into a map. -/
theorem wpList_lookup_run {w : World} {rest : List Oper} {o : Oper} {a : Act} (hgd : o.guard = none) (m x : Operand) (t : TypeId) (ho : o.op = .lookup t m x false) (mv xv : Value) (hm : a.eval m = mv) (hx : a.eval x = xv) (v : Value) (hr : (Instr.lookup t mv xv false).run P w = .ok v w)
    (h : wpList P ops Q rest (a.put o.dst v) w) : wpList P ops Q (o :: rest) a w := by
  refine wpList_plain hgd fun K hK => ?_
  unfold Oper.wp execOp
  simp only [ho, hm, hx, Sem.run_bind, hr, Result.andThen_ok, Sem.run_pure]
  exact hK _ _ h
end
end Go.Proofs.YteegbjjpjdlcmaaDoor
