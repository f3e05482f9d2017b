/- PerfI1, PerfI2, PerfI3: in one text. -/
import Derived.Test.YteegbjjpjdlcmaaDoorEvalLaw
import Derived.Test.YteegbjjpjdlcmaaDoorHeld3
import Derived.Test.YteegbjjpjdlcmaaDoorFnAll
import Derived.Test.YteegbjjpjdlcmaaDoorOwn
import Derived.Test.YteegbjjpjdlcmaaDoorPostFns
import Derived.Shelf.Abstract
import Derived.Laws.EntriesVeiled
import Derived.Test.YteegbjjpjdlcmaaDoorElem
import Derived.Deep.Cut
/- eval.perform at []int: its stack. -/
set_option linter.unusedVariables false
namespace Go.Proofs.YteegbjjpjdlcmaaDoor
open Go.RowKit Go.Sort

/-! ### what is picked of posting lists is one -/
theorem pickGo_mem (keep : Int → Bool → Bool → Bool) : ∀ (f : Nat) (a b : List Int), ∀ z ∈ pickGo keep f a b, z ∈ a ∨ z ∈ b := by
  intro f
  induction f with
  | zero => intro a b z hz; simp [pickGo] at hz
  | succ f ih =>
    intro a b z hz
    have one : ∀ (c : Bool) (x : Int) (r : List Int), z ∈ (if c = true then [x] else []) ++ r → z = x ∨ z ∈ r := by
      intro c x r h
      rw [List.mem_append] at h
      rcases h with h | h
      · split at h
        · exact .inl (by simpa using h)
        · cases h
      · exact .inr h
    match a, b with
    | [], [] => simp [pickGo] at hz
    | x :: a, [] =>
      simp only [pickGo] at hz
      rcases one _ _ _ hz with rfl | h
      · simp
      · rcases ih _ _ _ h with h | h
        · simp [h]
        · cases h
    | [], y :: b =>
      simp only [pickGo] at hz
      rcases one _ _ _ hz with rfl | h
      · simp
      · rcases ih _ _ _ h with h | h
        · simp at h
        · simp [h]
    | x :: a, y :: b =>
      simp only [pickGo] at hz
      split at hz
      · rcases one _ _ _ hz with rfl | h
        · simp
        · rcases ih _ _ _ h with h | h
          · simp [h]
          · exact .inr h
      · split at hz
        · rcases one _ _ _ hz with rfl | h
          · simp
          · rcases ih _ _ _ h with h | h
            · exact .inl h
            · simp [h]
        · rcases one _ _ _ hz with rfl | h
          · simp
          · rcases ih _ _ _ h with h | h <;> simp [h]

theorem pickGo_rise (keep : Int → Bool → Bool → Bool) : ∀ (f : Nat) (a b : List Int), a.Pairwise (· < ·) → b.Pairwise (· < ·) → (pickGo keep f a b).Pairwise (· < ·) := by
  intro f
  induction f with
  | zero => intro a b _ _; simp [pickGo]
  | succ f ih =>
    intro a b ha hb
    have one : ∀ (c : Bool) (x : Int) (r : List Int), r.Pairwise (· < ·) → (∀ z ∈ r, x < z) → ((if c = true then [x] else []) ++ r).Pairwise (· < ·) := by
      intro c x r h1 h2
      split
      · exact List.pairwise_cons.2 ⟨h2, h1⟩
      · exact h1
    match a, b with
    | [], [] => simp [pickGo]
    | x :: a, [] =>
      simp only [pickGo]
      have hx := List.pairwise_cons.1 ha
      refine one _ _ _ (ih a [] hx.2 hb) fun z hz => ?_
      rcases pickGo_mem keep f a [] z hz with h | h
      · exact hx.1 z h
      · cases h
    | [], y :: b =>
      simp only [pickGo]
      have hy := List.pairwise_cons.1 hb
      refine one _ _ _ (ih [] b ha hy.2) fun z hz => ?_
      rcases pickGo_mem keep f [] b z hz with h | h
      · cases h
      · exact hy.1 z h
    | x :: a, y :: b =>
      have hx := List.pairwise_cons.1 ha
      have hy := List.pairwise_cons.1 hb
      simp only [pickGo]
      split
      · rename_i hlt
        refine one _ _ _ (ih a (y :: b) hx.2 hb) fun z hz => ?_
        rcases pickGo_mem keep f a (y :: b) z hz with h | h
        · exact hx.1 z h
        · rcases List.mem_cons.1 h with rfl | h
          · exact hlt
          · have := hy.1 z h; omega
      · split
        · rename_i h0 hlt
          refine one _ _ _ (ih (x :: a) b ha hy.2) fun z hz => ?_
          rcases pickGo_mem keep f (x :: a) b z hz with h | h
          · rcases List.mem_cons.1 h with rfl | h
            · exact hlt
            · have := hx.1 z h; omega
          · exact hy.1 z h
        · rename_i h0 h1
          refine one _ _ _ (ih a b hx.2 hy.2) fun z hz => ?_
          rcases pickGo_mem keep f a b z hz with h | h
          · have := hx.1 z h; omega
          · exact hy.1 z h

theorem pickL_right (keep : Int → Bool → Bool → Bool) {a b : List Int} (ha : postRight a = true) (hb : postRight b = true) : postRight (pickL keep a b) = true := by
  rw [postRight_iff] at ha hb ⊢
  refine ⟨pickGo_rise keep _ a b ha.1 hb.1, fun z hz => ?_⟩
  rcases pickGo_mem keep _ a b z hz with h | h
  · exact ha.2 z h
  · exact hb.2 z h

theorem rise_len : ∀ (l : List Int) (p : Int), l.Pairwise (· < ·) → (∀ x ∈ l, p ≤ x ∧ x < 1000) → (l.length : Int) ≤ if p < 1000 then 1000 - p else 0 := by
  intro l
  induction l with
  | nil => intro p _ _; simp; split <;> omega
  | cons x l ih =>
    intro p hp hb
    have h1 := List.pairwise_cons.1 hp
    have hx := hb x (by simp)
    have := ih (x + 1) h1.2 (fun z hz => ⟨by have := h1.1 z hz; omega, (hb z (by simp [hz])).2⟩)
    simp only [List.length_cons]
    split at this <;> split <;> omega
theorem postRight_len {l : List Int} (h : postRight l = true) : l.length ≤ 1000 := by
  rw [postRight_iff] at h
  have := rise_len l 0 h.1 (fun x hx => h.2 x hx)
  simp at this
  omega

def opI (k : Int) (x y : List Int) : List Int := pickL (if k = 1 then keepBoth else if k = 2 then keepEither else keepBut) x y
theorem opI_right (k : Int) {x y : List Int} (hx : postRight x = true) (hy : postRight y = true) : postRight (opI k x y) = true := pickL_right _ hx hy

/-! ### the stack -/
theorem twoI_any (g sb : Nat) (W : World) : Calls Tryd.prog 67 #[.func (.func g) #[] #[], .pointer (some ⟨sb, 0, none⟩)] W fun e w' =>
    e = .returned (.func (.func 68) #[] #[.pointer (some ⟨sb, 0, none⟩), .pointer (some ⟨W.heap.size, 0, none⟩)]) ∧ w' = W.alloc (.cells #[.func (.func g) #[] #[]] 83) := by
  have hmf : ∀ (fn : Fn) (first cap : Array Value) (w : World), (Instr.makeFunc fn first cap).run Tryd.prog w = .ok (.func fn first cap) w := fun _ _ _ _ => rfl
  go_enter Tryd.func67, Tryd.ntmps67
  go_wp2
  go_ret
  exact ⟨rfl, rfl⟩

/-- what lies on the stack: a slice of the call's own, not the stack's own row. -/
def EltI (B : Nat) (W : World) (sv xv : Value) (x : List Int) : Prop := W.ownsRow B 3 1 xv x.length (icells x) ∧ postRight x = true ∧ ∀ g, xv.ownBlock = some g → sv.ownBlock ≠ some g
def EltsI (B : Nat) (W : World) (sv : Value) : List Value → List (List Int) → Prop
  | [], [] => True
  | v :: vs, x :: xs => EltI B W sv v x ∧ EltsI B W sv vs xs
  | _, _ => False

theorem EltI.keep {B : Nat} {W W' : World} {sv sv' xv : Value} {x : List Int} (h : EltI B W sv xv x) (hb : ∀ g, B ≤ g → g < W.heap.size → sv.ownBlock ≠ some g → W'.heap[g]? = W.heap[g]? ∧ sv'.ownBlock ≠ some g) : EltI B W' sv' xv x :=
  ⟨own_keep h.1 fun g hg => (hb g (h.1.lt g hg).1 (h.1.lt g hg).2 (h.2.2 g hg)).1, h.2.1, fun g hg => (hb g (h.1.lt g hg).1 (h.1.lt g hg).2 (h.2.2 g hg)).2⟩
theorem EltsI.keep {B : Nat} {W W' : World} {sv sv' : Value} (hb : ∀ g, B ≤ g → g < W.heap.size → sv.ownBlock ≠ some g → W'.heap[g]? = W.heap[g]? ∧ sv'.ownBlock ≠ some g) : ∀ {vs : List Value} {xs : List (List Int)}, EltsI B W sv vs xs → EltsI B W' sv' vs xs
  | [], [], _ => trivial
  | _ :: _, _ :: _, h => ⟨h.1.keep hb, EltsI.keep hb h.2⟩
  | [], _ :: _, h => h.elim
  | _ :: _, [], h => h.elim
theorem EltsI.len {B : Nat} {W : World} {sv : Value} : ∀ {vs : List Value} {xs : List (List Int)}, EltsI B W sv vs xs → vs.length = xs.length
  | [], [], _ => rfl
  | _ :: _, _ :: _, h => by simp [EltsI.len h.2]
  | [], _ :: _, h => h.elim
  | _ :: _, [], h => h.elim

/-- the stack: its variable, its row, what lies on it, the rest as it was. -/
structure StkI (W1 W : World) (sb : Nat) (sv : Value) (n : Nat) (st : List (List Int)) : Prop where
  var : W.heap[sb]? = some (.cells #[sv] 39 (0, 0))
  ex : ∃ vs, W.ownsRow W1.heap.size 41 1 sv n vs.reverse ∧ EltsI W1.heap.size W sv vs st
  len : st.length = n
  keep : ∀ b, b < W1.heap.size → b ≠ sb → W.heap[b]? = W1.heap[b]?
  size : W1.heap.size ≤ W.heap.size
  lt : sb < W1.heap.size
  bel : Below sb W1 W

theorem StkI.own {W1 W : World} {sb : Nat} {sv : Value} {n : Nat} {st : List (List Int)} (h : StkI W1 W sb sv n st) : W.ownsRow W1.heap.size 41 1 sv n (Classical.choose h.ex).reverse := (Classical.choose_spec h.ex).1
theorem StkI.cell_keep {W1 W : World} {sb : Nat} {sv : Value} {n : Nat} {st : List (List Int)} (h : StkI W1 W sb sv n st) (b o : Nat) (h1 : b < W1.heap.size) (h2 : b ≠ sb) : W.cell? ⟨b, o, none⟩ = W1.cell? ⟨b, o, none⟩ := by
  have := h.keep b h1 h2
  simp only [World.cell?, this]
theorem StkI.start {W : World} {sb : Nat} (hv : W.heap[sb]? = some (.cells #[.slice none 0 0] 39 (0, 0))) : StkI W W sb (.slice none 0 0) 0 [] :=
  ⟨hv, ⟨[], World.ownsRow_nil _ _ _ _, trivial⟩, rfl, fun _ _ _ => rfl, Nat.le_refl _, lt_of_block hv, Below.refl _ _⟩

theorem infoInts' : (Tryd.prog.info? 41).map (fun i => (i.zero, i.size, i.bytes)) = some (some (.slice none 0 0), 1, 24) := by kernel_rfl

theorem StkI.below {W1 W W' : World} {sb : Nat} {sv : Value} {n : Nat} {st : List (List Int)} (h : StkI W1 W sb sv n st) (hb : Below W.heap.size W W') : StkI W1 W' sb sv n st := by
  obtain ⟨vs, ho, he⟩ := h.ex
  exact ⟨by rw [hb.block _ (by have := h.size; have := h.lt; omega)]; exact h.var, ⟨vs, own_below ho hb, he.keep fun g _ h2 h3 => ⟨hb.block g h2, h3⟩⟩, h.len, fun b h1 h2 => by rw [hb.block b (by have := h.size; omega)]; exact h.keep b h1 h2, by have := h.size; have := hb.size; omega, h.lt, h.bel.trans (hb.mono (by have := h.size; have := h.lt; omega))⟩

/-- behind an append and the store of what it gave. -/
theorem StkI.next {W1 W Wc Wa : World} {sb : Nat} {sv sv' xv : Value} {n n' : Nat} {st st' : List (List Int)} {vs' : List Value} {x : List Int} (h : StkI W1 W sb sv n st) (hc : Below W.heap.size W Wc) {rv : Value} (hrv : rv.ownBlock = sv.ownBlock) (hg : Wc.grownBy Wa rv.ownBlock)
    (hv : sv'.ownBlock = rv.ownBlock ∨ sv'.ownBlock = some Wc.heap.size) (he : EltsI W1.heap.size W sv vs' st') (hx : Wc.ownsRow W.heap.size 3 1 xv x.length (icells x)) (hxr : postRight x = true)
    (hown : Wa.ownsRow W1.heap.size 41 1 sv' n' (vs'.reverse ++ [xv])) (hn : st'.length + 1 = n') :
    StkI W1 (Wa.setCell ⟨sb, 0, none⟩ sv') sb sv' n' (x :: st') := by
  have hsz := hc.size
  have hs1 := h.size
  have hlt := h.lt
  have hga := hg.size
  have hsvb : ∀ g, sv.ownBlock = some g → W1.heap.size ≤ g := fun g hg => (h.own.lt g hg).1
  have hsvw : ∀ g, sv.ownBlock = some g → g < W.heap.size := fun g hg => (h.own.lt g hg).2
  have hvar : Wa.heap[sb]? = some (.cells #[sv] 39 (0, 0)) := by
    rw [hg.block sb (by omega) (by rw [hrv]; intro e; have := hsvb sb e.symm; omega), hc.block sb (by omega)]
    exact h.var
  have hset := heap_setCell_same Wa sb 0 _ _ sv' hvar
  have hoth : ∀ g, g ≠ sb → (Wa.setCell ⟨sb, 0, none⟩ sv').heap[g]? = Wa.heap[g]? := fun g hg => heap_setCell_other _ _ _ _ (by simpa using hg)
  refine ⟨by rw [hset]; rfl, ⟨xv :: vs', by rw [List.reverse_cons]; exact own_keep hown fun g hg' => hoth g (by have := (hown.lt g hg').1; omega), ⟨?_, hxr, ?_⟩, he.keep fun g h1 h2 h3 => ⟨?_, ?_⟩⟩, by simpa using hn, fun b h1 h2 => ?_, ?_, hlt, ?_⟩
  · refine own_keep (own_mono hx (by omega) |> fun q => own_keep q (w' := Wa) fun g hg' => ?_) fun g hg' => hoth g (by have := (hx.lt g hg').1; omega)
    have hl := hx.lt g hg'
    exact hg.block g hl.2 (by rw [hrv]; intro e; have := hsvw g e.symm; omega)
  · intro g hg'
    have hl := hx.lt g hg'
    rcases hv with hv | hv
    · rw [hv, hrv]; intro e; have := hsvw g e; omega
    · rw [hv]; intro e; simp only [Option.some.injEq] at e; omega
  · rw [hoth g (by omega), hg.block g (by omega) (by rw [hrv]; exact fun e => h3 e.symm), hc.block g h2]
  · rcases hv with hv | hv
    · rw [hv, hrv]; exact h3
    · rw [hv]; intro e; simp only [Option.some.injEq] at e; omega
  · rw [hoth b h2, hg.block b (by omega) (by rw [hrv]; intro e; have := hsvb b e.symm; omega), hc.block b (by omega)]
    exact h.keep b h1 h2
  · rw [setCell_nblk]; omega
  · exact ((h.bel.trans (hc.mono (by omega))).grown hg (by omega) (fun j hj => by rw [hrv] at hj; have := hsvb j hj; omega)).setCell (Nat.le_refl _) _

theorem StkI.var7 {W1 W Wc Wa : World} {sb : Nat} {sv : Value} {n : Nat} {st : List (List Int)} (h : StkI W1 W sb sv n st) (hc : Below W.heap.size W Wc) (hg : Wc.grownBy Wa sv.ownBlock) : Wa.heap[sb]? = some (.cells #[sv] 39 (0, 0)) := by
  have := hc.size
  have := h.size
  have := h.lt
  rw [hg.block sb (by omega) (by intro e; have := (h.own.lt sb e.symm).1; omega), hc.block sb (by omega)]
  exact h.var
theorem StkI.turned {W1 W Wc Wa : World} {sb : Nat} {sv : Value} {n : Nat} {st : List (List Int)} (h : StkI W1 W sb sv n st) (hc : Below W.heap.size W Wc) (hg : Wc.grownBy Wa sv.ownBlock) (v : Value) : Below sb W (Wa.setCell ⟨sb, 0, none⟩ v) := by
  have := hc.size
  have := h.size
  have := h.lt
  have h1 : Below sb W Wc := hc.mono (by omega)
  have h2 : Below sb W Wa := h1.grown hg (by omega) (fun j hj => by have := (h.own.lt j hj).1; omega)
  exact h2.setCell (Nat.le_refl _) _

/-- a closure has been called: the stack is this one now. -/
def TurnsI (W1 W : World) (sb : Nat) (n : Nat) (st : List (List Int)) (e : Ending) (W' : World) : Prop := e = .returned (.tuple #[]) ∧ ∃ sv, StkI W1 W' sb sv n st ∧ Below sb W W'
end Go.Proofs.YteegbjjpjdlcmaaDoor

/- eval.perform at []int: what its closures do to the stack. -/
set_option linter.unusedVariables false
namespace Go.Proofs.YteegbjjpjdlcmaaDoor
open Go.RowKit Go.Sort


set_option maxRecDepth 100000 in
set_option maxHeartbeats 4000000 in
theorem pushI_any (W1 W : World) (sb rb p p2 : Nat) (sv : Value) (n : Nat) (st : List (List Int)) (t : List UInt8) (r : List Int) (h : StkI W1 W sb sv n st) (hn : n ≤ 100000) (hrr : postRight r = true)
    (c1 : W.cell? ⟨rb, 0, none⟩ = some (.func (.func 40) #[] #[.pointer (some ⟨p, 0, none⟩), .pointer (some ⟨p2, 0, none⟩)]))
    (hf : ∀ W', Below W.heap.size W W' → Calls Tryd.prog 40 #[.string (bstr t), .pointer (some ⟨p, 0, none⟩), .pointer (some ⟨p2, 0, none⟩)] W' (Gives W' 3 1 r.length (icells r))) :
    Calls Tryd.prog 69 #[.string (bstr t), .pointer (some ⟨sb, 0, none⟩), .pointer (some ⟨rb, 0, none⟩)] W (TurnsI W1 W sb (n + 1) (r :: st)) := by
  obtain ⟨i0, hi, hz0, hz1, hz2⟩ := info_parts infoInts'
  obtain ⟨sa, sc, rfl⟩ := own_shape h.own
  obtain ⟨vs, hown, hel⟩ := h.ex
  have HOW := Lib.hid hown
  have HEL := Lib.hid hel
  have c0 : W.cell? ⟨sb, 0, none⟩ = some (.slice sa n sc) := by rw [cell_of_row _ _ _ _ _ _ h.var]; rfl
  have HST := Lib.hid h
  have HF := Lib.hid hf
  have HRR := Lib.hid hrr
  clear h hf hown hel hrr
  go_enter Tryd.func69, Tryd.ntmps69
  go_wp2_with fail
  refine L_begin (fun W' => Below W.heap.size W W') 6 (by kernel_rfl) ?_
  have hS : Below W.heap.size W W.drew := (Below.refl _ _).drew
  refine L_takeB (fuel := 7) 0 [6] (.slice sa n sc) rfl (by kernel_rfl) (by kernel_rfl) (by kernel_rfl) (by kernel_rfl) (fun _ _ _ h => h) (by first | rfl | kernel_rfl) ?_ hS ?_
  · intro W hW
    have q0 := cell_later hW c0; have q1 := cell_later hW c1
    go_simp
  refine L_free (fuel := 6) 1 (.pointer (some ⟨rb, 0, none⟩)) rfl (by kernel_rfl) (by kernel_rfl) (by kernel_rfl) (by kernel_rfl) (fun _ _ _ h => h) (by first | rfl | kernel_rfl) ?_ hS ?_
  · intro W
    go_simp
  refine L_takeB (fuel := 5) 2 [6, 4] (.func (.func 40) #[] #[.pointer (some ⟨p, 0, none⟩), .pointer (some ⟨p2, 0, none⟩)]) rfl (by kernel_rfl) (by kernel_rfl) (by kernel_rfl) (by kernel_rfl) (fun _ _ _ h => h) (by first | rfl | kernel_rfl) ?_ hS ?_
  · intro W hW
    have q0 := cell_later hW c0; have q1 := cell_later hW c1
    go_simp
  refine L_free (fuel := 4) 3 (.string (bstr t)) rfl (by kernel_rfl) (by kernel_rfl) (by kernel_rfl) (by kernel_rfl) (fun _ _ _ h => h) (by first | rfl | kernel_rfl) ?_ hS ?_
  · intro W
    go_simp
  refine L_one (fuel := 3) 4 (by kernel_rfl) rfl ?_
  intro K hK
  go_simp
  refine (HF.out _ hS).mono ?_
  rintro e w5 ⟨rv, rfl, hro, hb5⟩
  obtain ⟨ra, rc, hrv⟩ := own_shape hro
  have HRV1 : Hid (rv.oneCell' = true) := by show _ = _; rw [hrv]; rfl
  have HRO : Hid (w5.ownsRow W.heap.size 3 1 rv r.length (icells r)) := own_mono hro hS.size
  have hS5 : Below W.heap.size W w5 := hS.trans (hb5.mono hS.size)
  clear hro
  subst hrv
  go_simp
  refine hK _ _ hS5 ?_
  clear hK K
  have hS6 : Below W.heap.size W (w5.alloc (.cells #[.slice ra r.length rc] 41)) := hS5.alloc hS5.size _
  refine L_one (fuel := 2) 5 (by kernel_rfl) rfl ?_
  intro K hK
  go_simp
  refine hK _ _ hS6 ?_
  clear hK K
  have hown6 := own_below HOW.out hS6
  refine L_end (fuel := 1) 6 (by kernel_rfl) rfl (by kernel_rfl) ?_
  intro K hK
  refine step_app (by rfl) (.tmp 4) (.tmp 9) _ _ (by rfl) W1.heap.size 41 i0 _ 1 24 Tryd.underlying39 hi hz0 hz1 hz2 rfl (.slice sa n sc) n _ (by rfl) hown6 _ 1 [.slice ra r.length rc] (by rfl) (src_new Tryd.underlying39 w5 _ 1 1 1 rfl (by intro u hu; simp at hu; subst hu; rfl)) (by unfold maxLen; omega) (by omega) (Nat.le_trans HST.out.size hS6.size) ?_
  intro v7 w7 hown7 hgr7 hv7
  obtain ⟨a7, c7, rfl⟩ := own_shape hown7
  have hN := Lib.hid (HST.out.next hS6 (rv := .slice sa n sc) rfl hgr7 hv7 HEL.out (own_below HRO.out ((Below.refl _ _).alloc (Nat.le_refl _) _)) HRR.out hown7 (by simp [HST.out.len]))
  have hvar7 : w7.heap[sb]? = some (.cells #[.slice sa n sc] 39 (0, 0)) := HST.out.var7 hS6 hgr7
  have hb7 : Below sb W (w7.setCell ⟨sb, 0, none⟩ (.slice a7 (n + 1) c7)) := HST.out.turned hS6 hgr7 _
  have d0 := cell_of_row _ _ 0 _ _ _ hvar7
  have d1 := frozen_of_row _ _ 0 _ _ hvar7
  clear hown7 hgr7 hvar7 hv7
  refine hK _ _ ?_
  clear hK K
  have HB7 := Lib.hid hb7
  clear hb7
  refine L_end (fuel := 0) 7 (by kernel_rfl) rfl (by kernel_rfl) ?_
  intro K hK
  go_simp
  refine hK _ _ ?_
  clear hK K
  refine L_done (by kernel_rfl) ?_ 0
  go_wp2
  go_end0
  exact ⟨rfl, _, hN.out, HB7.out⟩


set_option maxRecDepth 100000 in
set_option maxHeartbeats 4000000 in
theorem comb1I_any (W1 W : World) (sb cb : Nat) (sv : Value) (n : Nat) (x y : List Int) (s : List (List Int)) (h : StkI W1 W sb sv n (y :: x :: s)) (hn : n ≤ 100000)
    (c1 : W.cell? ⟨cb, 0, none⟩ = some (.func (.func 44) #[] #[])) :
    Calls Tryd.prog 68 #[.string (bstr []), .pointer (some ⟨sb, 0, none⟩), .pointer (some ⟨cb, 0, none⟩)] W (TurnsI W1 W sb (n - 2 + 1) (opI 1 x y :: s)) := by
  obtain ⟨i0, hi, hz0, hz1, hz2⟩ := info_parts infoInts'
  have hl := h.len
  simp only [List.length_cons] at hl
  obtain ⟨g, cap, rfl⟩ := own_form h.own (by omega)
  obtain ⟨p1, p2, p3, p4⟩ := own_parts h.own
  obtain ⟨vs, hown, hel⟩ := h.ex
  match vs, hel, hown with
  | [], hel, _ => exact hel.elim
  | [_], hel, _ => exact hel.2.elim
  | yv :: xv :: vs, hel, hown =>
    obtain ⟨hey, hex, hes⟩ := hel
    have hvl := EltsI.len hes
    have c0 : W.cell? ⟨sb, 0, none⟩ = some (.slice (some ⟨g, 0, none⟩) n cap) := by rw [cell_of_row _ _ _ _ _ _ h.var]; rfl
    have htc : (yv :: xv :: vs).reverse = vs.reverse ++ [xv] ++ [yv] := by simp
    rw [htc] at hown
    have hsl : vs.reverse.length = s.length := by rw [List.length_reverse, hvl]
    have c2 : W.cell? ⟨g, n - 2, none⟩ = some xv := by
      have := hown.cellAt (n - 2) (by omega)
      rw [List.getElem?_append_left (by rw [List.length_append, hsl]; simp; omega), List.getElem?_append_right (by omega), hsl, show n - 2 - s.length = 0 from by omega] at this
      exact this
    have c3 : W.cell? ⟨g, n - 1, none⟩ = some yv := by
      have := hown.cellAt (n - 1) (by omega)
      rw [List.getElem?_append_right (by rw [List.length_append, hsl]; simp; omega)] at this
      simp only [List.length_append, hsl, List.length_singleton, show n - 1 - (s.length + 1) = 0 from by omega] at this
      exact this
    have htk := own_take hown (show n - 2 ≤ n by omega)
    rw [show (n - 2) * 1 = vs.reverse.length from by rw [hsl]; omega, List.append_assoc, List.take_left] at htk
    have HCALL : Hid (∀ W', Below W.heap.size W W' → Calls Tryd.prog 44 #[xv, yv] W' (Gives W' 3 1 (opI 1 x y).length (icells (opI 1 x y)))) := fun W' hW' =>
      both_any xv yv x.length y.length x y W' rfl rfl ((Rd.of_own hex.1).below hW') ((Rd.of_own hey.1).below hW') hex.2.1 hey.2.1 (by have := postRight_len hex.2.1; have := postRight_len hey.2.1; omega)
    have HRR : Hid (postRight (opI 1 x y) = true) := opI_right 1 hex.2.1 hey.2.1
    obtain ⟨xa, xc, rfl⟩ := own_shape hex.1
    obtain ⟨ya, yc, rfl⟩ := own_shape hey.1
    generalize opI 1 x y = r at *
    generalize x.length = xl at *
    generalize y.length = yl at *
    have HTK := Lib.hid htk
    have HEL := Lib.hid hes
    have HST := Lib.hid h
    have HM := Lib.hid hl
    have hn2 : 2 ≤ n := by omega
    have i1 : (0 : Int) ≤ (n : Int) - 1 := by omega
    have i2 : (0 : Int) ≤ (n : Int) - 1 - 1 := by omega
    have i3 : (n : Int) - 1 - 1 ≤ (cap : Int) := by omega
    have i4 : (n : Int) - 1 < (n : Int) := by omega
    have i5 : (n : Int) - 1 - 1 < (n : Int) := by omega
    have i6 : ((n : Int) - 1).toNat = n - 1 := by omega
    have i7 : ((n : Int) - 1 - 1).toNat = n - 2 := by omega
    have i8 : IntKind.i64.wrap ((n : Int) - 1) = (n : Int) - 1 := by rw [IntKind.wrap_i64]; omega
    have i9 : IntKind.i64.wrap ((n : Int) - 1 - 1) = (n : Int) - 1 - 1 := by rw [IntKind.wrap_i64]; unfold maxLen at p2; omega
    have j1 : (1 : Int) ≤ (n : Int) := by omega
    have j2 : (2 : Int) ≤ (n : Int) := by omega
    have j3 : (1 : Int) ≤ (n : Int) - 1 := by omega
    clear h htk htc hl hsl hown hey hex hes hvl
    go_enter Tryd.func68, Tryd.ntmps68
    go_wp2_with fail
    refine L_begin (fun W' => Below W.heap.size W W') 16 (by kernel_rfl) ?_
    have hS : Below W.heap.size W W.drew := (Below.refl _ _).drew
    refine L_takeB (fuel := 17) 0 [16, 3] (.slice (some ⟨g, 0, none⟩) n cap) rfl (by kernel_rfl) (by kernel_rfl) (by kernel_rfl) (by kernel_rfl) (fun _ _ _ h => h) (by first | rfl | kernel_rfl) ?_ hS ?_
    · intro W hW
      have q0 := cell_later hW c0; have q1 := cell_later hW c1; have q2 := cell_later hW c2; have q3 := cell_later hW c3
      go_simp
    refine L_free (fuel := 16) 1 (.int .i64 ((n : Int) - 1)) rfl (by kernel_rfl) (by kernel_rfl) (by kernel_rfl) (by kernel_rfl) (fun _ _ _ h => h) (by first | rfl | kernel_rfl) ?_ hS ?_
    · intro W
      go_simp
    refine L_free (fuel := 15) 2 (.int .i64 ((n : Int) - 1 - 1)) rfl (by kernel_rfl) (by kernel_rfl) (by kernel_rfl) (by kernel_rfl) (fun _ _ _ h => h) (by first | rfl | kernel_rfl) ?_ hS ?_
    · intro W
      go_simp
    refine L_free (fuel := 14) 3 (.slice (some ⟨g, 0, none⟩) (n - 2) cap) rfl (by kernel_rfl) (by kernel_rfl) (by kernel_rfl) (by kernel_rfl) (fun _ _ _ h => h) (by first | rfl | kernel_rfl) ?_ hS ?_
    · intro W
      go_simp
    refine L_takeB (fuel := 13) 4 [16, 14] (.func (.func 44) #[] #[]) rfl (by kernel_rfl) (by kernel_rfl) (by kernel_rfl) (by kernel_rfl) (fun _ _ _ h => h) (by first | rfl | kernel_rfl) ?_ hS ?_
    · intro W hW
      have q0 := cell_later hW c0; have q1 := cell_later hW c1; have q2 := cell_later hW c2; have q3 := cell_later hW c3
      go_simp
    refine L_takeB (fuel := 12) 5 [16, 14, 9, 8] (.slice (some ⟨g, 0, none⟩) n cap) rfl (by kernel_rfl) (by kernel_rfl) (by kernel_rfl) (by kernel_rfl) (fun _ _ _ h => h) (by first | rfl | kernel_rfl) ?_ hS ?_
    · intro W hW
      have q0 := cell_later hW c0; have q1 := cell_later hW c1; have q2 := cell_later hW c2; have q3 := cell_later hW c3
      go_simp
    refine L_free (fuel := 11) 6 (.int .i64 ((n : Int) - 1)) rfl (by kernel_rfl) (by kernel_rfl) (by kernel_rfl) (by kernel_rfl) (fun _ _ _ h => h) (by first | rfl | kernel_rfl) ?_ hS ?_
    · intro W
      go_simp
    refine L_free (fuel := 10) 7 (.int .i64 ((n : Int) - 1 - 1)) rfl (by kernel_rfl) (by kernel_rfl) (by kernel_rfl) (by kernel_rfl) (fun _ _ _ h => h) (by first | rfl | kernel_rfl) ?_ hS ?_
    · intro W
      go_simp
    refine L_free (fuel := 9) 8 (.pointer (some ⟨g, n - 2, none⟩)) rfl (by kernel_rfl) (by kernel_rfl) (by kernel_rfl) (by kernel_rfl) (fun _ _ _ h => h) (by first | rfl | kernel_rfl) ?_ hS ?_
    · intro W
      go_simp
    refine L_takeB (fuel := 8) 9 [16, 14] (.slice xa xl xc) rfl (by kernel_rfl) (by kernel_rfl) (by kernel_rfl) (by kernel_rfl) (fun _ _ _ h => h) (by first | rfl | kernel_rfl) ?_ hS ?_
    · intro W hW
      have q0 := cell_later hW c0; have q1 := cell_later hW c1; have q2 := cell_later hW c2; have q3 := cell_later hW c3
      go_simp
    refine L_takeB (fuel := 7) 10 [16, 14, 13, 12] (.slice (some ⟨g, 0, none⟩) n cap) rfl (by kernel_rfl) (by kernel_rfl) (by kernel_rfl) (by kernel_rfl) (fun _ _ _ h => h) (by first | rfl | kernel_rfl) ?_ hS ?_
    · intro W hW
      have q0 := cell_later hW c0; have q1 := cell_later hW c1; have q2 := cell_later hW c2; have q3 := cell_later hW c3
      go_simp
    refine L_free (fuel := 6) 11 (.int .i64 ((n : Int) - 1)) rfl (by kernel_rfl) (by kernel_rfl) (by kernel_rfl) (by kernel_rfl) (fun _ _ _ h => h) (by first | rfl | kernel_rfl) ?_ hS ?_
    · intro W
      go_simp
    refine L_free (fuel := 5) 12 (.pointer (some ⟨g, n - 1, none⟩)) rfl (by kernel_rfl) (by kernel_rfl) (by kernel_rfl) (by kernel_rfl) (fun _ _ _ h => h) (by first | rfl | kernel_rfl) ?_ hS ?_
    · intro W
      go_simp
    refine L_takeB (fuel := 4) 13 [16, 14] (.slice ya yl yc) rfl (by kernel_rfl) (by kernel_rfl) (by kernel_rfl) (by kernel_rfl) (fun _ _ _ h => h) (by first | rfl | kernel_rfl) ?_ hS ?_
    · intro W hW
      have q0 := cell_later hW c0; have q1 := cell_later hW c1; have q2 := cell_later hW c2; have q3 := cell_later hW c3
      go_simp
    refine L_one (fuel := 3) 14 (by kernel_rfl) rfl ?_
    intro K hK
    go_simp
    refine (HCALL.out _ hS).mono ?_
    rintro e w5 ⟨rv, rfl, hro, hb5⟩
    obtain ⟨ra, rc, hrv⟩ := own_shape hro
    have HRV1 : Hid (rv.oneCell' = true) := by show _ = _; rw [hrv]; rfl
    have HRO : Hid (w5.ownsRow W.heap.size 3 1 rv r.length (icells r)) := own_mono hro hS.size
    have hS5 : Below W.heap.size W w5 := hS.trans (hb5.mono hS.size)
    clear hro
    subst hrv
    go_simp
    refine hK _ _ hS5 ?_
    clear hK K
    have hS6 : Below W.heap.size W (w5.alloc (.cells #[.slice ra r.length rc] 41)) := hS5.alloc hS5.size _
    refine L_one (fuel := 2) 15 (by kernel_rfl) rfl ?_
    intro K hK
    go_simp
    refine hK _ _ hS6 ?_
    clear hK K
    have hown6 := own_below HTK.out hS6
    refine L_end (fuel := 1) 16 (by kernel_rfl) rfl (by kernel_rfl) ?_
    intro K hK
    refine step_app (by rfl) (.tmp 11) (.tmp 23) _ _ (by rfl) W1.heap.size 41 i0 _ 1 24 Tryd.underlying39 hi hz0 hz1 hz2 rfl (.slice (some ⟨g, 0, none⟩) (n - 2) cap) (n - 2) _ (by rfl) hown6 _ 1 [.slice ra r.length rc] (by rfl) (src_new Tryd.underlying39 w5 _ 1 1 1 rfl (by intro u hu; simp at hu; subst hu; rfl)) (by unfold maxLen; omega) (by omega) (Nat.le_trans HST.out.size hS6.size) ?_
    intro v7 w7 hown7 hgr7 hv7
    obtain ⟨a7, c7, rfl⟩ := own_shape hown7
    have hN := Lib.hid (HST.out.next hS6 (rv := .slice (some ⟨g, 0, none⟩) (n - 2) cap) rfl hgr7 hv7 HEL.out (own_below HRO.out ((Below.refl _ _).alloc (Nat.le_refl _) _)) HRR.out hown7 (by have := HM.out; simp; omega))
    have hvar7 : w7.heap[sb]? = some (.cells #[.slice (some ⟨g, 0, none⟩) n cap] 39 (0, 0)) := HST.out.var7 hS6 hgr7
    have hb7 : Below sb W (w7.setCell ⟨sb, 0, none⟩ (.slice a7 ((n - 2) + 1) c7)) := HST.out.turned hS6 hgr7 _
    have d0 := cell_of_row _ _ 0 _ _ _ hvar7
    have d1 := frozen_of_row _ _ 0 _ _ hvar7
    clear hown7 hgr7 hvar7 hv7
    refine hK _ _ ?_
    clear hK K
    have HB7 := Lib.hid hb7
    clear hb7
    refine L_end (fuel := 0) 17 (by kernel_rfl) rfl (by kernel_rfl) ?_
    intro K hK
    go_simp
    refine hK _ _ ?_
    clear hK K
    refine L_done (by kernel_rfl) ?_ 0
    go_wp2
    go_end0
    exact ⟨rfl, _, hN.out, HB7.out⟩


set_option maxRecDepth 100000 in
set_option maxHeartbeats 4000000 in
theorem comb2I_any (W1 W : World) (sb cb : Nat) (sv : Value) (n : Nat) (x y : List Int) (s : List (List Int)) (h : StkI W1 W sb sv n (y :: x :: s)) (hn : n ≤ 100000)
    (c1 : W.cell? ⟨cb, 0, none⟩ = some (.func (.func 45) #[] #[])) :
    Calls Tryd.prog 68 #[.string (bstr []), .pointer (some ⟨sb, 0, none⟩), .pointer (some ⟨cb, 0, none⟩)] W (TurnsI W1 W sb (n - 2 + 1) (opI 2 x y :: s)) := by
  obtain ⟨i0, hi, hz0, hz1, hz2⟩ := info_parts infoInts'
  have hl := h.len
  simp only [List.length_cons] at hl
  obtain ⟨g, cap, rfl⟩ := own_form h.own (by omega)
  obtain ⟨p1, p2, p3, p4⟩ := own_parts h.own
  obtain ⟨vs, hown, hel⟩ := h.ex
  match vs, hel, hown with
  | [], hel, _ => exact hel.elim
  | [_], hel, _ => exact hel.2.elim
  | yv :: xv :: vs, hel, hown =>
    obtain ⟨hey, hex, hes⟩ := hel
    have hvl := EltsI.len hes
    have c0 : W.cell? ⟨sb, 0, none⟩ = some (.slice (some ⟨g, 0, none⟩) n cap) := by rw [cell_of_row _ _ _ _ _ _ h.var]; rfl
    have htc : (yv :: xv :: vs).reverse = vs.reverse ++ [xv] ++ [yv] := by simp
    rw [htc] at hown
    have hsl : vs.reverse.length = s.length := by rw [List.length_reverse, hvl]
    have c2 : W.cell? ⟨g, n - 2, none⟩ = some xv := by
      have := hown.cellAt (n - 2) (by omega)
      rw [List.getElem?_append_left (by rw [List.length_append, hsl]; simp; omega), List.getElem?_append_right (by omega), hsl, show n - 2 - s.length = 0 from by omega] at this
      exact this
    have c3 : W.cell? ⟨g, n - 1, none⟩ = some yv := by
      have := hown.cellAt (n - 1) (by omega)
      rw [List.getElem?_append_right (by rw [List.length_append, hsl]; simp; omega)] at this
      simp only [List.length_append, hsl, List.length_singleton, show n - 1 - (s.length + 1) = 0 from by omega] at this
      exact this
    have htk := own_take hown (show n - 2 ≤ n by omega)
    rw [show (n - 2) * 1 = vs.reverse.length from by rw [hsl]; omega, List.append_assoc, List.take_left] at htk
    have HCALL : Hid (∀ W', Below W.heap.size W W' → Calls Tryd.prog 45 #[xv, yv] W' (Gives W' 3 1 (opI 2 x y).length (icells (opI 2 x y)))) := fun W' hW' =>
      either_any xv yv x.length y.length x y W' rfl rfl ((Rd.of_own hex.1).below hW') ((Rd.of_own hey.1).below hW') hex.2.1 hey.2.1 (by have := postRight_len hex.2.1; have := postRight_len hey.2.1; omega)
    have HRR : Hid (postRight (opI 2 x y) = true) := opI_right 2 hex.2.1 hey.2.1
    obtain ⟨xa, xc, rfl⟩ := own_shape hex.1
    obtain ⟨ya, yc, rfl⟩ := own_shape hey.1
    generalize opI 2 x y = r at *
    generalize x.length = xl at *
    generalize y.length = yl at *
    have HTK := Lib.hid htk
    have HEL := Lib.hid hes
    have HST := Lib.hid h
    have HM := Lib.hid hl
    have hn2 : 2 ≤ n := by omega
    have i1 : (0 : Int) ≤ (n : Int) - 1 := by omega
    have i2 : (0 : Int) ≤ (n : Int) - 1 - 1 := by omega
    have i3 : (n : Int) - 1 - 1 ≤ (cap : Int) := by omega
    have i4 : (n : Int) - 1 < (n : Int) := by omega
    have i5 : (n : Int) - 1 - 1 < (n : Int) := by omega
    have i6 : ((n : Int) - 1).toNat = n - 1 := by omega
    have i7 : ((n : Int) - 1 - 1).toNat = n - 2 := by omega
    have i8 : IntKind.i64.wrap ((n : Int) - 1) = (n : Int) - 1 := by rw [IntKind.wrap_i64]; omega
    have i9 : IntKind.i64.wrap ((n : Int) - 1 - 1) = (n : Int) - 1 - 1 := by rw [IntKind.wrap_i64]; unfold maxLen at p2; omega
    have j1 : (1 : Int) ≤ (n : Int) := by omega
    have j2 : (2 : Int) ≤ (n : Int) := by omega
    have j3 : (1 : Int) ≤ (n : Int) - 1 := by omega
    clear h htk htc hl hsl hown hey hex hes hvl
    go_enter Tryd.func68, Tryd.ntmps68
    go_wp2_with fail
    refine L_begin (fun W' => Below W.heap.size W W') 16 (by kernel_rfl) ?_
    have hS : Below W.heap.size W W.drew := (Below.refl _ _).drew
    refine L_takeB (fuel := 17) 0 [16, 3] (.slice (some ⟨g, 0, none⟩) n cap) rfl (by kernel_rfl) (by kernel_rfl) (by kernel_rfl) (by kernel_rfl) (fun _ _ _ h => h) (by first | rfl | kernel_rfl) ?_ hS ?_
    · intro W hW
      have q0 := cell_later hW c0; have q1 := cell_later hW c1; have q2 := cell_later hW c2; have q3 := cell_later hW c3
      go_simp
    refine L_free (fuel := 16) 1 (.int .i64 ((n : Int) - 1)) rfl (by kernel_rfl) (by kernel_rfl) (by kernel_rfl) (by kernel_rfl) (fun _ _ _ h => h) (by first | rfl | kernel_rfl) ?_ hS ?_
    · intro W
      go_simp
    refine L_free (fuel := 15) 2 (.int .i64 ((n : Int) - 1 - 1)) rfl (by kernel_rfl) (by kernel_rfl) (by kernel_rfl) (by kernel_rfl) (fun _ _ _ h => h) (by first | rfl | kernel_rfl) ?_ hS ?_
    · intro W
      go_simp
    refine L_free (fuel := 14) 3 (.slice (some ⟨g, 0, none⟩) (n - 2) cap) rfl (by kernel_rfl) (by kernel_rfl) (by kernel_rfl) (by kernel_rfl) (fun _ _ _ h => h) (by first | rfl | kernel_rfl) ?_ hS ?_
    · intro W
      go_simp
    refine L_takeB (fuel := 13) 4 [16, 14] (.func (.func 45) #[] #[]) rfl (by kernel_rfl) (by kernel_rfl) (by kernel_rfl) (by kernel_rfl) (fun _ _ _ h => h) (by first | rfl | kernel_rfl) ?_ hS ?_
    · intro W hW
      have q0 := cell_later hW c0; have q1 := cell_later hW c1; have q2 := cell_later hW c2; have q3 := cell_later hW c3
      go_simp
    refine L_takeB (fuel := 12) 5 [16, 14, 9, 8] (.slice (some ⟨g, 0, none⟩) n cap) rfl (by kernel_rfl) (by kernel_rfl) (by kernel_rfl) (by kernel_rfl) (fun _ _ _ h => h) (by first | rfl | kernel_rfl) ?_ hS ?_
    · intro W hW
      have q0 := cell_later hW c0; have q1 := cell_later hW c1; have q2 := cell_later hW c2; have q3 := cell_later hW c3
      go_simp
    refine L_free (fuel := 11) 6 (.int .i64 ((n : Int) - 1)) rfl (by kernel_rfl) (by kernel_rfl) (by kernel_rfl) (by kernel_rfl) (fun _ _ _ h => h) (by first | rfl | kernel_rfl) ?_ hS ?_
    · intro W
      go_simp
    refine L_free (fuel := 10) 7 (.int .i64 ((n : Int) - 1 - 1)) rfl (by kernel_rfl) (by kernel_rfl) (by kernel_rfl) (by kernel_rfl) (fun _ _ _ h => h) (by first | rfl | kernel_rfl) ?_ hS ?_
    · intro W
      go_simp
    refine L_free (fuel := 9) 8 (.pointer (some ⟨g, n - 2, none⟩)) rfl (by kernel_rfl) (by kernel_rfl) (by kernel_rfl) (by kernel_rfl) (fun _ _ _ h => h) (by first | rfl | kernel_rfl) ?_ hS ?_
    · intro W
      go_simp
    refine L_takeB (fuel := 8) 9 [16, 14] (.slice xa xl xc) rfl (by kernel_rfl) (by kernel_rfl) (by kernel_rfl) (by kernel_rfl) (fun _ _ _ h => h) (by first | rfl | kernel_rfl) ?_ hS ?_
    · intro W hW
      have q0 := cell_later hW c0; have q1 := cell_later hW c1; have q2 := cell_later hW c2; have q3 := cell_later hW c3
      go_simp
    refine L_takeB (fuel := 7) 10 [16, 14, 13, 12] (.slice (some ⟨g, 0, none⟩) n cap) rfl (by kernel_rfl) (by kernel_rfl) (by kernel_rfl) (by kernel_rfl) (fun _ _ _ h => h) (by first | rfl | kernel_rfl) ?_ hS ?_
    · intro W hW
      have q0 := cell_later hW c0; have q1 := cell_later hW c1; have q2 := cell_later hW c2; have q3 := cell_later hW c3
      go_simp
    refine L_free (fuel := 6) 11 (.int .i64 ((n : Int) - 1)) rfl (by kernel_rfl) (by kernel_rfl) (by kernel_rfl) (by kernel_rfl) (fun _ _ _ h => h) (by first | rfl | kernel_rfl) ?_ hS ?_
    · intro W
      go_simp
    refine L_free (fuel := 5) 12 (.pointer (some ⟨g, n - 1, none⟩)) rfl (by kernel_rfl) (by kernel_rfl) (by kernel_rfl) (by kernel_rfl) (fun _ _ _ h => h) (by first | rfl | kernel_rfl) ?_ hS ?_
    · intro W
      go_simp
    refine L_takeB (fuel := 4) 13 [16, 14] (.slice ya yl yc) rfl (by kernel_rfl) (by kernel_rfl) (by kernel_rfl) (by kernel_rfl) (fun _ _ _ h => h) (by first | rfl | kernel_rfl) ?_ hS ?_
    · intro W hW
      have q0 := cell_later hW c0; have q1 := cell_later hW c1; have q2 := cell_later hW c2; have q3 := cell_later hW c3
      go_simp
    refine L_one (fuel := 3) 14 (by kernel_rfl) rfl ?_
    intro K hK
    go_simp
    refine (HCALL.out _ hS).mono ?_
    rintro e w5 ⟨rv, rfl, hro, hb5⟩
    obtain ⟨ra, rc, hrv⟩ := own_shape hro
    have HRV1 : Hid (rv.oneCell' = true) := by show _ = _; rw [hrv]; rfl
    have HRO : Hid (w5.ownsRow W.heap.size 3 1 rv r.length (icells r)) := own_mono hro hS.size
    have hS5 : Below W.heap.size W w5 := hS.trans (hb5.mono hS.size)
    clear hro
    subst hrv
    go_simp
    refine hK _ _ hS5 ?_
    clear hK K
    have hS6 : Below W.heap.size W (w5.alloc (.cells #[.slice ra r.length rc] 41)) := hS5.alloc hS5.size _
    refine L_one (fuel := 2) 15 (by kernel_rfl) rfl ?_
    intro K hK
    go_simp
    refine hK _ _ hS6 ?_
    clear hK K
    have hown6 := own_below HTK.out hS6
    refine L_end (fuel := 1) 16 (by kernel_rfl) rfl (by kernel_rfl) ?_
    intro K hK
    refine step_app (by rfl) (.tmp 11) (.tmp 23) _ _ (by rfl) W1.heap.size 41 i0 _ 1 24 Tryd.underlying39 hi hz0 hz1 hz2 rfl (.slice (some ⟨g, 0, none⟩) (n - 2) cap) (n - 2) _ (by rfl) hown6 _ 1 [.slice ra r.length rc] (by rfl) (src_new Tryd.underlying39 w5 _ 1 1 1 rfl (by intro u hu; simp at hu; subst hu; rfl)) (by unfold maxLen; omega) (by omega) (Nat.le_trans HST.out.size hS6.size) ?_
    intro v7 w7 hown7 hgr7 hv7
    obtain ⟨a7, c7, rfl⟩ := own_shape hown7
    have hN := Lib.hid (HST.out.next hS6 (rv := .slice (some ⟨g, 0, none⟩) (n - 2) cap) rfl hgr7 hv7 HEL.out (own_below HRO.out ((Below.refl _ _).alloc (Nat.le_refl _) _)) HRR.out hown7 (by have := HM.out; simp; omega))
    have hvar7 : w7.heap[sb]? = some (.cells #[.slice (some ⟨g, 0, none⟩) n cap] 39 (0, 0)) := HST.out.var7 hS6 hgr7
    have hb7 : Below sb W (w7.setCell ⟨sb, 0, none⟩ (.slice a7 ((n - 2) + 1) c7)) := HST.out.turned hS6 hgr7 _
    have d0 := cell_of_row _ _ 0 _ _ _ hvar7
    have d1 := frozen_of_row _ _ 0 _ _ hvar7
    clear hown7 hgr7 hvar7 hv7
    refine hK _ _ ?_
    clear hK K
    have HB7 := Lib.hid hb7
    clear hb7
    refine L_end (fuel := 0) 17 (by kernel_rfl) rfl (by kernel_rfl) ?_
    intro K hK
    go_simp
    refine hK _ _ ?_
    clear hK K
    refine L_done (by kernel_rfl) ?_ 0
    go_wp2
    go_end0
    exact ⟨rfl, _, hN.out, HB7.out⟩


set_option maxRecDepth 100000 in
set_option maxHeartbeats 4000000 in
theorem comb3I_any (W1 W : World) (sb cb : Nat) (sv : Value) (n : Nat) (x y : List Int) (s : List (List Int)) (h : StkI W1 W sb sv n (y :: x :: s)) (hn : n ≤ 100000)
    (c1 : W.cell? ⟨cb, 0, none⟩ = some (.func (.func 46) #[] #[])) :
    Calls Tryd.prog 68 #[.string (bstr []), .pointer (some ⟨sb, 0, none⟩), .pointer (some ⟨cb, 0, none⟩)] W (TurnsI W1 W sb (n - 2 + 1) (opI 3 x y :: s)) := by
  obtain ⟨i0, hi, hz0, hz1, hz2⟩ := info_parts infoInts'
  have hl := h.len
  simp only [List.length_cons] at hl
  obtain ⟨g, cap, rfl⟩ := own_form h.own (by omega)
  obtain ⟨p1, p2, p3, p4⟩ := own_parts h.own
  obtain ⟨vs, hown, hel⟩ := h.ex
  match vs, hel, hown with
  | [], hel, _ => exact hel.elim
  | [_], hel, _ => exact hel.2.elim
  | yv :: xv :: vs, hel, hown =>
    obtain ⟨hey, hex, hes⟩ := hel
    have hvl := EltsI.len hes
    have c0 : W.cell? ⟨sb, 0, none⟩ = some (.slice (some ⟨g, 0, none⟩) n cap) := by rw [cell_of_row _ _ _ _ _ _ h.var]; rfl
    have htc : (yv :: xv :: vs).reverse = vs.reverse ++ [xv] ++ [yv] := by simp
    rw [htc] at hown
    have hsl : vs.reverse.length = s.length := by rw [List.length_reverse, hvl]
    have c2 : W.cell? ⟨g, n - 2, none⟩ = some xv := by
      have := hown.cellAt (n - 2) (by omega)
      rw [List.getElem?_append_left (by rw [List.length_append, hsl]; simp; omega), List.getElem?_append_right (by omega), hsl, show n - 2 - s.length = 0 from by omega] at this
      exact this
    have c3 : W.cell? ⟨g, n - 1, none⟩ = some yv := by
      have := hown.cellAt (n - 1) (by omega)
      rw [List.getElem?_append_right (by rw [List.length_append, hsl]; simp; omega)] at this
      simp only [List.length_append, hsl, List.length_singleton, show n - 1 - (s.length + 1) = 0 from by omega] at this
      exact this
    have htk := own_take hown (show n - 2 ≤ n by omega)
    rw [show (n - 2) * 1 = vs.reverse.length from by rw [hsl]; omega, List.append_assoc, List.take_left] at htk
    have HCALL : Hid (∀ W', Below W.heap.size W W' → Calls Tryd.prog 46 #[xv, yv] W' (Gives W' 3 1 (opI 3 x y).length (icells (opI 3 x y)))) := fun W' hW' =>
      but_any xv yv x.length y.length x y W' rfl rfl ((Rd.of_own hex.1).below hW') ((Rd.of_own hey.1).below hW') hex.2.1 hey.2.1 (by have := postRight_len hex.2.1; have := postRight_len hey.2.1; omega)
    have HRR : Hid (postRight (opI 3 x y) = true) := opI_right 3 hex.2.1 hey.2.1
    obtain ⟨xa, xc, rfl⟩ := own_shape hex.1
    obtain ⟨ya, yc, rfl⟩ := own_shape hey.1
    generalize opI 3 x y = r at *
    generalize x.length = xl at *
    generalize y.length = yl at *
    have HTK := Lib.hid htk
    have HEL := Lib.hid hes
    have HST := Lib.hid h
    have HM := Lib.hid hl
    have hn2 : 2 ≤ n := by omega
    have i1 : (0 : Int) ≤ (n : Int) - 1 := by omega
    have i2 : (0 : Int) ≤ (n : Int) - 1 - 1 := by omega
    have i3 : (n : Int) - 1 - 1 ≤ (cap : Int) := by omega
    have i4 : (n : Int) - 1 < (n : Int) := by omega
    have i5 : (n : Int) - 1 - 1 < (n : Int) := by omega
    have i6 : ((n : Int) - 1).toNat = n - 1 := by omega
    have i7 : ((n : Int) - 1 - 1).toNat = n - 2 := by omega
    have i8 : IntKind.i64.wrap ((n : Int) - 1) = (n : Int) - 1 := by rw [IntKind.wrap_i64]; omega
    have i9 : IntKind.i64.wrap ((n : Int) - 1 - 1) = (n : Int) - 1 - 1 := by rw [IntKind.wrap_i64]; unfold maxLen at p2; omega
    have j1 : (1 : Int) ≤ (n : Int) := by omega
    have j2 : (2 : Int) ≤ (n : Int) := by omega
    have j3 : (1 : Int) ≤ (n : Int) - 1 := by omega
    clear h htk htc hl hsl hown hey hex hes hvl
    go_enter Tryd.func68, Tryd.ntmps68
    go_wp2_with fail
    refine L_begin (fun W' => Below W.heap.size W W') 16 (by kernel_rfl) ?_
    have hS : Below W.heap.size W W.drew := (Below.refl _ _).drew
    refine L_takeB (fuel := 17) 0 [16, 3] (.slice (some ⟨g, 0, none⟩) n cap) rfl (by kernel_rfl) (by kernel_rfl) (by kernel_rfl) (by kernel_rfl) (fun _ _ _ h => h) (by first | rfl | kernel_rfl) ?_ hS ?_
    · intro W hW
      have q0 := cell_later hW c0; have q1 := cell_later hW c1; have q2 := cell_later hW c2; have q3 := cell_later hW c3
      go_simp
    refine L_free (fuel := 16) 1 (.int .i64 ((n : Int) - 1)) rfl (by kernel_rfl) (by kernel_rfl) (by kernel_rfl) (by kernel_rfl) (fun _ _ _ h => h) (by first | rfl | kernel_rfl) ?_ hS ?_
    · intro W
      go_simp
    refine L_free (fuel := 15) 2 (.int .i64 ((n : Int) - 1 - 1)) rfl (by kernel_rfl) (by kernel_rfl) (by kernel_rfl) (by kernel_rfl) (fun _ _ _ h => h) (by first | rfl | kernel_rfl) ?_ hS ?_
    · intro W
      go_simp
    refine L_free (fuel := 14) 3 (.slice (some ⟨g, 0, none⟩) (n - 2) cap) rfl (by kernel_rfl) (by kernel_rfl) (by kernel_rfl) (by kernel_rfl) (fun _ _ _ h => h) (by first | rfl | kernel_rfl) ?_ hS ?_
    · intro W
      go_simp
    refine L_takeB (fuel := 13) 4 [16, 14] (.func (.func 46) #[] #[]) rfl (by kernel_rfl) (by kernel_rfl) (by kernel_rfl) (by kernel_rfl) (fun _ _ _ h => h) (by first | rfl | kernel_rfl) ?_ hS ?_
    · intro W hW
      have q0 := cell_later hW c0; have q1 := cell_later hW c1; have q2 := cell_later hW c2; have q3 := cell_later hW c3
      go_simp
    refine L_takeB (fuel := 12) 5 [16, 14, 9, 8] (.slice (some ⟨g, 0, none⟩) n cap) rfl (by kernel_rfl) (by kernel_rfl) (by kernel_rfl) (by kernel_rfl) (fun _ _ _ h => h) (by first | rfl | kernel_rfl) ?_ hS ?_
    · intro W hW
      have q0 := cell_later hW c0; have q1 := cell_later hW c1; have q2 := cell_later hW c2; have q3 := cell_later hW c3
      go_simp
    refine L_free (fuel := 11) 6 (.int .i64 ((n : Int) - 1)) rfl (by kernel_rfl) (by kernel_rfl) (by kernel_rfl) (by kernel_rfl) (fun _ _ _ h => h) (by first | rfl | kernel_rfl) ?_ hS ?_
    · intro W
      go_simp
    refine L_free (fuel := 10) 7 (.int .i64 ((n : Int) - 1 - 1)) rfl (by kernel_rfl) (by kernel_rfl) (by kernel_rfl) (by kernel_rfl) (fun _ _ _ h => h) (by first | rfl | kernel_rfl) ?_ hS ?_
    · intro W
      go_simp
    refine L_free (fuel := 9) 8 (.pointer (some ⟨g, n - 2, none⟩)) rfl (by kernel_rfl) (by kernel_rfl) (by kernel_rfl) (by kernel_rfl) (fun _ _ _ h => h) (by first | rfl | kernel_rfl) ?_ hS ?_
    · intro W
      go_simp
    refine L_takeB (fuel := 8) 9 [16, 14] (.slice xa xl xc) rfl (by kernel_rfl) (by kernel_rfl) (by kernel_rfl) (by kernel_rfl) (fun _ _ _ h => h) (by first | rfl | kernel_rfl) ?_ hS ?_
    · intro W hW
      have q0 := cell_later hW c0; have q1 := cell_later hW c1; have q2 := cell_later hW c2; have q3 := cell_later hW c3
      go_simp
    refine L_takeB (fuel := 7) 10 [16, 14, 13, 12] (.slice (some ⟨g, 0, none⟩) n cap) rfl (by kernel_rfl) (by kernel_rfl) (by kernel_rfl) (by kernel_rfl) (fun _ _ _ h => h) (by first | rfl | kernel_rfl) ?_ hS ?_
    · intro W hW
      have q0 := cell_later hW c0; have q1 := cell_later hW c1; have q2 := cell_later hW c2; have q3 := cell_later hW c3
      go_simp
    refine L_free (fuel := 6) 11 (.int .i64 ((n : Int) - 1)) rfl (by kernel_rfl) (by kernel_rfl) (by kernel_rfl) (by kernel_rfl) (fun _ _ _ h => h) (by first | rfl | kernel_rfl) ?_ hS ?_
    · intro W
      go_simp
    refine L_free (fuel := 5) 12 (.pointer (some ⟨g, n - 1, none⟩)) rfl (by kernel_rfl) (by kernel_rfl) (by kernel_rfl) (by kernel_rfl) (fun _ _ _ h => h) (by first | rfl | kernel_rfl) ?_ hS ?_
    · intro W
      go_simp
    refine L_takeB (fuel := 4) 13 [16, 14] (.slice ya yl yc) rfl (by kernel_rfl) (by kernel_rfl) (by kernel_rfl) (by kernel_rfl) (fun _ _ _ h => h) (by first | rfl | kernel_rfl) ?_ hS ?_
    · intro W hW
      have q0 := cell_later hW c0; have q1 := cell_later hW c1; have q2 := cell_later hW c2; have q3 := cell_later hW c3
      go_simp
    refine L_one (fuel := 3) 14 (by kernel_rfl) rfl ?_
    intro K hK
    go_simp
    refine (HCALL.out _ hS).mono ?_
    rintro e w5 ⟨rv, rfl, hro, hb5⟩
    obtain ⟨ra, rc, hrv⟩ := own_shape hro
    have HRV1 : Hid (rv.oneCell' = true) := by show _ = _; rw [hrv]; rfl
    have HRO : Hid (w5.ownsRow W.heap.size 3 1 rv r.length (icells r)) := own_mono hro hS.size
    have hS5 : Below W.heap.size W w5 := hS.trans (hb5.mono hS.size)
    clear hro
    subst hrv
    go_simp
    refine hK _ _ hS5 ?_
    clear hK K
    have hS6 : Below W.heap.size W (w5.alloc (.cells #[.slice ra r.length rc] 41)) := hS5.alloc hS5.size _
    refine L_one (fuel := 2) 15 (by kernel_rfl) rfl ?_
    intro K hK
    go_simp
    refine hK _ _ hS6 ?_
    clear hK K
    have hown6 := own_below HTK.out hS6
    refine L_end (fuel := 1) 16 (by kernel_rfl) rfl (by kernel_rfl) ?_
    intro K hK
    refine step_app (by rfl) (.tmp 11) (.tmp 23) _ _ (by rfl) W1.heap.size 41 i0 _ 1 24 Tryd.underlying39 hi hz0 hz1 hz2 rfl (.slice (some ⟨g, 0, none⟩) (n - 2) cap) (n - 2) _ (by rfl) hown6 _ 1 [.slice ra r.length rc] (by rfl) (src_new Tryd.underlying39 w5 _ 1 1 1 rfl (by intro u hu; simp at hu; subst hu; rfl)) (by unfold maxLen; omega) (by omega) (Nat.le_trans HST.out.size hS6.size) ?_
    intro v7 w7 hown7 hgr7 hv7
    obtain ⟨a7, c7, rfl⟩ := own_shape hown7
    have hN := Lib.hid (HST.out.next hS6 (rv := .slice (some ⟨g, 0, none⟩) (n - 2) cap) rfl hgr7 hv7 HEL.out (own_below HRO.out ((Below.refl _ _).alloc (Nat.le_refl _) _)) HRR.out hown7 (by have := HM.out; simp; omega))
    have hvar7 : w7.heap[sb]? = some (.cells #[.slice (some ⟨g, 0, none⟩) n cap] 39 (0, 0)) := HST.out.var7 hS6 hgr7
    have hb7 : Below sb W (w7.setCell ⟨sb, 0, none⟩ (.slice a7 ((n - 2) + 1) c7)) := HST.out.turned hS6 hgr7 _
    have d0 := cell_of_row _ _ 0 _ _ _ hvar7
    have d1 := frozen_of_row _ _ 0 _ _ hvar7
    clear hown7 hgr7 hvar7 hv7
    refine hK _ _ ?_
    clear hK K
    have HB7 := Lib.hid hb7
    clear hb7
    refine L_end (fuel := 0) 17 (by kernel_rfl) rfl (by kernel_rfl) ?_
    intro K hK
    go_simp
    refine hK _ _ ?_
    clear hK K
    refine L_done (by kernel_rfl) ?_ 0
    go_wp2
    go_end0
    exact ⟨rfl, _, hN.out, HB7.out⟩

end Go.Proofs.YteegbjjpjdlcmaaDoor

/- eval.perform at []int: its map of steps is made. -/
set_option linter.unusedVariables false
namespace Go.Proofs.YteegbjjpjdlcmaaDoor
open Go.RowKit Go.Sort

/-- the cells that the function's variables lie in before the map is made. -/
abbrev performIW (p p2 : Nat) (w : World) : World := (w.alloc (.cells #[.func (.func 40) #[] #[.pointer (some ⟨p, 0, none⟩), .pointer (some ⟨p2, 0, none⟩)], .func (.func 44) #[] #[], .func (.func 45) #[] #[], .func (.func 46) #[] #[]] 85)).alloc (.cells #[.slice none 0 0] 39)
/-- a closure that combines two. -/
abbrev performIV (w : World) (c : Nat) : Value := .func (.func 68) #[] #[.pointer (some ⟨w.heap.size + 1, 0, none⟩), .pointer (some ⟨c, 0, none⟩)]
abbrev performIF (w : World) : Value := .func (.func 69) #[] #[.pointer (some ⟨w.heap.size + 1, 0, none⟩), .pointer (some ⟨w.heap.size, 0, none⟩)]
abbrev performIT (p p2 : Nat) (v : Value) (w : World) : Value → Value → Value → Value → Array Value := fun x0 x1 x2 x3 => #[v, .agg #[.func (.func 40) #[] #[.pointer (some ⟨p, 0, none⟩), .pointer (some ⟨p2, 0, none⟩)], .func (.func 44) #[] #[], .func (.func 45) #[] #[], .func (.func 46) #[] #[]], undef, .pointer (some ⟨w.heap.size, 0, none⟩), .slice none 0 0, .pointer (some ⟨w.heap.size + 1, 0, none⟩), .func (.func 67) #[] #[.pointer (some ⟨w.heap.size + 1, 0, none⟩)], undef, undef, undef, .func (.func 67) #[] #[.pointer (some ⟨w.heap.size + 1, 0, none⟩)], x0, .func (.func 69) #[] #[.pointer (some ⟨w.heap.size + 1, 0, none⟩), .pointer (some ⟨w.heap.size, 0, none⟩)], .func (.func 67) #[] #[.pointer (some ⟨w.heap.size + 1, 0, none⟩)], .pointer (some ⟨w.heap.size, 1, none⟩), .func (.func 44) #[] #[], x1, .func (.func 67) #[] #[.pointer (some ⟨w.heap.size + 1, 0, none⟩)], .pointer (some ⟨w.heap.size, 2, none⟩), .func (.func 45) #[] #[], x2, .func (.func 67) #[] #[.pointer (some ⟨w.heap.size + 1, 0, none⟩)], .pointer (some ⟨w.heap.size, 3, none⟩), .func (.func 46) #[] #[], x3, undef, undef, undef, undef, undef, undef, undef, undef, undef, undef, undef, undef, undef, undef, undef, undef, undef, undef]

/-- what holds behind the map's making. -/
structure performIMap (p p2 : Nat) (w W : World) (mb : Nat) (es : Array MapEntry) (ck c1 c2 c3 : Nat) : Prop where
  bel : Below (performIW p p2 w).heap.size (performIW p p2 w) W
  mbl : (performIW p p2 w).heap.size ≤ mb
  map : W.heap[mb]? = some (.map es ck)
  is : MapIs es (litG true true true true (performIF w) (performIV w c1) (performIV w c2) (performIV w c3))
  l1 : (performIW p p2 w).heap.size ≤ c1
  l2 : (performIW p p2 w).heap.size ≤ c2
  l3 : (performIW p p2 w).heap.size ≤ c3
  f1 : W.heap[c1]? = some (.cells #[.func (.func 44) #[] #[]] 83 (0, 0))
  f2 : W.heap[c2]? = some (.cells #[.func (.func 45) #[] #[]] 83 (0, 0))
  f3 : W.heap[c3]? = some (.cells #[.func (.func 46) #[] #[]] 83 (0, 0))

set_option maxRecDepth 100000 in
set_option maxHeartbeats 8000000 in
/-- perform's beginning: the map is made; what follows is walked once. -/
theorem performI_any (p p2 : Nat) (v : Value) (l : List QOp) (f : List UInt8 → List Int) (w : World) (h : Rd w v l.length 2 (ocells l)) (hl : l.length ≤ 100000) (hr : qRight l = true) (hgood : ∀ t, postRight (f t) = true)
    (hf : ∀ (t : List UInt8) (W : World), rightTok t = true → Below w.heap.size w W → Calls Tryd.prog 40 #[.string (bstr t), .pointer (some ⟨p, 0, none⟩), .pointer (some ⟨p2, 0, none⟩)] W (Gives W 3 1 (f t).length (icells (f t)))) :
    Calls Tryd.prog 43 #[v, .agg #[.func (.func 40) #[] #[.pointer (some ⟨p, 0, none⟩), .pointer (some ⟨p2, 0, none⟩)], .func (.func 44) #[] #[], .func (.func 45) #[] #[], .func (.func 46) #[] #[]]] w (Gives w 3 1 (evL f opI [] l).length (icells (evL f opI [] l))) := by
  obtain ⟨ao, c, rfl, hm, hcell⟩ := ops_cells h
  have HC := Lib.hid hcell
  have HF := Lib.hid hf
  have HGOOD := Lib.hid hgood
  clear hgood
  have HR : Hid (rightGo 0 0 l = true) := hr
  unfold maxLen at hm
  clear h hcell hr hf
  have hmf : ∀ (fn : Fn) (first cap : Array Value) (w : World), (Instr.makeFunc fn first cap).run Tryd.prog w = .ok (.func fn first cap) w := fun _ _ _ _ => rfl
  have hmm := @run_makeMap Tryd.prog
  have hA := heap_alloc_new w (.cells #[.func (.func 40) #[] #[.pointer (some ⟨p, 0, none⟩), .pointer (some ⟨p2, 0, none⟩)], .func (.func 44) #[] #[], .func (.func 45) #[] #[], .func (.func 46) #[] #[]] 85)
  have hAB : Below (w.alloc (.cells #[.func (.func 40) #[] #[.pointer (some ⟨p, 0, none⟩), .pointer (some ⟨p2, 0, none⟩)], .func (.func 44) #[] #[], .func (.func 45) #[] #[], .func (.func 46) #[] #[]] 85)).heap.size (w.alloc (.cells #[.func (.func 40) #[] #[.pointer (some ⟨p, 0, none⟩), .pointer (some ⟨p2, 0, none⟩)], .func (.func 44) #[] #[], .func (.func 45) #[] #[], .func (.func 46) #[] #[]] 85)) (performIW p p2 w) := (Below.refl _ _).alloc (Nat.le_refl _) _
  have c0 : (performIW p p2 w).cell? ⟨w.heap.size, 0, none⟩ = some (.func (.func 40) #[] #[.pointer (some ⟨p, 0, none⟩), .pointer (some ⟨p2, 0, none⟩)]) := cell_later hAB (by rw [cell_of_row _ _ _ _ _ _ hA]; rfl)
  have c1 : (performIW p p2 w).cell? ⟨w.heap.size, 1, none⟩ = some (.func (.func 44) #[] #[]) := cell_later hAB (by rw [cell_of_row _ _ _ _ _ _ hA]; rfl)
  have c2 : (performIW p p2 w).cell? ⟨w.heap.size, 2, none⟩ = some (.func (.func 45) #[] #[]) := cell_later hAB (by rw [cell_of_row _ _ _ _ _ _ hA]; rfl)
  have c3 : (performIW p p2 w).cell? ⟨w.heap.size, 3, none⟩ = some (.func (.func 46) #[] #[]) := cell_later hAB (by rw [cell_of_row _ _ _ _ _ _ hA]; rfl)
  clear hA hAB
  go_enter Tryd.func43, Tryd.ntmps43
  go_wp2_with fail
  go_cut [7] from 8 (fun s7 wc => ∃ (mb : Nat) (es : Array MapEntry) (ck d1 d2 d3 : Nat), s7 = .map (some mb) ∧ performIMap p p2 w wc mb es ck d1 d2 d3)
  case first =>
    refine L_begin (fun W => Below (performIW p p2 w).heap.size (performIW p p2 w) W) 18 (by kernel_rfl) ?_
    have hS : Below (performIW p p2 w).heap.size (performIW p p2 w) (performIW p p2 w).drew := (Below.refl _ _).drew
    refine L_free (fuel := 19) 1 (.func (.func 69) #[] #[.pointer (some ⟨w.heap.size + 1, 0, none⟩), .pointer (some ⟨w.heap.size, 0, none⟩)]) rfl (by kernel_rfl) (by kernel_rfl) (by kernel_rfl) (by kernel_rfl) (fun _ _ _ h => h) (by first | rfl | kernel_rfl) ?_ hS ?_
    · intro W
      go_simp
    refine L_free (fuel := 18) 3 (.func (.func 67) #[] #[.pointer (some ⟨w.heap.size + 1, 0, none⟩)]) rfl (by kernel_rfl) (by kernel_rfl) (by kernel_rfl) (by kernel_rfl) (fun _ _ _ h => h) (by first | rfl | kernel_rfl) ?_ hS ?_
    · intro W
      go_simp
    refine L_free (fuel := 17) 4 (.pointer (some ⟨w.heap.size, 1, none⟩)) rfl (by kernel_rfl) (by kernel_rfl) (by kernel_rfl) (by kernel_rfl) (fun _ _ _ h => h) (by first | rfl | kernel_rfl) ?_ hS ?_
    · intro W
      go_simp
    refine L_takeB (fuel := 16) 5 [18] (.func (.func 44) #[] #[]) rfl (by kernel_rfl) (by kernel_rfl) (by kernel_rfl) (by kernel_rfl) (fun _ _ _ h => h) (by first | rfl | kernel_rfl) ?_ hS ?_
    · intro W hW
      have q1 := cell_later hW c1
      have q2 := cell_later hW c2
      have q3 := cell_later hW c3
      go_simp
    refine L_free (fuel := 15) 8 (.func (.func 67) #[] #[.pointer (some ⟨w.heap.size + 1, 0, none⟩)]) rfl (by kernel_rfl) (by kernel_rfl) (by kernel_rfl) (by kernel_rfl) (fun _ _ _ h => h) (by first | rfl | kernel_rfl) ?_ hS ?_
    · intro W
      go_simp
    refine L_free (fuel := 14) 9 (.pointer (some ⟨w.heap.size, 2, none⟩)) rfl (by kernel_rfl) (by kernel_rfl) (by kernel_rfl) (by kernel_rfl) (fun _ _ _ h => h) (by first | rfl | kernel_rfl) ?_ hS ?_
    · intro W
      go_simp
    refine L_takeB (fuel := 13) 10 [18] (.func (.func 45) #[] #[]) rfl (by kernel_rfl) (by kernel_rfl) (by kernel_rfl) (by kernel_rfl) (fun _ _ _ h => h) (by first | rfl | kernel_rfl) ?_ hS ?_
    · intro W hW
      have q1 := cell_later hW c1
      have q2 := cell_later hW c2
      have q3 := cell_later hW c3
      go_simp
    refine L_free (fuel := 12) 13 (.func (.func 67) #[] #[.pointer (some ⟨w.heap.size + 1, 0, none⟩)]) rfl (by kernel_rfl) (by kernel_rfl) (by kernel_rfl) (by kernel_rfl) (fun _ _ _ h => h) (by first | rfl | kernel_rfl) ?_ hS ?_
    · intro W
      go_simp
    refine L_free (fuel := 11) 14 (.pointer (some ⟨w.heap.size, 3, none⟩)) rfl (by kernel_rfl) (by kernel_rfl) (by kernel_rfl) (by kernel_rfl) (fun _ _ _ h => h) (by first | rfl | kernel_rfl) ?_ hS ?_
    · intro W
      go_simp
    refine L_takeB (fuel := 10) 15 [18] (.func (.func 46) #[] #[]) rfl (by kernel_rfl) (by kernel_rfl) (by kernel_rfl) (by kernel_rfl) (fun _ _ _ h => h) (by first | rfl | kernel_rfl) ?_ hS ?_
    · intro W hW
      have q1 := cell_later hW c1
      have q2 := cell_later hW c2
      have q3 := cell_later hW c3
      go_simp
    refine anyL_listed (listed' := litL false 0 false false false false) (by kernel_rfl) ?_
    refine lit_region (I := LitI (performIW p p2 w) 83 (performIF w) (performIV w) (.func (.func 44) #[] #[]) (.func (.func 45) #[] #[]) (.func (.func 46) #[] #[]) (performIT p p2 (.slice ao l.length c) w)) ?hS ?hr ?make ?call1 ?call2 ?call3 ?put0 ?put1 ?put2 ?put3 ?fin 8 false 0 false false false false _ _ (by omega) rfl ?start
    case hS => exact fun hI => hI.bel
    case hr => decide +kernel
    case start =>
      refine LitI.start hS ?_
      kernel_rfl
    case make =>
      intro c b0 b1 b2 b3 a W hI
      obtain ⟨x1, x2, x3, rfl, hN⟩ := hI.made
      refine wpOp_step rfl (fun K hK => ?_)
      go_simp
      exact hK _ _ hN
    case call1 =>
      intro m b0 b1 b2 b3 a W hI
      have hB := hI.bel
      obtain ⟨x0, rfl, hN⟩ := hI.call1
      refine wpOp_step rfl (fun K hK => ?_)
      go_simp
      refine (twoI_any _ _ _).mono ?_
      rintro e W' ⟨rfl, rfl⟩
      go_simp
      exact hK _ _ hN
    case call2 =>
      intro m b0 b1 b2 b3 a W hI
      have hB := hI.bel
      obtain ⟨x0, x1, rfl, hN⟩ := hI.call2
      refine wpOp_step rfl (fun K hK => ?_)
      go_simp
      refine (twoI_any _ _ _).mono ?_
      rintro e W' ⟨rfl, rfl⟩
      go_simp
      exact hK _ _ hN
    case call3 =>
      intro m b0 b1 b2 b3 a W hI
      have hB := hI.bel
      obtain ⟨x0, x1, x2, rfl, hN⟩ := hI.call3
      refine wpOp_step rfl (fun K hK => ?_)
      go_simp
      refine (twoI_any _ _ _).mono ?_
      rintro e W' ⟨rfl, rfl⟩
      go_simp
      exact hK _ _ hN
    case put0 =>
      intro c b1 b2 b3 a W hI
      obtain ⟨mb, es, ck, x1, x2, x3, g, rfl, hb, hm, hg, hN⟩ := hI.put0
      have hins := fun v => run_insert_new (P := Tryd.prog) (k := 0) Tryd.underlying109 Tryd.underlying3 hb hm hg v
      refine wpOp_step rfl (fun K hK => ?_)
      go_simp
      exact hK _ _ hN
    case put1 =>
      intro c b0 b2 b3 a W hc hI
      obtain ⟨mb, es, ck, x1, x2, x3, g, rfl, hb, hm, hg, hN⟩ := hI.put1 hc
      have hins := fun v => run_insert_new (P := Tryd.prog) (k := 1) Tryd.underlying109 Tryd.underlying3 hb hm hg v
      refine wpOp_step rfl (fun K hK => ?_)
      go_simp
      exact hK _ _ hN
    case put2 =>
      intro c b0 b1 b3 a W hc hI
      obtain ⟨mb, es, ck, x1, x2, x3, g, rfl, hb, hm, hg, hN⟩ := hI.put2 hc
      have hins := fun v => run_insert_new (P := Tryd.prog) (k := 2) Tryd.underlying109 Tryd.underlying3 hb hm hg v
      refine wpOp_step rfl (fun K hK => ?_)
      go_simp
      exact hK _ _ hN
    case put3 =>
      intro c b0 b1 b2 a W hc hI
      obtain ⟨mb, es, ck, x1, x2, x3, g, rfl, hb, hm, hg, hN⟩ := hI.put3 hc
      have hins := fun v => run_insert_new (P := Tryd.prog) (k := 3) Tryd.underlying109 Tryd.underlying3 hb hm hg v
      refine wpOp_step rfl (fun K hK => ?_)
      go_simp
      exact hK _ _ hN
    case fin =>
      intro a W hI
      have hB := hI.bel
      obtain ⟨mb, es, ck, d1, d2, d3, rfl, g1, g2, g3, g4, g5, g6⟩ := hI.done
      refine wpOp_step rfl (fun K hK => ?_)
      go_simp
      refine hK _ _ ?_
      clear hK K
      refine L_end (fuel := 0) 19 (by kernel_rfl) rfl (by kernel_rfl) ?_
      intro K hK
      go_simp
      refine hK _ _ ?_
      clear hK K
      refine L_done (by kernel_rfl) ?_ 0
      have HH : Hid (performIMap p p2 w W mb es ck d1 d2 d3) := ⟨hB, g1, g2, g3, g4.1, g5.1, g6.1, g4.2, g5.2, g6.2⟩
      clear hI hB g1 g2 g3 g4 g5 g6
      go_wp2
      go_meet
      case rel => exact ⟨mb, es, ck, d1, d2, d3, rfl, HH.out⟩
  case rest =>
    obtain ⟨mb, es, ck, d1, d2, d3, rfl, hM⟩ := hcut
    have hnb := heap_alloc_new (w.alloc (.cells #[.func (.func 40) #[] #[.pointer (some ⟨p, 0, none⟩), .pointer (some ⟨p2, 0, none⟩)], .func (.func 44) #[] #[], .func (.func 45) #[] #[], .func (.func 46) #[] #[]] 85)) (.cells #[.slice none 0 0] 39)
    rw [show (w.alloc (.cells #[.func (.func 40) #[] #[.pointer (some ⟨p, 0, none⟩), .pointer (some ⟨p2, 0, none⟩)], .func (.func 44) #[] #[], .func (.func 45) #[] #[], .func (.func 46) #[] #[]] 85)).heap.size = w.heap.size + 1 from by simp] at hnb
    have hsb : w.heap.size + 1 < (performIW p p2 w).heap.size := lt_of_block hnb
    have hvar : wc.heap[w.heap.size + 1]? = some (.cells #[.slice none 0 0] 39 (0, 0)) := (hM.bel.block _ hsb).trans hnb
    have hst0 : StkI wc wc (w.heap.size + 1) (.slice none 0 0) 0 [] := StkI.start hvar
    have hbw0 : Below w.heap.size w (performIW p p2 w) := ((Below.refl w.heap.size w).alloc (Nat.le_refl _) _).alloc (by simp) _
    have hbw : Below w.heap.size w wc := hbw0.trans (hM.bel.mono (by omega))
    have hf0 := cell_later hM.bel c0
    have HM := Lib.hid hM
    have HST0 := Lib.hid hst0
    have HB0 := Lib.hid hbw
    have HF0 := Lib.hid hf0
    have HSB := Lib.hid hsb
    clear c0 c1 c2 c3 hnb hsb hvar hst0 hbw hbw0 hf0 hM hmm
    go_wp2_with fail
    go_loopw [28] (fun i wr => ∃ (k n : Nat) (st : List (List Int)) (sv : Value) (q : Int), k ≤ l.length ∧ i = .int .i64 k ∧ n ≤ k ∧ Hid (StkI wc wr (w.heap.size + 1) sv n st) ∧ Hid (rightGo n q (l.drop k) = true) ∧ Hid (evGo f opI [] l = evGo f opI st (l.drop k)) ∧ Hid (Below w.heap.size w wr)) (fun i _ => l.length - (intOf i).toNat)
    case atStart => exact ⟨0, 0, [], _, 0, Nat.zero_le _, rfl, Nat.le_refl _, HST0.out, HR.out, rfl, HB0.out⟩
    case round =>
      obtain ⟨k, n, st, sv, q, hk, rfl, hnk, HST, HG0, HP0, HB⟩ := hrel
      by_cases hlt : k < l.length
      · obtain ⟨b, off, rfl, h1, h2⟩ := HC.out k hlt
        have e1 := cell_later HB.out h1
        have e2 := cell_later HB.out h2
        have hdrop : l.drop k = l[k] :: l.drop (k + 1) := List.drop_eq_getElem_cons hlt
        obtain ⟨⟨kk, tt⟩, hx⟩ : ∃ s, s = l[k] := ⟨_, rfl⟩
        rw [← hx] at hdrop e1 e2
        simp only at e1 e2
        have hg2 := HG0.out
        have hp2 := HP0.out
        rw [hdrop] at hg2 hp2
        have ki : (k : Int) < (l.length : Int) := by omega
        have k0 : (0 : Int) ≤ (k : Int) := by omega
        clear hdrop hx h1 h2 HG0 HP0
        simp only [rightGo, evGo] at hg2 hp2
        by_cases hk0 : kk = 0
        · subst hk0
          rw [if_pos rfl] at hg2 hp2
          have hrt : rightTok tt = true := by
            cases h : rightTok tt with
            | true => rfl
            | false => rw [if_neg (by simp [h])] at hg2; exact hg2
          rw [if_pos hrt] at hg2
          have HG := Lib.hid hg2
          have HP := Lib.hid hp2
          clear hg2 hp2
          have HLK : Hid (∀ W : World, W.heap[mb]? = some (.map es ck) → (Instr.lookup 109 (.map (some mb)) (.int .i64 0) false).run Tryd.prog W = .ok (performIF w) W) := fun W hW => run_lookup_at Tryd.underlying109 Tryd.underlying3 hW HM.out.is (by simp [litG])
          have hbA : Below wr.heap.size wr (wr.alloc (.cells #[.int .i64 0, .string (bstr tt)] 55)) := (Below.refl _ _).alloc (Nat.le_refl _) _
          have HSA := Lib.hid (HST.out.below hbA)
          have HBA := Lib.hid (HB.out.trans (hbA.mono HB.out.size))
          have HMB : Hid ((wr.alloc (.cells #[.int .i64 0, .string (bstr tt)] 55)).heap[mb]? = some (.map es ck)) := by show _ = _; rw [HSA.out.keep mb (lt_of_block HM.out.map) (by have := HM.out.mbl; have := HSB.out; omega)]; exact HM.out.map
          have HCP := Lib.hid (pushI_any wc (wr.alloc (.cells #[.int .i64 0, .string (bstr tt)] 55)) (w.heap.size + 1) w.heap.size p p2 sv n st tt (f tt) HSA.out (by omega) (HGOOD.out tt) (by rw [HSA.out.cell_keep w.heap.size 0 (by have := HST0.out.lt; omega) (by omega)]; exact HF0.out) (fun W' hW' => HF.out tt W' hrt (HBA.out.trans (hW'.mono HBA.out.size))))
          clear hbA hrt
          go_wp2_with (first
            | (at_lookup; refine wpList_lookup_run rfl _ _ _ rfl (.map (some mb)) (.int .i64 0) (by rfl) (by rfl) _ (HLK.out _ HMB.out) ?_)
            | (go_at_call 69; refine HCP.out.mono ?_; rintro e w3 ⟨rfl, sv3, hst3, hbt3⟩; have HS3 := Lib.hid hst3; have HT3 := Lib.hid (HBA.out.trans (hbt3.mono (show w.heap.size ≤ w.heap.size + 1 by omega))); clear hst3 hbt3))
          go_roundw
          case rel => exact ⟨k + 1, n + 1, f tt :: st, sv3, q + 1, by omega, by go_num, by omega, HS3.out, by have := HG.out; rw [show ((n + 1 : Nat) : Int) = (n : Int) + 1 from by omega]; exact this, HP.out, HT3.out⟩
          case measure => simp [intOf]; omega
        · rw [if_neg hk0] at hg2 hp2
          by_cases hk3 : kk = 1 ∨ kk = 2 ∨ kk = 3
          · rw [if_pos hk3] at hg2
            by_cases hbad : tt ≠ [] ∨ (n : Int) < 2
            · rw [if_pos hbad] at hg2; simp at hg2
            · rw [if_neg hbad] at hg2
              have htt : tt = [] := Classical.byContradiction fun e => hbad (.inl e)
              have hn2 : ¬ (n : Int) < 2 := fun e => hbad (.inr e)
              subst htt
              have hsl := HST.out.len
              match st, hsl, HST, hp2 with
              | [], hsl, _, _ => simp at hsl; omega
              | [_], hsl, _, _ => simp at hsl; omega
              | y :: x :: s, hsl, HST, hp2 =>
                have HG := Lib.hid hg2
                have HP := Lib.hid hp2
                clear hg2 hp2 hbad hsl
                rcases hk3 with rfl | rfl | rfl
                · clear hk0
                  have HLK : Hid (∀ W : World, W.heap[mb]? = some (.map es ck) → (Instr.lookup 109 (.map (some mb)) (.int .i64 1) false).run Tryd.prog W = .ok (performIV w d1) W) := fun W hW => run_lookup_at Tryd.underlying109 Tryd.underlying3 hW HM.out.is (by simp [litG])
                  have hbA : Below wr.heap.size wr (wr.alloc (.cells #[.int .i64 1, .string (bstr [])] 55)) := (Below.refl _ _).alloc (Nat.le_refl _) _
                  have HSA := Lib.hid (HST.out.below hbA)
                  have HBA := Lib.hid (HB.out.trans (hbA.mono HB.out.size))
                  have HMB : Hid ((wr.alloc (.cells #[.int .i64 1, .string (bstr [])] 55)).heap[mb]? = some (.map es ck)) := by show _ = _; rw [HSA.out.keep mb (lt_of_block HM.out.map) (by have := HM.out.mbl; have := HSB.out; omega)]; exact HM.out.map
                  have HCB := Lib.hid (comb1I_any wc (wr.alloc (.cells #[.int .i64 1, .string (bstr [])] 55)) (w.heap.size + 1) d1 sv n x y s HSA.out (by omega) (by rw [HSA.out.cell_keep d1 0 (lt_of_block HM.out.f1) (by have := HM.out.l1; have := HSB.out; omega), cell_of_row _ _ _ _ _ _ HM.out.f1]; rfl))
                  clear hbA
                  go_wp2_with (first
                    | (at_lookup; refine wpList_lookup_run rfl _ _ _ rfl (.map (some mb)) (.int .i64 1) (by rfl) (by rfl) _ (HLK.out _ HMB.out) ?_)
                    | (go_at_call 68; refine HCB.out.mono ?_; rintro e w3 ⟨rfl, sv3, hst3, hbt3⟩; have HS3 := Lib.hid hst3; have HT3 := Lib.hid (HBA.out.trans (hbt3.mono (show w.heap.size ≤ w.heap.size + 1 by omega))); clear hst3 hbt3))
                  go_roundw
                  case rel => exact ⟨k + 1, n - 2 + 1, opI 1 x y :: s, sv3, q, by omega, by go_num, by omega, HS3.out, by have := HG.out; rw [show ((n - 2 + 1 : Nat) : Int) = (n : Int) - 1 from by omega]; exact this, HP.out, HT3.out⟩
                  case measure => simp [intOf]; omega
                · clear hk0
                  have HLK : Hid (∀ W : World, W.heap[mb]? = some (.map es ck) → (Instr.lookup 109 (.map (some mb)) (.int .i64 2) false).run Tryd.prog W = .ok (performIV w d2) W) := fun W hW => run_lookup_at Tryd.underlying109 Tryd.underlying3 hW HM.out.is (by simp [litG])
                  have hbA : Below wr.heap.size wr (wr.alloc (.cells #[.int .i64 2, .string (bstr [])] 55)) := (Below.refl _ _).alloc (Nat.le_refl _) _
                  have HSA := Lib.hid (HST.out.below hbA)
                  have HBA := Lib.hid (HB.out.trans (hbA.mono HB.out.size))
                  have HMB : Hid ((wr.alloc (.cells #[.int .i64 2, .string (bstr [])] 55)).heap[mb]? = some (.map es ck)) := by show _ = _; rw [HSA.out.keep mb (lt_of_block HM.out.map) (by have := HM.out.mbl; have := HSB.out; omega)]; exact HM.out.map
                  have HCB := Lib.hid (comb2I_any wc (wr.alloc (.cells #[.int .i64 2, .string (bstr [])] 55)) (w.heap.size + 1) d2 sv n x y s HSA.out (by omega) (by rw [HSA.out.cell_keep d2 0 (lt_of_block HM.out.f2) (by have := HM.out.l2; have := HSB.out; omega), cell_of_row _ _ _ _ _ _ HM.out.f2]; rfl))
                  clear hbA
                  go_wp2_with (first
                    | (at_lookup; refine wpList_lookup_run rfl _ _ _ rfl (.map (some mb)) (.int .i64 2) (by rfl) (by rfl) _ (HLK.out _ HMB.out) ?_)
                    | (go_at_call 68; refine HCB.out.mono ?_; rintro e w3 ⟨rfl, sv3, hst3, hbt3⟩; have HS3 := Lib.hid hst3; have HT3 := Lib.hid (HBA.out.trans (hbt3.mono (show w.heap.size ≤ w.heap.size + 1 by omega))); clear hst3 hbt3))
                  go_roundw
                  case rel => exact ⟨k + 1, n - 2 + 1, opI 2 x y :: s, sv3, q, by omega, by go_num, by omega, HS3.out, by have := HG.out; rw [show ((n - 2 + 1 : Nat) : Int) = (n : Int) - 1 from by omega]; exact this, HP.out, HT3.out⟩
                  case measure => simp [intOf]; omega
                · clear hk0
                  have HLK : Hid (∀ W : World, W.heap[mb]? = some (.map es ck) → (Instr.lookup 109 (.map (some mb)) (.int .i64 3) false).run Tryd.prog W = .ok (performIV w d3) W) := fun W hW => run_lookup_at Tryd.underlying109 Tryd.underlying3 hW HM.out.is (by simp [litG])
                  have hbA : Below wr.heap.size wr (wr.alloc (.cells #[.int .i64 3, .string (bstr [])] 55)) := (Below.refl _ _).alloc (Nat.le_refl _) _
                  have HSA := Lib.hid (HST.out.below hbA)
                  have HBA := Lib.hid (HB.out.trans (hbA.mono HB.out.size))
                  have HMB : Hid ((wr.alloc (.cells #[.int .i64 3, .string (bstr [])] 55)).heap[mb]? = some (.map es ck)) := by show _ = _; rw [HSA.out.keep mb (lt_of_block HM.out.map) (by have := HM.out.mbl; have := HSB.out; omega)]; exact HM.out.map
                  have HCB := Lib.hid (comb3I_any wc (wr.alloc (.cells #[.int .i64 3, .string (bstr [])] 55)) (w.heap.size + 1) d3 sv n x y s HSA.out (by omega) (by rw [HSA.out.cell_keep d3 0 (lt_of_block HM.out.f3) (by have := HM.out.l3; have := HSB.out; omega), cell_of_row _ _ _ _ _ _ HM.out.f3]; rfl))
                  clear hbA
                  go_wp2_with (first
                    | (at_lookup; refine wpList_lookup_run rfl _ _ _ rfl (.map (some mb)) (.int .i64 3) (by rfl) (by rfl) _ (HLK.out _ HMB.out) ?_)
                    | (go_at_call 68; refine HCB.out.mono ?_; rintro e w3 ⟨rfl, sv3, hst3, hbt3⟩; have HS3 := Lib.hid hst3; have HT3 := Lib.hid (HBA.out.trans (hbt3.mono (show w.heap.size ≤ w.heap.size + 1 by omega))); clear hst3 hbt3))
                  go_roundw
                  case rel => exact ⟨k + 1, n - 2 + 1, opI 3 x y :: s, sv3, q, by omega, by go_num, by omega, HS3.out, by have := HG.out; rw [show ((n - 2 + 1 : Nat) : Int) = (n : Int) - 1 from by omega]; exact this, HP.out, HT3.out⟩
                  case measure => simp [intOf]; omega
          · rw [if_neg hk3] at hg2; simp at hg2
      · have hke : k = l.length := by omega
        subst hke
        have hg2 := HG0.out
        have hp2 := HP0.out
        rw [List.drop_length] at hg2 hp2
        simp only [rightGo, evGo, Bool.and_eq_true, decide_eq_true_eq] at hg2 hp2
        have hn1 : n = 1 := by omega
        subst hn1
        have hsl := HST.out.len
        match st, hsl, HST, hp2 with
        | [], hsl, _, _ => simp at hsl
        | _ :: _ :: _, hsl, _, _ => simp at hsl
        | [x], hsl, HST, hp2 =>
          have HE : Hid (evL f opI [] l = x) := by show _ = _; unfold evL; rw [hp2]; rfl
          obtain ⟨g, cap, rfl⟩ := own_form HST.out.own (by omega)
          have e0 : wr.cell? ⟨w.heap.size + 1, 0, none⟩ = some (.slice (some ⟨g, 0, none⟩) 1 cap) := by rw [cell_of_row _ _ _ _ _ _ HST.out.var]; rfl
          obtain ⟨vs, hown, hel⟩ := HST.out.ex
          match vs, hel, hown with
          | [], hel, _ => exact hel.elim
          | _ :: _ :: _, hel, _ => exact hel.2.elim
          | [xv], hel, hown =>
            have e1 : wr.cell? ⟨g, 0, none⟩ = some xv := by
              have := hown.cellAt 0 (by omega)
              exact this
            have hxo := hel.1.1
            obtain ⟨xa, xc, rfl⟩ := own_shape hxo
            have HXO := Lib.hid hxo
            clear hg2 hp2 hsl HG0 HP0 hxo hown hel
            go_wp2
            go_ret
            exact ⟨_, rfl, by rw [HE.out]; exact own_mono HXO.out HB0.out.size, HB.out⟩
end Go.Proofs.YteegbjjpjdlcmaaDoor
