/- query.Parse. -/
import Derived.Test.YtjbmihgfneamlaaDoorUnits
set_option linter.unusedVariables false
namespace Go.Proofs.YtjbmihgfneamlaaDoor
open Go.RowKit

/-- the elements' last is no text, and the one that ends them. -/
theorem elGo_ended (b : List UInt8) : ∀ (l : List Int) (p : Nat) (st : Int) (acc : List El), ∃ ini x, elGo b p st acc l = ini ++ [x] ∧ (x.kind = -2 ∨ x.kind = -3) := by
  intro l
  induction l with
  | nil => intro p st acc; exact ⟨_, _, rfl, .inl rfl⟩
  | cons c r ih =>
    intro p st acc
    simp only [elGo]
    split
    · exact ih _ _ _
    · split
      · exact ih _ _ _
      · split
        · exact ih _ _ _
        · exact ⟨_, _, rfl, .inr rfl⟩

theorem elems_ended (b : List UInt8) : Ended (elems b) := by
  obtain ⟨ini, x, he, hx⟩ := elGo_ended b (decode b) 0 (-1) []
  intro i hi hk
  unfold elems at hi hk ⊢
  rw [he] at hi hk ⊢
  simp only [List.length_append, List.length_singleton] at hi ⊢
  by_cases h : i = ini.length
  · subst h
    unfold knd at hk
    simp at hk
    omega
  · omega

theorem elems_pos (b : List UInt8) : 0 < (elems b).length := by
  obtain ⟨ini, x, he, hx⟩ := elGo_ended b (decode b) 0 (-1) []
  unfold elems
  rw [he]
  simp

theorem elGo_len (b : List UInt8) : ∀ (l : List Int) (p : Nat) (st : Int) (acc : List El), (elGo b p st acc l).length ≤ acc.length + 2 * l.length + 2 := by
  intro l
  induction l with
  | nil => intro p st acc; have := flush_len b st p acc; simp only [elGo, List.length_append, List.length_singleton, List.length_nil]; omega
  | cons c r ih =>
    intro p st acc
    have hf := flush_len b st p acc
    simp only [elGo, List.length_cons]
    split
    · have := ih (p + (enc c).length) (if st < 0 then p else st) acc; omega
    · split
      · have := ih (p + 1) (-1) (flush b st p acc); omega
      · split
        · have := ih (p + 1) (-1) (flush b st p acc ++ [⟨c, p, []⟩]); simp only [List.length_append, List.length_singleton] at this; omega
        · simp only [List.length_append, List.length_singleton]; omega

/-- what Parse answers: the steps, or the index and the error. -/
def parsed (b : List UInt8) : Int × PS := queryP (unitP (elems b) (elems b).length 8) (elems b) (elems b).length ⟨0, 0, []⟩
def parseErr (b : List UInt8) : Int := if 2000 < b.length then 8 else if (parsed b).1 = 0 then if knd (elems b) (parsed b).2.nx = -2 then 0 else 2 else (parsed b).1
def parseAt (b : List UInt8) : Int := if 2000 < b.length then 0 else if parseErr b = 0 then 0 else posAt (elems b) (parsed b).2.nx

def Parsed (b : List UInt8) (w : World) (e : Ending) (w' : World) : Prop :=
  Below w.heap.size w w' ∧ ∃ ov, e = .returned (.tuple #[ov, .int .i64 (parseAt b), .int .i64 (parseErr b)]) ∧
    ((parseErr b = 0 ∧ w'.ownsRow w.heap.size 38 2 ov (parsed b).2.ops.length (ocells (parsed b).2.ops)) ∨ (parseErr b ≠ 0 ∧ ov = .slice none 0 0))

theorem parsed_kept (b : List UInt8) : Kept (elems b) ⟨0, 0, []⟩ (parsed b) :=
  queryP_keeps (elems_ended b) (unitP_keeps (elems_ended b) _ 8) _ _ (elems_pos b)

theorem fld1 (a b : Int) (c : ByteArray) : ∀ w : World, (Instr.field 66 (.agg #[.int .i64 a, .int .i64 b, .string c]) 1).run Tryd.prog w = .ok (.int .i64 b) w := fun _ => by kernel_rfl

theorem pst_new (w0 w : World) (ev : Value) (es : List El) (hb : w0.heap.size ≤ w.heap.size) (hown : w.ownsRow w0.heap.size 66 3 ev es.length (elcells es)) :
    PSt w0.heap.size w.heap.size es ev (w.alloc (.cells #[ev, .int .i64 0, .int .i64 0, .slice none 0 0] 63)) ⟨0, 0, []⟩ (.slice none 0 0) :=
  ⟨heap_alloc_new w _, ⟨rfl, .inl ⟨rfl, rfl⟩⟩, hown.alloc _, hb⟩

set_option maxRecDepth 100000 in
set_option maxHeartbeats 4000000 in
theorem parse_any (v : Value) (b : List UInt8) (w : World) (ht : Tabs w) (h : Rd w v b.length 1 (bcells b)) (hn : b.length ≤ 9223372036854775807) :
    Calls Tryd.prog 16 #[v] w (Parsed b w) := by
  have hsh : ∃ ao c, v = .slice ao b.length c := by
    obtain ⟨-, -, ⟨ao, c, rfl, h0⟩ | ⟨b, off, c, rfl, -⟩⟩ := h
    · exact ⟨ao, c, by rw [h0]⟩
    · exact ⟨_, c, rfl⟩
  by_cases hlong : 2000 < b.length
  · have h1 : (2000 : Int) < (b.length : Int) := by omega
    obtain ⟨ao, c, rfl⟩ := hsh
    go_enter Tryd.func16, Tryd.ntmps16
    go_wp2
    go_ret3
    have he : parseErr b = 8 := by unfold parseErr; rw [if_pos hlong]
    have ha : parseAt b = 0 := by unfold parseAt; rw [if_pos hlong]
    exact ⟨(Below.refl _ _), _, by rw [he, ha]; rfl, .inr ⟨by rw [he]; decide, rfl⟩⟩
  have hln : ¬ (2000 : Int) < (b.length : Int) := by omega
  have hle : b.length ≤ 2000 := by omega
  have HEL := Lib.hid (elements_any v b w ht h (by omega))
  have hdl : (decode b).length ≤ b.length := decode_len b
  have hf : (elems b).length ≤ 20000 := by have := elGo_len b (decode b) 0 (-1) []; unfold elems; simp only [List.length_nil] at this; omega
  have kp := parsed_kept b
  have hkl := kp.lt
  have hko := kp.few
  have hperr : parseErr b = if (parsed b).1 = 0 then if knd (elems b) (parsed b).2.nx = -2 then 0 else 2 else (parsed b).1 := by unfold parseErr; rw [if_neg hlong]
  have hpat : parseAt b = if parseErr b = 0 then 0 else posAt (elems b) (parsed b).2.nx := by unfold parseAt; rw [if_neg hlong]
  have HQ : ∀ (b0 B : Nat) (ev ov : Value) (W : World), PSt b0 B (elems b) ev W ⟨0, 0, []⟩ ov → Calls Tryd.prog 38 #[.pointer (some ⟨B, 0, none⟩), .int .i64 0] W (Ret b0 B (elems b) ev (parsed b) W) := fun b0 B ev ov W hW => query0_ok (elems b) hf (elems_ended b) _ (Nat.le_refl _) b0 B ev ov _ W hW (elems_pos b) (Nat.zero_le _) (by simp)
  have hgoal : ∀ (w w' : World) (e : Ending), Parsed b w e w' ↔ (Below w.heap.size w w' ∧ ∃ ov, e = .returned (.tuple #[ov, .int .i64 (parseAt b), .int .i64 (parseErr b)]) ∧
    ((parseErr b = 0 ∧ w'.ownsRow w.heap.size 38 2 ov (parsed b).2.ops.length (ocells (parsed b).2.ops)) ∨ (parseErr b ≠ 0 ∧ ov = .slice none 0 0))) := fun _ _ _ => Iff.rfl
  generalize parseErr b = er at *
  generalize parseAt b = at' at *
  generalize parsed b = r at *
  generalize hes : elems b = es at *
  obtain ⟨e1, s1⟩ := r
  simp only at hkl hko hperr hpat
  have HG := Lib.hid hgoal
  have HPE := Lib.hid hperr
  have HPA := Lib.hid hpat
  have hE := elems_ended b
  clear hgoal hperr hpat kp hko h hes hE
  obtain ⟨ao, c, rfl⟩ := hsh
  have hfd := fld0 (knd es s1.nx) (posAt es s1.nx) (bstr (trm es s1.nx))
  have hfd1 := fld1 (knd es s1.nx) (posAt es s1.nx) (bstr (trm es s1.nx))
  by_cases he : e1 = 0
  · subst he
    by_cases hk : knd es s1.nx = -2
    · have e0 := HPE.out
      rw [if_pos rfl, if_pos hk] at e0
      have a0 := HPA.out
      rw [if_pos e0] at a0
      subst e0
      subst a0
      have n1 : (knd es s1.nx != -2) = false := by rw [hk]; rfl
      clear hk HPE HPA
      go_enter Tryd.func16, Tryd.ntmps16
      go_wp2_with (first | (go_at_call 37; refine HEL.out.mono ?_; rintro e w1 ⟨ev, rfl, hown1, hb1⟩; obtain ⟨ea, ec, rfl⟩ := own_shape hown1; have h2 := pst_new w w1 _ es hb1.size hown1) | (go_at_call 38; refine (HQ _ _ _ _ _ h2).mono ?_; rintro e w3 ⟨rfl, ov3, h4, hc4⟩; have hp4 := peek_st h4 hf hkl; have HP4 := Lib.hid hp4; clear hp4) | (go_at_call 39; refine HP4.out.mono ?_; rintro e w4 ⟨rfl, hb4⟩; have h5 := h4.below hb4; obtain ⟨c0, c1, c2, c3⟩ := h5.pm.cells))
      go_ret3
      refine (HG.out _ _ _).2 ⟨?_, ov3, rfl, .inl ⟨by trivial, h5.own⟩⟩
      exact ((hb1.alloc hb1.size _).trans hc4.below).trans (hb4.mono h4.size.1)
    · have e0 := HPE.out
      rw [if_pos rfl, if_neg hk] at e0
      have a0 := HPA.out
      rw [if_neg (by rw [e0]; decide)] at a0
      subst e0
      subst a0
      have n1 : (knd es s1.nx != -2) = true := by rw [bne_iff_ne]; exact hk
      clear hk HPE HPA
      go_enter Tryd.func16, Tryd.ntmps16
      go_wp2_with (first | (go_at_call 37; refine HEL.out.mono ?_; rintro e w1 ⟨ev, rfl, hown1, hb1⟩; obtain ⟨ea, ec, rfl⟩ := own_shape hown1; have h2 := pst_new w w1 _ es hb1.size hown1) | (go_at_call 38; refine (HQ _ _ _ _ _ h2).mono ?_; rintro e w3 ⟨rfl, ov3, h4, hc4⟩; have hp4 := peek_st h4 hf hkl; have HP4 := Lib.hid hp4; clear hp4) | (go_at_call 39; refine HP5.out.mono ?_; rintro e w5 ⟨rfl, hb5⟩) | (go_at_call 39; refine HP4.out.mono ?_; rintro e w4 ⟨rfl, hb4⟩; have h5 := h4.below hb4; obtain ⟨c0, c1, c2, c3⟩ := h5.pm.cells; have hp5 := peek_st h5 hf hkl; have HP5 := Lib.hid hp5; clear hp5))
      go_ret3
      refine (HG.out _ _ _).2 ⟨?_, _, rfl, .inr ⟨by decide, rfl⟩⟩
      exact (((hb1.alloc hb1.size _).trans hc4.below).trans (hb4.mono h4.size.1)).trans (hb5.mono h5.size.1)
  · have e0 := HPE.out
    rw [if_neg he] at e0
    have a0 := HPA.out
    rw [if_neg (by rw [e0]; exact he)] at a0
    subst e0
    subst a0
    have n1 : (er == 0) = false := beq_eq_false_iff_ne.2 he
    have n2 : (er != 0) = true := by rw [bne_iff_ne]; exact he
    have HNE := Lib.hid he
    clear he HPE HPA
    go_enter Tryd.func16, Tryd.ntmps16
    go_wp2_with (first | (go_at_call 37; refine HEL.out.mono ?_; rintro e w1 ⟨ev, rfl, hown1, hb1⟩; obtain ⟨ea, ec, rfl⟩ := own_shape hown1; have h2 := pst_new w w1 _ es hb1.size hown1) | (go_at_call 38; refine (HQ _ _ _ _ _ h2).mono ?_; rintro e w3 ⟨rfl, ov3, h4, hc4⟩; have hp4 := peek_st h4 hf hkl; have HP4 := Lib.hid hp4; clear hp4) | (go_at_call 39; refine HP4.out.mono ?_; rintro e w4 ⟨rfl, hb4⟩))
    go_ret3
    refine (HG.out _ _ _).2 ⟨?_, _, rfl, .inr ⟨HNE.out, rfl⟩⟩
    exact ((hb1.alloc hb1.size _).trans hc4.below).trans (hb4.mono h4.size.1)
end Go.Proofs.YtjbmihgfneamlaaDoor
