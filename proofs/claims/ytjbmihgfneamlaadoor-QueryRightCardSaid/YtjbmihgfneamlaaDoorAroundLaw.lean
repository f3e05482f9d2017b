/- The plain law: spaces at the ends, and brackets around. -/
import Derived.Test.YtjbmihgfneamlaaDoorBackLaw
set_option linter.unusedVariables false
namespace Go.Proofs.YtjbmihgfneamlaaDoor

/-- more bytes behind, the next of one byte: the first character is as it was. -/
theorem first_more (b : List UInt8) (x : UInt8) (r : List UInt8) (hb : b ≠ []) (hx : x.toNat < 128) : first (b ++ x :: r) = first b := by
  have hc : cont x = false := by unfold cont ch; simp; omega
  rcases b with _ | ⟨b0, _ | ⟨b1, _ | ⟨b2, _ | ⟨b3, t⟩⟩⟩⟩
  · exact absurd rfl hb
  all_goals rcases r with _ | ⟨r1, _ | ⟨r2, r⟩⟩
  all_goals simp [first, first2, first3, first4, hc]

theorem decode_more (x : UInt8) (r : List UInt8) (hx : x.toNat < 128) : ∀ (n : Nat) (b : List UInt8), b.length ≤ n → decode (b ++ x :: r) = decode b ++ decode (x :: r) := by
  intro n
  induction n with
  | zero => intro b hb; have : b = [] := List.eq_nil_of_length_eq_zero (by omega); subst this; rfl
  | succ n ih =>
    intro b hb
    by_cases h0 : b = []
    · subst h0; rfl
    · have hf := first_len b h0
      rw [decode_step (b ++ x :: r) (by simp), decode_step b h0, first_more b x r h0 hx, List.drop_append_of_le_length hf.2, ih _ (by rw [List.length_drop]; omega), List.cons_append]

/-- an element without its place. -/
def strip (e : El) : Int × List UInt8 := (e.kind, e.term)

def StRel (d p : Nat) (st st' : Int) : Prop := (st < 0 ∧ st' < 0) ∨ ∃ s : Nat, st = s ∧ st' = ((s + d : Nat) : Int) ∧ s ≤ p

theorem flush_strip (pre b suf : List UInt8) (p : Nat) (st st' : Int) (acc acc' : List El) (hp : p ≤ b.length) (hs : StRel pre.length p st st') (h : acc.map strip = acc'.map strip) :
    (flush b st p acc).map strip = (flush (pre ++ b ++ suf) st' (p + pre.length) acc').map strip := by
  unfold flush
  rcases hs with ⟨h1, h2⟩ | ⟨s, rfl, rfl, hsp⟩
  · rw [if_pos h1, if_pos h2, h]
  · rw [if_neg (by omega), if_neg (by omega), List.map_append, List.map_append, h]
    congr 1
    simp only [List.map_cons, List.map_nil, strip]
    have e1 : ((s + pre.length : Nat) : Int).toNat = pre.length + s := by omega
    have e2 : (s : Int).toNat = s := by omega
    rw [e1, e2, List.append_assoc, ← List.drop_drop, List.drop_left, List.drop_append_of_le_length (by omega), List.take_append_of_le_length (by rw [List.length_drop]; omega)]
    rw [show p + pre.length - (pre.length + s) = p - s from by omega]

theorem flush_kinds (b : List UInt8) (st : Int) (p : Nat) (acc : List El) (h : ∀ x ∈ acc, x.kind ≠ -2 ∧ x.kind ≠ -3) : ∀ x ∈ flush b st p acc, x.kind ≠ -2 ∧ x.kind ≠ -3 := by
  unfold flush
  split
  · exact h
  · intro x hx
    simp only [List.mem_append, List.mem_singleton] at hx
    rcases hx with hx | rfl
    · exact h x hx
    · exact ⟨fun e => by simp only at e; omega, fun e => by simp only at e; omega⟩

theorem strip_kinds {acc acc' : List El} (h : acc.map strip = acc'.map strip) (hk : ∀ x ∈ acc, x.kind ≠ -2 ∧ x.kind ≠ -3) : ∀ x ∈ acc', x.kind ≠ -2 ∧ x.kind ≠ -3 := by
  intro x hx
  have : strip x ∈ acc.map strip := by rw [h]; exact List.mem_map_of_mem hx
  obtain ⟨y, hy, he⟩ := List.mem_map.1 this
  have h1 := hk y hy
  simp only [strip, Prod.mk.injEq] at he
  rw [← he.1]
  exact h1

theorem sep_kinds {c : Int} (h : sepChar c = true) : (c ≠ -2 ∧ c ≠ -3) ∧ c ≠ 65533 ∧ (enc c).length = 1 ∧ (c = 40 ∨ c = 41 ∨ c = 124 ∨ c = 38 ∨ c = 33) := by
  have hc : c = 40 ∨ c = 41 ∨ c = 124 ∨ c = 38 ∨ c = 33 := by
    unfold sepChar at h
    simp only [Bool.or_eq_true, beq_iff_eq] at h
    omega
  refine ⟨by omega, by omega, ?_, hc⟩
  rcases hc with rfl | rfl | rfl | rfl | rfl <;> rfl

theorem decode_nil_iff {b : List UInt8} (h : decode b = []) : b = [] := by
  by_cases hb : b = []
  · exact hb
  · rw [decode_step b hb] at h; simp at h

/-- the same bytes elsewhere: the same elements, but for their places. -/
theorem el_sim (pre b suf : List UInt8) (rest : List Int) : ∀ (cs : List Int) (p : Nat) (st st' : Int) (acc acc' : List El), p ≤ b.length → cs = decode (b.drop p) → StRel pre.length p st st' → acc.map strip = acc'.map strip → (∀ x ∈ acc, x.kind ≠ -2 ∧ x.kind ≠ -3) →
    (∃ X, (elGo b p st acc cs).map strip = X ++ [(-3, [])] ∧ (elGo (pre ++ b ++ suf) (p + pre.length) st' acc' (cs ++ rest)).map strip = X ++ [(-3, [])] ∧ ∀ x ∈ X, x.1 ≠ -2) ∨
    (∃ acc2 st2, (elGo b p st acc cs).map strip = (flush (pre ++ b ++ suf) st2 (b.length + pre.length) acc2).map strip ++ [(-2, [])] ∧
      elGo (pre ++ b ++ suf) (p + pre.length) st' acc' (cs ++ rest) = elGo (pre ++ b ++ suf) (b.length + pre.length) st2 acc2 rest ∧ ∀ x ∈ flush (pre ++ b ++ suf) st2 (b.length + pre.length) acc2, x.kind ≠ -2 ∧ x.kind ≠ -3) := by
  intro cs
  induction cs with
  | nil =>
    intro p st st' acc acc' hp hcs hst hacc hk
    right
    have he := congrArg List.length (decode_nil_iff hcs.symm)
    rw [List.length_drop, List.length_nil] at he
    have hpe : p = b.length := by omega
    subst hpe
    refine ⟨acc', st', ?_, rfl, ?_⟩
    · simp only [elGo, List.map_append]
      rw [flush_strip pre b suf b.length st st' acc acc' hp hst hacc]
      rfl
    · exact strip_kinds (flush_strip pre b suf b.length st st' acc acc' hp hst hacc) (flush_kinds _ _ _ _ hk)
  | cons c cs ih =>
    intro p st st' acc acc' hp hcs hst hacc hk
    have hfl := flush_strip pre b suf p st st' acc acc' hp hst hacc
    have hstep : ∀ n, c ≠ 65533 → (enc c).length = n → p + n ≤ b.length ∧ cs = decode (b.drop (p + n)) := by
      intro n hne hn
      obtain ⟨h1, h2⟩ := decode_cons hcs.symm hne
      rw [List.length_drop] at h1
      rw [hn] at h1 h2
      exact ⟨by omega, by rw [h2, List.drop_drop]⟩
    simp only [List.cons_append, elGo]
    by_cases hin : inWord c = true
    · obtain ⟨h1, h2⟩ := hstep _ (by rintro rfl; simp [bad_out] at hin) rfl
      rw [if_pos hin, if_pos hin]
      have := ih (p + (enc c).length) (if st < 0 then p else st) (if st' < 0 then ((p + pre.length : Nat) : Int) else st') acc acc' h1 h2 ?_ hacc hk
      · rw [show p + pre.length + (enc c).length = p + (enc c).length + pre.length from by omega]
        exact this
      · right
        rcases hst with ⟨g1, g2⟩ | ⟨s, rfl, rfl, hsp⟩
        · exact ⟨p, by rw [if_pos g1], by rw [if_pos g2], by omega⟩
        · exact ⟨s, by rw [if_neg (by omega)], by rw [if_neg (by omega)], by omega⟩
    · rw [if_neg hin, if_neg hin]
      by_cases h32 : c = 32
      · obtain ⟨h1, h2⟩ := hstep 1 (by omega) (by subst h32; rfl)
        rw [if_pos h32, if_pos h32]
        have := ih (p + 1) (-1) (-1) (flush b st p acc) (flush (pre ++ b ++ suf) st' (p + pre.length) acc') h1 h2 (.inl ⟨by omega, by omega⟩) hfl (flush_kinds _ _ _ _ hk)
        rw [show p + pre.length + 1 = p + 1 + pre.length from by omega]
        exact this
      · rw [if_neg h32, if_neg h32]
        by_cases hs : sepChar c = true
        · obtain ⟨g1, g2, g3, g4⟩ := sep_kinds hs
          obtain ⟨h1, h2⟩ := hstep 1 g2 g3
          rw [if_pos hs, if_pos hs]
          have := ih (p + 1) (-1) (-1) (flush b st p acc ++ [⟨c, p, []⟩]) (flush (pre ++ b ++ suf) st' (p + pre.length) acc' ++ [⟨c, ((p + pre.length : Nat) : Int), []⟩]) h1 h2 (.inl ⟨by omega, by omega⟩) (by rw [List.map_append, List.map_append, hfl]; rfl) ?_
          · rw [show p + pre.length + 1 = p + 1 + pre.length from by omega]
            exact this
          · intro x hx
            simp only [List.mem_append, List.mem_singleton] at hx
            rcases hx with hx | rfl
            · exact flush_kinds _ _ _ _ hk x hx
            · exact g1
        · rw [if_neg hs, if_neg hs]
          left
          refine ⟨(flush b st p acc).map strip, by rw [List.map_append]; rfl, by rw [List.map_append, ← hfl]; rfl, ?_⟩
          intro x hx
          obtain ⟨y, hy, rfl⟩ := List.mem_map.1 hx
          exact (flush_kinds _ _ _ _ hk y hy).1

def kl (L : List (Int × List UInt8)) (n : Nat) : Int := match L[n]? with | some x => x.1 | none => -2
def tl (L : List (Int × List UInt8)) (n : Nat) : List UInt8 := match L[n]? with | some x => x.2 | none => []
theorem knd_kl (es : List El) (n : Nat) : knd es n = kl (es.map strip) n := by
  unfold knd kl
  rw [List.getElem?_map]
  cases es[n]? <;> rfl
theorem trm_tl (es : List El) (n : Nat) : trm es n = tl (es.map strip) n := by
  unfold trm tl
  rw [List.getElem?_map]
  cases es[n]? <;> rfl

theorem clauseLoop_eq (u : PS → Int × PS) {es es' : List El} (hk : ∀ n, knd es n = knd es' n) : ∀ g s, clauseLoop u es g s = clauseLoop u es' g s := by
  intro g
  induction g with
  | zero => intro s; rfl
  | succ g ih => intro s; simp only [clauseLoop, hk, ih]
theorem clauseP_eq (u : PS → Int × PS) {es es' : List El} (hk : ∀ n, knd es n = knd es' n) (G : Nat) : clauseP u es G = clauseP u es' G := by
  funext s; unfold clauseP; simp only [clauseLoop_eq u hk]
theorem queryLoop_eq (u : PS → Int × PS) {es es' : List El} (hk : ∀ n, knd es n = knd es' n) (G : Nat) : ∀ g s, queryLoop u es G g s = queryLoop u es' G g s := by
  intro g
  induction g with
  | zero => intro s; rfl
  | succ g ih => intro s; simp only [queryLoop, hk, ih, clauseP_eq u hk]
theorem queryP_eq (u : PS → Int × PS) {es es' : List El} (hk : ∀ n, knd es n = knd es' n) (G : Nat) : queryP u es G = queryP u es' G := by
  funext s; unfold queryP; simp only [queryLoop_eq u hk, clauseP_eq u hk]
theorem unitP_eq {es es' : List El} (hk : ∀ n, knd es n = knd es' n) (ht : ∀ n, trm es n = trm es' n) (G : Nat) : ∀ k, unitP es G k = unitP es' G k := by
  intro k
  induction k with
  | zero => funext s; simp only [unitP, wordP, otherP, hk, ht]
  | succ k ih => funext s; simp only [unitP, wordP, otherP, bracketP, hk, ht, ih, queryP_eq _ hk]

theorem elems_spaces (b : List UInt8) : (elems ([32, 32] ++ b ++ [32])).map strip = (elems b).map strip := by
  have hd : decode ([32, 32] ++ b ++ [32]) = 32 :: 32 :: (decode b ++ [32]) := by
    simp only [List.cons_append, List.nil_append]
    rw [decode_byte (by decide), decode_byte (by decide), decode_more 32 [] (by decide) _ b (Nat.le_refl _)]
    rfl
  have h0 : elems ([32, 32] ++ b ++ [32]) = elGo ([32, 32] ++ b ++ [32]) (0 + ([32, 32] : List UInt8).length) (-1) [] (decode b ++ [32]) := by
    unfold elems
    rw [hd]
    simp only [elGo]
    rw [if_neg (by decide), if_pos trivial, if_neg (by decide), if_pos trivial, flush_neg, flush_neg]
    rfl
  rw [h0]
  have hs := el_sim [32, 32] b [32] [32] (decode b) 0 (-1) (-1) [] [] (Nat.zero_le _) rfl (.inl ⟨by omega, by omega⟩) rfl (by simp)
  rcases hs with ⟨X, h1, h2, h3⟩ | ⟨acc2, st2, h1, h2, h3⟩
  · rw [h2]; exact h1.symm
  · rw [h2]
    simp only [elGo]
    rw [if_neg (by decide), if_pos trivial, flush_neg, List.map_append]
    exact h1.symm

theorem spaces_law (b : List UInt8) (hb : b.length ≤ 1900) : parseErr ([32, 32] ++ b ++ [32]) = parseErr b ∧ (parsed ([32, 32] ++ b ++ [32])).2.ops = (parsed b).2.ops := by
  have he := elems_spaces b
  have hk : ∀ n, knd (elems ([32, 32] ++ b ++ [32])) n = knd (elems b) n := by intro n; rw [knd_kl, knd_kl, he]
  have ht : ∀ n, trm (elems ([32, 32] ++ b ++ [32])) n = trm (elems b) n := by intro n; rw [trm_tl, trm_tl, he]
  have hl : (elems ([32, 32] ++ b ++ [32])).length = (elems b).length := by
    have := congrArg List.length he
    simpa using this
  have hp : parsed ([32, 32] ++ b ++ [32]) = parsed b := by
    unfold parsed
    rw [unitP_eq hk ht, queryP_eq _ hk, hl]
  refine ⟨?_, by rw [hp]⟩
  unfold parseErr
  have hl1 : ¬ 2000 < (([32, 32] : List UInt8) ++ b ++ [32]).length := by simp only [List.length_append, List.length_cons, List.length_nil]; omega
  have hl2 : ¬ 2000 < b.length := by omega
  rw [hp, if_neg hl1, if_neg hl2, hk]
end Go.Proofs.YtjbmihgfneamlaaDoor
