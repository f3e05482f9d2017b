/- The plain law: what is printed is parsed; too deep is told. -/
import Derived.Test.YtjbmihgfneamlaaDoorTreeLaw
set_option linter.unusedVariables false
namespace Go.Proofs.YtjbmihgfneamlaaDoor

/-- these elements lie from here on. -/
def At (es : List El) (n : Nat) (l : List El) : Prop := ∃ suf, es.drop n = l ++ suf
theorem At.left {es : List El} {n : Nat} {a b : List El} (h : At es n (a ++ b)) : At es n a := by
  obtain ⟨s, h⟩ := h; exact ⟨b ++ s, by rw [h, List.append_assoc]⟩
theorem At.right {es : List El} {n : Nat} {a b : List El} (h : At es n (a ++ b)) : At es (n + a.length) b := by
  obtain ⟨s, h⟩ := h; exact ⟨s, by rw [← List.drop_drop, h, List.append_assoc, List.drop_left]⟩
theorem At.tail {es : List El} {n : Nat} {x : El} {b : List El} (h : At es n (x :: b)) : At es (n + 1) b := At.right (a := [x]) h
theorem At.knd {es : List El} {n : Nat} {x : El} {b : List El} (h : At es n (x :: b)) : knd es n = x.kind ∧ trm es n = x.term ∧ n < es.length := by
  obtain ⟨s, h⟩ := h
  have hl : n < es.length := by
    apply Classical.byContradiction
    intro hn
    rw [List.drop_of_length_le (by omega)] at h
    simp at h
  have : es[n]? = some x := by
    have h0 : (es.drop n)[0]? = some x := by rw [h]; rfl
    rw [List.getElem?_drop] at h0
    simpa using h0
  unfold Go.Proofs.YtjbmihgfneamlaaDoor.knd trm
  rw [this]
  exact ⟨rfl, rfl, hl⟩

theorem clauseLoop_end (u : PS → Int × PS) (es : List El) (g : Nat) (s : PS) (h1 : knd es s.nx ≠ 38) (h2 : knd es s.nx ≠ 33) : clauseLoop u es g s = (0, s) := by
  cases g with
  | zero => rfl
  | succ g => simp only [clauseLoop]; rw [if_neg (by omega)]
theorem queryLoop_end (u : PS → Int × PS) (es : List El) (G g : Nat) (s : PS) (h : knd es s.nx ≠ 124) : queryLoop u es G g s = (0, s) := by
  cases g with
  | zero => rfl
  | succ g => simp only [queryLoop]; rw [if_neg h]

/-- what is read behind the first of two parts. -/
theorem join_law (es : List El) (g : Nat) (u : PS → Int × PS) (s0 s2 : PS) (kk : Int) (n4 wd4 : Nat) (ops4 : List QOp) (hkk : kk = 1 ∨ kk = 2 ∨ kk = 3)
    (hc : clauseP u es (g + 1) s0 = clauseLoop u es (g + 1) s2) (k2 : knd es s2.nx = (opByte kk).toNat) (k4 : knd es n4 = 41)
    (hY : (u { s2 with nx := s2.nx + 1 }).1 = 0 → u { s2 with nx := s2.nx + 1 } = (0, ⟨n4, wd4, ops4⟩)) :
    queryP u es (g + 1) s0 = if (u { s2 with nx := s2.nx + 1 }).1 ≠ 0 then u { s2 with nx := s2.nx + 1 } else (0, ⟨n4, wd4, ops4 ++ [(kk, [])]⟩) := by
  by_cases hy : (u { s2 with nx := s2.nx + 1 }).1 = 0
  · rw [if_neg (by simpa using hy)]
    have he := hY hy
    have h2 : kk = 2 ∨ kk ≠ 2 := by omega
    rcases h2 with h2 | h2
    · subst h2
      have k2' : knd es s2.nx = 124 := k2
      have h1 : clauseP u es (g + 1) s0 = (0, s2) := by rw [hc, clauseLoop_end _ _ _ _ (by omega) (by omega)]
      have h3 : clauseP u es (g + 1) { s2 with nx := s2.nx + 1 } = (0, ⟨n4, wd4, ops4⟩) := by
        unfold clauseP
        rw [he, if_neg (by simp), clauseLoop_end _ _ _ _ (by simp only; omega) (by simp only; omega)]
      unfold queryP
      rw [h1, if_neg (by simp)]
      simp only [queryLoop]
      rw [if_pos k2', h3, if_neg (by simp), queryLoop_end _ _ _ _ _ (by simp only; omega)]
    · have k2' : (knd es s2.nx = 38 ∧ kk = 1) ∨ (knd es s2.nx = 33 ∧ kk = 3) := by
        rcases hkk with rfl | rfl | rfl
        · exact .inl ⟨k2, rfl⟩
        · exact absurd rfl h2
        · exact .inr ⟨k2, rfl⟩
      have h3 : clauseLoop u es (g + 1) s2 = (0, ⟨n4, wd4, ops4 ++ [(kk, [])]⟩) := by
        simp only [clauseLoop]
        rw [if_pos (by omega), he, if_neg (by simp), clauseLoop_end _ _ _ _ (by simp only; omega) (by simp only; omega)]
        have : (if knd es s2.nx = 38 then (1 : Int) else 3) = kk := by
          rcases k2' with ⟨h, rfl⟩ | ⟨h, rfl⟩
          · rw [if_pos h]
          · rw [if_neg (by omega)]
        rw [this]
      unfold queryP
      rw [hc, h3, if_neg (by simp), queryLoop_end _ _ _ _ _ (by simp only; omega)]
  · rw [if_pos hy]
    have h2 : kk = 2 ∨ kk ≠ 2 := by omega
    rcases h2 with h2 | h2
    · subst h2
      have k2' : knd es s2.nx = 124 := k2
      have h1 : clauseP u es (g + 1) s0 = (0, s2) := by rw [hc, clauseLoop_end _ _ _ _ (by omega) (by omega)]
      have h3 : clauseP u es (g + 1) { s2 with nx := s2.nx + 1 } = u { s2 with nx := s2.nx + 1 } := by
        unfold clauseP
        rw [if_pos hy]
      unfold queryP
      rw [h1, if_neg (by simp)]
      simp only [queryLoop]
      rw [if_pos k2', h3, if_pos hy]
    · have k2' : knd es s2.nx = 38 ∨ knd es s2.nx = 33 := by
        rcases hkk with rfl | rfl | rfl
        · exact .inl k2
        · exact absurd rfl h2
        · exact .inr k2
      have h3 : clauseLoop u es (g + 1) s2 = u { s2 with nx := s2.nx + 1 } := by
        simp only [clauseLoop]
        rw [if_pos k2', if_pos hy]
      unfold queryP
      rw [hc, h3, if_pos hy]

/-- a unit of a tree, in the brackets that are left. -/
theorem unit_tree (es : List El) (G : Nat) (hG : 1 ≤ G) : ∀ (T : Tr), T.ok → ∀ (k p : Nat) (s : PS), At es s.nx (toks T p) → s.wd + T.leaves ≤ 16 →
    (T.height ≤ k → unitP es G k s = (0, ⟨s.nx + (toks T p).length, s.wd + T.leaves, s.ops ++ T.post⟩)) ∧ (k < T.height → (unitP es G k s).1 = 8) := by
  intro T
  induction T with
  | leaf t =>
    intro hok k p s hat hw
    obtain ⟨hk, ht, hl⟩ := hat.knd
    refine ⟨fun _ => ?_, fun h => by simp [Tr.height] at h⟩
    have hwp : wordP es s = (0, ⟨s.nx + 1, s.wd + 1, s.ops ++ [(0, t)]⟩) := by
      unfold wordP
      rw [if_neg (by simp [Tr.leaves] at hw; omega), ht]
    cases k with
    | zero => simp only [unitP]; rw [if_pos hk, hwp]; rfl
    | succ k => simp only [unitP]; rw [if_pos hk, hwp]; rfl
  | node kk a b iha ihb =>
    intro hok k p s hat hw
    obtain ⟨hkk, ha, hb⟩ := hok
    simp only [toks] at hat
    simp only [Tr.leaves] at hw
    obtain ⟨hk, -, -⟩ := hat.knd
    simp only at hk
    have h1 := hat.tail
    have h2 := h1.right
    have h3 := h2.tail
    have h4 := h3.right
    have k2 := h2.knd.1
    have k4 := h4.knd.1
    simp only at k2 k4
    cases k with
    | zero =>
      refine ⟨fun h => by simp [Tr.height] at h, fun _ => ?_⟩
      simp only [unitP]
      rw [if_neg (by omega), if_pos hk]
    | succ k =>
      have hu : unitP es G (k + 1) s = bracketP es (queryP (unitP es G k) es G { s with nx := s.nx + 1 }) := by
        simp only [unitP]; rw [if_neg (by omega), if_pos hk]
      rw [hu]
      obtain ⟨a1, a2⟩ := iha ha k (p + 1) { s with nx := s.nx + 1 } h1.left (by simp only; omega)
      obtain ⟨g, rfl⟩ : ∃ g, G = g + 1 := ⟨G - 1, by omega⟩
      by_cases hha : a.height ≤ k
      · have ea := a1 hha
        simp only at ea
        obtain ⟨b1, b2⟩ := ihb hb k (p + 1 + a.pr.length + 1) ⟨s.nx + 1 + (toks a (p + 1)).length + 1, s.wd + a.leaves, s.ops ++ a.post⟩ h3.left (by simp only; omega)
        simp only at b1 b2
        have hmain : queryP (unitP es (g + 1) k) es (g + 1) { s with nx := s.nx + 1 } = if (unitP es (g + 1) k ⟨s.nx + 1 + (toks a (p + 1)).length + 1, s.wd + a.leaves, s.ops ++ a.post⟩).1 ≠ 0 then unitP es (g + 1) k ⟨s.nx + 1 + (toks a (p + 1)).length + 1, s.wd + a.leaves, s.ops ++ a.post⟩ else (0, ⟨s.nx + 1 + (toks a (p + 1)).length + 1 + (toks b (p + 1 + a.pr.length + 1)).length, s.wd + a.leaves + b.leaves, s.ops ++ a.post ++ b.post ++ [(kk, [])]⟩) := by
          have hY : (unitP es (g + 1) k ⟨s.nx + 1 + (toks a (p + 1)).length + 1, s.wd + a.leaves, s.ops ++ a.post⟩).1 = 0 → unitP es (g + 1) k ⟨s.nx + 1 + (toks a (p + 1)).length + 1, s.wd + a.leaves, s.ops ++ a.post⟩ = (0, ⟨s.nx + 1 + (toks a (p + 1)).length + 1 + (toks b (p + 1 + a.pr.length + 1)).length, s.wd + a.leaves + b.leaves, s.ops ++ a.post ++ b.post⟩) := by
            intro h0
            by_cases hhb : b.height ≤ k
            · exact b1 hhb
            · have := b2 (by omega)
              rw [h0] at this
              cases this
          have hc : clauseP (unitP es (g + 1) k) es (g + 1) { s with nx := s.nx + 1 } = clauseLoop (unitP es (g + 1) k) es (g + 1) ⟨s.nx + 1 + (toks a (p + 1)).length, s.wd + a.leaves, s.ops ++ a.post⟩ := by
            unfold clauseP; rw [ea, if_neg (by simp)]
          exact join_law es g _ _ _ kk _ _ _ hkk hc k2 k4 hY
        rw [hmain]
        by_cases hhb : b.height ≤ k
        · have eb := b1 hhb
          refine ⟨fun _ => ?_, fun h => by simp [Tr.height] at h; omega⟩
          rw [eb, if_neg (by simp)]
          unfold bracketP
          simp only
          rw [if_neg (by simp), if_neg (by simpa using k4)]
          simp [toks, Tr.leaves, Tr.post]
          omega
        · have eb := b2 (by omega)
          refine ⟨fun h => by simp [Tr.height] at h; omega, fun _ => ?_⟩
          rw [if_pos (by rw [eb]; decide)]
          unfold bracketP
          rw [if_pos (by rw [eb]; decide)]
          exact eb
      · have ea := a2 (by omega)
        refine ⟨fun h => by simp [Tr.height] at h; omega, fun _ => ?_⟩
        have hq : queryP (unitP es (g + 1) k) es (g + 1) { s with nx := s.nx + 1 } = unitP es (g + 1) k { s with nx := s.nx + 1 } := by
          have hc : clauseP (unitP es (g + 1) k) es (g + 1) { s with nx := s.nx + 1 } = unitP es (g + 1) k { s with nx := s.nx + 1 } := by
            unfold clauseP; rw [if_pos (by rw [ea]; decide)]
          unfold queryP
          rw [hc, if_pos (by rw [ea]; decide)]
        rw [hq]
        unfold bracketP
        rw [if_pos (by rw [ea]; decide)]
        exact ea

/-- bytes that are no brackets. -/
theorem deepGo_plain : ∀ (x : List UInt8) (m n : Int) (rest : List UInt8), (∀ b ∈ x, b ≠ 40 ∧ b ≠ 41) → n ≤ m → deepGo m n (x ++ rest) = deepGo m n rest := by
  intro x
  induction x with
  | nil => intros; rfl
  | cons b x ih =>
    intro m n rest h hn
    have hd : deepN n b = n := by unfold deepN; rw [if_neg (h b (by simp)).1, if_neg (h b (by simp)).2]
    simp only [List.cons_append, deepGo]
    rw [hd, if_neg (by omega), ih m n rest (fun y hy => h y (by simp [hy])) hn]

theorem u8_nat (x : Int) (h0 : 0 ≤ x) (h1 : x < 256) : ((u8 x).toNat : Int) = x := ch_u8 x h0 h1

theorem enc_plain {c : Int} (h : inWord c = true) : ∀ b ∈ enc c, b ≠ 40 ∧ b ≠ 41 := by
  obtain ⟨h1, h2⟩ := inWord_lt h
  have key : ∀ x : Int, 48 ≤ x → x < 256 → u8 x ≠ 40 ∧ u8 x ≠ 41 := by
    intro x hx0 hx1
    have := u8_nat x (by omega) hx1
    constructor
    · intro e; rw [e] at this; simp at this; omega
    · intro e; rw [e] at this; simp at this; omega
  intro b hb
  unfold enc at hb
  split at hb
  · simp only [List.mem_singleton] at hb; subst hb; exact key c (by omega) (by omega)
  · rw [if_pos (by omega)] at hb
    simp only [List.mem_cons, List.not_mem_nil, or_false] at hb
    rcases hb with rfl | rfl
    · exact key _ (by omega) (by omega)
    · exact key _ (by omega) (by omega)

theorem encs_plain {m : List Int} (h : ∀ c ∈ m, inWord c = true) : ∀ b ∈ encs m, b ≠ 40 ∧ b ≠ 41 := by
  intro b hb
  unfold encs at hb
  obtain ⟨c, hc, hb⟩ := List.mem_flatMap.1 hb
  exact enc_plain (h c hc) b hb

theorem deep_tree : ∀ (T : Tr), T.ok → ∀ (m n : Int) (rest : List UInt8), n ≤ m → deepGo m n (T.pr ++ rest) = deepGo (if m < n + T.height then n + T.height else m) n rest := by
  intro T
  induction T with
  | leaf t =>
    intro hok m n rest hn
    obtain ⟨l, h1, h2, h3, h4⟩ := rightTok_chars hok
    have hh : (Tr.leaf t).height = 0 := rfl
    rw [if_neg (by rw [hh]; omega)]
    simp only [Tr.pr]
    rw [h1, deepGo_plain _ m n rest (encs_plain fun c hc => (h3 c hc).1) hn]
  | node k a b iha ihb =>
    intro hok m n rest hn
    obtain ⟨hk, ha, hb⟩ := hok
    have hpr : Tr.pr (.node k a b) ++ rest = 40 :: (a.pr ++ (opByte k :: (b.pr ++ (41 :: rest)))) := by simp [Tr.pr, wrapOp]
    rw [hpr]
    have e40 : deepN n 40 = n + 1 := rfl
    have e41 : ∀ x : Int, deepN x 41 = x - 1 := fun x => rfl
    have eop : ∀ x : Int, deepN x (opByte k) = x := by intro x; rcases hk with rfl | rfl | rfl <;> rfl
    simp only [deepGo]
    rw [e40, iha ha _ _ _ (by split <;> omega)]
    simp only [deepGo]
    rw [eop, ihb hb _ _ _ (by split <;> split <;> (try split) <;> omega)]
    simp only [deepGo]
    rw [e41]
    have hh : ((Tr.node k a b).height : Int) = (if (a.height : Int) < b.height then (b.height : Int) else a.height) + 1 := by
      simp only [Tr.height]
      split <;> omega
    rw [hh]
    have hn1 : n + 1 - 1 = n := by omega
    rw [hn1]
    congr 1
    repeat' split
    all_goals omega

theorem back_law (l : List QOp) (h : qRight l = true) :
    (2000 < (qPrint l).length ∨ 8 < deepest (qPrint l) → parseErr (qPrint l) = 8) ∧
    (¬ 2000 < (qPrint l).length → ¬ 8 < deepest (qPrint l) → parseErr (qPrint l) = 0 ∧ (parsed (qPrint l)).2.ops = l) := by
  obtain ⟨T, h1, h2, h3, h4⟩ := right_tree l [] 0 (by simp) h rfl
  have hp : qPrint l = T.pr := by unfold qPrint; rw [show prGo [] l = [T.pr] from h2]; rfl
  have hpost : T.post = l := by rw [h3]; rfl
  rw [hp]
  have hdeep : deepest T.pr = T.height := by
    have := deep_tree T h1 0 0 [] (by omega)
    rw [List.append_nil] at this
    unfold deepest
    rw [this]
    simp only [deepGo]
    split <;> omega
  rw [hdeep]
  have hel := elems_tree T h1
  have hlen := elems_pos T.pr
  have hat : At (elems T.pr) 0 (toks T 0 ++ [⟨-2, T.pr.length, []⟩]) := ⟨[], by rw [hel]; simp⟩
  obtain ⟨u1, u2⟩ := unit_tree (elems T.pr) (elems T.pr).length hlen T h1 8 0 ⟨0, 0, []⟩ hat.left (by simp only; omega)
  have hend := (hat.right).knd.1
  simp only [Nat.zero_add] at hend
  constructor
  · rintro (hb | hb)
    · unfold parseErr; rw [if_pos hb]
    · by_cases hl : 2000 < T.pr.length
      · unfold parseErr; rw [if_pos hl]
      · have e := u2 (by omega)
        have hpd : (parsed T.pr).1 = 8 := by
          have hc : clauseP (unitP (elems T.pr) (elems T.pr).length 8) (elems T.pr) (elems T.pr).length ⟨0, 0, []⟩ = unitP (elems T.pr) (elems T.pr).length 8 ⟨0, 0, []⟩ := by
            unfold clauseP; rw [if_pos (by rw [e]; decide)]
          unfold parsed queryP
          rw [hc, if_pos (by rw [e]; decide), e]
        unfold parseErr
        rw [if_neg hl, hpd, if_neg (by decide)]
  · intro hl hb
    have e := u1 (by omega)
    simp only [Nat.zero_add, List.nil_append] at e
    have hpd : parsed T.pr = (0, ⟨(toks T 0).length, T.leaves, T.post⟩) := by
      have hc : clauseP (unitP (elems T.pr) (elems T.pr).length 8) (elems T.pr) (elems T.pr).length ⟨0, 0, []⟩ = (0, ⟨(toks T 0).length, T.leaves, T.post⟩) := by
        unfold clauseP
        rw [e, if_neg (by simp), clauseLoop_end _ _ _ _ (by simp only; omega) (by simp only; omega)]
      unfold parsed queryP
      rw [hc, if_neg (by simp), queryLoop_end _ _ _ _ _ (by simp only; omega)]
    refine ⟨?_, by rw [hpd]; exact hpost⟩
    unfold parseErr
    rw [if_neg hl, hpd]
    simp only
    rw [if_pos trivial, if_pos hend]
end Go.Proofs.YtjbmihgfneamlaaDoor
