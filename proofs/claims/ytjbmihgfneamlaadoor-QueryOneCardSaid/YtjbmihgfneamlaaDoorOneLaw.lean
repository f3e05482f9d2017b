/- The plain law: one term asks for itself, two with a sign between for both. -/
import Derived.Test.YtjbmihgfneamlaaDoorAroundLaw
set_option linter.unusedVariables false
namespace Go.Proofs.YtjbmihgfneamlaaDoor

theorem elGo_space (b : List UInt8) (p : Nat) (st : Int) (acc : List El) (rest : List UInt8) : elGo b p st acc (decode (32 :: rest)) = elGo b (p + 1) (-1) (flush b st p acc) (decode rest) := by
  rw [decode_byte (by decide)]
  simp only [elGo]
  rw [if_neg (by decide), if_pos (by rfl)]

theorem one_elems {a : List UInt8} (h : rightTok a = true) : elems a = [⟨-1, (0 : Nat), a⟩, ⟨-2, a.length, []⟩] := elems_tree (.leaf a) h

theorem one_law {a : List UInt8} (h : rightTok a = true) : parseErr a = 0 ∧ (parsed a).2.ops = [(0, a)] := by
  have he := one_elems h
  have hl := rightTok_len h
  have hp : parsed a = (0, ⟨1, 1, [(0, a)]⟩) := by
    unfold parsed
    rw [he]
    rfl
  refine ⟨?_, by rw [hp]⟩
  unfold parseErr
  rw [if_neg (by omega), hp, he]
  rfl

theorem signs {k : Int} (hk : k = 1 ∨ k = 2 ∨ k = 3) : sepChar ((opByte k).toNat : Int) = true ∧ inWord ((opByte k).toNat : Int) = false ∧ ((opByte k).toNat : Int) ≠ 32 ∧ (opByte k).toNat < 128 := by
  rcases hk with rfl | rfl | rfl <;> decide

theorem two_elems {a b : List UInt8} {k : Int} (ha : rightTok a = true) (hb : rightTok b = true) (hk : k = 1 ∨ k = 2 ∨ k = 3) :
    elems (a ++ ([opByte k] ++ b)) = [⟨-1, (0 : Nat), a⟩, ⟨(opByte k).toNat, (0 + a.length : Nat), []⟩, ⟨-1, (0 + a.length + 1 : Nat), b⟩, ⟨-2, (a ++ ([opByte k] ++ b)).length, []⟩] := by
  have hop := signs hk
  generalize hB : a ++ ([opByte k] ++ b) = B
  obtain ⟨a1, s1, e1, f1⟩ := elGo_tree B (.leaf a) ha 0 [] ([opByte k] ++ b) (by rw [← hB]; rfl)
  obtain ⟨a2, s2, e2, f2⟩ := elGo_tree B (.leaf b) hb (0 + a.length + 1) (flush B s1 (0 + a.length) a1 ++ [⟨(opByte k).toNat, (0 + a.length : Nat), []⟩]) [] (by rw [← hB, show 0 + a.length + 1 = a.length + 1 from by omega, ← List.drop_drop, List.drop_left, List.append_nil]; rfl)
  simp only [Tr.pr, toks] at e1 f1 e2 f2
  have h1 : elems B = elGo B 0 (-1) [] (decode (a ++ ([opByte k] ++ b))) := by rw [hB]; rfl
  rw [h1, e1, List.singleton_append, elGo_sep B (opByte k) _ s1 a1 _ hop.1 hop.2.1 hop.2.2.1 hop.2.2.2]
  rw [List.append_nil] at e2
  rw [e2, decode_nil]
  simp only [elGo]
  rw [f2, f1]
  rfl

theorem two_law {a b : List UInt8} {k : Int} (ha : rightTok a = true) (hb : rightTok b = true) (hk : k = 1 ∨ k = 2 ∨ k = 3) :
    parseErr (a ++ ([opByte k] ++ b)) = 0 ∧ (parsed (a ++ ([opByte k] ++ b))).2.ops = [(0, a), (0, b), (k, [])] := by
  have he := two_elems ha hb hk
  have la := rightTok_len ha
  have lb := rightTok_len hb
  have hl : ¬ 2000 < (a ++ ([opByte k] ++ b)).length := by simp only [List.length_append, List.length_singleton]; omega
  have hp : parsed (a ++ ([opByte k] ++ b)) = (0, ⟨3, 2, [(0, a), (0, b), (k, [])]⟩) := by
    unfold parsed
    rw [he]
    rcases hk with rfl | rfl | rfl <;> rfl
  refine ⟨?_, by rw [hp]⟩
  unfold parseErr
  rw [if_neg hl, hp, he]
  rfl

/-- the text with brackets and spaces. -/
def wide (k : Int) (a b : List UInt8) : List UInt8 := 40 :: 32 :: (a ++ (32 :: opByte k :: 32 :: (b ++ [41])))

theorem wide_elems {a b : List UInt8} {k : Int} (ha : rightTok a = true) (hb : rightTok b = true) (hk : k = 1 ∨ k = 2 ∨ k = 3) :
    ∃ p1 p2 p3 p4 p5 p6 : Int, elems (wide k a b) = [⟨40, p1, []⟩, ⟨-1, p2, a⟩, ⟨(opByte k).toNat, p3, []⟩, ⟨-1, p4, b⟩, ⟨41, p5, []⟩, ⟨-2, p6, []⟩] := by
  have hop := signs hk
  obtain ⟨B, hB⟩ : ∃ B, B = wide k a b := ⟨_, rfl⟩
  have h1 : elems (wide k a b) = elGo B 0 (-1) [] (decode (40 :: 32 :: (a ++ (32 :: opByte k :: 32 :: (b ++ [41]))))) := by rw [hB]; rfl
  have d1 : B.drop 2 = a ++ (32 :: opByte k :: 32 :: (b ++ [41])) := by rw [hB]; rfl
  have d2 : B.drop (2 + a.length + 1 + 1 + 1) = b ++ [41] := by
    rw [show 2 + a.length + 1 + 1 + 1 = 2 + (a.length + 3) from by omega, ← List.drop_drop, d1, ← List.drop_drop, List.drop_left]
    rfl
  obtain ⟨a1, s1, e1, f1⟩ := elGo_tree B (.leaf a) ha 2 [⟨40, (0 : Nat), []⟩] _ d1
  simp only [Tr.pr, toks] at e1 f1
  obtain ⟨a2, s2, e2, f2⟩ := elGo_tree B (.leaf b) hb (2 + a.length + 1 + 1 + 1) (flush B (-1) (2 + a.length + 1 + 1) (flush B (-1) (2 + a.length + 1) (flush B s1 (2 + a.length) a1) ++ [⟨(opByte k).toNat, (2 + a.length + 1 : Nat), []⟩])) [41] d2
  simp only [Tr.pr, toks] at e2 f2
  refine ⟨((0 : Nat) : Int), ((2 : Nat) : Int), ((2 + a.length + 1 + 1 - 1 : Nat) : Int), ((2 + a.length + 1 + 1 + 1 : Nat) : Int), ((2 + a.length + 1 + 1 + 1 + b.length : Nat) : Int), (B.length : Int), ?_⟩
  rw [h1, elGo_sep B 40 0 (-1) [] _ (by decide) (by decide) (by decide) (by decide), flush_neg, elGo_space, flush_neg]
  have e1' : elGo B (0 + 1 + 1) (-1) ([] ++ [⟨((40 : UInt8).toNat : Int), ((0 : Nat) : Int), []⟩]) (decode (a ++ (32 :: opByte k :: 32 :: (b ++ [41])))) = _ := e1
  rw [e1', elGo_space, elGo_sep B (opByte k) _ (-1) _ _ hop.1 hop.2.1 hop.2.2.1 hop.2.2.2, elGo_space, e2, elGo_sep B 41 _ s2 a2 _ (by decide) (by decide) (by decide) (by decide), decode_nil]
  simp only [elGo]
  rw [flush_neg, f2, flush_neg, flush_neg, f1]
  rfl

theorem wide_law {a b : List UInt8} {k : Int} (ha : rightTok a = true) (hb : rightTok b = true) (hk : k = 1 ∨ k = 2 ∨ k = 3) :
    parseErr (wide k a b) = 0 ∧ (parsed (wide k a b)).2.ops = [(0, a), (0, b), (k, [])] := by
  obtain ⟨p1, p2, p3, p4, p5, p6, he⟩ := wide_elems ha hb hk
  have la := rightTok_len ha
  have lb := rightTok_len hb
  have hl : ¬ 2000 < (wide k a b).length := by unfold wide; simp only [List.length_append, List.length_cons, List.length_nil]; omega
  have hp : parsed (wide k a b) = (0, ⟨5, 2, [(0, a), (0, b), (k, [])]⟩) := by
    unfold parsed
    rw [he]
    rcases hk with rfl | rfl | rfl <;> rfl
  refine ⟨?_, by rw [hp]⟩
  unfold parseErr
  rw [if_neg hl, hp, he]
  rfl
end Go.Proofs.YtjbmihgfneamlaaDoor
