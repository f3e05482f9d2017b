/- The plain law: what is printed is parsed. -/
import Derived.Test.YtjbmihgfneamlaaDoorCharLaw
import Derived.Test.YtjbmihgfneamlaaDoorPrint
set_option linter.unusedVariables false
namespace Go.Proofs.YtjbmihgfneamlaaDoor

inductive Tr where
  | leaf (t : List UInt8)
  | node (k : Int) (a b : Tr)
def Tr.post : Tr → List QOp
  | .leaf t => [(0, t)]
  | .node k a b => a.post ++ b.post ++ [(k, [])]
def Tr.pr : Tr → List UInt8
  | .leaf t => t
  | .node k a b => wrapOp k a.pr b.pr
def Tr.ok : Tr → Prop
  | .leaf t => rightTok t = true
  | .node k a b => (k = 1 ∨ k = 2 ∨ k = 3) ∧ a.ok ∧ b.ok
def Tr.leaves : Tr → Nat
  | .leaf _ => 1
  | .node _ a b => a.leaves + b.leaves
def Tr.height : Tr → Nat
  | .leaf _ => 0
  | .node _ a b => max a.height b.height + 1

def leavesOf : List Tr → Nat
  | [] => 0
  | x :: r => x.leaves + leavesOf r
def postOf : List Tr → List QOp
  | [] => []
  | x :: r => postOf r ++ x.post

/-- steps that are a question are a tree's. -/
theorem right_tree : ∀ (r : List QOp) (st : List Tr) (w : Int), (∀ T ∈ st, T.ok) → rightGo st.length w r = true → (leavesOf st : Int) = w →
    ∃ T : Tr, T.ok ∧ prGo (st.map Tr.pr) r = [T.pr] ∧ T.post = postOf st ++ r ∧ T.leaves ≤ 16 := by
  intro r
  induction r with
  | nil =>
    intro st w hok hr hw
    simp only [rightGo, Bool.and_eq_true, decide_eq_true_eq] at hr
    obtain ⟨h1, h2⟩ := hr
    match st, h1 with
    | [T], _ =>
      refine ⟨T, hok T (by simp), rfl, by simp [postOf], ?_⟩
      simp [leavesOf] at hw
      omega
    | [], h => simp at h
    | _ :: _ :: _, h => simp at h; omega
  | cons o r ih =>
    intro st w hok hr hw
    obtain ⟨k, t⟩ := o
    simp only [rightGo] at hr
    split at hr
    · rename_i hk
      subst hk
      split at hr
      · rename_i ht
        obtain ⟨T, h1, h2, h3, h4⟩ := ih (.leaf t :: st) (w + 1) (by intro T hT; simp only [List.mem_cons] at hT; rcases hT with rfl | hT; exact ht; exact hok T hT) (by rw [List.length_cons]; exact hr) (by simp [leavesOf, Tr.leaves]; omega)
        refine ⟨T, h1, ?_, ?_, h4⟩
        · simp only [prGo]
          rw [if_pos trivial]
          simpa [Tr.pr] using h2
        · rw [h3]; simp [postOf, Tr.post]
      · simp at hr
    · rename_i hk
      split at hr
      · rename_i hk3
        split at hr
        · simp at hr
        · rename_i hb
          have ht : t = [] := Classical.byContradiction fun e => hb (.inl e)
          have hl : ¬ (st.length : Int) < 2 := fun e => hb (.inr e)
          subst ht
          match st, hl with
          | y :: x :: s, _ =>
            obtain ⟨T, h1, h2, h3, h4⟩ := ih (.node k x y :: s) w (by intro T hT; simp only [List.mem_cons] at hT; rcases hT with rfl | hT; exact ⟨hk3, hok x (by simp), hok y (by simp)⟩; exact hok T (by simp [hT])) (by rw [← hr]; congr 1; simp only [List.length_cons]; omega) (by simp [leavesOf, Tr.leaves] at hw ⊢; omega)
            refine ⟨T, h1, ?_, ?_, h4⟩
            · simp only [prGo, List.map_cons]
              rw [if_neg hk]
              simpa [Tr.pr] using h2
            · rw [h3]; simp [postOf, Tr.post]
          | [], h => simp at h
          | [_], h => simp at h
      · simp at hr

/-- the elements of a tree's text. -/
def toks : Tr → Nat → List El
  | .leaf t, p => [⟨-1, p, t⟩]
  | .node k a b, p => ⟨40, p, []⟩ :: (toks a (p + 1) ++ (⟨(opByte k).toNat, (p + 1 + a.pr.length : Nat), []⟩ :: (toks b (p + 1 + a.pr.length + 1) ++ [⟨41, (p + 1 + a.pr.length + 1 + b.pr.length : Nat), []⟩])))

theorem elGo_word (b : List UInt8) (acc : List El) (r : List Int) : ∀ (m : List Int) (q : Nat) (st : Int), (∀ c ∈ m, inWord c = true) → 0 ≤ st → elGo b q st acc (m ++ r) = elGo b (q + (encs m).length) st acc r := by
  intro m
  induction m with
  | nil => intro q st _ _; rfl
  | cons c m ih =>
    intro q st h hst
    simp only [List.cons_append, elGo]
    rw [if_pos (h c (by simp)), if_neg (by omega), ih _ _ (fun x hx => h x (by simp [hx])) hst]
    congr 1
    simp [encs]; omega

theorem elGo_leaf (b : List UInt8) (acc : List El) (r : List Int) (m : List Int) (q : Nat) (hm : m ≠ []) (h : ∀ c ∈ m, inWord c = true) : elGo b q (-1) acc (m ++ r) = elGo b (q + (encs m).length) q acc r := by
  match m, hm with
  | c :: m, _ =>
    simp only [List.cons_append, elGo]
    rw [if_pos (h c (by simp)), if_pos (by omega), elGo_word b acc r m _ _ (fun x hx => h x (by simp [hx])) (by omega)]
    congr 1
    simp [encs]; omega

theorem flush_neg (b : List UInt8) (p : Nat) (acc : List El) : flush b (-1) p acc = acc := by unfold flush; rw [if_pos (by omega)]

/-- a sign of a text. -/
theorem elGo_sep (b : List UInt8) (x : UInt8) (p : Nat) (st : Int) (acc : List El) (rest : List UInt8) (hx : sepChar (x.toNat : Int) = true) (h1 : inWord (x.toNat : Int) = false) (h2 : (x.toNat : Int) ≠ 32) (h3 : x.toNat < 128) :
    elGo b p st acc (decode (x :: rest)) = elGo b (p + 1) (-1) (flush b st p acc ++ [⟨x.toNat, p, []⟩]) (decode rest) := by
  rw [decode_byte h3]
  simp only [elGo]
  rw [if_neg (by simp [h1]), if_neg h2, if_pos hx]

theorem elGo_tree (b : List UInt8) : ∀ (T : Tr), T.ok → ∀ (p : Nat) (acc : List El) (rest : List UInt8), b.drop p = T.pr ++ rest →
    ∃ acc' st', elGo b p (-1) acc (decode (T.pr ++ rest)) = elGo b (p + T.pr.length) st' acc' (decode rest) ∧ flush b st' (p + T.pr.length) acc' = acc ++ toks T p := by
  intro T
  induction T with
  | leaf t =>
    intro hok p acc rest hd
    obtain ⟨m, h1, h2, h3, h4⟩ := rightTok_chars hok
    refine ⟨acc, p, ?_, ?_⟩
    · simp only [Tr.pr]
      rw [h1, decode_encs m (fun c hc => (h3 c hc).1), elGo_leaf b acc _ m p h2 (fun c hc => (h3 c hc).1)]
    · unfold flush
      rw [if_neg (by omega)]
      simp only [Tr.pr] at hd ⊢
      rw [show ((p : Int)).toNat = p from by omega, hd, show p + t.length - p = t.length from by omega, List.take_left]
      rw [h4]
      rfl
  | node k x y ihx ihy =>
    intro hok p acc rest hd
    obtain ⟨hk, hx, hy⟩ := hok
    have hpr : Tr.pr (.node k x y) ++ rest = 40 :: (x.pr ++ (opByte k :: (y.pr ++ (41 :: rest)))) := by simp [Tr.pr, wrapOp]
    have hlen : (Tr.pr (.node k x y)).length = 1 + x.pr.length + 1 + y.pr.length + 1 := by simp [Tr.pr, wrapOp]; omega
    rw [hpr] at hd ⊢
    have hd1 : b.drop (p + 1) = x.pr ++ (opByte k :: (y.pr ++ (41 :: rest))) := by rw [← List.drop_drop, hd]; rfl
    have hd2 : b.drop (p + 1 + x.pr.length + 1) = y.pr ++ (41 :: rest) := by
      rw [← List.drop_drop, ← List.drop_drop, hd1, List.drop_left]; rfl
    obtain ⟨a1, s1, e1, f1⟩ := ihx hx (p + 1) (acc ++ [⟨40, p, []⟩]) _ hd1
    obtain ⟨a2, s2, e2, f2⟩ := ihy hy (p + 1 + x.pr.length + 1) (flush b s1 (p + 1 + x.pr.length) a1 ++ [⟨(opByte k).toNat, (p + 1 + x.pr.length : Nat), []⟩]) _ hd2
    have hop : sepChar ((opByte k).toNat : Int) = true ∧ inWord ((opByte k).toNat : Int) = false ∧ ((opByte k).toNat : Int) ≠ 32 ∧ (opByte k).toNat < 128 := by
      rcases hk with rfl | rfl | rfl <;> decide
    refine ⟨flush b s2 (p + 1 + x.pr.length + 1 + y.pr.length) a2 ++ [⟨41, (p + 1 + x.pr.length + 1 + y.pr.length : Nat), []⟩], -1, ?_, ?_⟩
    · rw [elGo_sep b 40 p (-1) acc _ (by decide) (by decide) (by decide) (by decide), flush_neg]
      rw [show ((40 : UInt8).toNat : Int) = 40 from rfl, e1, elGo_sep b (opByte k) _ s1 a1 _ hop.1 hop.2.1 hop.2.2.1 hop.2.2.2, e2]
      rw [elGo_sep b 41 _ s2 a2 _ (by decide) (by decide) (by decide) (by decide)]
      rw [show p + (Tr.pr (.node k x y)).length = p + 1 + x.pr.length + 1 + y.pr.length + 1 from by omega]
      rfl
    · rw [flush_neg, f2, f1]
      simp [toks]

theorem elems_tree (T : Tr) (h : T.ok) : elems T.pr = toks T 0 ++ [⟨-2, T.pr.length, []⟩] := by
  obtain ⟨a, s, h1, h2⟩ := elGo_tree T.pr T h 0 [] [] (by simp)
  unfold elems
  rw [List.append_nil] at h1
  rw [h1, decode_nil]
  simp only [elGo]
  rw [h2]
  simp
end Go.Proofs.YtjbmihgfneamlaaDoor
