/- MakeLaw, UnionLaw: in one text. -/
import Derived.Test.YteegbjjpjdlcmaaGreatDoorDictLaw
import Derived.Maps.OwnRows
import Derived.Maps.Views
import Derived.Sort.KeysCollected
/- dict.Make: what it makes. Plain laws. -/
set_option linter.unusedVariables false
namespace Go.Proofs.YteegbjjpjdlcmaaGreatDoor
open Go.RowKit Go.Sort Go.Maps
open Go.ChangeShapes (lits)

/-- the documents of a span that have a term. -/
def inDocs (docs : List (List UInt8)) (t : List UInt8) (lo n : Nat) : List Int := ((List.range' lo n).filter fun i : Nat => decide (t ∈ terms (docs.getD i []))).map fun i : Nat => (i : Int)
theorem setOf_len (ws : List (List UInt8)) : (setOf ws).length ≤ ws.length := by
  have h : setOf ws = Lib.compactUpTo (ws.mergeSort fun x y => !ltStr y x).toArray (ws.mergeSort fun x y => !ltStr y x).length := rfl
  rw [h, Lib.compactUpTo, List.length_map]
  refine Nat.le_trans (List.length_filter_le _ _) ?_
  rw [List.length_range, List.length_mergeSort]
  exact Nat.le_refl _
def allT (docs : List (List UInt8)) (lo n : Nat) : List (List UInt8) := (List.range' lo n).flatMap fun i => setOf (terms (docs.getD i []))
def makeF (docs : List (List UInt8)) (lo n : Nat) : List Ent := (setOf (allT docs lo n)).map fun t => (t, inDocs docs t lo n)
theorem allT_len (docs : List (List UInt8)) (B : Nat) (hB : ∀ d ∈ docs, d.length ≤ B) : ∀ (n lo : Nat), (allT docs lo n).length ≤ n * B
  | 0, lo => by simp [allT]
  | n + 1, lo => by
    have ih := allT_len docs B hB n (lo + 1)
    have h1 : allT docs lo (n + 1) = setOf (terms (docs.getD lo [])) ++ allT docs (lo + 1) n := by
      unfold allT
      rw [List.range'_succ, List.flatMap_cons]
    have h2 : (docs.getD lo []).length ≤ B := by
      rw [List.getD_eq_getElem?_getD]
      rcases Nat.lt_or_ge lo docs.length with h | h
      · rw [List.getElem?_eq_getElem h]; exact hB _ (List.getElem_mem h)
      · rw [List.getElem?_eq_none h]; exact Nat.zero_le _
    have h3 := setOf_len (terms (docs.getD lo []))
    have h4 := terms_len (docs.getD lo [])
    rw [h1, List.length_append, Nat.succ_mul]
    omega
theorem inDocs_snoc (docs : List (List UInt8)) (t : List UInt8) (lo n : Nat) : inDocs docs t lo (n + 1) = inDocs docs t lo n ++ (if t ∈ terms (docs.getD (lo + n) []) then [((lo + n : Nat) : Int)] else []) := by
  unfold inDocs
  rw [List.range'_concat, List.filter_append, List.map_append, Nat.one_mul]
  congr 1
  by_cases h : t ∈ terms (docs.getD (lo + n) [])
  · rw [if_pos h, List.filter_cons_of_pos (by simpa using h)]; rfl
  · rw [if_neg h, List.filter_cons_of_neg (by simpa using h)]; rfl
theorem inDocs_mem {docs : List (List UInt8)} {t : List UInt8} {lo n : Nat} {z : Int} : z ∈ inDocs docs t lo n ↔ ∃ i : Nat, z = (i : Int) ∧ lo ≤ i ∧ i < lo + n ∧ t ∈ terms (docs.getD i []) := by
  unfold inDocs
  simp only [List.mem_map, List.mem_filter, List.mem_range'_1, decide_eq_true_eq]
  constructor
  · rintro ⟨i, ⟨⟨h1, h2⟩, h3⟩, rfl⟩; exact ⟨i, rfl, h1, h2, h3⟩
  · rintro ⟨i, rfl, h1, h2, h3⟩; exact ⟨i, ⟨⟨h1, h2⟩, h3⟩, rfl⟩
theorem mem_allT {docs : List (List UInt8)} {t : List UInt8} {lo n : Nat} : t ∈ allT docs lo n ↔ inDocs docs t lo n ≠ [] := by
  rw [show (inDocs docs t lo n ≠ []) = ∃ z, z ∈ inDocs docs t lo n from propext ⟨fun h => List.exists_mem_of_ne_nil _ h, fun ⟨z, hz⟩ e => by rw [e] at hz; cases hz⟩]
  unfold allT
  simp only [List.mem_flatMap, List.mem_range'_1, mem_setOf]
  constructor
  · rintro ⟨i, ⟨h1, h2⟩, h3⟩; exact ⟨(i : Int), inDocs_mem.2 ⟨i, rfl, h1, h2, h3⟩⟩
  · rintro ⟨z, hz⟩
    obtain ⟨i, -, h1, h2, h3⟩ := inDocs_mem.1 hz
    exact ⟨i, ⟨h1, h2⟩, h3⟩
theorem inDocs_len (docs : List (List UInt8)) (t : List UInt8) (lo n : Nat) : (inDocs docs t lo n).length ≤ n := by
  unfold inDocs
  rw [List.length_map]
  exact Nat.le_trans (List.length_filter_le _ _) (by simp)

/-- what the map holds so far. -/
def litsD (zs : List Int) : DataW Unit := if zs = [] then .nil else .slice (lits .i64 zs) []
def MapF (D : DataW Unit) (F : List UInt8 → List Int) : Prop := IsMap D ∧ ∀ t, D.atKey (.string t) .nil = litsD (F t) ∧ Maps.has D (.string t) = decide (F t ≠ [])
theorem MapF.start : MapF (.map []) (fun _ => []) := ⟨isMap_empty, fun t => ⟨rfl, by simp [Maps.has]⟩⟩
theorem MapF.congr {D : DataW Unit} {F G : List UInt8 → List Int} (h : MapF D F) (hg : ∀ t, F t = G t) : MapF D G := by
  obtain rfl : F = G := funext hg
  exact h
theorem MapF.put {D : DataW Unit} {F : List UInt8 → List Int} (h : MapF D F) (s : List UInt8) (x : Int) : MapF (D.put (.string s) (.slice (lits .i64 (F s ++ [x])) [])) (fun t => if t = s then F s ++ [x] else F t) := by
  have hkl : ∀ u : List UInt8, WideAt.IsKeyLit (.string u) := fun _ => trivial
  refine ⟨h.1.put _ _, fun t => ?_⟩
  by_cases e : t = s
  · subst e
    simp only [if_true]
    refine ⟨?_, ?_⟩
    · rw [atKey_put_same h.1 (hkl _)]
      unfold litsD
      rw [if_neg (by simp)]
    · rw [has_put_same h.1 (hkl _)]; simp
  · have hne : Lit.string t ≠ Lit.string s := fun h => e (by cases h; rfl)
    simp only [if_neg e]
    exact ⟨by rw [atKey_put_other hne]; exact (h.2 t).1, by rw [has_put_other hne]; exact (h.2 t).2⟩

/-- in the midst of a document: so many of its terms are in. -/
def midF (docs : List (List UInt8)) (lo n j : Nat) (t : List UInt8) : List Int := inDocs docs t lo n ++ (if t ∈ (setOf (terms (docs.getD (lo + n) []))).take j then [((lo + n : Nat) : Int)] else [])
theorem midF_zero (docs : List (List UInt8)) (lo n : Nat) (t : List UInt8) : midF docs lo n 0 t = inDocs docs t lo n := by simp [midF]
theorem midF_all (docs : List (List UInt8)) (lo n j : Nat) (hj : (setOf (terms (docs.getD (lo + n) []))).length ≤ j) (t : List UInt8) : midF docs lo n j t = inDocs docs t lo (n + 1) := by
  unfold midF
  rw [inDocs_snoc, List.take_of_length_le hj]
  simp only [mem_setOf]
theorem rises_nodup {l : List (List UInt8)} (h : Rises ltStr l) : l.Nodup := by
  refine h.imp ?_
  rintro a b hab rfl
  simp [swo_ltStr.irrefl] at hab
theorem midF_step (docs : List (List UInt8)) (lo n j : Nat) (s : List UInt8) (hj : j < (setOf (terms (docs.getD (lo + n) []))).length) (hs : (setOf (terms (docs.getD (lo + n) [])))[j] = s) :
    midF docs lo n j s = inDocs docs s lo n ∧ ∀ t, (if t = s then midF docs lo n j s ++ [((lo + n : Nat) : Int)] else midF docs lo n j t) = midF docs lo n (j + 1) t := by
  have hnd := rises_nodup (rises_setOf (terms (docs.getD (lo + n) [])))
  unfold midF
  generalize setOf (terms (docs.getD (lo + n) [])) = l at *
  have htk : l.take (j + 1) = l.take j ++ [s] := by rw [List.take_succ_eq_append_getElem hj, hs]
  have hno : s ∉ l.take j := by
    intro hm
    have h1 : (l.take (j + 1)).Nodup := hnd.sublist (List.take_sublist _ _)
    rw [htk] at h1
    exact (List.nodup_append.1 h1).2.2 s hm s (by simp) rfl
  refine ⟨by rw [if_neg hno, List.append_nil], fun t => ?_⟩
  rw [htk]
  by_cases e : t = s
  · subst e
    rw [if_pos rfl, if_neg hno, List.append_nil, if_pos (by simp)]
  · rw [if_neg e]
    congr 1
    simp [e]

/-- the keys, sorted, are the terms. -/
theorem keys_terms {D : DataW Unit} {F : List UInt8 → List Int} (h : MapF D F) (hk : ∃ es, D = .map es ∧ es.Pairwise (fun p q => p.1 ≠ q.1) ∧ ∀ p ∈ es, ∃ x, p.1 = .string x) {l ss : List (List UInt8)} (hl : ∀ t, t ∈ l ↔ F t ≠ []) (hp : ss.Perm (strKeys D)) :
    ss.mergeSort (fun x y => decide (x ≤ y)) = setOf l := by
  obtain ⟨es, rfl, h1, h2⟩ := hk
  have hq : (setOf l).Perm (strKeys (.map es)) := perm_strKeys h1 h2 (rises_nodup (rises_setOf l)) fun x => by rw [mem_setOf, hl, (h.2 x).2, decide_eq_true_eq]
  rw [mergeSort_of_perm (hp.trans hq.symm)]
  refine List.mergeSort_of_pairwise ((rises_setOf l).imp ?_)
  intro a b hab
  simp only [decide_eq_true_eq]
  exact List.le_of_lt (by simpa [ltStr] using hab)
end Go.Proofs.YteegbjjpjdlcmaaGreatDoor

/- The union of dictionaries: what it is; of neighbouring spans it is the dictionary of all. Plain laws, no program. -/
set_option linter.unusedVariables false
namespace Go.Proofs.YteegbjjpjdlcmaaGreatDoor
open Go.RowKit Go.Sort

theorem ltStr_not {a b : List UInt8} (h : ltStr a b = false) (h2 : a ≠ b) : ltStr b a = true := by
  cases h3 : ltStr b a with
  | true => rfl
  | false => exact absurd (totStr _ _ h h3) h2

theorem minHead_none : ∀ {ds : List (List Ent)}, minHead ds = none ↔ ∀ d ∈ ds, d = []
  | [] => by simp [minHead]
  | [] :: r => by
    rw [minHead, minHead_none]
    simp
  | (e :: d) :: r => by
    rw [minHead]
    constructor
    · intro h; split at h <;> cases h
    · intro h; exact absurd (h _ (List.mem_cons_self ..)) (by simp)
theorem minHead_some : ∀ {ds : List (List Ent)} {t : List UInt8}, minHead ds = some t → (∃ e r, (e :: r) ∈ ds ∧ e.1 = t) ∧ ∀ e r, (e :: r) ∈ ds → ltStr e.1 t = false
  | [], t, h => by simp [minHead] at h
  | [] :: q, t, h => by
    rw [minHead] at h
    obtain ⟨⟨e, r, h1, h2⟩, h3⟩ := minHead_some h
    refine ⟨⟨e, r, List.mem_cons_of_mem _ h1, h2⟩, fun e' r' hm => ?_⟩
    rcases List.mem_cons.1 hm with hm | hm
    · cases hm
    · exact h3 e' r' hm
  | (e :: d) :: q, t, h => by
    rw [minHead] at h
    cases hq : minHead q with
    | none =>
      rw [hq] at h
      simp only [Option.some.injEq] at h
      subst h
      refine ⟨⟨e, d, List.mem_cons_self .., rfl⟩, fun e' r' hm => ?_⟩
      rcases List.mem_cons.1 hm with hm | hm
      · obtain ⟨rfl, rfl⟩ := List.cons.inj hm
        exact swo_ltStr.irrefl _
      · have := minHead_none.1 hq _ hm
        cases this
    | some u =>
      rw [hq] at h
      simp only [Option.some.injEq] at h
      obtain ⟨⟨e1, r1, h1, h2⟩, h3⟩ := minHead_some hq
      cases hc : ltStr u e.1 with
      | true =>
        rw [hc, if_pos rfl] at h
        subst h
        refine ⟨⟨e1, r1, List.mem_cons_of_mem _ h1, h2⟩, fun e' r' hm => ?_⟩
        rcases List.mem_cons.1 hm with hm | hm
        · obtain ⟨rfl, rfl⟩ := List.cons.inj hm
          exact swo_ltStr.asymmA hc
        · exact h3 e' r' hm
      | false =>
        rw [hc, if_neg (by decide)] at h
        subst h
        refine ⟨⟨e, d, List.mem_cons_self .., rfl⟩, fun e' r' hm => ?_⟩
        rcases List.mem_cons.1 hm with hm | hm
        · obtain ⟨rfl, rfl⟩ := List.cons.inj hm
          exact swo_ltStr.irrefl _
        · exact swo_ltStr.ntrans _ _ _ (h3 e' r' hm) hc
theorem minHead_is {ds : List (List Ent)} {t : List UInt8} (h1 : ∃ e r, (e :: r) ∈ ds ∧ e.1 = t) (h2 : ∀ e r, (e :: r) ∈ ds → ltStr e.1 t = false) : minHead ds = some t := by
  cases h : minHead ds with
  | none =>
    obtain ⟨e, r, hm, -⟩ := h1
    have := minHead_none.1 h _ hm
    cases this
  | some u =>
    obtain ⟨⟨e, r, g1, g2⟩, g3⟩ := minHead_some h
    obtain ⟨e1, r1, k1, k2⟩ := h1
    have a := g3 _ _ k1
    have b := h2 _ _ g1
    rw [k2] at a
    rw [g2] at b
    rw [totStr _ _ a b]

/-- the documents of a term. -/
def look (d : List Ent) (t : List UInt8) : List Int := match d with
  | [] => []
  | e :: r => if e.1 = t then e.2 ++ look r t else look r t
def risesE (d : List Ent) : Prop := Rises ltStr (d.map (·.1))
theorem look_none {d : List Ent} {t : List UInt8} (h : ∀ e ∈ d, e.1 ≠ t) : look d t = [] := by
  induction d with
  | nil => rfl
  | cons e r ih => rw [look, if_neg (h e (List.mem_cons_self ..)), ih fun x hx => h x (List.mem_cons_of_mem _ hx)]
theorem risesE_cons {e : Ent} {d : List Ent} : risesE (e :: d) ↔ (∀ x ∈ d, ltStr e.1 x.1 = true) ∧ risesE d := by
  unfold risesE Rises
  rw [List.map_cons, List.pairwise_cons]
  simp
theorem ne_of_lt' {a b : List UInt8} (h : ltStr a b = true) : b ≠ a := by
  rintro rfl
  rw [swo_ltStr.irrefl] at h
  cases h
theorem look_head {e : Ent} {d : List Ent} (h : risesE (e :: d)) : look (e :: d) e.1 = e.2 := by
  rw [look, if_pos rfl, look_none fun x hx => ne_of_lt' ((risesE_cons.1 h).1 x hx), List.append_nil]
theorem look_mem {d : List Ent} (h : risesE d) : ∀ e ∈ d, look d e.1 = e.2 := by
  induction d with
  | nil => intro e he; cases he
  | cons x r ih =>
    intro e he
    obtain ⟨h1, h2⟩ := risesE_cons.1 h
    rcases List.mem_cons.1 he with rfl | he
    · exact look_head h
    · rw [look, if_neg (fun e' => ne_of_lt' (h1 e he) e'.symm), ih h2 e he]
theorem look_ne {d : List Ent} (hn : ∀ e ∈ d, e.2 ≠ []) (t : List UInt8) : look d t ≠ [] ↔ t ∈ d.map (·.1) := by
  induction d with
  | nil => simp [look]
  | cons e r ih =>
    have ih := ih fun x hx => hn x (List.mem_cons_of_mem _ hx)
    rw [look, List.map_cons, List.mem_cons]
    by_cases h : e.1 = t
    · rw [if_pos h]
      have := hn e (List.mem_cons_self ..)
      simp [h, this]
    · rw [if_neg h, ih]
      simp [Ne.symm h]
theorem ent_ext {a b : List Ent} (ha : risesE a) (hb : risesE b) (na : ∀ e ∈ a, e.2 ≠ []) (nb : ∀ e ∈ b, e.2 ≠ []) (h : ∀ t, look a t = look b t) : a = b := by
  have self : ∀ {d : List Ent}, risesE d → d = (d.map (·.1)).map fun t => (t, look d t) := by
    intro d hd
    rw [List.map_map]
    conv => lhs; rw [← List.map_id d]
    refine List.map_congr_left fun e he => ?_
    simp only [id, Function.comp, look_mem hd e he]
  have hk : a.map (·.1) = b.map (·.1) := rises_unique swo_ltStr ha hb fun t => by rw [← look_ne na, ← look_ne nb, h]
  rw [self ha, self hb, hk]
  refine List.map_congr_left fun t _ => by rw [h]

/-! ### the union -/
def looks (ds : List (List Ent)) (t : List UInt8) : List Int := ds.flatMap fun d => look d t
theorem dropOf_cons (t : List UInt8) (x : Ent) (r : List Ent) : dropOf t (x :: r) = if x.1 = t then r else x :: r := rfl
theorem dropOf_mem {t : List UInt8} {d : List Ent} {e : Ent} (h : e ∈ dropOf t d) : e ∈ d := by
  cases d with
  | nil => cases h
  | cons x r =>
    rw [dropOf_cons] at h
    split at h
    · exact List.mem_cons_of_mem _ h
    · exact h
theorem dropOf_rises {t : List UInt8} {d : List Ent} (h : risesE d) : risesE (dropOf t d) := by
  cases d with
  | nil => exact h
  | cons x r =>
    rw [dropOf_cons]
    split
    · exact (risesE_cons.1 h).2
    · exact h
/-- behind the least term, all that is left is greater. -/
theorem dropOf_gt {t : List UInt8} {d : List Ent} (h : risesE d) (hm : ∀ e r, d = e :: r → ltStr e.1 t = false) : ∀ e ∈ dropOf t d, ltStr t e.1 = true := by
  cases d with
  | nil => intro e he; cases he
  | cons x r =>
    obtain ⟨h1, h2⟩ := risesE_cons.1 h
    have hx := hm x r rfl
    intro e he
    rw [dropOf_cons] at he
    split at he
    · rename_i hxt
      rw [← hxt]; exact h1 e he
    · rename_i hxt
      have htx : ltStr t x.1 = true := ltStr_not hx hxt
      rcases List.mem_cons.1 he with rfl | he
      · exact htx
      · exact swo_ltStr.trans _ _ _ htx (h1 e he)
theorem docsOf_looks {t : List UInt8} : ∀ {ds : List (List Ent)}, (∀ d ∈ ds, risesE d) → (∀ e r, (e :: r) ∈ ds → ltStr e.1 t = false) → docsOf t ds = looks ds t
  | [], _, _ => rfl
  | [] :: q, h1, h2 => by
    rw [docsOf, docsOf_looks (fun d hd => h1 d (List.mem_cons_of_mem _ hd)) (fun e r hm => h2 e r (List.mem_cons_of_mem _ hm))]
    rfl
  | (e :: d) :: q, h1, h2 => by
    have ih := docsOf_looks (t := t) (ds := q) (fun d hd => h1 d (List.mem_cons_of_mem _ hd)) (fun e r hm => h2 e r (List.mem_cons_of_mem _ hm))
    have hr := h1 _ (List.mem_cons_self ..)
    unfold looks at ih ⊢
    rw [docsOf, ih, List.flatMap_cons]
    split
    · rename_i he
      rw [← he, look_head hr]
    · rename_i he
      rw [look_none (d := e :: d) fun x hx => ?_]
      · rfl
      · have hlt : ltStr t e.1 = true := ltStr_not (h2 _ _ (List.mem_cons_self ..)) he
        rcases List.mem_cons.1 hx with rfl | hx
        · exact he
        · exact ne_of_lt' (swo_ltStr.trans _ _ _ hlt ((risesE_cons.1 hr).1 x hx))
theorem look_dropOf {t u : List UInt8} (hu : u ≠ t) (d : List Ent) : look (dropOf t d) u = look d u := by
  cases d with
  | nil => rfl
  | cons x r =>
    rw [dropOf_cons]
    split
    · rename_i hxt
      rw [look, if_neg (fun e => hu (e.symm.trans hxt))]
    · rfl
theorem dropOf_len (t : List UInt8) (d : List Ent) : (dropOf t d).length ≤ d.length := by
  cases d with
  | nil => exact Nat.le_refl _
  | cons x r => rw [dropOf_cons]; split <;> simp
def total (ds : List (List Ent)) : Nat := (ds.map List.length).sum
theorem le_total {d : List Ent} : ∀ {ds : List (List Ent)}, d ∈ ds → d.length ≤ total ds
  | [], h => by cases h
  | x :: q, h => by
    unfold total
    simp only [List.map_cons, List.sum_cons]
    rcases List.mem_cons.1 h with rfl | h
    · omega
    · have := le_total h
      unfold total at this
      omega
theorem flatMap_same {α β : Type} {f g : α → List β} : ∀ {l : List α}, (∀ x ∈ l, f x = g x) → l.flatMap f = l.flatMap g
  | [], _ => rfl
  | a :: l, h => by rw [List.flatMap_cons, List.flatMap_cons, h a (List.mem_cons_self ..), flatMap_same fun x hx => h x (List.mem_cons_of_mem _ hx)]
theorem unionF_len : ∀ (f : Nat) (ds : List (List Ent)), (unionF f ds).length ≤ f
  | 0, _ => Nat.le_refl _
  | f + 1, ds => by
    rw [unionF]
    split
    · exact Nat.zero_le _
    · exact Nat.succ_le_succ (unionF_len f _)
theorem total_drop_le (t : List UInt8) : ∀ ds : List (List Ent), total (ds.map (dropOf t)) ≤ total ds
  | [] => Nat.le_refl _
  | d :: q => by
    have := total_drop_le t q
    have := dropOf_len t d
    unfold total at *
    simp only [List.map_cons, List.sum_cons]
    omega
theorem total_drop_lt {t : List UInt8} : ∀ {ds : List (List Ent)}, (∃ e r, (e :: r) ∈ ds ∧ e.1 = t) → total (ds.map (dropOf t)) < total ds
  | [], h => by obtain ⟨e, r, hm, -⟩ := h; cases hm
  | d :: q, h => by
    obtain ⟨e, r, hm, he⟩ := h
    rcases List.mem_cons.1 hm with hm | hm
    · have := total_drop_le t q
      subst hm
      have h2 : dropOf t (e :: r) = r := by rw [dropOf_cons, if_pos he]
      unfold total at *
      simp only [List.map_cons, List.sum_cons, h2, List.length_cons]
      omega
    · have := total_drop_lt ⟨e, r, hm, he⟩
      have := dropOf_len t d
      unfold total at *
      simp only [List.map_cons, List.sum_cons]
      omega
theorem unionF_spec : ∀ (f : Nat) (ds : List (List Ent)), total ds ≤ f → (∀ d ∈ ds, risesE d) → (∀ d ∈ ds, ∀ e ∈ d, e.2 ≠ []) →
    risesE (unionF f ds) ∧ (∀ e ∈ unionF f ds, e.2 ≠ [] ∧ ∃ d ∈ ds, ∃ e' ∈ d, e'.1 = e.1) ∧ ∀ u, look (unionF f ds) u = looks ds u
  | 0, ds, hf, hr, hn => by
    have hz : ∀ d ∈ ds, d = [] := by
      intro d hd
      have h1 : d.length ≤ total ds := le_total hd
      exact List.eq_nil_of_length_eq_zero (by omega)
    refine ⟨List.Pairwise.nil, fun e he => (by cases he), fun u => ?_⟩
    have h2 : looks ds u = [] := by
      unfold looks
      rw [List.flatMap_eq_nil_iff]
      intro d hd
      rw [hz d hd]; rfl
    rw [h2]; rfl
  | f + 1, ds, hf, hr, hn => by
    cases hm : minHead ds with
    | none =>
      have hz := minHead_none.1 hm
      have hU : unionF (f + 1) ds = [] := by rw [unionF, hm]
      rw [hU]
      refine ⟨List.Pairwise.nil, fun e he => (by cases he), fun u => ?_⟩
      have h2 : looks ds u = [] := by
        unfold looks
        rw [List.flatMap_eq_nil_iff]
        intro d hd
        rw [hz d hd]; rfl
      rw [h2]; rfl
    | some t =>
      obtain ⟨hex, hall⟩ := minHead_some hm
      have hU : unionF (f + 1) ds = (t, docsOf t ds) :: unionF f (ds.map (dropOf t)) := by rw [unionF, hm]
      have hlt := total_drop_lt hex
      obtain ⟨i1, i2, i3⟩ := unionF_spec f (ds.map (dropOf t)) (by omega) (fun d hd => by
        obtain ⟨d0, h0, rfl⟩ := List.mem_map.1 hd
        exact dropOf_rises (hr d0 h0)) (fun d hd e he => by
        obtain ⟨d0, h0, rfl⟩ := List.mem_map.1 hd
        exact hn d0 h0 e (dropOf_mem he))
      have hdl := docsOf_looks hr hall
      have hgt : ∀ e ∈ unionF f (ds.map (dropOf t)), ltStr t e.1 = true := fun e he => by
        obtain ⟨-, d, hd, e', he', hee⟩ := i2 e he
        obtain ⟨d0, h0, rfl⟩ := List.mem_map.1 hd
        rw [← hee]
        exact dropOf_gt (hr d0 h0) (fun x r hx => hall x r (hx ▸ h0)) e' he'
      rw [hU]
      refine ⟨risesE_cons.2 ⟨hgt, i1⟩, fun e he => ?_, fun u => ?_⟩
      · rcases List.mem_cons.1 he with rfl | he
        · obtain ⟨e0, r0, h0, h1⟩ := hex
          refine ⟨?_, _, h0, e0, List.mem_cons_self .., h1⟩
          rw [hdl]
          unfold looks
          intro hnil
          have h2 := (List.flatMap_eq_nil_iff.1 hnil) _ h0
          rw [← h1, look_head (hr _ h0)] at h2
          exact hn _ h0 e0 (List.mem_cons_self ..) h2
        · obtain ⟨h0, d, hd, e', he', hee⟩ := i2 e he
          obtain ⟨d0, h1, rfl⟩ := List.mem_map.1 hd
          exact ⟨h0, d0, h1, e', dropOf_mem he', hee⟩
      · rw [look]
        by_cases hut : t = u
        · subst hut
          rw [if_pos rfl, look_none fun x hx => ne_of_lt' (hgt x hx), List.append_nil, hdl]
        · rw [if_neg hut, i3]
          unfold looks
          rw [List.flatMap_map]
          refine flatMap_same fun d _ => look_dropOf (fun e => hut e.symm) d

/-! ### neighbouring spans -/
theorem makeF_rises (docs : List (List UInt8)) (lo n : Nat) : risesE (makeF docs lo n) := by
  unfold risesE makeF
  rw [List.map_map]
  rw [show ((fun e : Ent => e.1) ∘ fun t => (t, inDocs docs t lo n)) = id from rfl, List.map_id]
  exact rises_setOf _
theorem makeF_ne (docs : List (List UInt8)) (lo n : Nat) : ∀ e ∈ makeF docs lo n, e.2 ≠ [] := by
  intro e he
  unfold makeF at he
  obtain ⟨t, ht, rfl⟩ := List.mem_map.1 he
  exact mem_allT.1 (mem_setOf.1 ht)
theorem makeF_look (docs : List (List UInt8)) (lo n : Nat) (t : List UInt8) : look (makeF docs lo n) t = inDocs docs t lo n := by
  by_cases h : t ∈ setOf (allT docs lo n)
  · have hm : (t, inDocs docs t lo n) ∈ makeF docs lo n := List.mem_map.2 ⟨t, h, rfl⟩
    exact look_mem (makeF_rises docs lo n) _ hm
  · have h0 : inDocs docs t lo n = [] := by
      cases hd : inDocs docs t lo n with
      | nil => rfl
      | cons a b => exact absurd (mem_setOf.2 (mem_allT.2 (by rw [hd]; simp))) h
    rw [h0]
    refine look_none fun e he => ?_
    unfold makeF at he
    obtain ⟨u, hu, rfl⟩ := List.mem_map.1 he
    rintro rfl
    exact h hu
theorem inDocs_app (docs : List (List UInt8)) (t : List UInt8) (lo a b : Nat) : inDocs docs t lo (a + b) = inDocs docs t lo a ++ inDocs docs t (lo + a) b := by
  unfold inDocs
  rw [← List.map_append, ← List.filter_append]
  congr 2
  have := List.range'_append (s := lo) (m := a) (n := b) (step := 1)
  rw [Nat.one_mul] at this
  exact this.symm

/-- parts that lie one behind the other. -/
def chain : Nat → List (Nat × Nat) → Nat → Prop
  | lo, [], hi => lo = hi
  | lo, p :: r, hi => p.1 = lo ∧ p.1 < p.2 ∧ chain p.2 r hi
def partD (docs : List (List UInt8)) (p : Nat × Nat) : List Ent := makeF docs p.1 (p.2 - p.1)
theorem chain_le : ∀ {ps : List (Nat × Nat)} {lo hi : Nat}, chain lo ps hi → lo ≤ hi
  | [], lo, hi, h => Nat.le_of_eq h
  | p :: r, lo, hi, h => by
    obtain ⟨h1, h2, h3⟩ := h
    have := chain_le h3
    omega
theorem chain_looks (docs : List (List UInt8)) (t : List UInt8) : ∀ {ps : List (Nat × Nat)} {lo hi : Nat}, chain lo ps hi → looks (ps.map (partD docs)) t = inDocs docs t lo (hi - lo)
  | [], lo, hi, h => by
    obtain rfl : lo = hi := h
    rw [Nat.sub_self]; rfl
  | p :: r, lo, hi, h => by
    obtain ⟨rfl, h2, h3⟩ := h
    have h4 := chain_le h3
    have ih := chain_looks docs t h3
    unfold looks at *
    rw [List.map_cons, List.flatMap_cons, ih]
    unfold partD
    rw [makeF_look, show hi - p.1 = (p.2 - p.1) + (hi - p.2) by omega, inDocs_app, show p.1 + (p.2 - p.1) = p.2 by omega]
theorem union_parts (docs : List (List UInt8)) {ps : List (Nat × Nat)} {lo hi : Nat} (h : chain lo ps hi) (f : Nat) (hf : total (ps.map (partD docs)) ≤ f) : unionF f (ps.map (partD docs)) = makeF docs lo (hi - lo) := by
  obtain ⟨h1, h2, h3⟩ := unionF_spec f (ps.map (partD docs)) hf (fun d hd => by
    obtain ⟨p, -, rfl⟩ := List.mem_map.1 hd
    exact makeF_rises _ _ _) (fun d hd => by
    obtain ⟨p, -, rfl⟩ := List.mem_map.1 hd
    exact makeF_ne _ _ _)
  refine ent_ext h1 (makeF_rises _ _ _) (fun e he => (h2 e he).1) (makeF_ne _ _ _) fun t => ?_
  rw [h3, makeF_look, chain_looks docs t h]

/-! ### where the merging stands: p i entries of dictionary i are done -/
def hdE (D : Nat → List Ent) (p : Nat → Nat) (i : Nat) : Ent := (D i).getD (p i) ([], [])
def remL (D : Nat → List Ent) (p : Nat → Nat) (m : Nat) : List (List Ent) := (List.range m).map fun i => (D i).drop (p i)
/-- dictionary i is at a term. -/
def atT (D : Nat → List Ent) (p : Nat → Nat) (t : List UInt8) (i : Nat) : Prop := p i < (D i).length ∧ (hdE D p i).1 = t
instance (D : Nat → List Ent) (p : Nat → Nat) (t : List UInt8) (i : Nat) : Decidable (atT D p t i) := inferInstanceAs (Decidable (_ ∧ _))
def bump (D : Nat → List Ent) (p : Nat → Nat) (t : List UInt8) (i : Nat) : Nat := if atT D p t i then p i + 1 else p i
/-- the first j are moved on. -/
def bumpTo (D : Nat → List Ent) (p : Nat → Nat) (t : List UInt8) (j i : Nat) : Nat := if i < j then bump D p t i else p i
theorem drop_hd {D : Nat → List Ent} {p : Nat → Nat} {i : Nat} (h : p i < (D i).length) : (D i).drop (p i) = hdE D p i :: (D i).drop (p i + 1) := by
  rw [List.drop_eq_getElem_cons h]
  unfold hdE
  rw [List.getD_eq_getElem?_getD, List.getElem?_eq_getElem h]; rfl
theorem drop_nil {D : Nat → List Ent} {p : Nat → Nat} {i : Nat} (h : ¬ p i < (D i).length) : (D i).drop (p i) = [] := List.drop_eq_nil_of_le (by omega)
theorem drop_bump (D : Nat → List Ent) (p : Nat → Nat) (t : List UInt8) (i : Nat) : (D i).drop (bump D p t i) = dropOf t ((D i).drop (p i)) := by
  unfold bump
  by_cases h : p i < (D i).length
  · rw [drop_hd h]
    by_cases h2 : (hdE D p i).1 = t
    · rw [if_pos ⟨h, h2⟩, dropOf, if_pos h2]
    · rw [if_neg (fun g => h2 g.2), dropOf, if_neg h2, drop_hd h]
  · rw [if_neg (fun g => h g.1), drop_nil h]; rfl
theorem remL_bump (D : Nat → List Ent) (p : Nat → Nat) (t : List UInt8) (m : Nat) : remL D (bump D p t) m = (remL D p m).map (dropOf t) := by
  unfold remL
  rw [List.map_map]
  exact List.map_congr_left fun i _ => drop_bump D p t i
theorem remL_mem {D : Nat → List Ent} {p : Nat → Nat} {m : Nat} {e : Ent} {r : List Ent} : (e :: r) ∈ remL D p m ↔ ∃ i, i < m ∧ p i < (D i).length ∧ e = hdE D p i ∧ r = (D i).drop (p i + 1) := by
  unfold remL
  simp only [List.mem_map, List.mem_range]
  constructor
  · rintro ⟨i, h1, h2⟩
    by_cases h : p i < (D i).length
    · rw [drop_hd h] at h2
      obtain ⟨h3, h4⟩ := List.cons.inj h2
      exact ⟨i, h1, h, h3.symm, h4.symm⟩
    · rw [drop_nil h] at h2; cases h2
  · rintro ⟨i, h1, h2, rfl, rfl⟩
    exact ⟨i, h1, drop_hd h2⟩
theorem remL_congr {D : Nat → List Ent} {p q : Nat → Nat} {m : Nat} (h : ∀ i, i < m → p i = q i) : remL D p m = remL D q m := by
  unfold remL
  exact List.map_congr_left fun i hi => by rw [h i (List.mem_range.1 hi)]

/-- the least of the first j, so far: -1, or its number. -/
def Least (D : Nat → List Ent) (p : Nat → Nat) (j : Nat) (x : Int) : Prop :=
  (x = -1 ∧ ∀ i, i < j → ¬ p i < (D i).length) ∨ ∃ i0 : Nat, x = (i0 : Int) ∧ i0 < j ∧ p i0 < (D i0).length ∧ ∀ i, i < j → p i < (D i).length → ltStr (hdE D p i).1 (hdE D p i0).1 = false
theorem Least.zero (D : Nat → List Ent) (p : Nat → Nat) : Least D p 0 (-1) := .inl ⟨rfl, fun i hi => by omega⟩
theorem Least.skip {D : Nat → List Ent} {p : Nat → Nat} {j : Nat} {x : Int} (h : Least D p j x) (hj : ¬ p j < (D j).length) : Least D p (j + 1) x := by
  rcases h with ⟨h1, h2⟩ | ⟨i0, h1, h2, h3, h4⟩
  · refine .inl ⟨h1, fun i hi => ?_⟩
    by_cases e : i = j
    · subst e; exact hj
    · exact h2 i (by omega)
  · refine .inr ⟨i0, h1, by omega, h3, fun i hi hp => ?_⟩
    by_cases e : i = j
    · subst e; exact absurd hp hj
    · exact h4 i (by omega) hp
theorem Least.first {D : Nat → List Ent} {p : Nat → Nat} {j : Nat} (h : Least D p j (-1)) (hj : p j < (D j).length) : Least D p (j + 1) (j : Int) := by
  rcases h with ⟨h1, h2⟩ | ⟨i0, h1, -, -, -⟩
  · refine .inr ⟨j, rfl, by omega, hj, fun i hi hp => ?_⟩
    by_cases e : i = j
    · subst e; exact swo_ltStr.irrefl _
    · exact absurd hp (h2 i (by omega))
  · omega
theorem Least.less {D : Nat → List Ent} {p : Nat → Nat} {j i0 : Nat} (h : Least D p j (i0 : Int)) (hj : p j < (D j).length) (hl : ltStr (hdE D p j).1 (hdE D p i0).1 = true) : Least D p (j + 1) (j : Int) := by
  rcases h with ⟨h1, -⟩ | ⟨i1, h1, h2, h3, h4⟩
  · omega
  · obtain rfl : i0 = i1 := by omega
    refine .inr ⟨j, rfl, by omega, hj, fun i hi hp => ?_⟩
    by_cases e : i = j
    · subst e; exact swo_ltStr.irrefl _
    · exact swo_ltStr.ntrans _ _ _ (h4 i (by omega) hp) (swo_ltStr.asymmA hl)
theorem Least.stay {D : Nat → List Ent} {p : Nat → Nat} {j i0 : Nat} (h : Least D p j (i0 : Int)) (hl : ltStr (hdE D p j).1 (hdE D p i0).1 = false) : Least D p (j + 1) (i0 : Int) := by
  rcases h with ⟨h1, -⟩ | ⟨i1, h1, h2, h3, h4⟩
  · omega
  · obtain rfl : i0 = i1 := by omega
    refine .inr ⟨i0, rfl, by omega, h3, fun i hi hp => ?_⟩
    by_cases e : i = j
    · subst e; exact hl
    · exact h4 i (by omega) hp
theorem Least.form {D : Nat → List Ent} {p : Nat → Nat} {j : Nat} {x : Int} (h : Least D p j x) : x = -1 ∨ ∃ i0 : Nat, x = (i0 : Int) ∧ i0 < j ∧ p i0 < (D i0).length := by
  rcases h with ⟨h1, -⟩ | ⟨i0, h1, h2, h3, -⟩
  · exact .inl h1
  · exact .inr ⟨i0, h1, h2, h3⟩
theorem Least.none {D : Nat → List Ent} {p : Nat → Nat} {m : Nat} (h : Least D p m (-1)) : minHead (remL D p m) = none := by
  rcases h with ⟨-, h2⟩ | ⟨i0, h1, -, -, -⟩
  · rw [minHead_none]
    intro d hd
    unfold remL at hd
    obtain ⟨i, hi, rfl⟩ := List.mem_map.1 hd
    exact drop_nil (h2 i (List.mem_range.1 hi))
  · omega
theorem Least.some {D : Nat → List Ent} {p : Nat → Nat} {m i0 : Nat} (h : Least D p m (i0 : Int)) : minHead (remL D p m) = some (hdE D p i0).1 := by
  rcases h with ⟨h1, -⟩ | ⟨i1, h1, h2, h3, h4⟩
  · omega
  · obtain rfl : i0 = i1 := by omega
    refine minHead_is ⟨_, _, remL_mem.2 ⟨i0, h2, h3, rfl, rfl⟩, rfl⟩ fun e r hm => ?_
    obtain ⟨i, g1, g2, rfl, -⟩ := remL_mem.1 hm
    exact h4 i g1 g2

/-- the documents of a term in the first j. -/
def dpre (D : Nat → List Ent) (p : Nat → Nat) (t : List UInt8) (j : Nat) : List Int := docsOf t (remL D p j)
theorem docsOf_app (t : List UInt8) : ∀ a b : List (List Ent), docsOf t (a ++ b) = docsOf t a ++ docsOf t b
  | [], b => rfl
  | [] :: a, b => by rw [List.cons_append, docsOf, docsOf, docsOf_app t a b]
  | (e :: d) :: a, b => by
    rw [List.cons_append, docsOf, docsOf, docsOf_app t a b]
    split <;> simp
theorem dpre_zero (D : Nat → List Ent) (p : Nat → Nat) (t : List UInt8) : dpre D p t 0 = [] := rfl
theorem dpre_succ (D : Nat → List Ent) (p : Nat → Nat) (t : List UInt8) (j : Nat) : dpre D p t (j + 1) = dpre D p t j ++ (if atT D p t j then (hdE D p j).2 else []) := by
  unfold dpre remL
  rw [List.range_succ, List.map_append, docsOf_app, List.map_cons, List.map_nil]
  congr 1
  by_cases h : p j < (D j).length
  · rw [drop_hd h, docsOf]
    by_cases h2 : (hdE D p j).1 = t
    · rw [if_pos h2, if_pos ⟨h, h2⟩]; simp [docsOf]
    · rw [if_neg h2, if_neg (fun g => h2 g.2)]; rfl
  · rw [drop_nil h, if_neg (fun g => h g.1)]; rfl
theorem dpre_yes {D : Nat → List Ent} {p : Nat → Nat} {t : List UInt8} {j : Nat} (h : p j < (D j).length) (h2 : (hdE D p j).1 = t) : dpre D p t (j + 1) = dpre D p t j ++ (hdE D p j).2 := by rw [dpre_succ, if_pos ⟨h, h2⟩]
theorem dpre_no {D : Nat → List Ent} {p : Nat → Nat} {t : List UInt8} {j : Nat} (h : ¬ (p j < (D j).length ∧ (hdE D p j).1 = t)) : dpre D p t (j + 1) = dpre D p t j := by rw [dpre_succ, if_neg (show ¬ atT D p t j from h), List.append_nil]
theorem dpre_len (D : Nat → List Ent) (p : Nat → Nat) (t : List UInt8) (B : Nat) (hB : ∀ i, ∀ e ∈ D i, e.2.length ≤ B) : ∀ j, (dpre D p t j).length ≤ j * B
  | 0 => by simp [dpre_zero]
  | j + 1 => by
    have ih := dpre_len D p t B hB j
    rw [Nat.succ_mul]
    by_cases h : p j < (D j).length ∧ (hdE D p j).1 = t
    · rw [dpre_yes h.1 h.2, List.length_append]
      have : (hdE D p j).2.length ≤ B := by
        refine hB j _ ?_
        unfold hdE
        rw [List.getD_eq_getElem?_getD, List.getElem?_eq_getElem h.1]
        exact List.getElem_mem h.1
      omega
    · rw [dpre_no h]; omega
theorem bumpTo_zero (D : Nat → List Ent) (p : Nat → Nat) (t : List UInt8) (i : Nat) : bumpTo D p t 0 i = p i := by simp [bumpTo]
theorem bumpTo_at (D : Nat → List Ent) (p : Nat → Nat) (t : List UInt8) (j : Nat) : bumpTo D p t j j = p j := by simp [bumpTo]
theorem bumpTo_yes {D : Nat → List Ent} {p : Nat → Nat} {t : List UInt8} {j : Nat} (h : p j < (D j).length) (h2 : (hdE D p j).1 = t) (i : Nat) : bumpTo D p t (j + 1) i = if i = j then p j + 1 else bumpTo D p t j i := by
  unfold bumpTo
  by_cases e : i = j
  · subst e
    rw [if_pos rfl, if_pos (by omega)]
    unfold bump
    rw [if_pos ⟨h, h2⟩]
  · rw [if_neg e]
    by_cases e2 : i < j
    · rw [if_pos e2, if_pos (by omega)]
    · rw [if_neg e2, if_neg (by omega)]
theorem bumpTo_no {D : Nat → List Ent} {p : Nat → Nat} {t : List UInt8} {j : Nat} (h : ¬ (p j < (D j).length ∧ (hdE D p j).1 = t)) (i : Nat) : bumpTo D p t (j + 1) i = bumpTo D p t j i := by
  unfold bumpTo
  by_cases e : i = j
  · subst e
    rw [if_pos (by omega), if_neg (by omega)]
    unfold bump
    rw [if_neg (show ¬ atT D p t i from h)]
  · by_cases e2 : i < j
    · rw [if_pos e2, if_pos (by omega)]
    · rw [if_neg e2, if_neg (by omega)]
theorem remL_bumpTo (D : Nat → List Ent) (p : Nat → Nat) (t : List UInt8) (m : Nat) : remL D (bumpTo D p t m) m = (remL D p m).map (dropOf t) := by
  rw [← remL_bump]
  exact remL_congr fun i hi => by unfold bumpTo; rw [if_pos hi]
/-- one step of the union. -/
theorem unionF_none {f : Nat} {ds : List (List Ent)} (h : minHead ds = none) : unionF f ds = [] := by
  cases f with
  | zero => rfl
  | succ f => rw [unionF, h]
theorem unionF_some {f : Nat} {ds : List (List Ent)} {t : List UInt8} (h : minHead ds = some t) : unionF (f + 1) ds = (t, docsOf t ds) :: unionF f (ds.map (dropOf t)) := by rw [unionF, h]
theorem minHead_total {ds : List (List Ent)} {t : List UInt8} (h : minHead ds = some t) : total (ds.map (dropOf t)) < total ds := total_drop_lt (minHead_some h).1
end Go.Proofs.YteegbjjpjdlcmaaGreatDoor
