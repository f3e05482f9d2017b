/- rubricklaw16.Great, deepest, rubrickref16.Same. -/
import Derived.Test.YtjbmihgfneamlaaDoorParse
set_option linter.unusedVariables false
namespace Go.Proofs.YtjbmihgfneamlaaDoor
open Go.RowKit

def great (l : List QOp) : Bool := l.any (fun s => decide (200 < s.2.length)) || decide (60 < l.length)

theorem great_no {l : List QOp} (h : great l = false) : l.length ≤ 60 ∧ ∀ s ∈ l, s.2.length ≤ 200 := by
  unfold great at h
  simp only [Bool.or_eq_false_iff, decide_eq_false_iff_not, List.any_eq_false, decide_eq_true_eq] at h
  exact ⟨by omega, fun s hs => by have := h.1 s hs; omega⟩

theorem bstr_size (l : List UInt8) : (bstr l).size = l.length := by
  unfold bstr ByteArray.size; simp

set_option maxHeartbeats 1000000 in
theorem great_any (v : Value) (l : List QOp) (w : World) (h : Rd w v l.length 2 (ocells l)) :
    Calls Tryd.prog 13 #[v] w fun e w' => e = .returned (.bool (great l)) ∧ w = w' := by
  obtain ⟨ao, c, rfl, hm, hcell⟩ := ops_cells h
  have HC := Lib.hid hcell
  clear hcell h
  have hmx : l.length ≤ 9223372036854775807 := hm
  go_enter Tryd.func13, Tryd.ntmps13
  go_wp2
  go_loopw [3] (fun i wr => ∃ (k : Nat), k ≤ l.length ∧ i = .int .i64 k ∧ Hid (∀ s ∈ l.take k, s.2.length ≤ 200) ∧ w = wr) (fun i _ => l.length - (intOf i).toNat)
  case atStart => exact ⟨0, Nat.zero_le _, rfl, by intro s hs; simp at hs, rfl⟩
  case round =>
    obtain ⟨k, hk, rfl, HA, rfl⟩ := hrel
    by_cases hlt : k < l.length
    · obtain ⟨b, off, rfl, h1, h2⟩ := HC.out k hlt
      have htk : l.take (k + 1) = l.take k ++ [l[k]] := by rw [List.take_succ_eq_append_getElem hlt]
      obtain ⟨x, hx⟩ : ∃ s, s = l[k] := ⟨_, rfl⟩
      have hmem : x ∈ l := by rw [hx]; exact List.getElem_mem _
      rw [← hx] at htk h1 h2
      have HTK := Lib.hid htk
      clear h1 hx htk
      have hbs := bstr_size x.2
      by_cases hg : 200 < x.2.length
      · have hgi : (200 : Int) < (x.2.length : Int) := by omega
        have hfin : great l = true := by
          unfold great
          rw [Bool.or_eq_true]; left
          rw [List.any_eq_true]
          exact ⟨x, hmem, by simpa using hg⟩
        have HF := Lib.hid hfin
        have HM := Lib.hid hmem
        clear hfin hmem
        rw [← hbs] at hgi
        go_wp2
        go_ret
        exact ⟨by rw [HF.out]; rfl, rfl⟩
      · have hgi : ¬ (200 : Int) < (x.2.length : Int) := by omega
        rw [← hbs] at hgi
        go_wp2
        go_roundw
        case rel => exact ⟨k + 1, by omega, by go_num, by intro s hs; rw [HTK.out, List.mem_append] at hs; rcases hs with hs | hs; exact HA.out s hs; simp only [List.mem_singleton] at hs; subst hs; omega, trivial⟩
        case measure => simp [intOf]; omega
    · have hke : k = l.length := by omega
      subst hke
      have hg : great l = decide ((60 : Int) < (l.length : Int)) := by
        unfold great
        have h0 : l.any (fun s => decide (200 < s.2.length)) = false := by
          rw [List.any_eq_false]
          intro s hs
          have := HA.out s (by rw [List.take_length]; exact hs)
          simp; omega
        rw [h0, Bool.false_or]
        by_cases hx : 60 < l.length
        · rw [decide_eq_true hx, decide_eq_true (by omega)]
        · rw [decide_eq_false hx, decide_eq_false (by omega)]
      have HG := Lib.hid hg
      clear hg
      go_wp2
      go_ret
      exact ⟨by rw [HG.out]; rfl, rfl⟩

/-- brackets: the most that are open at once so far, and those open now. -/
def deepN (n : Int) (c : UInt8) : Int := if c = 40 then n + 1 else if c = 41 then n - 1 else n
def deepGo : Int → Int → List UInt8 → Int
  | m, _, [] => m
  | m, n, c :: r => deepGo (if m < deepN n c then deepN n c else m) (deepN n c) r
def deepest (s : List UInt8) : Int := deepGo 0 0 s

theorem bstr_get (s : List UInt8) (k : Nat) (h : k < (bstr s).size) : (bstr s).toList[k]? = some ((bstr s)[k]'h) := by
  unfold bstr at h ⊢
  rw [show (ByteArray.mk s.toArray).toList = s from btoList s]
  have h' : k < s.length := by unfold ByteArray.size at h; simpa using h
  rw [List.getElem?_eq_getElem h']
  rfl

theorem u8_ne {a : UInt8} {n : Nat} (h : a ≠ UInt8.ofNat n) (hn : n < 256) : ((a.toNat : Int) == (n : Int)) = false := by
  refine beq_eq_false_iff_ne.2 fun e => h ?_
  have e2 : a.toNat = n := by omega
  rw [← e2, UInt8.ofNat_toNat]

set_option maxHeartbeats 1000000 in
theorem deepest_any (s : List UInt8) (w : World) (hn : s.length ≤ 1000000000) :
    Calls Tryd.prog 17 #[.string (bstr s)] w fun e w' => e = .returned (.int .i64 (deepest s)) ∧ w = w' := by
  have HR : Hid (deepest s = deepGo 0 0 s) := rfl
  have hbs := bstr_size s
  go_enter Tryd.func17, Tryd.ntmps17
  go_wp2
  go_loopw [3, 4, 5] (fun x y i wr => ∃ (k : Nat) (m n : Int), k ≤ s.length ∧ i = .int .i64 k ∧ x = .int .i64 m ∧ y = .int .i64 n ∧ -(k : Int) ≤ n ∧ n ≤ k ∧ Hid (deepest s = deepGo m n (s.drop k)) ∧ w = wr) (fun _ _ i _ => s.length - (intOf i).toNat)
  case atStart => exact ⟨0, 0, 0, Nat.zero_le _, rfl, rfl, rfl, by omega, by omega, HR, rfl⟩
  case round =>
    obtain ⟨k, m, n, hk, rfl, rfl, rfl, h1, h2, HD, rfl⟩ := hrel
    by_cases hlt : k < s.length
    · have hdrop : s.drop k = s[k] :: s.drop (k + 1) := List.drop_eq_getElem_cons hlt
      have hkb : k < (bstr s).size := by omega
      have hget : (bstr s)[k]'hkb = s[k] := by
        have h1 : (bstr s).toList[k]? = some s[k] := by rw [btoList]; exact List.getElem?_eq_getElem hlt
        have h2 := bstr_get s k hkb
        rw [h2] at h1
        exact Option.some.inj h1
      have hst : deepest s = deepGo (if m < deepN n s[k] then deepN n s[k] else m) (deepN n s[k]) (s.drop (k + 1)) := by rw [HD.out, hdrop]; rfl
      have HST := Lib.hid hst
      have HG := Lib.hid hget
      clear hst hdrop HD hget
      by_cases e40 : s[k] = 40
      · have b40 : ((((bstr s)[k]'hkb).toNat : Int) == 40) = true := by rw [HG.out, e40]; rfl
        have hn1 : deepN n s[k] = n + 1 := by unfold deepN; rw [if_pos e40]
        have HN := Lib.hid hn1
        clear hn1 e40
        by_cases hm : m < n + 1
        · go_wp2
          go_roundw
          case rel => exact ⟨k + 1, n + 1, n + 1, by omega, by go_num, rfl, rfl, by omega, by omega, by show _ = _; rw [HST.out, HN.out, if_pos hm], trivial⟩
          case measure => simp [intOf]; omega
        · go_wp2
          go_roundw
          case rel => exact ⟨k + 1, m, n + 1, by omega, by go_num, rfl, rfl, by omega, by omega, by show _ = _; rw [HST.out, HN.out, if_neg hm], trivial⟩
          case measure => simp [intOf]; omega
      · have b40 : ((((bstr s)[k]'hkb).toNat : Int) == 40) = false := by rw [HG.out]; exact u8_ne (n := 40) e40 (by omega)
        by_cases e41 : s[k] = 41
        · have b41 : ((((bstr s)[k]'hkb).toNat : Int) == 41) = true := by rw [HG.out, e41]; rfl
          have hn1 : deepN n s[k] = n - 1 := by unfold deepN; rw [if_neg e40, if_pos e41]
          have HN := Lib.hid hn1
          clear hn1 e40 e41
          by_cases hm : m < n - 1
          · go_wp2
            go_roundw
            case rel => exact ⟨k + 1, n - 1, n - 1, by omega, by go_num, rfl, rfl, by omega, by omega, by show _ = _; rw [HST.out, HN.out, if_pos hm], trivial⟩
            case measure => simp [intOf]; omega
          · go_wp2
            go_roundw
            case rel => exact ⟨k + 1, m, n - 1, by omega, by go_num, rfl, rfl, by omega, by omega, by show _ = _; rw [HST.out, HN.out, if_neg hm], trivial⟩
            case measure => simp [intOf]; omega
        · have b41 : ((((bstr s)[k]'hkb).toNat : Int) == 41) = false := by rw [HG.out]; exact u8_ne (n := 41) e41 (by omega)
          have hn1 : deepN n s[k] = n := by unfold deepN; rw [if_neg e40, if_neg e41]
          have HN := Lib.hid hn1
          clear hn1 e40 e41
          by_cases hm : m < n
          · go_wp2
            go_roundw
            case rel => exact ⟨k + 1, n, n, by omega, by go_num, rfl, rfl, by omega, by omega, by show _ = _; rw [HST.out, HN.out, if_pos hm], trivial⟩
            case measure => simp [intOf]; omega
          · go_wp2
            go_roundw
            case rel => exact ⟨k + 1, m, n, by omega, by go_num, rfl, rfl, by omega, by omega, by show _ = _; rw [HST.out, HN.out, if_neg hm], trivial⟩
            case measure => simp [intOf]; omega
    · have hke : k = s.length := by omega
      subst hke
      have hd : deepest s = m := by rw [HD.out, List.drop_length]; rfl
      have HD2 := Lib.hid hd
      clear hd
      go_wp2
      go_ret
      exact ⟨by rw [HD2.out]; rfl, rfl⟩
end Go.Proofs.YtjbmihgfneamlaaDoor
