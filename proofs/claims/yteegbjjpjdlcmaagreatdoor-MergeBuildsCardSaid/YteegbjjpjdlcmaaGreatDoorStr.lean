/- bytes as a string; a string as bytes. No function of the program. -/
import Derived.Test.YteegbjjpjdlcmaaGreatDoorEncode
import Derived.Test.YteegbjjpjdlcmaaGreatDoorOwn
import Derived.Laws.IdiomStrings
set_option linter.unusedVariables false
namespace Go.Proofs.YteegbjjpjdlcmaaGreatDoor
open Go.RowKit

/-- a string value of these bytes. -/
def bstr (l : List UInt8) : ByteArray := ⟨l.toArray⟩
def str (l : List UInt8) : Value := .string (bstr l)

theorem foldl_push (l : List UInt8) : ∀ s : ByteArray, (l.map ch).foldl (fun r n => r.push (UInt8.ofNat n.toNat)) s = ⟨s.data ++ l.toArray⟩ := by
  induction l with
  | nil => intro s; simp
  | cons b l ih =>
    intro s
    simp only [List.map_cons, List.foldl_cons, ih]
    have : UInt8.ofNat (ch b).toNat = b := by simp [ch]
    rw [this]
    congr 1
    apply Array.ext'
    simp [ByteArray.push]

theorem run_to_string {P : Program} (w : World) (src dst e : TypeId) (hs : P.underlying src = some (.slice e)) (he : P.underlying e = some (.int .u8)) (hd : P.underlying dst = some .string)
    (v : Value) (l : List UInt8) (h : Rd w v l.length 1 (bcells l)) : (convert src dst v).run P w = .ok (.string (bstr l)) w := by
  have key : ∀ (a : Addr) (c : Nat), (∀ j u, (bcells l)[j]? = some u → w.cell? (a.add j) = some u) → (convert src dst (.slice (some a) l.length c)).run P w = .ok (.string (bstr l)) w := by
    intro a c hc
    rw [run_convert_bytes_string w src dst e _ _ _ hs he hd]
    have hb : bcells l = (l.map ch).map (Value.int .u8) := by simp [bcells]
    have hld := run_loadCells_list (P := P) w a (bcells l) hc
    rw [show (bcells l).length = l.length from by simp [bcells], hb] at hld
    rw [run_bytesToString w a l.length c (l.map ch) hld, foldl_push]
    simp [bstr]
  obtain ⟨-, -, ⟨ao, c, rfl, h0⟩ | ⟨b, off, c, rfl, -, -, -, h3⟩⟩ := h
  · have hx : l = [] := List.length_eq_zero_iff.1 h0
    subst hx
    cases ao with
    | some a => exact key a c (by simp [bcells])
    | none =>
      rw [run_convert_bytes_string w src dst e _ _ _ hs he hd]
      simp [Conv.bytesToString, bstr]
      rfl
  · refine key ⟨b, off, none⟩ c (fun j u hu => ?_)
    have hadd : (⟨b, off, none⟩ : Addr).add j = ⟨b, off + j, none⟩ := by unfold Addr.add; split <;> simp_all
    rw [hadd]; exact h3 j u hu

theorem size_bstr (l : List UInt8) : (bstr l).size = l.length := by simp [bstr, ByteArray.size]
theorem toList_bstr (l : List UInt8) : (bstr l).data.toList = l := by simp [bstr]
theorem bstr_append (a b : List UInt8) : bstr a ++ bstr b = bstr (a ++ b) := by
  unfold bstr
  apply ByteArray.ext
  simp

end Go.Proofs.YteegbjjpjdlcmaaGreatDoor
