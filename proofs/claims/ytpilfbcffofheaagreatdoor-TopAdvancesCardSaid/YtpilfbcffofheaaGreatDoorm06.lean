/- Part 6 of the proof. -/
import Derived.Test.YtpilfbcffofheaaGreatDoormS
set_option linter.all false
set_option maxHeartbeats 1000000
namespace Go.Proofs
open Go.RowKit Go.Sort
section
open Go.RowKit Go.Maps Go.Sort Go.Shelf
def Tryz.sortsM (m):AnyZ.SortsIn Tryz.prog Tryz.sortedM_ren Fence.wide m:=
 ⟨fun c off b h a d e f=>callsIn_wide.2 (AnyM.slices_Sort_string Tryz.sortM c off b h a d e f),
  fun g b a=>callsIn_wide.2 (AnyM.slices_Sort_string_none Tryz.sortM g b a)⟩
def Tryz.maps_Keys_M (mb W):CallsIn Fence.wide 5 Tryz.prog 123 #[.map mb] W fun e w'=>e=.returned (.func (.func 202) #[] #[.pointer (some ⟨W.heap.size,0,none⟩)])/\w'=W.alloc (.cells #[.map mb] 219):=
 AnyZ.keys_in Tryz.keysM Fence.wide 5 trivial rfl mb W
def Tryz.slices_Sorted_keys_M {H} (b nn D0) (R:Value->Option (DataW H×List MemPlace)) (w:World) (c:w.ownsMap Tryz.prog 9 R b nn D0) (l:Maps.size D0<=maxLen) (k:Maps.size D0*16<=140737488355328) :
  CallsIn Fence.wide 5 Tryz.prog 122 #[.func (.func 202) #[] #[.pointer (some ⟨w.heap.size,0,none⟩)]] (w.alloc (.cells #[.map (some b)] 219)) fun e w'=>∃ (v:Value) (a:List (List UInt8)),e=.returned v/\a.Perm (strKeys D0) /\
   w'.ownsRow (w.alloc (.cells #[.map (some b)] 219)).heap.size 9 1 v a.length ((a.mergeSort (fun x y=>decide (x<=y))).map encStr)/\(v=.slice none 0 0↔a=[])/\Below (w.alloc (.cells #[.map (some b)] 219)).heap.size (w.alloc (.cells #[.map (some b)] 219)) w':=by
 have j:=c.lt;have n:SeqGives Fence.wide 2 Tryz.prog 202 #[.pointer (some ⟨w.heap.size,0,none⟩)] encStr (fun a=>a.Perm (strKeys D0)) (Maps.size D0) (w.alloc (.cells #[.map (some b)] 219)):=
  AnyZ.keys_gives  {Tryz.keysM with} _ _ trivial rfl (by omega) _ b nn D0 _ (by simp) (by simp) (by
   obtain⟨g,f,i,d,m,h⟩:=c
   exact⟨g,f,(Below.heap_alloc _ _ b j).trans i,d,m,h⟩)
 exact AnyZ.sorted_in Tryz.sortedM _ 5 trivial trivial trivial trivial rfl (by omega) (Tryz.sortsM _) (enters_of Tryz.func168 (by kernel_rfl) rfl) _ _ trivial (enters_of Tryz.func202 (by kernel_rfl) rfl) _ _ l k _ n
end
