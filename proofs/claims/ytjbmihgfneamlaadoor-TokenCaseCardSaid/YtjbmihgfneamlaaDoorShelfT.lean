/-
  DERIVED: THE SHELF's CONTRACTS AT THIS DUMP, IN PLAIN WORDS (tools/lay-plain.mjs out of 'YtjbmihgfneamlaaDoorShelfT.lean', which tools/lay-shelf.mjs wrote): THE SAME DECLARATIONS UNDER THE SAME NAMES: 'import', 'namespace', 'open', 'def', 'theorem' AND NOTHING ELSE: no command of the shelf's: FOR A HAND-IN. Each laying: the table of numbers ('.._ren') and one theorem, a field a fact of the dump's own or the kernel's comparison; each contract: ONE APPLICATION.
-/
import Derived.Ground.SlgnProg
import Derived.Shelf.SlicesE.Clone
import Derived.Ground.SlsfProg
import Derived.Shelf.SlSortCmp.Whole1
import Derived.Shelf.SlSortCmp.WholeK
import Derived.Shelf.SlSortCmp.NoneTotal
import Derived.Test.YtjbmihgfneamlaaDoorShelf
import Derived.Test.YtjbmihgfneamlaaDoorProg
namespace Go.Proofs
open Go.Shelf
def Tryd.laysSlF6_f69_ren : Go.Shelf.Ren := ⟨fun | 6 => 69 | 15 => 80 | 14 => 85 | 28 => 96 | 29 => 97 | 20 => 98 | 21 => 99 | 22 => 100 | 23 => 101 | 24 => 102 | 25 => 103 | 26 => 104 | 27 => 105 | 46 => 119 | 47 => 115 | 48 => 116 | 49 => 120 | 50 => 121 | 57 => 126 | n => n, fun | 22 => 41 | 24 => 9 | 25 => 73 | 3 => 3 | 39 => 102 | 0 => 0 | 53 => 118 | 55 => 120 | 4 => 4 | 46 => 111 | 45 => 110 | 50 => 115 | 5 => 5 | 9 => 9 | 66 => 131 | 70 => 135 | 76 => 141 | 77 => 87 | n => n, fun | n => n⟩
theorem Tryd.laysSlF6_f69 : Go.Proofs.SlLaysF.n6 Tryd.prog Tryd.laysSlF6_f69_ren := {
  mixed := by kernel_rfl
  f6 := ⟨Tryd.f69.name, by decide, Tryd.func69.trans (congrArg some (by kernel_rfl))⟩
  f14 := ⟨Tryd.f85.name, by decide, Tryd.func85.trans (congrArg some (by kernel_rfl))⟩
  f15 := Tryd.func80.trans (congrArg some (by kernel_rfl))
  f20 := ⟨Tryd.f98.name, by decide, Tryd.func98.trans (congrArg some (by kernel_rfl))⟩
  f21 := ⟨Tryd.f99.name, by decide, Tryd.func99.trans (congrArg some (by kernel_rfl))⟩
  f22 := ⟨Tryd.f100.name, by decide, Tryd.func100.trans (congrArg some (by kernel_rfl))⟩
  f23 := ⟨Tryd.f101.name, by decide, Tryd.func101.trans (congrArg some (by kernel_rfl))⟩
  f24 := ⟨Tryd.f102.name, by decide, Tryd.func102.trans (congrArg some (by kernel_rfl))⟩
  f25 := ⟨Tryd.f103.name, by decide, Tryd.func103.trans (congrArg some (by kernel_rfl))⟩
  f26 := ⟨Tryd.f104.name, by decide, Tryd.func104.trans (congrArg some (by kernel_rfl))⟩
  f27 := ⟨Tryd.f105.name, by decide, Tryd.func105.trans (congrArg some (by kernel_rfl))⟩
  f28 := Tryd.func96.trans (congrArg some (by kernel_rfl))
  f29 := Tryd.func97.trans (congrArg some (by kernel_rfl))
  f46 := ⟨Tryd.f119.name, by decide, Tryd.func119.trans (congrArg some (by kernel_rfl))⟩
  f47 := Tryd.func115.trans (congrArg some (by kernel_rfl))
  f48 := Tryd.func116.trans (congrArg some (by kernel_rfl))
  f49 := ⟨Tryd.f120.name, by decide, Tryd.func120.trans (congrArg some (by kernel_rfl))⟩
  f50 := ⟨Tryd.f121.name, by decide, Tryd.func121.trans (congrArg some (by kernel_rfl))⟩
  f57 := ⟨Tryd.f126.name, by decide, Tryd.func126.trans (congrArg some (by kernel_rfl))⟩
  t0 := Tryd.underlying0
  a0 := Tryd.isAgg0
  z0 := Tryd.sizeOf0
  v0 := Tryd.zeroValue0
  t3 := Tryd.underlying3
  a3 := Tryd.isAgg3
  z3 := Tryd.sizeOf3
  v3 := Tryd.zeroValue3
  t4 := Tryd.underlying4
  a4 := Tryd.isAgg4
  z4 := Tryd.sizeOf4
  v4 := Tryd.zeroValue4
  t5 := Tryd.underlying5
  a5 := Tryd.isAgg5
  z5 := Tryd.sizeOf5
  v5 := Tryd.zeroValue5
  t9 := Tryd.underlying9
  a9 := Tryd.isAgg9
  z9 := Tryd.sizeOf9
  v9 := Tryd.zeroValue9
  t22 := Tryd.underlying41
  a22 := Tryd.isAgg41
  z22 := Tryd.sizeOf41
  v22 := Tryd.zeroValue41
  a24 := Tryd.isAgg9
  z24 := Tryd.sizeOf9
  t25 := Tryd.underlying73
  a25 := Tryd.isAgg73
  z25 := Tryd.sizeOf73
  v25 := Tryd.zeroValue73
  t39 := Tryd.underlying102
  a39 := Tryd.isAgg102
  z39 := Tryd.sizeOf102
  v39 := Tryd.zeroValue102
  t45 := Tryd.underlying110
  a45 := Tryd.isAgg110
  z45 := Tryd.sizeOf110
  v45 := Tryd.zeroValue110
  t46 := Tryd.underlying111
  a46 := Tryd.isAgg111
  z46 := Tryd.sizeOf111
  v46 := Tryd.zeroValue111
  t50 := Tryd.underlying115
  a50 := Tryd.isAgg115
  z50 := Tryd.sizeOf115
  v50 := Tryd.zeroValue115
  t53 := Tryd.underlying118
  a53 := Tryd.isAgg118
  z53 := Tryd.sizeOf118
  v53 := Tryd.zeroValue118
  t55 := Tryd.underlying120
  a55 := Tryd.isAgg120
  z55 := Tryd.sizeOf120
  v55 := Tryd.zeroValue120
  t66 := Tryd.underlying131
  a66 := Tryd.isAgg131
  z66 := Tryd.sizeOf131
  v66 := Tryd.zeroValue131
  t70 := Tryd.underlying135
  a70 := Tryd.isAgg135
  z70 := Tryd.sizeOf135
  v70 := Tryd.zeroValue135
  t76 := Tryd.underlying141
  a76 := Tryd.isAgg141
  z76 := Tryd.sizeOf141
  v76 := Tryd.zeroValue141
  t77 := Tryd.underlying87
  a77 := Tryd.isAgg87
  z77 := Tryd.sizeOf87
  v77 := Tryd.zeroValue87 }
def Tryd.laysSlF06_f69_ren : Go.Shelf.Ren := ⟨fun | 6 => 69 | 15 => 80 | 14 => 85 | 28 => 96 | 29 => 97 | 20 => 98 | 21 => 99 | 22 => 100 | 23 => 101 | 24 => 102 | 25 => 103 | 26 => 104 | 27 => 105 | 46 => 119 | 47 => 115 | 48 => 116 | 49 => 120 | 50 => 121 | 57 => 126 | n => n, fun | 22 => 41 | 24 => 9 | 25 => 73 | 3 => 3 | 39 => 102 | 0 => 0 | 53 => 118 | 55 => 120 | 4 => 4 | 46 => 111 | 45 => 110 | 50 => 115 | 5 => 5 | 9 => 9 | 66 => 131 | 70 => 135 | 76 => 141 | 77 => 87 | n => n, fun | n => n⟩
theorem Tryd.laysSlF06_f69 : Go.Proofs.SlLaysF0.n6 Tryd.prog Tryd.laysSlF06_f69_ren := {
  mixed := by kernel_rfl
  f6 := ⟨Tryd.f69.name, by decide, Tryd.func69.trans (congrArg some (by kernel_rfl))⟩
  f14 := ⟨Tryd.f85.name, by decide, Tryd.func85.trans (congrArg some (by kernel_rfl))⟩
  f15 := Tryd.func80.trans (congrArg some (by kernel_rfl))
  f20 := ⟨Tryd.f98.name, by decide, Tryd.func98.trans (congrArg some (by kernel_rfl))⟩
  f21 := ⟨Tryd.f99.name, by decide, Tryd.func99.trans (congrArg some (by kernel_rfl))⟩
  f22 := ⟨Tryd.f100.name, by decide, Tryd.func100.trans (congrArg some (by kernel_rfl))⟩
  f23 := ⟨Tryd.f101.name, by decide, Tryd.func101.trans (congrArg some (by kernel_rfl))⟩
  f24 := ⟨Tryd.f102.name, by decide, Tryd.func102.trans (congrArg some (by kernel_rfl))⟩
  f25 := ⟨Tryd.f103.name, by decide, Tryd.func103.trans (congrArg some (by kernel_rfl))⟩
  f26 := ⟨Tryd.f104.name, by decide, Tryd.func104.trans (congrArg some (by kernel_rfl))⟩
  f27 := ⟨Tryd.f105.name, by decide, Tryd.func105.trans (congrArg some (by kernel_rfl))⟩
  f28 := Tryd.func96.trans (congrArg some (by kernel_rfl))
  f29 := Tryd.func97.trans (congrArg some (by kernel_rfl))
  f46 := ⟨Tryd.f119.name, by decide, Tryd.func119.trans (congrArg some (by kernel_rfl))⟩
  f47 := Tryd.func115.trans (congrArg some (by kernel_rfl))
  f48 := Tryd.func116.trans (congrArg some (by kernel_rfl))
  f49 := ⟨Tryd.f120.name, by decide, Tryd.func120.trans (congrArg some (by kernel_rfl))⟩
  f50 := ⟨Tryd.f121.name, by decide, Tryd.func121.trans (congrArg some (by kernel_rfl))⟩
  f57 := ⟨Tryd.f126.name, by decide, Tryd.func126.trans (congrArg some (by kernel_rfl))⟩
  t0 := Tryd.underlying0
  a0 := Tryd.isAgg0
  z0 := Tryd.sizeOf0
  v0 := Tryd.zeroValue0
  t3 := Tryd.underlying3
  a3 := Tryd.isAgg3
  z3 := Tryd.sizeOf3
  v3 := Tryd.zeroValue3
  t4 := Tryd.underlying4
  a4 := Tryd.isAgg4
  z4 := Tryd.sizeOf4
  v4 := Tryd.zeroValue4
  t5 := Tryd.underlying5
  a5 := Tryd.isAgg5
  z5 := Tryd.sizeOf5
  v5 := Tryd.zeroValue5
  t9 := Tryd.underlying9
  a9 := Tryd.isAgg9
  z9 := Tryd.sizeOf9
  v9 := Tryd.zeroValue9
  t22 := Tryd.underlying41
  a22 := Tryd.isAgg41
  z22 := Tryd.sizeOf41
  v22 := Tryd.zeroValue41
  t25 := Tryd.underlying73
  a25 := Tryd.isAgg73
  z25 := Tryd.sizeOf73
  v25 := Tryd.zeroValue73
  t39 := Tryd.underlying102
  a39 := Tryd.isAgg102
  z39 := Tryd.sizeOf102
  v39 := Tryd.zeroValue102
  t45 := Tryd.underlying110
  a45 := Tryd.isAgg110
  z45 := Tryd.sizeOf110
  v45 := Tryd.zeroValue110
  t46 := Tryd.underlying111
  a46 := Tryd.isAgg111
  z46 := Tryd.sizeOf111
  v46 := Tryd.zeroValue111
  t50 := Tryd.underlying115
  a50 := Tryd.isAgg115
  z50 := Tryd.sizeOf115
  v50 := Tryd.zeroValue115
  t53 := Tryd.underlying118
  a53 := Tryd.isAgg118
  z53 := Tryd.sizeOf118
  v53 := Tryd.zeroValue118
  t55 := Tryd.underlying120
  a55 := Tryd.isAgg120
  z55 := Tryd.sizeOf120
  v55 := Tryd.zeroValue120
  t66 := Tryd.underlying131
  a66 := Tryd.isAgg131
  z66 := Tryd.sizeOf131
  v66 := Tryd.zeroValue131
  t70 := Tryd.underlying135
  a70 := Tryd.isAgg135
  z70 := Tryd.sizeOf135
  v70 := Tryd.zeroValue135
  t76 := Tryd.underlying141
  a76 := Tryd.isAgg141
  z76 := Tryd.sizeOf141
  v76 := Tryd.zeroValue141
  t77 := Tryd.underlying87
  a77 := Tryd.isAgg87
  z77 := Tryd.sizeOf87
  v77 := Tryd.zeroValue87 }
open Go.RowKit Go.Lib Go.Sort in
/-- **slices.SortFunc AT NO ELEMENT, A nil SLICE TOO: nothing turns.** (LAID AT THE INSTANCE 'slices.SortFunc[[]string,string]': no walk: one application.) -/
theorem Tryd.slices_SortFunc_none {α : Type} [Inhabited α] (p : Option Addr) (cap : Nat) (fv : Value) (w : World) :
    Calls Tryd.prog 69 #[.slice p 0 cap, fv] w fun e w' => e = .returned (.tuple #[]) ∧ w' = w := AnyF.slices_SortFunc_none Tryd.laysSlF06_f69 p cap fv w
open Go.RowKit Go.Lib Go.Sort in
/-- **slices.SortFunc AT ONE CELL, UNDER A 'cmp' THAT PARTS WHATEVER TWO THAT ARE NOT ONE: THE ROW HOLDS core's 'mergeSort'.** (LAID AT THE INSTANCE 'slices.SortFunc[[]string,string]': no walk: one application.) -/
theorem Tryd.slices_SortFunc_total {α : Type} [Inhabited α] (enc : α → Value) (h1 : OneCell enc) (cf : α → α → Int) (hO : SWO (ltOf cf)) (g : Nat) (cb : Array Value) (blk off cap : Nat) (d : Array α) (w : World) (eg : ∀ args w, (callFunc g args).run Tryd.prog w = .ok (.enter g args) w) (hcmp : CmpLays1 Tryd.prog g cb enc cf blk off d.size w) (hH : Holds enc w blk off d) (hblk : blk < w.heap.size) (hsz : d.size < 4611686018427387904) (hT : ∀ x y, (ltOf cf) x y = false → (ltOf cf) y x = false → x = y) :
    Calls Tryd.prog 69 #[.slice (some ⟨blk, off, none⟩) d.size cap, .func (.func g) #[] cb] w fun e w' =>
      e = .returned (.tuple #[]) ∧ ∃ n os, w' = sortWorld enc w blk off n (d.toList.mergeSort fun x y => !(ltOf cf) y x).toArray os := Any.slices_SortFunc_total Tryd.laysSlF6_f69 enc h1 cf hO g cb blk off cap d w eg hcmp hH hblk hsz hT
def Tryd.laysSlF06_f75_ren : Go.Shelf.Ren := ⟨fun | 6 => 75 | 15 => 80 | 14 => 86 | 28 => 96 | 29 => 97 | 20 => 106 | 21 => 107 | 22 => 108 | 23 => 109 | 24 => 110 | 25 => 111 | 26 => 112 | 27 => 113 | 46 => 122 | 47 => 115 | 48 => 116 | 49 => 123 | 50 => 124 | 57 => 127 | n => n, fun | 22 => 45 | 24 => 50 | 25 => 78 | 3 => 3 | 39 => 102 | 0 => 0 | 53 => 118 | 55 => 120 | 4 => 4 | 46 => 111 | 45 => 110 | 50 => 115 | 5 => 5 | 9 => 9 | 66 => 131 | 70 => 135 | 76 => 141 | 77 => 87 | n => n, fun | n => n⟩
theorem Tryd.laysSlF06_f75 : Go.Proofs.SlLaysF0.n6 Tryd.prog Tryd.laysSlF06_f75_ren := {
  mixed := by kernel_rfl
  f6 := ⟨Tryd.f75.name, by decide, Tryd.func75.trans (congrArg some (by kernel_rfl))⟩
  f14 := ⟨Tryd.f86.name, by decide, Tryd.func86.trans (congrArg some (by kernel_rfl))⟩
  f15 := Tryd.func80.trans (congrArg some (by kernel_rfl))
  f20 := ⟨Tryd.f106.name, by decide, Tryd.func106.trans (congrArg some (by kernel_rfl))⟩
  f21 := ⟨Tryd.f107.name, by decide, Tryd.func107.trans (congrArg some (by kernel_rfl))⟩
  f22 := ⟨Tryd.f108.name, by decide, Tryd.func108.trans (congrArg some (by kernel_rfl))⟩
  f23 := ⟨Tryd.f109.name, by decide, Tryd.func109.trans (congrArg some (by kernel_rfl))⟩
  f24 := ⟨Tryd.f110.name, by decide, Tryd.func110.trans (congrArg some (by kernel_rfl))⟩
  f25 := ⟨Tryd.f111.name, by decide, Tryd.func111.trans (congrArg some (by kernel_rfl))⟩
  f26 := ⟨Tryd.f112.name, by decide, Tryd.func112.trans (congrArg some (by kernel_rfl))⟩
  f27 := ⟨Tryd.f113.name, by decide, Tryd.func113.trans (congrArg some (by kernel_rfl))⟩
  f28 := Tryd.func96.trans (congrArg some (by kernel_rfl))
  f29 := Tryd.func97.trans (congrArg some (by kernel_rfl))
  f46 := ⟨Tryd.f122.name, by decide, Tryd.func122.trans (congrArg some (by kernel_rfl))⟩
  f47 := Tryd.func115.trans (congrArg some (by kernel_rfl))
  f48 := Tryd.func116.trans (congrArg some (by kernel_rfl))
  f49 := ⟨Tryd.f123.name, by decide, Tryd.func123.trans (congrArg some (by kernel_rfl))⟩
  f50 := ⟨Tryd.f124.name, by decide, Tryd.func124.trans (congrArg some (by kernel_rfl))⟩
  f57 := ⟨Tryd.f127.name, by decide, Tryd.func127.trans (congrArg some (by kernel_rfl))⟩
  t0 := Tryd.underlying0
  a0 := Tryd.isAgg0
  z0 := Tryd.sizeOf0
  v0 := Tryd.zeroValue0
  t3 := Tryd.underlying3
  a3 := Tryd.isAgg3
  z3 := Tryd.sizeOf3
  v3 := Tryd.zeroValue3
  t4 := Tryd.underlying4
  a4 := Tryd.isAgg4
  z4 := Tryd.sizeOf4
  v4 := Tryd.zeroValue4
  t5 := Tryd.underlying5
  a5 := Tryd.isAgg5
  z5 := Tryd.sizeOf5
  v5 := Tryd.zeroValue5
  t9 := Tryd.underlying9
  a9 := Tryd.isAgg9
  z9 := Tryd.sizeOf9
  v9 := Tryd.zeroValue9
  t22 := Tryd.underlying45
  a22 := Tryd.isAgg45
  z22 := Tryd.sizeOf45
  v22 := Tryd.zeroValue45
  t25 := Tryd.underlying78
  a25 := Tryd.isAgg78
  z25 := Tryd.sizeOf78
  v25 := Tryd.zeroValue78
  t39 := Tryd.underlying102
  a39 := Tryd.isAgg102
  z39 := Tryd.sizeOf102
  v39 := Tryd.zeroValue102
  t45 := Tryd.underlying110
  a45 := Tryd.isAgg110
  z45 := Tryd.sizeOf110
  v45 := Tryd.zeroValue110
  t46 := Tryd.underlying111
  a46 := Tryd.isAgg111
  z46 := Tryd.sizeOf111
  v46 := Tryd.zeroValue111
  t50 := Tryd.underlying115
  a50 := Tryd.isAgg115
  z50 := Tryd.sizeOf115
  v50 := Tryd.zeroValue115
  t53 := Tryd.underlying118
  a53 := Tryd.isAgg118
  z53 := Tryd.sizeOf118
  v53 := Tryd.zeroValue118
  t55 := Tryd.underlying120
  a55 := Tryd.isAgg120
  z55 := Tryd.sizeOf120
  v55 := Tryd.zeroValue120
  t66 := Tryd.underlying131
  a66 := Tryd.isAgg131
  z66 := Tryd.sizeOf131
  v66 := Tryd.zeroValue131
  t70 := Tryd.underlying135
  a70 := Tryd.isAgg135
  z70 := Tryd.sizeOf135
  v70 := Tryd.zeroValue135
  t76 := Tryd.underlying141
  a76 := Tryd.isAgg141
  z76 := Tryd.sizeOf141
  v76 := Tryd.zeroValue141
  t77 := Tryd.underlying87
  a77 := Tryd.isAgg87
  z77 := Tryd.sizeOf87
  v77 := Tryd.zeroValue87 }
open Go.RowKit Go.Lib Go.Sort in
theorem Tryd.slices_SortAt_none {α : Type} [Inhabited α] (p : Option Addr) (cap : Nat) (fv : Value) (w : World) :
    Calls Tryd.prog 75 #[.slice p 0 cap, fv] w fun e w' => e = .returned (.tuple #[]) ∧ w' = w := AnyF.slices_SortFunc_none Tryd.laysSlF06_f75 p cap fv w
open Go.RowKit Go.Lib Go.Sort in
theorem Tryd.slices_SortAt_total {α : Type} [Inhabited α] (k : Nat) (aE : ∀ w, (isAgg 50).run Tryd.prog w = .ok true w) (zE : ∀ w, (Go.sizeOf 50).run Tryd.prog w = .ok k w) (enc : α → List Value) (hk : ∀ x, (enc x).length = k) (h1 : ∀ x, ∀ v ∈ enc x, v.oneCell' = true) (cf : α → α → Int) (hO : SWO (ltOf cf)) (g : Nat) (cb : Array Value) (blk off cap : Nat) (d : Array α) (w : World) (eg : ∀ args w, (callFunc g args).run Tryd.prog w = .ok (.enter g args) w) (hcmp : CmpLays Tryd.prog g cb enc k cf blk off d.size w) (hH : HoldsK enc k w blk off d) (hblk : blk < w.heap.size) (hsz : d.size < 4611686018427387904) (hT : ∀ x y, (ltOf cf) x y = false → (ltOf cf) y x = false → x = y) :
    Calls Tryd.prog 75 #[.slice (some ⟨blk, off, none⟩) d.size cap, .func (.func g) #[] cb] w fun e w' =>
      e = .returned (.tuple #[]) ∧ ∃ n os, w' = sortWorldK enc k w blk off n (d.toList.mergeSort fun x y => !(ltOf cf) y x).toArray os := AnyQ.slices_SortFunc_total Tryd.laysSlF06_f75 k aE zE enc hk h1 cf hO g cb blk off cap d w eg hcmp hH hblk hsz hT
def Tryd.laysSlE041_f74_ren : Go.Shelf.Ren := ⟨fun | 41 => 74 | n => n, fun | 22 => 45 | 23 => 50 | 4 => 4 | n => n, fun | n => n⟩
theorem Tryd.laysSlE041_f74 : Go.Proofs.SlLaysE0.n41 Tryd.prog Tryd.laysSlE041_f74_ren := {
  mixed := by kernel_rfl
  f41 := ⟨Tryd.f74.name, by decide, Tryd.func74.trans (congrArg some (by kernel_rfl))⟩
  t4 := Tryd.underlying4
  a4 := Tryd.isAgg4
  z4 := Tryd.sizeOf4
  v4 := Tryd.zeroValue4
  t22 := Tryd.underlying45
  a22 := Tryd.isAgg45
  z22 := Tryd.sizeOf45
  v22 := Tryd.zeroValue45 }
open Go.RowKit Go.Lib in
theorem Tryd.slices_CloneAt (i0 : TypeInfo) (z : Value) (size bytes : Nat) (hi : Tryd.prog.info? 50 = some i0) (hz0 : i0.zero = some z) (hz1 : i0.size = size) (hz2 : i0.bytes = bytes) (hzs : z.cells.size = size) (hsz : 0 < size) (z23 : ∀ w, (Go.sizeOf 50).run Tryd.prog w = .ok size w) (b off n c : Nat) (news : List Value) (w : World) (hl : news.length = n * size) (hn : n ≤ maxLen) (hbig : n * bytes ≤ 140737488355328) (hc : ∀ j u, news[j]? = some u → w.cell? ⟨b, off + j, none⟩ = some u) (h1 : ∀ u ∈ news, u.oneCell' = true) :
    Calls Tryd.prog 74 #[.slice (some ⟨b, off, none⟩) n c] w fun e w' => ∃ v', e = .returned v' ∧ w'.ownsRow w.heap.size 50 size v' n news ∧ v' ≠ .slice none 0 0 ∧ Below w.heap.size w w' := AnyE.slices_Clone Tryd.laysSlE041_f74 i0 z size bytes hi hz0 hz1 hz2 hzs hsz z23 b off n c news w hl hn hbig hc h1
open Go.RowKit Go.Lib in
theorem Tryd.slices_CloneAt_nil (n c : Nat) (w : World) :
    Calls Tryd.prog 74 #[.slice none n c] w fun e w' => e = .returned (.slice none 0 0) ∧ w' = w := AnyE.slices_Clone_nil Tryd.laysSlE041_f74 n c w
end Go.Proofs
