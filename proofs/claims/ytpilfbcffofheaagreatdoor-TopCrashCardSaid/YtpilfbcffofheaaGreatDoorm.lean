/- Closing scripts and names of laws, by short names. -/
import Derived.BigQuiet
import Derived.Deep.AppendSrc
import Derived.Deep.Cut
import Derived.Deep.DeepCutAuto
import Derived.Deep.LoopGhost
import Derived.Deep.OwnRows
import Derived.Deep.RegionHeld3
import Derived.Deep.RegionLaw
import Derived.Deep.SlicePairs
import Derived.Handy
import Derived.Laws.BitsLemmas
import Derived.Laws.CopyOwn
import Derived.Laws.EntriesVeiled
import Derived.Laws.IdiomStrings
import Derived.Lib.ConvBytes
import Derived.Lib.Hide
import Derived.Lib.LaidTab
import Derived.Lib.MakeNoZero
import Derived.Lib.OwnBridge
import Derived.Lib.QuietBelow
import Derived.Lib.SlBytesConst
import Derived.Lib.SlicesCompact
import Derived.Lib.SmallJoins
import Derived.Maps.GroupsBeside
import Derived.Maps.Own
import Derived.Maps.OwnOps
import Derived.Maps.OwnRows
import Derived.Maps.Views
import Derived.OpenShut
import Derived.Outline
import Derived.OwnWalk
import Derived.Shelf.Abstract
import Derived.ShutString
import Derived.Sort.KeysCollected
import Derived.Sort.LotA
import Derived.Sort.Walk0
import Derived.WalkKit
import Derived.WalkLawsBesides
import Derived.WalkMore
import Derived.WalkSpells
import Derived.Test.YtpilfbcffofheaaGreatDoorProg
namespace Go.RowKit
theorem Hid.o {p:Prop} (h:Hid p):p:=h
end Go.RowKit
namespace Go.Proofs.YtpilfbcffofheaaGreatDoor
open Go.RowKit Go.Sort Go.Proofs.Tryz
abbrev γ:=List UInt8
abbrev β:=World
abbrev ε:=Value
abbrev ζ:=@cell_later
abbrev κ:=@if_neg
abbrev μ:=@if_pos
abbrev ν:=@cell_of_row
abbrev ο:=@lt_of_block
abbrev π:=@heap_setCell_same
abbrev φ:=@Below.refl
abbrev χ:=@heap_alloc_new
abbrev ψ:=@heap_setCell_other
abbrev ω:=@List.length_append
abbrev Γ:=@And.intro
abbrev Ι:=@Nat.zero_le
abbrev Ξ:=@Value.slice.injEq
abbrev Ο:=@Option.some.injEq
abbrev Ρ:=@List.getElem?_eq_getElem
abbrev Χ:=@List.getElem_mem
abbrev ϟ:=@bodyPost_ret
abbrev ϥ:=@frozen_of_row
abbrev Ϧ:=@List.length_cons
abbrev Ϯ:=@true_and
abbrev ϯ:=@info_parts
abbrev ϻ:=@cell_regrown
abbrev fR:=@List.getD_eq_getElem?_getD
abbrev fW:=@List.getElem?_set_ne
abbrev gb:=@List.length_drop
abbrev gh:=@Nat.le_trans
abbrev gl:=@beq_eq_false_iff_ne
abbrev go:=@Nat.le_add_right
abbrev gs:=@Bool.and_eq_true
abbrev gu:=@underlying31
abbrev gF:=@List.length_nil
abbrev gM:=@List.append_assoc
abbrev gN:=@List.length_take
abbrev gO:=@List.getElem?_append_right
abbrev gP:=@List.mem_cons
abbrev gW:=@List.take_of_length_le
abbrev gX:=@Below.heap_alloc
abbrev gZ:=@cell_of_one
abbrev hI:=@List.mem_map
abbrev hP:=@List.getElem?_take
abbrev hR:=@and_true
abbrev hZ:=@World.ownsRow_nil
abbrev ia:=@decide_eq_true_eq
abbrev ib:=@World.block_lt_of_cell?
abbrev il:=@ownsRow_setCell_below
abbrev im:=@List.append_nil
abbrev io:=@List.length_map
abbrev iA:=@List.map_cons
abbrev iB:=@enters_of
abbrev iC:=@decide_eq_false
abbrev iW:=@Nat.add_assoc
abbrev iX:=@List.getElem?_append_left
abbrev iY:=@congrArg
abbrev jj:=@wp_region_quiet_below
abbrev jk:=@wpQuiet_nil
abbrev jl:=@below_regrown
abbrev jm:=@underlying23
abbrev jn:=@Nat.pow_succ
abbrev jo:=@List.getElem?_drop
abbrev jy:=@List.nil_append
abbrev jz:=@free_of_one
abbrev jJ:=@Nat.zero_add
abbrev jK:=@List.getElem?_map
abbrev jW:=@List.mem_singleton
abbrev jX:=@results_cell_row
abbrev ko:=@List.eq_nil_of_length_eq_zero
abbrev kp:=@List.all_eq_true
abbrev kq:=@List.cons_append
abbrev kr:=@decide_eq_true
abbrev kt:=@Nat.mul_comm
abbrev ku:=@Nat.pow_pos
abbrev kD:=@List.take_succ_eq_append_getElem
abbrev kE:=@Nat.sub_self
abbrev kF:=@Option.some.inj
abbrev kG:=@Nat.div_one
abbrev kW:=@Nat.add_zero
abbrev kX:=@Nat.add_mul
abbrev kY:=@underlying29
abbrev kZ:=@List.getElem?_eq_none
abbrev lf:=@List.map_nil
abbrev lg:=@List.flatMap_cons
abbrev lh:=@underlying44
abbrev li:=@wpOp_step
abbrev lz:=@World.size_alloc
abbrev lI:=@List.getElem?_set_self
abbrev lJ:=@Nat.mod_lt
abbrev lK:=@underlying9
abbrev lL:=@underlying143
abbrev lM:=@List.length_eq_zero_iff
abbrev lN:=@List.getElem?_eq_some_iff
abbrev mc:=@Nat.le_of_lt
abbrev me:=@Nat.min_eq_left
abbrev mg:=@List.mem_append
abbrev mh:=@List.drop_eq_getElem_cons
abbrev mi:=@ownsRow_setCell_other
abbrev mj:=@List.getElem?_toArray
abbrev ml:=@underlying3
abbrev mG:=@underlying42
abbrev mH:=@beq_iff_eq
abbrev mI:=@Below.heap_setCell
abbrev mE:=@wpOp_mono
abbrev mF:=@Nat.lt_succ_self
abbrev nf:=@World.size_setCell
abbrev ng:=@List.drop_of_length_le
abbrev nh:=@List.getElem?_cons_succ
abbrev ni:=@List.mem_of_mem_take
abbrev nj:=@Nat.lt_of_lt_of_le
abbrev nk:=@Bool.eq_false_iff
abbrev nH:=@underlying5
abbrev nI:=@List.mem_cons_of_mem
abbrev nJ:=@Nat.mul_one
abbrev nK:=@List.pairwise_cons
abbrev oh:=@Nat.mul_assoc
abbrev oj:=@Nat.eq_zero_or_pos
abbrev ol:=@Bool.or_eq_true
abbrev om:=@List.length_pos_iff
abbrev oo:=@List.getElem?_cons_zero
abbrev oq:=@List.getElem_cons_zero
abbrev ot:=@Nat.lt_or_ge
abbrev ou:=@List.map_append
abbrev ow:=@ntmps332
abbrev ox:=@List.mem_cons_self
abbrev oV:=@List.getElem_take
abbrev oW:=@underlying41
abbrev oX:=@List.flatten_cons
abbrev oZ:=@Nat.one_mul
abbrev pa:=@List.take_length
abbrev pb:=@underlying211
abbrev pd:=@List.take_append_drop
abbrev pe:=@List.size_toArray
abbrev pf:=@run_underlying
abbrev pg:=@ready_mono
abbrev ph:=@List.getElem_append_left
abbrev pi:=@List.length_reverse
abbrev pK:=@Nat.add_sub_cancel
abbrev pL:=@Nat.zero_mul
abbrev pM:=@List.getElem_of_mem
abbrev pN:=@Result.andThen_ok
abbrev pO:=@List.mem_range
abbrev pP:=@List.getElem_cons_succ
abbrev pQ:=@Nat.mul_le_mul_right
abbrev pR:=@underlying48
abbrev pS:=@Below.drew
abbrev pT:=@List.pairwise_iff_getElem
abbrev pU:=@IntKind.wrap_u32
abbrev qN:=@List.length_singleton
abbrev qO:=@Array.length_toList
abbrev qP:=@List.map_toArray
abbrev qQ:=@List.drop_drop
abbrev qR:=@List.take_zero
abbrev qS:=@List.flatMap_append
abbrev si:=@wpList_make_full
abbrev sj:=@underlying39
abbrev sk:=@underlying155
abbrev sl:=@Bool.true_and
abbrev sm:=@underlying90
abbrev sn:=@IntKind.wrap_i64
abbrev sr:=@List.take_left
abbrev su:=@List.mem_of_mem_drop
abbrev sw:=@List.drop_eq_nil_of_le
abbrev sx:=@List.take_take
abbrev sy:=@Option.bind_some
abbrev sz:=@underlying171
abbrev sA:=@World.cell?_of_block
abbrev sB:=@decide_eq_false_iff_not
abbrev sC:=@setRow_other
abbrev sD:=@underlying167
abbrev sE:=@List.length_mergeSort
abbrev sF:=@List.mem_filter
abbrev sG:=@underlying181
abbrev sH:=@underlying344
abbrev sI:=@Below.setCell
abbrev uk:=@run_loadVar_row
abbrev ul:=@List.getElem?_take_of_lt
abbrev um:=@Nat.pow_lt_pow_iff_right
abbrev un:=@beq_self_eq_true
abbrev uo:=@List.getElem_map
abbrev uq:=@List.map_congr_left
abbrev ur:=@List.set_cons_zero
abbrev us:=@List.set_cons_succ
abbrev ut:=@Int.toNat_natCast
abbrev uu:=@grownCap_le_maxLen
abbrev uv:=@Option.isSome_iff_exists
abbrev wL:=@Nat.mod_two_eq_zero_or_one
abbrev wM:=@Nat.pow_le_pow_right
abbrev wN:=@UInt8.toNat_ofNat'
abbrev wO:=@List.take_succ_cons
abbrev wP:=@List.mem_iff_getElem
abbrev wQ:=@List.getElem_range
abbrev wR:=@Array.getElem?_eq_none
abbrev wS:=@Array.setIfInBounds_comm
abbrev wT:=@Region.noSelect_spec
abbrev wU:=@Array.toArray_toList
abbrev wV:=@run_firstCells_none
abbrev wW:=@Lib.holds_of_ownsRow
abbrev wX:=@Lib.ownsRow_putRow
abbrev wY:=@List.flatten_append
abbrev wZ:=@ByteArray.toList_eq
abbrev xa:=@List.setIfInBounds_toArray
abbrev zW:=@List.take_append_of_le_length
abbrev zX:=@List.getElem_append_right
abbrev zY:=@Classical.byContradiction
theorem ϊ {p:Prop} (h:p:=by omega):p:=h
theorem ϋ {p:Prop} (h:p:=by kernel_rfl):p:=h
theorem ό {p:Prop} (h:p:=by simp;omega):p:=h
theorem ύ {p:Prop} (h:p:=by simp):p:=h
theorem ώ {p:Prop} (h:p:=by unfold maxLen;omega):p:=h
theorem Ϗ {p:Prop} (h:p:=by rw[IntKind.wrap_i64];omega):p:=h
theorem ϐ {p:Prop} (h:p:=by decide):p:=h
theorem ϑ {p:Prop} (h:p:=by simp only;omega):p:=h
theorem ϒ {p:Prop} (h:p:=by first|rfl|kernel_rfl):p:=h
theorem ϓ {p:Prop} (h:p:=by simp only[World.size_alloc];omega):p:=h
theorem ϔ {p:Prop} (h:p:=by simp[Act.eval,Act.put]):p:=h
theorem ϕ {p:Prop} (h:p:=by go_num):p:=h
theorem ϖ {p:Prop} (h:p:=by rw[bne_eq_false_iff_eq];omega):p:=h
theorem ϗ {p:Prop} (h:p:=by simp[Value.oneCell']):p:=h
theorem Ϙ {p:Prop} (h:p:=by assumption):p:=h
theorem ϙ {p:Prop} (h:p:=by intro u hu;simp at hu;rcases hu with rfl|rfl|rfl<;>rfl):p:=h
theorem Ϛ {p:Prop} (h:p:=by intro u hu;simp at hu;rcases hu with rfl|rfl<;>rfl):p:=h
theorem ϛ {p:Prop} (h:p:=by intro k hk;simp[Value.ownBlock]at hk;omega):p:=h
theorem Ϝ {p:Prop} (h:p:=by rw[List.length_take];omega):p:=h
theorem ϝ {p:Prop} (h:p:=by dsimp only;omega):p:=h
theorem Ϟ {p:Prop} (h:p:=by decide+kernel):p:=h
theorem Zh {p:Prop} (h:p):Hid p:=h
structure Ϭ (p:Prop):Prop where
 o:p
theorem Zx {p:Prop} (h:p):Ϭ p:=⟨h⟩
theorem Zp:(∀ (a:Act) (d:Tmp) (v:ε),a.put (some d) v={a with tmps:=a.tmps.setIfInBounds d v})/\(∀ (a:Act) (v:ε),a.put none v=a)/\(∀ (l:List ε) (i:Nat) (v:ε),l.toArray.setIfInBounds i v=(l.set i v).toArray)/\(∀ (x y:ε) (l:List ε),(x::l).set 0 y=y::l)/\∀ (x y:ε) (l:List ε) (n:Nat),(x::l).set (n+1) y=x::l.set n y:=⟨fun _ _ _=>rfl,fun _ _=>rfl,fun _ _ _=>List.setIfInBounds_toArray ..,fun _ _ _=>rfl,fun _ _ _ _=>rfl⟩
abbrev BQ (w w':β):Prop:=Below w.heap.size w w'
theorem RZ {B:Nat} {w:β}:Below B w w:=Below.refl B w
theorem NZ {n:Nat}:n<=n:=Nat.le_refl n
abbrev IZ (k:Int):ε:=.int .i64 k
theorem ġ {w:World} {o:Obj}:Below w.heap.size w (w.alloc o):=RZ.alloc NZ _
end Go.Proofs.YtpilfbcffofheaaGreatDoor
