/- The law rootcauselaw52.NarrateNil returns true for every input, and leaves its arguments as they were: part of the proof. The readable texts lie under wip in the repository. -/
import Derived.Below
import Derived.BigQuiet
import Derived.BigRegion
import Derived.Carry
import Derived.ChangeSame
import Derived.Deep.AppendLies
import Derived.Deep.CutBlock
import Derived.Deep.DeepCutAuto
import Derived.Deep.DeepHandedRow
import Derived.Deep.LoopGhost
import Derived.Deep.MidRow
import Derived.Deep.OwnRows
import Derived.Deep.QuietTactic
import Derived.Deep.RegionLaw
import Derived.Deep.RegionWith
import Derived.Deep.Slices
import Derived.Ground.Names2Prog
import Derived.IntWalk
import Derived.KernelRfl
import Derived.LaidLaws
import Derived.Laws.Cells
import Derived.Laws.CopyOwn
import Derived.Laws.Cover1
import Derived.Laws.EntriesVeiled
import Derived.Laws.Externs
import Derived.Laws.IdiomStrings
import Derived.Laws.Rows
import Derived.Laws.World
import Derived.Lib.AppendIntMem
import Derived.Lib.AppendStr
import Derived.Lib.Builder
import Derived.Lib.ConvBytes
import Derived.Lib.Hide
import Derived.Lib.ItoaLen
import Derived.Lib.ItoaNum
import Derived.Lib.Join
import Derived.Lib.LaidTab
import Derived.Lib.LaidU8
import Derived.Lib.ParseIntBTie
import Derived.Lib.SliceRun
import Derived.Lib.Slices
import Derived.Lib.Strings
import Derived.Lib.UnsafeStr
import Derived.LoopIn
import Derived.LoopNIn
import Derived.Maps.AppendAt
import Derived.Maps.Own
import Derived.Maps.OwnSet
import Derived.OpenShut
import Derived.Orders
import Derived.OrdersIn
import Derived.Outline
import Derived.OwnWalk
import Derived.OwnWalkIn
import Derived.ProofKit
import Derived.RangeFuncBound
import Derived.RangeFuncBox
import Derived.RangeFuncCalls
import Derived.RangeFuncLeaves
import Derived.RangeFuncNested
import Derived.SevenTiedAt
import Derived.Shelf.Abstract
import Derived.Shelf.LaysM
import Derived.Shelf.RegionOpen
import Derived.Shelf.Slices.Clone
import Derived.Shelf.Slices.Turned
import Derived.Shelf.Small.Wraps
import Derived.Shelf.Strconv.Itoa0
import Derived.Shelf.Strconv.Itoa1
import Derived.Shelf.Strconv.Itoa2
import Derived.Shelf.Strconv.Itoa3
import Derived.Shelf.Strconv.Itoa4
import Derived.Shelf.Strings.Builder1
import Derived.Shelf.Strings.Builder2
import Derived.Shelf.Strings.Cut
import Derived.Shelf.Strings.OnBuilder
import Derived.Shelf.Strings.Prefix
import Derived.Shelf.Strings.Search1
import Derived.Shelf.Strings.Search2
import Derived.Shelf.Strings.Shaped
import Derived.Sort.CutIn
import Derived.StillTailTactics
import Derived.StringKeys
import Derived.TacticsInMore
import Derived.Test.YtidmdcckbdmblaaGreatDoorCards
import Derived.Test.YtidmdcckbdmblaaGreatDoorChecked
import Derived.Test.YtidmdcckbdmblaaGreatDoorProg
import Derived.Test.YtidmdcckbdmblaaGreatDoorTie
import Derived.WalkKit
import Derived.WalkSpells
import Derived.WideKeyArgs
instance:Coe Go.World Nat:=⟨fun w=>w.heap.size⟩
instance:Coe Int Go.Value:=⟨fun k=>.int .i64 k⟩
instance:Coe Nat Go.Value:=⟨fun k=>.int .i64 (k:Int)⟩
abbrev Nl:Go.Value:=.slice none 0 0
abbrev Em:Go.Value:=.string ⟨#[]⟩
abbrev Pp(b o:Nat):Go.Value→Prop:=(·=.pointer (some ⟨b,o,none⟩))
theorem Go.RowKit.Hid.o{p:Prop}(h:Go.RowKit.Hid p):p:=h
theorem Eq.T:type_of% @Eq.trans:=@Eq.trans
theorem List.Perm.T:type_of% @List.Perm.trans:=@List.Perm.trans
theorem Iff.T:type_of% @Iff.trans:=@Iff.trans
theorem Go.RowKit.Below.T:type_of% @Go.RowKit.Below.trans:=@Go.RowKit.Below.trans
theorem Go.World.grownBy.T:type_of% @Go.World.grownBy.trans:=@Go.World.grownBy.trans
theorem Go.World.Since.T:type_of% @Go.World.Since.trans:=@Go.World.Since.trans
theorem Go.World.Extends.T:type_of% @Go.World.Extends.trans:=@Go.World.Extends.trans
theorem Go.Calls.M:type_of% @Go.Calls.mono:=@Go.Calls.mono
theorem Go.RowKit.Below.M:type_of% @Go.RowKit.Below.mono:=@Go.RowKit.Below.mono
theorem Go.World.ownsMap.M:type_of% @Go.World.ownsMap.mono:=@Go.World.ownsMap.mono
theorem Go.RowKit.Below.B:type_of% @Go.RowKit.Below.block:=@Go.RowKit.Below.block
theorem Go.World.grownBy.B:type_of% @Go.World.grownBy.block:=@Go.World.grownBy.block
theorem Go.World.keptBut.B:type_of% @Go.World.keptBut.block:=@Go.World.keptBut.block
theorem Go.World.Since.B:type_of% @Go.World.Since.block:=@Go.World.Since.block
theorem Go.World.Extends.B:type_of% @Go.World.Extends.block:=@Go.World.Extends.block
theorem LA{p q:Prop}(h:q)(e:q->p:=by intro h;omega):p:=e h
theorem LB{p q r:Prop}(h:q)(g:r)(e:q->r->p:=by intro h g;omega):p:=e h g
theorem LC{p:Prop}(h:p:=by omega):p:=h
theorem LD{p:Prop}(h:p:=by decide):p:=h
theorem LF{p:Prop}(h:p:=by kernel_rfl):p:=h
theorem LG{p:Prop}(h:p:=by simp):p:=h
theorem LH{p:Prop}(h:p:=by simp[IntKind.wrap,IntKind.bits,IntKind.signed];omega):p:=h
theorem LI{p:Prop}(h:p:=by go_num):p:=h
theorem LJ{p:Prop}(h:p:=by simp;omega):p:=h
theorem LK{p:Prop}(h:p:=by unfold ko;simp):p:=h
theorem LL{p:Prop}(h:p:=by simp only[JN];omega):p:=h
theorem LM{p:Prop}(h:p:=by decide+kernel):p:=h
theorem LN{p:Prop}(h:p:=by unfold maxLen;omega):p:=h
theorem LO{p:Prop}(h:p:=by first|rfl|simp):p:=h
theorem LP{p:Prop}(h:p:=by intro e;injection e with e;omega):p:=h
theorem LQ{p:Prop}(h:p:=by simp[maxLen];omega):p:=h
theorem LR{p:Prop}(h:p:=by unfold yh;omega):p:=h
theorem LS{p:Prop}(h:p:=by intro e;injection e;omega):p:=h
theorem LU{p:Prop}(h:p:=by show(0:Int)<=_;omega):p:=h
theorem LV{p:Prop}(h:p:=by simp only[JQ];omega):p:=h
theorem LW{p:Prop}(h:p:=by simp[kK]):p:=h
namespace jJ
end jJ
namespace jg
end jg
namespace mX
end mX
namespace nw
end nw
namespace Go.Proofs.YtidmdcckbdmblaaGreatDoor.L
end Go.Proofs.YtidmdcckbdmblaaGreatDoor.L
namespace Go.RowKit
end Go.RowKit
namespace Go.Proofs.YtidmdcckbdmblaaGreatDoor
theorem JH:type_of% @Go.Lib.hid:=@Go.Lib.hid
theorem JI:type_of% @Nat.lt_of_lt_of_le:=@Nat.lt_of_lt_of_le
theorem JJ:type_of% @Array.getElem?_eq_some_iff:=@Array.getElem?_eq_some_iff
theorem JK:type_of% @Go.heap_alloc_new:=@Go.heap_alloc_new
theorem JL:type_of% @List.setIfInBounds_toArray:=@List.setIfInBounds_toArray
theorem JM:type_of% @List.mem_of_getElem?:=@List.mem_of_getElem?
theorem JN:type_of% @Go.World.size_alloc:=@Go.World.size_alloc
theorem JO:type_of% @List.set_cons_succ:=@List.set_cons_succ
theorem JP:type_of% @List.set_cons_zero:=@List.set_cons_zero
theorem JQ:type_of% @Go.World.size_setCell:=@Go.World.size_setCell
theorem JR:type_of% @decide_eq_true:=@decide_eq_true
theorem JS:type_of% @Nat.le_refl:=@Nat.le_refl
theorem JT:type_of% @Nat.add_zero:=@Nat.add_zero
theorem JU:type_of% @List.length_append:=@List.length_append
theorem JV:type_of% @Nat.zero_le:=@Nat.zero_le
theorem JW:type_of% @List.getElem?_eq_getElem:=@List.getElem?_eq_getElem
theorem JX:type_of% @beq_eq_false_iff_ne:=@beq_eq_false_iff_ne
theorem JY:type_of% @Go.heap_alloc_old:=@Go.heap_alloc_old
theorem JZ:type_of% @Go.bodyPost_ret:=@Go.bodyPost_ret
theorem J0:type_of% @Go.RowKit.Below.heap_setCell:=@Go.RowKit.Below.heap_setCell
theorem J2:type_of% @decide_eq_false:=@decide_eq_false
theorem J4:type_of% @Nat.zero_add:=@Nat.zero_add
theorem J5:type_of% @ByteArray.size_append:=@ByteArray.size_append
theorem J6:type_of% @List.getElem?_eq_some_iff:=@List.getElem?_eq_some_iff
theorem J7:type_of% @List.not_mem_nil:=@List.not_mem_nil
theorem J8:type_of% @Go.Deep.blk_setCell_other:=@Go.Deep.blk_setCell_other
theorem J9:type_of% @Nat.le_trans:=@Nat.le_trans
theorem Ka:type_of% @if_neg:=@if_neg
theorem Kb:type_of% @List.length_cons:=@List.length_cons
theorem Kc:type_of% @List.length_nil:=@List.length_nil
theorem Kd:type_of% @Go.World.grownBy_alloc:=@Go.World.grownBy_alloc
theorem Ke:type_of% @decide_eq_decide:=@decide_eq_decide
theorem Kf:type_of% @List.mem_cons:=@List.mem_cons
theorem Kg:type_of% @List.forall_mem_cons:=@List.forall_mem_cons
theorem Kh:type_of% @List.append_assoc:=@List.append_assoc
theorem Ki:type_of% @List.mem_singleton:=@List.mem_singleton
theorem Kj:type_of% @List.take_of_length_le:=@List.take_of_length_le
theorem Kk:type_of% @Nat.mul_one:=@Nat.mul_one
theorem Kl:type_of% @Go.info_parts:=@Go.info_parts
theorem Km:type_of% @congrArg:=@congrArg
theorem Kn:type_of% @if_pos:=@if_pos
theorem Ko:type_of% @Go.Result.andThen_ok:=@Go.Result.andThen_ok
theorem Kq:type_of% @or_false:=@or_false
theorem Kr:type_of% @Go.DataW.trod_int:=@Go.DataW.trod_int
theorem Ks:type_of% @List.map_cons:=@List.map_cons
theorem Kt:type_of% @List.length_map:=@List.length_map
theorem Ku:type_of% @List.getElem?_append_left:=@List.getElem?_append_left
theorem Kv:type_of% @List.length_take:=@List.length_take
theorem Kw:type_of% @Int.toNat_natCast:=@Int.toNat_natCast
theorem Ky:type_of% @List.map_toArray:=@List.map_toArray
theorem Kz:type_of% @Go.Lib.itoa_length_le:=@Go.Lib.itoa_length_le
theorem KA:type_of% @List.eq_nil_of_length_eq_zero:=@List.eq_nil_of_length_eq_zero
theorem KB:type_of% @Go.Calls.quiet_of_same:=@Go.Calls.quiet_of_same
theorem KC:type_of% @Go.RowKit.Below.heap_alloc:=@Go.RowKit.Below.heap_alloc
theorem KD:type_of% @List.getElem?_map:=@List.getElem?_map
theorem KE:type_of% @Array.getD_eq_getD_getElem?:=@Array.getD_eq_getD_getElem?
theorem KF:type_of% @List.getElem?_append_right:=@List.getElem?_append_right
theorem KH:type_of% @Go.Sem.run_bind:=@Go.Sem.run_bind
theorem KI:type_of% @Go.Sem.run_pure:=@Go.Sem.run_pure
theorem KJ:type_of% @List.map_nil:=@List.map_nil
theorem KL:type_of% @List.take_add_one:=@List.take_add_one
theorem KM:type_of% @List.forall_mem_nil:=@List.forall_mem_nil
theorem KN:type_of% @Array.getElem?_setIfInBounds_ne:=@Array.getElem?_setIfInBounds_ne
theorem KO:type_of% @Bool.and_eq_true:=@Bool.and_eq_true
theorem KP:type_of% @List.flatten_cons:=@List.flatten_cons
theorem KQ:type_of% @List.size_toArray:=@List.size_toArray
theorem KR:type_of% @List.getElem?_toArray:=@List.getElem?_toArray
theorem KS:type_of% @List.nil_append:=@List.nil_append
theorem KT:type_of% @List.all_eq_true:=@List.all_eq_true
theorem KU:type_of% @Nat.mul_le_mul_right:=@Nat.mul_le_mul_right
theorem KV:type_of% @List.filterMap_cons:=@List.filterMap_cons
theorem KW:type_of% @Array.getElem?_eq_getElem:=@Array.getElem?_eq_getElem
theorem KX:type_of% @List.cons.injEq:=@List.cons.injEq
theorem KY:type_of% @List.mem_cons_self:=@List.mem_cons_self
theorem KZ:type_of% @Go.run_makeSlice:=@Go.run_makeSlice
theorem K0:type_of% @beq_iff_eq:=@beq_iff_eq
theorem K1:type_of% @Array.length_toList:=@Array.length_toList
theorem K2:type_of% @Go.ByteArray.toList_eq:=@Go.ByteArray.toList_eq
theorem K3:type_of% @List.take_succ_cons:=@List.take_succ_cons
theorem K4:type_of% @Nat.le_of_eq:=@Nat.le_of_eq
theorem K5:type_of% @List.getElem?_take:=@List.getElem?_take
theorem K6:type_of% @List.take_append_drop:=@List.take_append_drop
theorem K7:type_of% @Nat.eq_zero_or_pos:=@Nat.eq_zero_or_pos
theorem K8:type_of% @List.drop_eq_getElem_cons:=@List.drop_eq_getElem_cons
theorem K9:type_of% @Int.le_refl:=@Int.le_refl
theorem La:type_of% @List.nodup_cons:=@List.nodup_cons
theorem Lc:type_of% @List.mem_of_mem_take:=@List.mem_of_mem_take
theorem Ld:type_of% @List.mem_map:=@List.mem_map
theorem Le:type_of% @List.append_nil:=@List.append_nil
theorem Lf:type_of% @List.mem_map_of_mem:=@List.mem_map_of_mem
theorem Lg:type_of% @List.forall_mem_map:=@List.forall_mem_map
theorem Lh:type_of% @List.drop_succ_cons:=@List.drop_succ_cons
theorem Li:type_of% @Option.getD_some:=@Option.getD_some
theorem Lj:type_of% @Go.size_madeCells:=@Go.size_madeCells
theorem Ll:type_of% @List.mem_filterMap:=@List.mem_filterMap
theorem Lm:type_of% @List.getElem?_drop:=@List.getElem?_drop
theorem Ln:type_of% @List.getElem?_eq_none:=@List.getElem?_eq_none
theorem Lp:type_of% @decide_eq_true_eq:=@decide_eq_true_eq
theorem Lq:type_of% @Go.DataW.trod_struct:=@Go.DataW.trod_struct
theorem Lr:type_of% @List.mem_cons_of_mem:=@List.mem_cons_of_mem
theorem Ls:type_of% @Array.toArray_toList:=@Array.toArray_toList
theorem Lt:type_of% @List.length_set:=@List.length_set
theorem Lu:type_of% @Nat.add_mul:=@Nat.add_mul
theorem Lv:type_of% @Nat.lt_or_ge:=@Nat.lt_or_ge
theorem Lx:type_of% @Ne.symm:=@Ne.symm
theorem Lz:type_of% @Nat.zero_mul:=@Nat.zero_mul
end Go.Proofs.YtidmdcckbdmblaaGreatDoor
