/- The law rootcauselaw14.ChoiceFits returns true for every input, and leaves its arguments as they were: part of the proof. The readable texts lie under wip in the repository. -/
import Derived.Below
import Derived.BigQuiet
import Derived.BigRegion
import Derived.Carry
import Derived.ChangeSame
import Derived.Clock
import Derived.Deep.AppendLies
import Derived.Deep.CutBlock
import Derived.Deep.DeepCutAuto
import Derived.Deep.DeepHandedRow
import Derived.Deep.DrawnRows
import Derived.Deep.Draws
import Derived.Deep.MidRow
import Derived.Deep.OwnRows
import Derived.Deep.QuietTactic
import Derived.Deep.RegionHeld3
import Derived.Deep.RegionWith
import Derived.Deep.Slices
import Derived.Ground.Names2Prog
import Derived.Ground.SlsfProg
import Derived.IntWalk
import Derived.KernelRfl
import Derived.LaidLaws
import Derived.Laws.BitsAllLaws
import Derived.Laws.Cells
import Derived.Laws.CopyOwn
import Derived.Laws.Cover1
import Derived.Laws.Externs
import Derived.Laws.IdiomStrings
import Derived.Laws.OwnMore
import Derived.Laws.Rows
import Derived.Laws.StructEq
import Derived.Laws.World
import Derived.Lib.AppendStr
import Derived.Lib.Builder
import Derived.Lib.ConvBytes
import Derived.Lib.Hide
import Derived.Lib.ItoaLen
import Derived.Lib.ItoaNum
import Derived.Lib.Join
import Derived.Lib.LaidTab
import Derived.Lib.LaidU8
import Derived.Lib.OwnBridge
import Derived.Lib.QuietBelow
import Derived.Lib.SliceRun
import Derived.Lib.Slices
import Derived.Lib.SmallJoins
import Derived.Lib.Strings
import Derived.Lib.UnsafeStr
import Derived.Maps.AppendAt
import Derived.Maps.Own
import Derived.Maps.OwnSet
import Derived.OpenShut
import Derived.Orders
import Derived.Outline
import Derived.OwnWalk
import Derived.ProofKit
import Derived.SevenTiedAt
import Derived.Shelf.LaysM
import Derived.Shelf.SlSortCmp.WholeK
import Derived.Shelf.Slices.Clone
import Derived.Shelf.Slices.Turned
import Derived.Shelf.Small.Bits
import Derived.Shelf.Small.Wraps
import Derived.Shelf.Strconv.Itoa0
import Derived.Shelf.Strconv.Itoa1
import Derived.Shelf.Strconv.Itoa2
import Derived.Shelf.Strconv.Itoa3
import Derived.Shelf.Strconv.Itoa4
import Derived.Shelf.Strings.Builder1
import Derived.Shelf.Strings.Builder2
import Derived.Shelf.Strings.OnBuilder
import Derived.Shelf.Strings.Prefix
import Derived.Sort.Grow
import Derived.StillTailTactics
import Derived.StringKeys
import Derived.Test.YtfemcncookpdhaaGreatDoorCards
import Derived.Test.YtfemcncookpdhaaGreatDoorProg
import Derived.Test.YtfemcncookpdhaaGreatDoorTie
import Derived.WalkKit
import Derived.WalkSpells
import Derived.WideKeyArgs
instance:Coe Go.World Nat:=⟨fun w=>w.heap.size⟩
instance:Coe Int Go.Value:=⟨fun k=>.int .i64 k⟩
instance:Coe Nat Go.Value:=⟨fun k=>.int .i64 (k:Int)⟩
abbrev Nl:Go.Value:=.slice none 0 0
abbrev Em:Go.Value:=.string ⟨#[]⟩
abbrev Pp(b o:Nat):Go.Value→Prop:=(·=.pointer (some ⟨b,o,none⟩))
theorem Go.RowKit.Hid.o{p:Prop}(h:Go.RowKit.Hid p):p:=h
theorem Eq.T:type_of% @Eq.trans:=@Eq.trans
theorem List.Perm.T:type_of% @List.Perm.trans:=@List.Perm.trans
theorem Iff.T:type_of% @Iff.trans:=@Iff.trans
theorem Go.RowKit.Below.T:type_of% @Go.RowKit.Below.trans:=@Go.RowKit.Below.trans
theorem Go.World.grownBy.T:type_of% @Go.World.grownBy.trans:=@Go.World.grownBy.trans
theorem Go.World.Since.T:type_of% @Go.World.Since.trans:=@Go.World.Since.trans
theorem Go.World.Extends.T:type_of% @Go.World.Extends.trans:=@Go.World.Extends.trans
theorem Go.Calls.M:type_of% @Go.Calls.mono:=@Go.Calls.mono
theorem Go.RowKit.Below.M:type_of% @Go.RowKit.Below.mono:=@Go.RowKit.Below.mono
theorem Go.World.ownsMap.M:type_of% @Go.World.ownsMap.mono:=@Go.World.ownsMap.mono
theorem Go.RowKit.Below.B:type_of% @Go.RowKit.Below.block:=@Go.RowKit.Below.block
theorem Go.World.grownBy.B:type_of% @Go.World.grownBy.block:=@Go.World.grownBy.block
theorem Go.World.keptBut.B:type_of% @Go.World.keptBut.block:=@Go.World.keptBut.block
theorem Go.World.Since.B:type_of% @Go.World.Since.block:=@Go.World.Since.block
theorem Go.World.Extends.B:type_of% @Go.World.Extends.block:=@Go.World.Extends.block
theorem PH{p q:Prop}(h:q)(e:q->p:=by intro h;omega):p:=e h
theorem PI{p q r:Prop}(h:q)(g:r)(e:q->r->p:=by intro h g;omega):p:=e h g
theorem PJ{p:Prop}(h:p:=by omega):p:=h
theorem PK{p:Prop}(h:p:=by simp):p:=h
theorem PL{p:Prop}(h:p:=by kernel_rfl):p:=h
theorem PM{p:Prop}(h:p:=by decide):p:=h
theorem PN{p:Prop}(h:p:=by simp[IntKind.wrap,IntKind.bits,IntKind.signed];omega):p:=h
theorem PO{p:Prop}(h:p:=by simp;omega):p:=h
theorem PQ{p:Prop}(h:p:=by go_num):p:=h
theorem PR{p:Prop}(h:p:=by unfold lQ;simp):p:=h
theorem PS{p:Prop}(h:p:=by simp[Value.ownBlock]):p:=h
theorem PT{p:Prop}(h:p:=by unfold maxLen;omega):p:=h
theorem PU{p:Prop}(h:p:=by intro e;injection e with e;omega):p:=h
theorem PV{p:Prop}(h:p:=by decide+kernel):p:=h
theorem PW{p:Prop}(h:p:=by simp[Value.ownBlock];omega):p:=h
theorem PX{p:Prop}(h:p:=by intro e;injection e;omega):p:=h
theorem PY{p:Prop}(h:p:=by show(0:Int)<=_;omega):p:=h
theorem PZ{p:Prop}(h:p:=by simp[ll];omega):p:=h
theorem P0{p:Prop}(h:p:=by simp only[NM];omega):p:=h
theorem P1{p:Prop}(h:p:=by simp[ByteArray.size]):p:=h
theorem P2{p:Prop}(h:p:=by simp[mJ]):p:=h
theorem P3{p:Prop}(h:p:=by unfold tZ;split<;>omega):p:=h
namespace kj
end kj
namespace lX
end lX
namespace mh
end mh
namespace Go.Proofs.YtfemcncookpdhaaGreatDoor.C
end Go.Proofs.YtfemcncookpdhaaGreatDoor.C
namespace Go.RowKit
end Go.RowKit
namespace Go.Proofs.YtfemcncookpdhaaGreatDoor
theorem NA:type_of% @Go.Lib.hid:=@Go.Lib.hid
theorem NB:type_of% @Go.World.size_alloc:=@Go.World.size_alloc
theorem NC:type_of% @Array.getElem?_eq_some_iff:=@Array.getElem?_eq_some_iff
theorem ND:type_of% @Nat.lt_of_lt_of_le:=@Nat.lt_of_lt_of_le
theorem NF:type_of% @Go.heap_alloc_new:=@Go.heap_alloc_new
theorem NH:type_of% @List.mem_of_getElem?:=@List.mem_of_getElem?
theorem NI:type_of% @List.setIfInBounds_toArray:=@List.setIfInBounds_toArray
theorem NJ:type_of% @List.set_cons_succ:=@List.set_cons_succ
theorem NL:type_of% @List.set_cons_zero:=@List.set_cons_zero
theorem NM:type_of% @Go.World.size_setCell:=@Go.World.size_setCell
theorem NN:type_of% @Go.World.grownBy_alloc:=@Go.World.grownBy_alloc
theorem NP:type_of% @Nat.zero_le:=@Nat.zero_le
theorem NQ:type_of% @Nat.le_refl:=@Nat.le_refl
theorem NR:type_of% @Nat.le_trans:=@Nat.le_trans
theorem NS:type_of% @Nat.add_zero:=@Nat.add_zero
theorem NT:type_of% @Go.bodyPost_ret:=@Go.bodyPost_ret
theorem NU:type_of% @List.getElem?_eq_getElem:=@List.getElem?_eq_getElem
theorem NV:type_of% @List.take_of_length_le:=@List.take_of_length_le
theorem NW:type_of% @List.getElem?_eq_some_iff:=@List.getElem?_eq_some_iff
theorem NX:type_of% @beq_eq_false_iff_ne:=@beq_eq_false_iff_ne
theorem NY:type_of% @Nat.zero_add:=@Nat.zero_add
theorem NZ:type_of% @Go.Deep.blk_setCell_other:=@Go.Deep.blk_setCell_other
theorem N0:type_of% @List.length_take:=@List.length_take
theorem N1:type_of% @Go.RowKit.Below.heap_setCell:=@Go.RowKit.Below.heap_setCell
theorem N2:type_of% @List.length_append:=@List.length_append
theorem N3:type_of% @ByteArray.size_append:=@ByteArray.size_append
theorem N4:type_of% @Go.info_parts:=@Go.info_parts
theorem N5:type_of% @List.take_add_one:=@List.take_add_one
theorem N6:type_of% @Go.heap_alloc_old:=@Go.heap_alloc_old
theorem N7:type_of% @List.not_mem_nil:=@List.not_mem_nil
theorem N8:type_of% @Go.Result.andThen_ok:=@Go.Result.andThen_ok
theorem N9:type_of% @Nat.le_of_lt:=@Nat.le_of_lt
theorem Oa:type_of% @List.mem_cons:=@List.mem_cons
theorem Ob:type_of% @List.map_cons:=@List.map_cons
theorem Oc:type_of% @List.map_toArray:=@List.map_toArray
theorem Od:type_of% @if_neg:=@if_neg
theorem Oe:type_of% @List.map_nil:=@List.map_nil
theorem Og:type_of% @Nat.mul_one:=@Nat.mul_one
theorem Oh:type_of% @Go.Sem.run_bind:=@Go.Sem.run_bind
theorem Oi:type_of% @Go.Sem.run_pure:=@Go.Sem.run_pure
theorem Oj:type_of% @if_pos:=@if_pos
theorem Ol:type_of% @Go.World.setCell_alloc_past:=@Go.World.setCell_alloc_past
theorem Om:type_of% @List.getElem?_map:=@List.getElem?_map
theorem Oo:type_of% @Go.wpList_append_own:=@Go.wpList_append_own
theorem Oq:type_of% @Int.toNat_natCast:=@Int.toNat_natCast
theorem Ot:type_of% @Go.RowKit.Below.heap_alloc:=@Go.RowKit.Below.heap_alloc
theorem Ou:type_of% @List.getElem?_append_left:=@List.getElem?_append_left
theorem Ov:type_of% @List.mem_map:=@List.mem_map
theorem Ow:type_of% @or_false:=@or_false
theorem Ox:type_of% @Option.some.inj:=@Option.some.inj
theorem Oy:type_of% @congrArg:=@congrArg
theorem Oz:type_of% @Nat.mul_le_mul_right:=@Nat.mul_le_mul_right
theorem OA:type_of% @List.getElem?_append_right:=@List.getElem?_append_right
theorem OB:type_of% @Array.getD_eq_getD_getElem?:=@Array.getD_eq_getD_getElem?
theorem OC:type_of% @Go.DataW.trod_int:=@Go.DataW.trod_int
theorem OD:type_of% @Bool.and_eq_true:=@Bool.and_eq_true
theorem OE:type_of% @Go.cell_regrown:=@Go.cell_regrown
theorem OG:type_of% @List.append_assoc:=@List.append_assoc
theorem OH:type_of% @Array.getElem?_setIfInBounds_ne:=@Array.getElem?_setIfInBounds_ne
theorem OI:type_of% @List.mem_append:=@List.mem_append
theorem OJ:type_of% @List.getElem?_take:=@List.getElem?_take
theorem OL:type_of% @Nat.eq_zero_or_pos:=@Nat.eq_zero_or_pos
theorem OM:type_of% @List.mem_of_mem_take:=@List.mem_of_mem_take
theorem OO:type_of% @List.all_eq_true:=@List.all_eq_true
theorem OP:type_of% @List.length_cons:=@List.length_cons
theorem OQ:type_of% @List.eq_nil_of_length_eq_zero:=@List.eq_nil_of_length_eq_zero
theorem OS:type_of% @List.flatten_cons:=@List.flatten_cons
theorem OT:type_of% @List.length_nil:=@List.length_nil
theorem OU:type_of% @decide_eq_false_iff_not:=@decide_eq_false_iff_not
theorem OV:type_of% @Go.IntWalk.i64_in:=@Go.IntWalk.i64_in
theorem OW:type_of% @Option.map_eq_some_iff:=@Option.map_eq_some_iff
theorem OX:type_of% @List.filterMap_cons:=@List.filterMap_cons
theorem OY:type_of% @List.mem_map_of_mem:=@List.mem_map_of_mem
theorem OZ:type_of% @List.drop_succ_cons:=@List.drop_succ_cons
theorem O0:type_of% @List.take_succ_cons:=@List.take_succ_cons
theorem O1:type_of% @Array.getElem?_eq_getElem:=@Array.getElem?_eq_getElem
theorem O2:type_of% @List.cons.injEq:=@List.cons.injEq
theorem O3:type_of% @List.getElem?_toArray:=@List.getElem?_toArray
theorem O4:type_of% @decide_eq_true_iff:=@decide_eq_true_iff
theorem O5:type_of% @Go.World.cell?_alloc_lt:=@Go.World.cell?_alloc_lt
theorem O6:type_of% @Go.DataW.trod_struct:=@Go.DataW.trod_struct
theorem O7:type_of% @List.length_map:=@List.length_map
theorem O8:type_of% @Array.length_toList:=@Array.length_toList
theorem O9:type_of% @Go.run_makeSlice:=@Go.run_makeSlice
theorem Pa:type_of% @List.getElem?_drop:=@List.getElem?_drop
theorem Pb:type_of% @Int.le_refl:=@Int.le_refl
theorem Pc:type_of% @List.nodup_cons:=@List.nodup_cons
theorem Pd:type_of% @beq_iff_eq:=@beq_iff_eq
theorem Pe:type_of% @Option.map_some:=@Option.map_some
theorem Pg:type_of% @decide_eq_true_eq:=@decide_eq_true_eq
theorem Ph:type_of% @List.size_toArray:=@List.size_toArray
theorem Pj:type_of% @Go.Lib.laidMet.reads:=@Go.Lib.laidMet.reads
theorem Pk:type_of% @Nat.add_assoc:=@Nat.add_assoc
theorem Pl:type_of% @List.forall_mem_map:=@List.forall_mem_map
theorem Pm:type_of% @Int.toNat_of_nonneg:=@Int.toNat_of_nonneg
theorem Pn:type_of% @Go.size_madeCells:=@Go.size_madeCells
theorem Po:type_of% @List.drop_zero:=@List.drop_zero
theorem Pq:type_of% @List.take_zero:=@List.take_zero
theorem Pr:type_of% @List.mem_filterMap:=@List.mem_filterMap
theorem Ps:type_of% @Nat.min_eq_left:=@Nat.min_eq_left
theorem Pu:type_of% @List.take_append_drop:=@List.take_append_drop
theorem Pw:type_of% @List.map_append:=@List.map_append
theorem Px:type_of% @Go.wp_region_quiet_below:=@Go.wp_region_quiet_below
theorem Py:type_of% @List.getElem?_eq_none:=@List.getElem?_eq_none
theorem Pz:type_of% @List.getElem?_of_mem:=@List.getElem?_of_mem
theorem PA:type_of% @List.mem_range:=@List.mem_range
theorem PB:type_of% @Go.run_underlying:=@Go.run_underlying
theorem PC:type_of% @Nat.le_add_right:=@Nat.le_add_right
theorem PD:type_of% @Ne.symm:=@Ne.symm
theorem PE:type_of% @List.length_set:=@List.length_set
theorem PF:type_of% @Nat.add_mul:=@Nat.add_mul
theorem PG:type_of% @Nat.lt_or_ge:=@Nat.lt_or_ge
end Go.Proofs.YtfemcncookpdhaaGreatDoor
