/- The law rootcauselaw52.NarrateKeys returns true for every input, and leaves its arguments as they were: part of the proof. The readable texts lie under wip in the repository. -/
import Derived.Deep.AppendLies
import Derived.Deep.CutBlock
import Derived.Deep.DeepCutAuto
import Derived.Deep.DeepHandedRow
import Derived.Deep.MidRow
import Derived.Deep.OwnRows
import Derived.Deep.Slices
import Derived.Laws.CopyOwn
import Derived.Laws.Cover1
import Derived.Laws.EntriesVeiled
import Derived.Lib.AppendIntMem
import Derived.Lib.ConvBytes
import Derived.Lib.ItoaLen
import Derived.Lib.LaidU8
import Derived.Lib.ParseIntBTie
import Derived.LoopNIn
import Derived.OpenShut
import Derived.OwnWalkIn
import Derived.ProofKit
import Derived.RangeFuncBound
import Derived.RangeFuncNested
import Derived.Shelf.RegionOpen
import Derived.Shelf.Slices.Clone
import Derived.Shelf.Slices.SearchI
import Derived.Shelf.Slices.Turned
import Derived.Shelf.Small.Wraps
import Derived.Shelf.Strconv.Itoa4
import Derived.Shelf.Strings.BuilderCap
import Derived.Shelf.Strings.OnBuilder
import Derived.Sort.CutIn
import Derived.StillTailTactics
import Derived.Test.YtjoamapacifofaaGreatDoorCards
import Derived.Test.YtjoamapacifofaaGreatDoorTie
import Derived.WalkSpells
set_option linter.all false
instance:Coe Go.World Nat:=⟨fun w=>w.heap.size⟩
instance:Coe Int Go.Value:=⟨fun k=>.int .i64 k⟩
instance:Coe Nat Go.Value:=⟨fun k=>.int .i64 (k:Int)⟩
instance:Coe Nat Go.Addr:=⟨fun b=>⟨b,0,none⟩⟩
instance:Coe Bool Go.Value:=⟨fun b=>.bool b⟩
abbrev Nl:Go.Value:=.slice none 0 0
abbrev Em:Go.Value:=.string ⟨#[]⟩
abbrev Pp(b o:Nat):Go.Value→Prop:=(·=.pointer (some ⟨b,o,none⟩))
def Go.RowKit.Hid.o{p:Prop}(h:Go.RowKit.Hid p):p:=h
def Eq.T:=@Eq.trans
def List.Perm.T:=@List.Perm.trans
def Iff.T:=@Iff.trans
def Go.RowKit.Below.T:=@Go.RowKit.Below.trans
def Go.World.grownBy.T:=@Go.World.grownBy.trans
def Go.World.Since.T:=@Go.World.Since.trans
def Go.World.Extends.T:=@Go.World.Extends.trans
def Go.Calls.M:=@Go.Calls.mono
def Go.RowKit.Below.M:=@Go.RowKit.Below.mono
def Go.World.ownsMap.M:=@Go.World.ownsMap.mono
def Go.RowKit.Below.B:=@Go.RowKit.Below.block
def Go.World.grownBy.B:=@Go.World.grownBy.block
def Go.World.keptBut.B:=@Go.World.keptBut.block
def Go.World.Since.B:=@Go.World.Since.block
def Go.World.Extends.B:=@Go.World.Extends.block
def SC{p q:Prop}(h:q)(e:q->p:=by intro h;omega):=e h
def SD{p q r:Prop}(h:q)(g:r)(e:q->r->p:=by intro h g;omega):=e h g
def SE{p:Prop}(h:p:=by omega):=h
def SF{p:Prop}(h:p:=by decide):=h
def SG{p:Prop}(h:p:=by simp):=h
def SH{p:Prop}(h:p:=by kernel_rfl):=h
def SI{p:Prop}(h:p:=by simp[IntKind.wrap,IntKind.bits,IntKind.signed];omega):=h
def SJ{p:Prop}(h:p:=by go_num):=h
def SK{p:Prop}(h:p:=by simp;omega):=h
def SL{p:Prop}(h:p:=by unfold lK;simp):=h
def SM{p:Prop}(h:p:=by decide+kernel):=h
def SN{p:Prop}(h:p:=by simp only[O4];omega):=h
def SP{p:Prop}(h:p:=by unfold maxLen;omega):=h
def SQ{p:Prop}(h:p:=by intro e;injection e with e;omega):=h
def SR{p:Prop}(h:p:=by simp[maxLen];omega):=h
def SS{p:Prop}(h:p:=by unfold xu;omega):=h
def SU{p:Prop}(h:p:=by intro e;injection e;omega):=h
def SV{p:Prop}(h:p:=by simp[lV]):=h
def SX{p:Prop}(h:p:=by simp only[O6];omega):=h
def SY{p:Prop}(h:p:=by unfold tB;split<;>omega):=h
def SZ{p:Prop}(h:p:=by simp only[List.length_append];omega):=h
def S0{p:Prop}(h:p:=by simp[Value.ownBlock]):=h
def S1{p:Prop}(h:p:=by split<;>split<;>omega):=h
def S3{p:Prop}(h:p:=by simp[ByteArray.size]):=h
def S4{p:Prop}(h:p:=by first|rfl|simp):=h
def S5{p:Prop}(h:p:=by simp[World.setRow]):=h
def S6{p:Prop}(h:p:=by simp[zJ,MH,Value.oneCell']):=h
def S7{p:Prop}(h:p:=by unfold kh;rfl):=h
namespace Go.Proofs.YtjoamapacifofaaGreatDoor.L
end Go.Proofs.YtjoamapacifofaaGreatDoor.L
namespace Go.Proofs.YtjoamapacifofaaGreatDoor.kT
end Go.Proofs.YtjoamapacifofaaGreatDoor.kT
namespace Go.Proofs.YtjoamapacifofaaGreatDoor.ke
end Go.Proofs.YtjoamapacifofaaGreatDoor.ke
namespace Go.Proofs.YtjoamapacifofaaGreatDoor.narrateKeys
end Go.Proofs.YtjoamapacifofaaGreatDoor.narrateKeys
namespace Go.Proofs.YtjoamapacifofaaGreatDoor.nu
end Go.Proofs.YtjoamapacifofaaGreatDoor.nu
namespace Go.Proofs.YtjoamapacifofaaGreatDoor.pG
end Go.Proofs.YtjoamapacifofaaGreatDoor.pG

namespace Go.RowKit
end Go.RowKit
namespace Go.Proofs.YtjoamapacifofaaGreatDoor
def O0:=@Go.Lib.hid
def O1:=@Nat.lt_of_lt_of_le
def O2:=@Go.heap_alloc_new
def O3:=@Array.getElem?_eq_some_iff
def O4:=@Go.World.size_alloc
def O5:=@List.mem_of_getElem?
def O6:=@Go.World.size_setCell
def O7:=@Go.World.grownBy_alloc
def O8:=@beq_eq_false_iff_ne
def O9:=@Nat.le_refl
def Pa:=@Go.bodyPost_ret
def Pb:=@Nat.zero_le
def Pc:=@Nat.add_zero
def Pd:=@Go.Deep.blk_setCell_other
def Pe:=@List.length_append
def Pg:=@List.getElem?_eq_getElem
def Ph:=@Go.heap_alloc_old
def Pj:=@Nat.le_trans
def Pk:=@Nat.zero_add
def Pm:=@List.getElem?_eq_some_iff
def Pn:=@if_neg
def Po:=@Go.RowKit.Below.heap_setCell
def Pq:=@List.take_of_length_le
def Pr:=@ByteArray.size_append
def Ps:=@List.not_mem_nil
def Pu:=@Go.info_parts
def Pw:=@List.length_take
def Px:=@List.setIfInBounds_toArray
def Py:=@List.append_assoc
def Pz:=@List.mem_cons
def PA:=@List.length_cons
def PB:=@Go.Result.andThen_ok
def PC:=@List.forall_mem_cons
def PD:=@Nat.le_of_lt
def PE:=@List.length_nil
def PF:=@List.map_cons
def PG:=@Nat.mul_one
def PH:=@List.mem_singleton
def PI:=@List.map_toArray
def PJ:=@if_pos
def PK:=@List.set_cons_succ
def PL:=@congrArg
def PM:=@List.take_add_one
def PN:=@List.set_cons_zero
def PO:=@Go.World.setCell_alloc_past
def PQ:=@Go.Sem.run_bind
def PR:=@Go.Sem.run_pure
def PS:=@List.map_nil
def PT:=@List.eq_nil_of_length_eq_zero
def PU:=@or_false
def PW:=@List.getElem?_append_left
def PX:=@List.getElem?_map
def PY:=@List.length_map
def PZ:=@Int.toNat_natCast
def P0:=@Go.Lib.itoa_length_le
def P1:=@List.getElem?_append_right
def P2:=@Go.Calls.quiet_of_same
def P3:=@Go.RowKit.Below.heap_alloc
def P4:=@Go.DataW.trod_int
def P5:=@Array.getD_eq_getD_getElem?
def P6:=@List.forall_mem_nil
def P7:=@List.flatten_cons
def P8:=@Array.getElem?_setIfInBounds_ne
def P9:=@beq_iff_eq
def Qf:=@List.cons.injEq
def Qg:=@decide_eq_false
def Qh:=@Bool.and_eq_true
def Qi:=@List.take_succ_cons
def Qj:=@List.size_toArray
def Qk:=@List.getElem?_toArray
def Ql:=@List.getElem?_take
def Qm:=@List.all_eq_true
def Qn:=@Nat.mul_le_mul_right
def Qo:=@List.mem_map
def Qp:=@List.filterMap_cons
def Qq:=@List.drop_succ_cons
def Qr:=@Array.getElem?_eq_getElem
def Qs:=@List.mem_cons_self
def Qt:=@Nat.eq_zero_or_pos
def Qu:=@Go.run_makeSlice
def Qv:=@Go.IntWalk.i64_in
def Qw:=@Array.toArray_toList
def Qx:=@Int.eq_ofNat_of_zero_le
def Qy:=@Go.DataW.trod_struct
def Qz:=@Array.length_toList
def QA:=@Go.ByteArray.toList_eq
def QB:=@Nat.le_of_eq
def QC:=@Int.tmod_eq_emod_of_nonneg
def QD:=@List.take_append_drop
def QE:=@List.getElem?_eq_none
def QF:=@List.drop_eq_getElem_cons
def QG:=@Int.le_refl
def QH:=@List.nodup_cons
def QI:=@List.append_nil
def QJ:=@List.nil_append
def QK:=@List.mem_of_mem_take
def QL:=@Array.getElem?_setIfInBounds_self_of_lt
def QM:=@List.mem_map_of_mem
def QN:=@List.forall_mem_map
def QO:=@Go.size_madeCells
def QP:=@decide_eq_true
def QQ:=@List.drop_zero
def QR:=@List.take_zero
def QS:=@List.mem_filterMap
def QT:=@Nat.lt_or_ge
def QU:=@List.getElem?_drop
def QV:=@List.mem_append
def QW:=@decide_eq_true_eq
def QX:=@Go.World.ownsRow_nil
def QY:=@List.mem_cons_of_mem
def QZ:=@List.getElem?_take_of_lt
def Q0:=@List.length_set
def Q1:=@Nat.add_mul
def Q3:=@Option.map_eq_some_iff
def Q5:=@List.drop_of_length_le
def Q6:=@List.find?_append
def Q7:=@Ne.symm
def Q8:=@List.getElem?_of_mem
def Q9:=@List.getElem_mem
def Re:=@decide_eq_decide
def Rf:=@and_true
def Rg:=@List.length_pos_iff
def Rh:=@List.flatten_append
def Rj:=@Nat.min_eq_left
def Rk:=@Go.Lib.run_unsafeString_none
def Rl:=@beq_false_of_ne
def Rm:=@Go.DataW.trod_bool
def Rn:=@Int.natCast_nonneg
def Ro:=@Nat.zero_mul
def Rp:=@Nat.add_sub_cancel
def Rq:=@List.mem_range
def Rs:=@Go.run_underlying
def Rt:=@decide_eq_false_iff_not
def Ru:=@Go.wpList_append_own
def Rv:=@Option.some.injEq
def Rw:=@Go.DataW.trod_string
def Rx:=@Nat.add_assoc
def Ry:=@Option.getD_some
def Rz:=@Nat.mod_lt
def RA:=@Go.run_append_arg_grows
def RB:=@Go.World.cell?_alloc_lt
def RD:=@Option.map_some
def RF:=@Go.callsIn_wide
def RG:=@List.getElem_of_mem
def RH:=@Go.World.news_of_block
def RI:=@decide_eq_true_iff
def RJ:=@Go.World.ownsRow_made
def RL:=@Go.Lib.run_unsafeSliceData_row
def RN:=@Array.toList_setIfInBounds
def RO:=@Int.tdiv_eq_ediv_of_nonneg
def RP:=@Go.run_append_own_at
def RQ:=@Bool.eq_false_iff
def RR:=@List.ext_getElem?
def RS:=@Array.all_eq_true
def RT:=@List.mem_or_eq_of_mem_set
def RV:=@List.getElem?_eq_none_iff
def RX:=@List.mem_of_find?_eq_some
def RY:=@List.any_eq_true
def RZ:=@Option.isSome_iff_exists
def R1:=@Nat.le_add_right
def R2:=@List.length_drop
def R3:=@Go.step_append_lies
def R4:=@Go.DataW.trod_array
def R5:=@Option.bind_eq_some_iff
def R6:=@Nat.mul_eq_zero
def R7:=@Go.wpList_load_row
def R8:=@Go.Oper.upon_value
def R9:=@Go.DataW.lit.injEq
def Sa:=@Array.getElem?_eq_none
def Sb:=@Go.run_convert_bytes_back
def Sd:=@List.contains_iff_mem
def Sg:=@Array.mem_of_getElem?
def Sh:=@Go.Lib.run_eql_slice_nil
def Si:=@List.singleton_append
def Sj:=@Array.getElem?_toList
def Sk:=@Nat.div_lt_of_lt_mul
def Sm:=@Go.Lib.byteCells_append
def Sn:=@Array.replicate_succ
def Sp:=@Array.replicate_zero
def Sq:=@List.sum_cons
def Sr:=@List.getElem?_range
def Ss:=@List.append_toArray
def Su:=@Go.mem_ready
def Sw:=@Go.wpList_plain
def Sx:=@Nat.succ_mul
def Sy:=@Nat.lt_trans
def Sz:=@Go.setRow_heap
def SA:=@Go.cell_of_one
def SB:=@Go.OwnFrom.and
end Go.Proofs.YtjoamapacifofaaGreatDoor
