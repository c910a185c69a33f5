/- The law rootcauselaw52.NarrateDiffers returns true for every input, and leaves its arguments as they were: part of the proof. The readable texts lie under wip in the repository. -/
import Derived.Deep.AppendLies
import Derived.Deep.CutBlock
import Derived.Deep.DeepCutAuto
import Derived.Deep.DeepHandedRow
import Derived.Deep.MidRow
import Derived.Deep.OwnRows
import Derived.Deep.Slices
import Derived.Laws.CopyOwn
import Derived.Laws.Cover1
import Derived.Laws.EntriesVeiled
import Derived.Lib.AppendIntMem
import Derived.Lib.ConvBytes
import Derived.Lib.ItoaLen
import Derived.Lib.LaidU8
import Derived.Lib.ParseIntBTie
import Derived.LoopNIn
import Derived.OpenShut
import Derived.OwnWalkIn
import Derived.ProofKit
import Derived.RangeFuncBound
import Derived.RangeFuncNested
import Derived.Shelf.RegionOpen
import Derived.Shelf.Slices.Clone
import Derived.Shelf.Slices.Turned
import Derived.Shelf.Small.Wraps
import Derived.Shelf.Strconv.Itoa4
import Derived.Shelf.Strings.BuilderK
import Derived.Shelf.Strings.OnBuilder
import Derived.Sort.CutIn
import Derived.StillTailTactics
import Derived.Test.YtppncjcpdbhobaaGreatDoorCards
import Derived.Test.YtppncjcpdbhobaaGreatDoorTie
import Derived.WalkSpells
set_option linter.all false
instance:Coe Go.World Nat:=⟨fun w=>w.heap.size⟩
instance:Coe Int Go.Value:=⟨fun k=>.int .i64 k⟩
instance:Coe Nat Go.Value:=⟨fun k=>.int .i64 (k:Int)⟩
instance:Coe Nat Go.Addr:=⟨fun b=>⟨b,0,none⟩⟩
instance:Coe Bool Go.Value:=⟨fun b=>.bool b⟩
abbrev Nl:Go.Value:=.slice none 0 0
abbrev Em:Go.Value:=.string ⟨#[]⟩
abbrev Pp(b o:Nat):Go.Value→Prop:=(·=.pointer (some ⟨b,o,none⟩))
def Go.RowKit.Hid.o{p:Prop}(h:Go.RowKit.Hid p):p:=h
def Eq.T:=@Eq.trans
def List.Perm.T:=@List.Perm.trans
def Iff.T:=@Iff.trans
def Go.RowKit.Below.T:=@Go.RowKit.Below.trans
def Go.World.grownBy.T:=@Go.World.grownBy.trans
def Go.World.Since.T:=@Go.World.Since.trans
def Go.World.Extends.T:=@Go.World.Extends.trans
def Go.Calls.M:=@Go.Calls.mono
def Go.RowKit.Below.M:=@Go.RowKit.Below.mono
def Go.World.ownsMap.M:=@Go.World.ownsMap.mono
def Go.RowKit.Below.B:=@Go.RowKit.Below.block
def Go.World.grownBy.B:=@Go.World.grownBy.block
def Go.World.keptBut.B:=@Go.World.keptBut.block
def Go.World.Since.B:=@Go.World.Since.block
def Go.World.Extends.B:=@Go.World.Extends.block
def W{p q:Prop}(h:q)(e:q->p:=by intro h;omega):=e h
def Up{p q r:Prop}(h:q)(g:r)(e:q->r->p:=by intro h g;omega):=e h g
def Y{p:Prop}(h:p:=by omega):=h
def Ur{p:Prop}(h:p:=by decide):=h
def Us{p:Prop}(h:p:=by simp):=h
def Ut{p:Prop}(h:p:=by kernel_rfl):=h
def Uu{p:Prop}(h:p:=by simp[IntKind.wrap,IntKind.bits,IntKind.signed];omega):=h
def Uv{p:Prop}(h:p:=by go_num):=h
def Uw{p:Prop}(h:p:=by simp;omega):=h
def Ux{p:Prop}(h:p:=by unfold mz;simp):=h
def Uy{p:Prop}(h:p:=by simp only[QU];omega):=h
def Uz{p:Prop}(h:p:=by decide+kernel):=h
def UA{p:Prop}(h:p:=by unfold maxLen;omega):=h
def UB{p:Prop}(h:p:=by first|rfl|simp):=h
def UC{p:Prop}(h:p:=by unfold rS;omega):=h
def UD{p:Prop}(h:p:=by simp[maxLen];omega):=h
def UE{p:Prop}(h:p:=by intro c;injection c with c;omega):=h
def UF{p:Prop}(h:p:=by simp[mL]):=h
def UG{p:Prop}(h:p:=by simp only[QW];omega):=h
def UH{p:Prop}(h:p:=by unfold um;split<;>omega):=h
def UI{p:Prop}(h:p:=by simp only[List.length_append];omega):=h
def UJ{p:Prop}(h:p:=by intro j;injection j with j;omega):=h
def UK{p:Prop}(h:p:=by simp[Value.ownBlock]):=h
def UL{p:Prop}(h:p:=by split<;>split<;>omega):=h
def UM{p:Prop}(h:p:=by simp[ByteArray.size]):=h
def UN{p:Prop}(h:p:=by simp[World.setRow]):=h
def UO{p:Prop}(h:p:=by simp[A8,Oo,Value.oneCell']):=h
def UQ{p:Prop}(h:p:=by intro e;injection e;omega):=h
def UR{p:Prop}(h:p:=by unfold kO;rfl):=h
def Z{α:Sort _}{a:α}:a=a:=rfl
namespace Go.Proofs.YtppncjcpdbhobaaGreatDoor.L
end Go.Proofs.YtppncjcpdbhobaaGreatDoor.L
namespace Go.Proofs.YtppncjcpdbhobaaGreatDoor.kI
end Go.Proofs.YtppncjcpdbhobaaGreatDoor.kI
namespace Go.Proofs.YtppncjcpdbhobaaGreatDoor.lI
end Go.Proofs.YtppncjcpdbhobaaGreatDoor.lI
namespace Go.Proofs.YtppncjcpdbhobaaGreatDoor.narrateDiffers
end Go.Proofs.YtppncjcpdbhobaaGreatDoor.narrateDiffers
namespace Go.Proofs.YtppncjcpdbhobaaGreatDoor.oZ
end Go.Proofs.YtppncjcpdbhobaaGreatDoor.oZ
namespace Go.Proofs.YtppncjcpdbhobaaGreatDoor.qQ
end Go.Proofs.YtppncjcpdbhobaaGreatDoor.qQ
instance(b:Option Go.Addr)(l c:Nat):CoeDep (Option Go.Addr×Nat×Nat) (b,l,c) Go.Value:=⟨.slice b l c⟩
instance(b l c:Nat):CoeDep (Nat×Nat×Nat) (b,l,c) Go.Value:=⟨.slice (some ⟨b,0,none⟩) l c⟩
instance(w:Go.World)(l c:Nat):CoeDep (Go.World×Nat×Nat) (w,l,c) Go.Value:=⟨.slice (some ⟨w.heap.size,0,none⟩) l c⟩

namespace Go.RowKit
end Go.RowKit
namespace Go.Proofs.YtppncjcpdbhobaaGreatDoor
def QR:=@Nat.lt_of_lt_of_le
def QS:=@Array.getElem?_eq_some_iff
def QT:=@Go.heap_alloc_new
def QU:=@Go.World.size_alloc
def QV:=@List.mem_of_getElem?
def QW:=@Go.World.size_setCell
def QX:=@Go.World.grownBy_alloc
def QY:=@beq_eq_false_iff_ne
def QZ:=@Nat.le_refl
def Q0:=@Go.bodyPost_ret
def Q1:=@Nat.zero_le
def Q3:=@Nat.add_zero
def Q5:=@Go.Deep.blk_setCell_other
def Q6:=@List.length_append
def Q7:=@List.getElem?_eq_getElem
def Q8:=@Nat.le_trans
def Q9:=@Go.heap_alloc_old
def Re:=@Nat.zero_add
def Rf:=@Go.RowKit.Below.heap_setCell
def Rg:=@List.getElem?_eq_some_iff
def Rh:=@List.take_of_length_le
def Rj:=@ByteArray.size_append
def Rk:=@List.not_mem_nil
def Rl:=@if_neg
def Rm:=@Go.info_parts
def Rn:=@List.length_cons
def Ro:=@List.length_take
def Rp:=@List.setIfInBounds_toArray
def Rq:=@List.mem_cons
def Rs:=@List.length_nil
def Rt:=@Go.Result.andThen_ok
def Ru:=@List.forall_mem_cons
def Rv:=@List.append_assoc
def Rw:=@Nat.le_of_lt
def Rx:=@List.map_cons
def Ry:=@List.mem_singleton
def Rz:=@List.map_toArray
def RA:=@Nat.mul_one
def RB:=@List.take_add_one
def RD:=@List.set_cons_succ
def RF:=@congrArg
def RG:=@if_pos
def RH:=@List.set_cons_zero
def RI:=@Go.World.setCell_alloc_past
def RJ:=@decide_eq_decide
def RL:=@Go.Sem.run_bind
def RN:=@Go.Sem.run_pure
def RO:=@List.map_nil
def RP:=@List.eq_nil_of_length_eq_zero
def RQ:=@or_false
def RR:=@List.getElem?_append_left
def RS:=@List.length_map
def RT:=@List.getElem?_map
def RV:=@Int.toNat_natCast
def RX:=@Go.DataW.trod_int
def RY:=@List.getElem?_append_right
def RZ:=@Go.Lib.itoa_length_le
def R1:=@Go.Calls.quiet_of_same
def R2:=@Bool.and_eq_true
def R3:=@Go.RowKit.Below.heap_alloc
def R4:=@Array.getD_eq_getD_getElem?
def R5:=@beq_iff_eq
def R6:=@List.mem_map
def R7:=@List.forall_mem_nil
def R8:=@List.flatten_cons
def R9:=@Array.getElem?_setIfInBounds_ne
def Sa:=@List.nil_append
def Sb:=@List.all_eq_true
def Sd:=@List.size_toArray
def Sg:=@List.getElem?_toArray
def Sh:=@List.cons.injEq
def Si:=@List.getElem?_take
def Sj:=@Nat.mul_le_mul_right
def Sk:=@decide_eq_true
def Sm:=@List.filterMap_cons
def Sn:=@List.take_succ_cons
def Sp:=@Array.getElem?_eq_getElem
def Sq:=@List.append_nil
def Sr:=@decide_eq_false
def Ss:=@List.mem_cons_self
def Su:=@Nat.eq_zero_or_pos
def Sw:=@Go.run_makeSlice
def Sx:=@Go.IntWalk.i64_in
def Sy:=@Array.toArray_toList
def Sz:=@Array.length_toList
def SA:=@Go.ByteArray.toList_eq
def SB:=@List.drop_succ_cons
def SC:=@Nat.le_of_eq
def SD:=@Option.getD_some
def SE:=@List.take_append_drop
def SF:=@List.getElem?_eq_none
def SG:=@List.drop_eq_getElem_cons
def SH:=@Int.le_refl
def SI:=@List.nodup_cons
def SJ:=@List.mem_of_mem_take
def SK:=@decide_eq_true_eq
def SL:=@Go.DataW.trod_struct
def SM:=@Array.getElem?_setIfInBounds_self_of_lt
def SN:=@List.mem_map_of_mem
def SP:=@List.forall_mem_map
def SQ:=@Go.size_madeCells
def SR:=@List.mem_filterMap
def SS:=@Nat.lt_or_ge
def SU:=@List.getElem?_drop
def SV:=@List.mem_append
def SX:=@Go.World.ownsRow_nil
def SY:=@List.mem_cons_of_mem
def SZ:=@List.drop_zero
def S0:=@List.take_zero
def S1:=@List.getElem?_take_of_lt
def S3:=@List.length_set
def S4:=@Nat.add_mul
def S5:=@Option.map_eq_some_iff
def S6:=@List.drop_of_length_le
def S7:=@List.find?_append
def S8:=@Ne.symm
def S9:=@Nat.zero_mul
def Ta:=@List.getElem?_of_mem
def Tb:=@List.getElem_mem
def Tc:=@Int.tmod_eq_emod_of_nonneg
def Td:=@List.length_pos_iff
def Te:=@List.flatten_append
def Tf:=@Nat.min_eq_left
def Tg:=@Go.Lib.run_unsafeString_none
def Th:=@beq_false_of_ne
def Ti:=@Go.DataW.trod_bool
def Tj:=@Int.natCast_nonneg
def Tk:=@Nat.add_sub_cancel
def Tl:=@and_true
def Tm:=@List.mem_range
def Tn:=@Go.run_underlying
def Tp:=@decide_eq_false_iff_not
def Tq:=@Go.wpList_append_own
def Ts:=@Option.some.injEq
def Tt:=@Go.DataW.trod_string
def Tu:=@Nat.add_assoc
def Tv:=@Nat.mod_lt
def Tw:=@Go.run_append_arg_grows
def Tx:=@Go.World.cell?_alloc_lt
def Ty:=@Option.map_some
def Tz:=@Go.callsIn_wide
def TA:=@List.getElem_of_mem
def TC:=@Go.World.news_of_block
def TD:=@decide_eq_true_iff
def TE:=@Go.World.ownsRow_made
def TF:=@Go.Lib.run_unsafeSliceData_row
def TG:=@Array.toList_setIfInBounds
def TH:=@Go.run_append_own_at
def TI:=@Bool.eq_false_iff
def TJ:=@List.ext_getElem?
def TK:=@Array.all_eq_true
def TL:=@List.mem_or_eq_of_mem_set
def TM:=@List.getElem?_eq_none_iff
def TN:=@List.mem_of_find?_eq_some
def TP:=@List.any_eq_true
def TQ:=@Option.isSome_iff_exists
def TR:=@Nat.le_add_right
def TS:=@List.length_drop
def TT:=@Go.step_append_lies
def TU:=@Go.DataW.trod_array
def TV:=@Option.bind_eq_some_iff
def TW:=@Int.eq_ofNat_of_zero_le
def TX:=@Nat.mul_eq_zero
def TY:=@Go.wpList_load_row
def TZ:=@Go.Oper.upon_value
def T1:=@Go.DataW.lit.injEq
def T2:=@Array.getElem?_eq_none
def T3:=@List.contains_iff_mem
def T4:=@Array.mem_of_getElem?
def T5:=@Go.Lib.run_eql_slice_nil
def T6:=@if_true
def T7:=@List.singleton_append
def T8:=@Array.getElem?_toList
def T9:=@Nat.div_lt_of_lt_mul
def Ua:=@Go.Lib.byteCells_append
def Ub:=@Array.replicate_succ
def Uc:=@Array.replicate_zero
def Ud:=@Go.bounds_i64
def Ue:=@List.sum_cons
def Uf:=@List.getElem?_range
def Ug:=@List.append_toArray
def Uh:=@Int.toNat_of_nonneg
def Ui:=@Go.mem_ready
def Uj:=@Go.wpList_plain
def Uk:=@Nat.succ_mul
def Ul:=@Go.setRow_heap
def Um:=@Go.cell_of_one
def Un:=@Go.OwnFrom.and
def X:=@Go.Lib.hid
def D0{a b:Prop}(A:a)(B:b):=@Go.Lib.hid _ (And.intro A B)
def EV{a b c:Prop}(A:a)(B:b)(C:c):=@Go.Lib.hid _ (And.intro A (And.intro B C))
def Ft{a b c d:Prop}(A:a)(B:b)(C:c)(D:d):=@Go.Lib.hid _ (And.intro A (And.intro B (And.intro C D)))
def FF{a b c d e:Prop}(A:a)(B:b)(C:c)(D:d)(E:e):=@Go.Lib.hid _ (And.intro A (And.intro B (And.intro C (And.intro D E))))
def FG{a b c d e f:Prop}(A:a)(B:b)(C:c)(D:d)(E:e)(F:f):=@Go.Lib.hid _ (And.intro A (And.intro B (And.intro C (And.intro D (And.intro E F)))))
def GO:=@And.intro
end Go.Proofs.YtppncjcpdbhobaaGreatDoor
