/- The law rootcauselaw52.NarrateParses returns true for every input, and leaves its arguments as they were: part of the proof. The readable texts lie under wip in the repository. -/
import Derived.Deep.AppendLies
import Derived.Deep.CutBlock
import Derived.Deep.DeepCutAuto
import Derived.Deep.DeepHandedRow
import Derived.Deep.MidRow
import Derived.Deep.OwnRows
import Derived.Deep.Slices
import Derived.Laws.CopyOwn
import Derived.Laws.Cover1
import Derived.Laws.EntriesVeiled
import Derived.Lib.AppendIntMem
import Derived.Lib.ItoaLen
import Derived.Lib.LaidU8
import Derived.LoopNIn
import Derived.OpenShut
import Derived.OwnWalkIn
import Derived.ProofKit
import Derived.RangeFuncBound
import Derived.RangeFuncNested
import Derived.Shelf.RegionOpen
import Derived.Shelf.Slices.Clone
import Derived.Shelf.Slices.Turned
import Derived.Shelf.Small.Wraps
import Derived.Shelf.Strconv.Itoa4
import Derived.Shelf.Strconv.ParseIntPublic10
import Derived.Shelf.Strings.BuilderK
import Derived.Shelf.Strings.OnBuilder
import Derived.Sort.CutIn
import Derived.StillTailTactics
import Derived.Stop.LaidErr
import Derived.Test.YtbdipimmpgijaaaGreatDoorCards
import Derived.Test.YtbdipimmpgijaaaGreatDoorTie
import Derived.WalkSpells
set_option linter.all false
instance:Coe Go.World Nat:=⟨fun w=>w.heap.size⟩
instance:Coe Int Go.Value:=⟨fun k=>.int .i64 k⟩
instance:Coe Nat Go.Value:=⟨fun k=>.int .i64 (k:Int)⟩
instance:Coe Nat Go.Addr:=⟨fun b=>⟨b,0,none⟩⟩
instance:Coe Bool Go.Value:=⟨fun b=>.bool b⟩
abbrev Nl:Go.Value:=.slice none 0 0
abbrev Em:Go.Value:=.string ⟨#[]⟩
abbrev Pp(b o:Nat):Go.Value→Prop:=(·=.pointer (some ⟨b,o,none⟩))
def Go.RowKit.Hid.o{p:Prop}(h:Go.RowKit.Hid p):p:=h
def Eq.T:=@Eq.trans
def List.Perm.T:=@List.Perm.trans
def Iff.T:=@Iff.trans
def Go.RowKit.Below.T:=@Go.RowKit.Below.trans
def Go.World.grownBy.T:=@Go.World.grownBy.trans
def Go.World.Since.T:=@Go.World.Since.trans
def Go.World.Extends.T:=@Go.World.Extends.trans
def Go.Calls.M:=@Go.Calls.mono
def Go.RowKit.Below.M:=@Go.RowKit.Below.mono
def Go.World.ownsMap.M:=@Go.World.ownsMap.mono
def Go.RowKit.Below.B:=@Go.RowKit.Below.block
def Go.World.grownBy.B:=@Go.World.grownBy.block
def Go.World.keptBut.B:=@Go.World.keptBut.block
def Go.World.Since.B:=@Go.World.Since.block
def Go.World.Extends.B:=@Go.World.Extends.block
def W{p q:Prop}(h:q)(e:q->p:=by intro h;omega):=e h
def Ul{p q r:Prop}(h:q)(g:r)(e:q->r->p:=by intro h g;omega):=e h g
def Y{p:Prop}(h:p:=by omega):=h
def Un{p:Prop}(h:p:=by decide):=h
def Uo{p:Prop}(h:p:=by simp):=h
def Up{p:Prop}(h:p:=by kernel_rfl):=h
def Uq{p:Prop}(h:p:=by simp[IntKind.wrap,IntKind.bits,IntKind.signed];omega):=h
def Ur{p:Prop}(h:p:=by go_num):=h
def Us{p:Prop}(h:p:=by simp;omega):=h
def Ut{p:Prop}(h:p:=by unfold mC;simp):=h
def Uu{p:Prop}(h:p:=by simp only[QR];omega):=h
def Uv{p:Prop}(h:p:=by decide+kernel):=h
def Uw{p:Prop}(h:p:=by unfold maxLen;omega):=h
def Ux{p:Prop}(h:p:=by first|rfl|simp):=h
def Uy{p:Prop}(h:p:=by simp[maxLen];omega):=h
def Uz{p:Prop}(h:p:=by unfold oP;omega):=h
def UA{p:Prop}(h:p:=by intro c;injection c with c;omega):=h
def UB{p:Prop}(h:p:=by simp[mz]):=h
def UC{p:Prop}(h:p:=by simp only[QU];omega):=h
def UD{p:Prop}(h:p:=by unfold ur;split<;>omega):=h
def UE{p:Prop}(h:p:=by simp only[List.length_append];omega):=h
def UF{p:Prop}(h:p:=by intro j;injection j with j;omega):=h
def UG{p:Prop}(h:p:=by simp[Value.ownBlock]):=h
def UH{p:Prop}(h:p:=by split<;>split<;>omega):=h
def UI{p:Prop}(h:p:=by simp[ByteArray.size]):=h
def UJ{p:Prop}(h:p:=by simp[World.setRow]):=h
def UK{p:Prop}(h:p:=by simp[AY,Od,Value.oneCell']):=h
def UL{p:Prop}(h:p:=by intro e;injection e;omega):=h
def UM{p:Prop}(h:p:=by unfold kM;rfl):=h
def Z{α:Sort _}{a:α}:a=a:=rfl
namespace Go.Proofs.YtbdipimmpgijaaaGreatDoor.L
end Go.Proofs.YtbdipimmpgijaaaGreatDoor.L
namespace Go.Proofs.YtbdipimmpgijaaaGreatDoor.kI
end Go.Proofs.YtbdipimmpgijaaaGreatDoor.kI
namespace Go.Proofs.YtbdipimmpgijaaaGreatDoor.lH
end Go.Proofs.YtbdipimmpgijaaaGreatDoor.lH
namespace Go.Proofs.YtbdipimmpgijaaaGreatDoor.narrateParses
end Go.Proofs.YtbdipimmpgijaaaGreatDoor.narrateParses
namespace Go.Proofs.YtbdipimmpgijaaaGreatDoor.oa
end Go.Proofs.YtbdipimmpgijaaaGreatDoor.oa
namespace Go.Proofs.YtbdipimmpgijaaaGreatDoor.qR
end Go.Proofs.YtbdipimmpgijaaaGreatDoor.qR
def SO{α:Type _}{x:Option α}{a b:α}(h:x=some a)(e:a=b:=by kernel_rfl):x=some b:=h.trans (congrArg some e)
instance(b:Option Go.Addr)(l c:Nat):CoeDep (Option Go.Addr×Nat×Nat) (b,l,c) Go.Value:=⟨.slice b l c⟩
instance(b l c:Nat):CoeDep (Nat×Nat×Nat) (b,l,c) Go.Value:=⟨.slice (some ⟨b,0,none⟩) l c⟩
instance(w:Go.World)(l c:Nat):CoeDep (Go.World×Nat×Nat) (w,l,c) Go.Value:=⟨.slice (some ⟨w.heap.size,0,none⟩) l c⟩

namespace Go.RowKit
end Go.RowKit
namespace Go.Proofs.YtbdipimmpgijaaaGreatDoor
def QO:=@Nat.lt_of_lt_of_le
def QP:=@Array.getElem?_eq_some_iff
def QQ:=@Go.heap_alloc_new
def QR:=@Go.World.size_alloc
def QS:=@List.mem_of_getElem?
def QT:=@Nat.le_trans
def QU:=@Go.World.size_setCell
def QV:=@Go.World.grownBy_alloc
def QW:=@beq_eq_false_iff_ne
def QX:=@Nat.le_refl
def QY:=@Go.bodyPost_ret
def QZ:=@Nat.zero_le
def Q0:=@Go.Deep.blk_setCell_other
def Q1:=@Nat.add_zero
def Q3:=@List.length_append
def Q5:=@Go.heap_alloc_old
def Q6:=@List.getElem?_eq_getElem
def Q7:=@Nat.zero_add
def Q8:=@Go.RowKit.Below.heap_setCell
def Q9:=@List.getElem?_eq_some_iff
def Re:=@List.take_of_length_le
def Rf:=@ByteArray.size_append
def Rg:=@List.not_mem_nil
def Rh:=@if_neg
def Rj:=@Go.info_parts
def Rk:=@List.setIfInBounds_toArray
def Rl:=@List.length_cons
def Rm:=@List.length_take
def Rn:=@List.mem_cons
def Ro:=@Go.Result.andThen_ok
def Rp:=@List.length_nil
def Rq:=@List.map_cons
def Rs:=@List.forall_mem_cons
def Rt:=@Nat.le_of_lt
def Ru:=@List.append_assoc
def Rv:=@List.map_toArray
def Rw:=@List.mem_singleton
def Rx:=@List.set_cons_succ
def Ry:=@Nat.mul_one
def Rz:=@List.take_add_one
def RA:=@List.set_cons_zero
def RB:=@if_pos
def RD:=@Go.Sem.run_bind
def RF:=@Go.Sem.run_pure
def RG:=@List.map_nil
def RH:=@congrArg
def RI:=@List.eq_nil_of_length_eq_zero
def RJ:=@Go.World.setCell_alloc_past
def RL:=@decide_eq_decide
def RN:=@List.length_map
def RO:=@or_false
def RP:=@List.getElem?_append_left
def RQ:=@List.getElem?_map
def RR:=@Int.toNat_natCast
def RS:=@List.getElem?_append_right
def RT:=@Go.Lib.itoa_length_le
def RV:=@Array.length_toList
def RX:=@Go.Calls.quiet_of_same
def RY:=@Go.RowKit.Below.heap_alloc
def RZ:=@Array.getD_eq_getD_getElem?
def R1:=@Bool.and_eq_true
def R2:=@beq_iff_eq
def R3:=@Go.ByteArray.toList_eq
def R4:=@List.forall_mem_nil
def R5:=@List.flatten_cons
def R6:=@List.size_toArray
def R7:=@Array.getElem?_setIfInBounds_ne
def R8:=@List.nil_append
def R9:=@Array.getElem?_eq_getElem
def Sa:=@List.getElem?_toArray
def Sb:=@List.append_nil
def Sd:=@List.getElem?_take
def Sg:=@List.all_eq_true
def Sh:=@Nat.mul_le_mul_right
def Si:=@Array.toArray_toList
def Sj:=@List.mem_map
def Sk:=@decide_eq_true
def Sm:=@List.filterMap_cons
def Sn:=@List.cons.injEq
def Sp:=@decide_eq_false
def Sq:=@List.mem_cons_self
def Sr:=@Nat.eq_zero_or_pos
def Ss:=@Go.run_makeSlice
def Su:=@Go.IntWalk.i64_in
def Sw:=@List.take_succ_cons
def Sx:=@Nat.le_of_eq
def Sy:=@ByteArray.size_extract
def Sz:=@Option.getD_some
def SA:=@List.take_append_drop
def SB:=@List.getElem?_eq_none
def SC:=@Go.DataW.trod_int
def SD:=@List.drop_eq_getElem_cons
def SE:=@Int.le_refl
def SF:=@List.nodup_cons
def SG:=@List.mem_append
def SH:=@List.mem_of_mem_take
def SI:=@Array.getElem?_setIfInBounds_self_of_lt
def SJ:=@List.mem_map_of_mem
def SK:=@List.forall_mem_map
def SL:=@List.drop_succ_cons
def SM:=@Go.size_madeCells
def SN:=@List.mem_filterMap
def SP:=@Nat.lt_or_ge
def SQ:=@List.getElem?_drop
def SR:=@decide_eq_true_eq
def SS:=@Go.World.ownsRow_nil
def SU:=@Go.DataW.trod_struct
def SV:=@List.mem_cons_of_mem
def SX:=@List.getElem?_take_of_lt
def SY:=@List.length_set
def SZ:=@Nat.add_mul
def S0:=@Option.map_eq_some_iff
def S1:=@List.drop_of_length_le
def S3:=@List.find?_append
def S4:=@Ne.symm
def S5:=@Nat.zero_mul
def S6:=@List.drop_zero
def S7:=@List.take_zero
def S8:=@List.getElem?_of_mem
def S9:=@List.getElem_mem
def Ta:=@Int.tmod_eq_emod_of_nonneg
def Tb:=@List.length_pos_iff
def Tc:=@List.flatten_append
def Td:=@Nat.min_eq_left
def Te:=@Go.Lib.run_unsafeString_none
def Tf:=@beq_false_of_ne
def Tg:=@Go.DataW.trod_bool
def Th:=@Int.natCast_nonneg
def Ti:=@Nat.add_sub_cancel
def Tj:=@List.mem_range
def Tk:=@Go.run_underlying
def Tl:=@decide_eq_false_iff_not
def Tm:=@Go.wpList_append_own
def Tn:=@Option.some.injEq
def Tp:=@Go.DataW.trod_string
def Tq:=@Nat.add_assoc
def Ts:=@List.length_drop
def Tt:=@and_true
def Tu:=@Nat.mod_lt
def Tv:=@Go.run_append_arg_grows
def Tw:=@Go.World.cell?_alloc_lt
def Tx:=@Option.map_some
def Ty:=@Go.callsIn_wide
def Tz:=@List.getElem_of_mem
def TA:=@Go.World.news_of_block
def TC:=@decide_eq_true_iff
def TD:=@Go.World.ownsRow_made
def TE:=@Go.Lib.run_unsafeSliceData_row
def TF:=@Array.toList_setIfInBounds
def TG:=@Go.run_append_own_at
def TH:=@Bool.eq_false_iff
def TI:=@List.ext_getElem?
def TJ:=@Array.all_eq_true
def TK:=@List.mem_or_eq_of_mem_set
def TL:=@List.getElem?_eq_none_iff
def TM:=@List.mem_of_find?_eq_some
def TN:=@List.any_eq_true
def TP:=@Option.isSome_iff_exists
def TQ:=@Nat.le_add_right
def TR:=@Go.step_append_lies
def TS:=@Go.DataW.trod_array
def TT:=@Option.bind_eq_some_iff
def TU:=@Int.eq_ofNat_of_zero_le
def TV:=@Nat.mul_eq_zero
def TW:=@Go.wpList_load_row
def TX:=@Go.Oper.upon_value
def TY:=@Go.DataW.lit.injEq
def TZ:=@Array.getElem?_eq_none
def T1:=@List.contains_iff_mem
def T2:=@Array.mem_of_getElem?
def T3:=@Go.Lib.run_eql_slice_nil
def T4:=@if_true
def T5:=@List.singleton_append
def T6:=@Array.getElem?_toList
def T7:=@Nat.div_lt_of_lt_mul
def T8:=@Go.Lib.byteCells_append
def T9:=@Array.replicate_succ
def Ua:=@Array.replicate_zero
def Ub:=@List.sum_cons
def Uc:=@List.getElem?_range
def Ud:=@List.append_toArray
def Ue:=@Go.mem_ready
def Uf:=@Go.wpList_plain
def Ug:=@Nat.succ_mul
def Uh:=@Go.setRow_heap
def Ui:=@Go.cell_of_one
def Uj:=@Go.OwnFrom.and
def X:=@Go.Lib.hid
abbrev RE:=Option Go.Addr
abbrev RK:=List UInt8
abbrev RW:=Go.World
abbrev R0:=Go.Value
abbrev Se:=ByteArray
def Sf:=@Go.RowKit.Below.refl
abbrev So:=@Go.Lib.compareInt
def On{a b:Prop}(A:a)(B:b):=@Go.Lib.hid _ (And.intro A B)
def OF{a b c:Prop}(A:a)(B:b)(C:c):=@Go.Lib.hid _ (And.intro A (And.intro B C))
def OK{a b c d:Prop}(A:a)(B:b)(C:c)(D:d):=@Go.Lib.hid _ (And.intro A (And.intro B (And.intro C D)))
def ON{a b c d e:Prop}(A:a)(B:b)(C:c)(D:d)(E:e):=@Go.Lib.hid _ (And.intro A (And.intro B (And.intro C (And.intro D E))))
def OR{a b c d e f:Prop}(A:a)(B:b)(C:c)(D:d)(E:e)(F:f):=@Go.Lib.hid _ (And.intro A (And.intro B (And.intro C (And.intro D (And.intro E F)))))
def Rr{a b c d e f g h:Prop}(A:a)(B:b)(C:c)(D:d)(E:e)(F:f)(G:g)(H:h):=@Go.Lib.hid _ (And.intro A (And.intro B (And.intro C (And.intro D (And.intro E (And.intro F (And.intro G H)))))))
def RC:=@And.intro
end Go.Proofs.YtbdipimmpgijaaaGreatDoor
