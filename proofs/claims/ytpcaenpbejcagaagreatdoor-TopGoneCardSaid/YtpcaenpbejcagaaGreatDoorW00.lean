/- Lemmas for TopHalf and TopGone. Conditions: the listed variables hold what their initialisers lay. -/
import Derived.Lib.Hide
import Derived.RangeFuncNested
import Derived.RangeFuncBound
import Derived.Test.YtpcaenpbejcagaaGreatDoorProg
import Derived.Stop.Asserts
import Derived.Deep.RegionHeld3
import Derived.WalkSpells
import Derived.Shelf.RegionOpen
import Derived.OwnWalkIn
import Derived.LoopNIn
import Derived.LoopIn
import Derived.StillTailTactics
import Derived.ProofKit
import Derived.OpenShut
set_option linter.all false
set_option maxRecDepth 100000
set_option maxHeartbeats 4000000
open Bool renaming false->OD,true->OQ
open Fin renaming ofNat->Ua
open Go renaming World->OB,Calls->OJ,Value->OU,undef->Qk,TypeId->SG,Program->Vj,Addr->V5,KeepsOthers->Xv
open Go.DataW renaming TrodAll->XG
open Go.Ending renaming returned->Ov
open Go.Extern.ReflectliteType renaming typeOf->P5,method->QM
open Go.Fence renaming wide->Qs
open Go.Instr renaming index->Rf,typeAssert->Rn
open Go.IntKind renaming i64->D
open Go.Obj renaming cells->A,deferred->Ps
open Go.Op renaming equalIn->VZ
open Go.Proofs.Tryz renaming prog->Ot,func169->T1,underlying612->WD,underlying64->W8,func503->XX,func365->X4,func320->X7
open Go.RowKit renaming Below->OE,wrap64->Qr
open Go.Value renaming int->U,slice->J,pointer->Oy,tuple->OP,iface->OW,agg->O8,func->Pt,nilIface->PA,bool->QK
open Go.World renaming cell?->RI,ownsRow->V1
open Nat renaming reduceAdd->PH,reduceSub->Qb
open Option renaming some->Z,none->Y
open Or renaming inl->O4,inr->Pu
namespace Go.Proofs.YtpcaenpbejcagaaGreatDoor
abbrev G:=@Go.Lib.hid
abbrev Ow:=@Go.RowKit.Below.refl
abbrev Ox:=@Nat.le_refl
abbrev Oz:=@List.getElem?_eq_getElem
abbrev OA:=@List.getElem?_eq_some_iff
abbrev OC:=@Option.some.inj
abbrev OF:=@Array.getElem?_eq_some_iff
abbrev OH:=@List.mem_singleton
abbrev OI:=@Go.AllReadyIn.cons
abbrev OK:=@Go.IntWalk.i64_in
abbrev OL:=@List.getD_eq_getElem?_getD
abbrev OM:=@Go.bodyPost_ret
abbrev ON:=@List.mem_of_getElem?
abbrev OO:=@Go.AllReadyIn.nil
abbrev OR:=@Go.callsIn_wide
abbrev OS:=@List.length_cons
abbrev OT:=@Go.wpAnyIn_ready
abbrev OV:=@Nat.zero_le
abbrev OY:=@List.length_nil
abbrev OZ:=@Array.replicate_zero
abbrev O0:=@Array.replicate_succ
abbrev O1:=@Go.World.size_alloc
abbrev O2:=@Go.run_callFunc_extern
abbrev O3:=@if_neg
abbrev O5:=@List.append_toArray
abbrev O6:=@List.cons_append
abbrev O7:=@List.length_map
abbrev O9:=@Go.KeepsOthers.setCell
abbrev Pa:=@if_pos
abbrev Pb:=@List.push_toArray
abbrev Pc:=@List.mem_cons
abbrev Pe:=@List.size_toArray
abbrev Pf:=@List.mem_map
abbrev Pg:=@List.nil_append
abbrev Pk:=@trivial
abbrev Pl:=@congrArg
abbrev Pm:=@Nat.le_trans
abbrev Pn:=@Go.World.putObj_heap_other
abbrev Po:=@Go.Exit.noGoto_ret
abbrev Pp:=@Go.run_takeDeferred
abbrev Pr:=@Go.World.block_lt_of_cell?
abbrev Pv:=@Go.wpAnyIn_take
abbrev Pw:=@Go.rounds_succ
abbrev Py:=@List.not_mem_nil
abbrev Pz:=@Go.IntWalk.u32_in
abbrev PD:=@decide_eq_true_eq
abbrev PE:=@Go.callsIn_of_wp_marks
abbrev PF:=@Go.RowKit.Below.heap_setCell
abbrev PI:=@Go.wp_loop_rounds
abbrev PJ:=@List.getElem?_toArray
abbrev PK:=@decide_eq_false
abbrev PM:=@List.getElem?_map
abbrev PQ:=@List.mem_cons_self
abbrev PS:=@Go.results_none
abbrev PT:=@List.take_add_one
abbrev PU:=@List.mem_append
abbrev PV:=@List.length_append
abbrev PX:=@Go.World.frozen?_alloc_old
abbrev PZ:=@Go.CallsIn.inRound
abbrev P1:=@decide_eq_true
abbrev P2:=@Nat.lt_succ_self
abbrev P3:=@List.mem_cons_of_mem
abbrev P4:=@Go.run_loadVar_row
abbrev P6:=@Nat.le_succ
abbrev P8:=@Go.Value.slice.injEq
abbrev Qa:=@List.take_length
abbrev Qc:=@Nat.ne_of_lt
abbrev Qf:=@List.setIfInBounds_toArray
abbrev Qg:=@List.mem_range
abbrev Qh:=@List.getElem?_eq_none
abbrev Ql:=@List.pairwise_iff_getElem
abbrev Qn:=@List.getElem?_of_mem
abbrev Qo:=@List.length_filter_le
abbrev Qp:=@List.getElem?_cons_zero
abbrev Qt:=@Go.wpAnyIn_done
abbrev Qv:=@List.map_cons
abbrev Qw:=@Go.info_parts
abbrev Qy:=@Go.results_tmp
abbrev QA:=@Go.callsIn_of_wp
abbrev QB:=@List.getElem?_take
abbrev QD:=@Go.results_cell_row
abbrev QF:=@List.mem_filter
abbrev QG:=@Go.World.alloc_heap_new
abbrev QH:=@List.length_eq_zero_iff
abbrev QI:=@List.getElem?_cons_succ
abbrev QJ:=@List.getElem?_append_left
abbrev QL:=@or_false
abbrev QN:=@Go.KeepsFrom.refl
abbrev QQ:=@List.getElem_mem
abbrev QR:=@Bool.eq_iff_iff
abbrev QU:=@Go.World.cell?_of_block
abbrev QV:=@List.length_take
abbrev QW:=@Go.RowKit.Below.heap_alloc
abbrev QX:=@Option.map_some
abbrev QY:=@Int.toNat_natCast
abbrev QZ:=@Go.KeepsOthers.alloc
abbrev Q0:=@Nat.lt_of_lt_of_le
abbrev Q1:=@List.set_cons_succ
abbrev Q2:=@List.getElem?_append_right
abbrev Q3:=@Go.Exit.noGoto_normal
abbrev Q4:=@Go.DataW.trod_int
abbrev Q6:=@Go.IntWalk.wrap64_in
abbrev Q7:=@List.filter_cons
abbrev Q8:=@BitVec.ofInt_natCast
abbrev Rb:=@Option.toList_some
abbrev Rc:=@List.set_cons_zero
abbrev Rd:=@Go.wpIn_wide
abbrev Rg:=@Nat.lt_or_ge
abbrev Ri:=@List.range_succ
abbrev Rl:=@Go.wpList_append_own
abbrev Rp:=@List.pairwise_cons
abbrev Rq:=@Go.wpIn_label
abbrev Rr:=@Go.Sem.run_bind
abbrev Rs:=@List.take_zero
abbrev Rt:=@List.cons.injEq
abbrev Ru:=@Go.run_underlying
abbrev Ry:=@Nat.zero_add
abbrev Rz:=@Go.MapKept.run_getObj_map
abbrev RA:=@List.mem_filterMap
abbrev RB:=@List.getElem?_drop
abbrev RC:=@List.filter_append
abbrev RE:=@List.append_nil
abbrev RF:=@Option.map_eq_some_iff
abbrev RG:=@Nat.mod_eq_of_lt
abbrev RJ:=@List.take_succ_cons
abbrev RM:=@Ne.symm
abbrev RN:=@List.append_assoc
abbrev RP:=@Go.run_typeAssert_lacksB
abbrev RU:=@List.getElem?_replicate
abbrev RZ:=@Option.some.injEq
abbrev R0:=@Nat.le_of_eq
abbrev R1:=@List.take_of_length_le
abbrev R2:=@Int.tmod_eq_emod_of_nonneg
abbrev R3:=@Int.tdiv_eq_ediv_of_nonneg
abbrev R6:=@List.length_set
abbrev R9:=@Go.ownsRow_setCell_other
abbrev Sa:=@Array.getElem?_toList
abbrev Sb:=@List.all_eq_true
abbrev Sd:=@Bool.and_eq_true
abbrev Sf:=@List.map_nil
abbrev Sg:=@Go.results_tmp2
abbrev Sh:=@Go.ownFrom_below
abbrev Sk:=@List.getElem?_set
abbrev Sl:=@List.filter_congr
abbrev Sm:=@List.ext_getElem?
abbrev Sn:=@Int.eq_ofNat_of_zero_le
abbrev So:=@Int.natCast_mul
abbrev Su:=@List.drop_succ_cons
abbrev Sv:=@Int.toNat_of_nonneg
abbrev SA:=@Go.wpAnyH_take
abbrev SD:=@beq_iff_eq
abbrev SF:=@BitVec.toNat_ofNat
abbrev SN:=@List.map_append
abbrev SO:=@Go.wpIn_region_any
abbrev SP:=@Go.World.size_drew
abbrev SQ:=@List.take_succ_eq_append_getElem
abbrev SS:=@Go.belowK_b
abbrev SV:=@Go.roundsIn_succ
abbrev SW:=@Go.MapKept.run_checkKey
abbrev SX:=@Nat.mul_le_mul_left
abbrev SY:=@List.map_congr_left
abbrev SZ:=@List.flatMap_append
abbrev S0:=@List.drop_zero
abbrev S7:=@Go.RowKit.run_makeMap
abbrev S8:=@Nat.eq_zero_or_pos
abbrev Ta:=@Bool.false_eq_true
abbrev Tb:=@Array.getElem?_eq_none
abbrev Td:=@Go.MapKept.run_findKey
abbrev Th:=@List.take_append_drop
abbrev Ti:=@List.mem_append_right
abbrev Tn:=@Bool.eq_false_iff
abbrev To:=@Nat.mul_le_mul_right
abbrev Tp:=@List.mem_append_left
abbrev Tq:=@Go.run_next_ascii
abbrev Ts:=@Nat.succ_mul
abbrev Tt:=@List.any_eq_true
abbrev Tu:=@Go.ownFrom_pure
abbrev Tx:=@Go.wpIn_rangeFunc_ownG
abbrev Ty:=@Go.run_typeAssert_hasB
abbrev TH:=@Go.World.var?_cell
abbrev TK:=@Nat.add_sub_cancel
abbrev TM:=@Nat.add_sub_cancel_left
abbrev TN:=@Go.wpIn_mono
abbrev TT:=@Nat.add_zero
abbrev TU:=@List.filter_eq_nil_iff
abbrev TV:=@List.Sublist.refl
abbrev TW:=@Go.World.putObj_heap_same
abbrev T3:=@List.length_replicate
abbrev T6:=@List.mem_flatMap
abbrev T7:=@List.Nodup.length_le_of_subset
abbrev T8:=@Go.RowKit.Below.drew
abbrev T9:=@Go.MapKept.run_setObj_map
abbrev Ub:=@if_true
abbrev Uc:=@List.range_eq_range'
abbrev Ud:=@List.getElem?_set_ne
abbrev Ue:=@Go.wpList_append_own_at
abbrev Ui:=@BitVec.getLsbD_ofNat
abbrev Uj:=@Array.getElem_toList
abbrev Ul:=@Go.wpList_load_row
abbrev Um:=@Go.grownBy_putObj'
abbrev Uw:=@Array.getElem?_setIfInBounds
abbrev Ux:=@List.getElem?_range
abbrev Uy:=@List.filter_eq_self
abbrev UE:=@Option.ne_none_iff_exists'
abbrev UF:=@Go.heap_alloc_new
abbrev UL:=@List.findIdx?_eq_none_iff
abbrev UM:=@Nat.lt_trichotomy
abbrev UN:=@List.pairwise_map
abbrev UO:=@List.flatMap_cons
abbrev UP:=@Go.setRow_heap
abbrev UT:=@Function.comp_def
abbrev UW:=@List.length_filterMap_le
abbrev UX:=@Int.ofNat_inj
abbrev U5:=@List.prefix_refl
abbrev U6:=@List.nil_sublist
abbrev Vh:=@Go.IntKind.wrap_u32
abbrev Vl:=@Nat.sub_self
abbrev Vm:=@List.map_map
abbrev Vo:=@List.getElem?_set_self
abbrev Vp:=@List.getElem?_eraseIdx
abbrev Vq:=@Go.setRow_other
abbrev Vr:=@Go.run_endRound
abbrev Vs:=@Go.bodyPost_end
abbrev Vt:=@List.foldl_cons
abbrev Vx:=@List.filterMap_append
abbrev Vy:=@List.eq_nil_or_concat
abbrev Vz:=@List.countP_le_length
abbrev VE:=@Array.getElem?_modify
abbrev VG:=@List.mem_of_mem_take
abbrev VH:=@List.length_dropLast
abbrev VI:=@List.getElem_toArray
abbrev VJ:=@List.getElem?_append
abbrev VQ:=@Go.run_store
abbrev VR:=@Go.WideShapes.add_plain
abbrev VU:=@List.mem_map_of_mem
abbrev VV:=@List.filterMap_cons
abbrev VW:=@Go.wpIn_rangeFunc_ownH
abbrev V0:=@Prod.mk.injEq
abbrev V6:=@not_or
abbrev V7:=@UInt8.toNat_ofNat'
abbrev We:=@Array.ext_getElem?
abbrev Wf:=@List.findIdx?_eq_some_iff_getElem
abbrev Wk:=@if_false
abbrev Wl:=@Nat.pow_zero
abbrev Wm:=@Nat.or_lt_two_pow
abbrev Wn:=@Nat.le_succ_of_le
abbrev Wo:=@List.map_set
abbrev Wq:=@List.all_eq_false
abbrev Wr:=@Go.run_next_end
abbrev Ws:=@Go.run_append_own_at
abbrev Wu:=@Go.MapKept.heap_set
abbrev Wy:=@Option.getD_some
abbrev Wz:=@Nat.le_of_not_lt
abbrev WA:=@List.length_drop
abbrev WB:=@Go.wpIn_loop_rounds
abbrev WC:=@Go.grownBy_setCell'
abbrev WU:=@Go.Oper.semAt_plain
abbrev WV:=@Go.KeepsOthers.drew
abbrev WW:=@Nat.shiftLeft_add_eq_or_of_lt
abbrev WX:=@Nat.mul_one
abbrev WY:=@Nat.div_one
abbrev WZ:=@Go.setRow_self
abbrev W0:=@Go.RowKit.Below.trans
abbrev Xd:=@Nat.le_antisymm
abbrev Xe:=@Int.natCast_add
abbrev Xg:=@Go.Oper.upon_value
abbrev Xw:=@List.foldl_nil
abbrev Xx:=@Go.ownsRow_putObj
abbrev XI:=@List.getLast?_eq_none_iff
abbrev XS:=@Array.getElem?_eq_getElem
abbrev XU:=@Go.run_convert_bytes_string
section
open Go.RowKit Go.Lib
theorem Oj{a:Prop}(h:a):Hid a:=G h
theorem Oq{a:Prop}(h:a:=by omega):a:=h
theorem Oo{a:Prop}(h:a:=by kernel_rfl):a:=h
theorem Ok{a:Prop}(h:a:=by rfl):a:=h
theorem Om{a:Prop}(h:a:=by decide):a:=h
theorem On{a:Prop}(h:a:=by simp):a:=h
theorem Ol{a:Prop}(h:a:=by simp;omega):a:=h
abbrev _root_.Go.World.q(a:OB)(b c:Nat)(d:OU):Prop:=a.cell? ⟨b,c,Y⟩=Z d
abbrev _root_.Go.World.B(a b:OB):Prop:=OE a.heap.size a b
instance:Coe Int OU:=⟨.int D⟩
instance:Coe Unit OU:=⟨fun _=>U D 0⟩
instance:Coe Bool OU:=⟨.bool⟩
instance:Coe ByteArray OU:=⟨.string⟩
instance:Coe Nat OU:=⟨fun b=>Oy (Z ⟨b,0,Y⟩)⟩
instance:Coe OB Nat:=⟨fun w=>w.heap.size⟩
theorem _root_.Go.RowKit.Hid.o{a:Prop}(h:Hid a):a:=h
end
section
open Go.RowKit
def bi(a:OB)(b:Nat)(c:Array OU)(d:SG):Prop:=a.heap[b]?=Z (A c d (0,0))
theorem bi.cs{a:OB}{b:Nat}{c:Array OU}{d:SG}(h:bi a b c d)(e:Nat):a.cell? ⟨b,e,Y⟩=c[e]?:=by have f:a.heap[b]?=Z (A c d (0,0)):=h;simp[RI,f]
theorem bi.lt{a}{b}{c}{d}(h:bi a b c d):b<a:=(OF.1 h).1
theorem bi.cell{a:OB}{b:Nat}{c:Array OU}{d:SG}(h:bi a b c d){k:Nat}{v:OU}(e:c[k]?=Z v):a.cell? ⟨b,k,Y⟩=Z v:=by simp[RI,show a.heap[b]?=_ from h,e]
theorem bi.frozen{a}{b}{c}{d}(h:bi a b c d)(e):a.frozen? ⟨b,e,Y⟩=OD:=by simp[World.frozen?,show a.heap[b]?=_ from h]
theorem bi.new(a:OB)(b)(c):bi (a.alloc (A b c)) a b c:=QG a _
theorem bi.alloc{a}{b}{c}{d}(h:bi a b c d)(e):bi (a.alloc e) b c d:=(QW a e b h.lt).trans h
theorem bi.drew{a}{B}{b}{c}(h:bi a B b c):bi a.drew B b c:=h
theorem bi.set{a}{B}{b}{c}(h:bi a B b c)(k)(v):bi (a.setCell ⟨B,k,Y⟩ v) B (b.setIfInBounds k v) c:=by obtain⟨d,e⟩:=OF.1 h;show(a.heap.modify B _)[B]?=_;rw[XS (by rw[Array.size_modify];exact d),Array.getElem_modify_self,e];rfl
theorem bi.other{b}{a B'}{c}{d}(h:bi b a c d)(g:a≠B')(e)(f):bi (b.setCell ⟨B',e,Y⟩ f) a c d:=(PF b ⟨B',e,Y⟩ f a g).trans h
theorem bi.below{b c}{d a}{e}{t}(h:bi b a e t)(hb:OE d b c)(f:a<d):bi c a e t:=(hb.block a f).trans h
theorem bi.aa{a b:OB}{c}{d}{e}(h:bi a c d e)(hb:OE a a b):bi b c d e:=h.below hb h.lt
theorem cx{β}(a)(d)(f:β->Array OU):Own (fun s W=>bi W a (f s) d):=fun _ X _ _ b g i=>(g.block a (bi.lt b) (fun e=>by obtain⟨j,c,hc⟩:=i a e.symm;rw[b]at c;cases c;cases hc)).trans b
theorem GH{b}(g)(i)(j c k)(d:b->Nat)(l:b->List OU):Own (fun s W=>V1 W g i j (J (Z ⟨c,0,Y⟩) (d s) k) (d s) (l s)):=fun s X Y row e m n=>by refine e.kept m (Pu fun o=>?_);rcases e.2 with⟨h,_⟩|⟨q,r,t,f,_,p,_⟩;(·cases h);·simp at f;obtain⟨u,a,hc⟩:=n c (by simpa[Value.ownBlock]using o.symm);rw[f.1]at a;rw[p]at a;cases a;cases hc
theorem oI{d:OB}{j:Nat}{k:SG}{e l f:Nat}{g:List OU}(h:V1 d j k 1 (J (Z ⟨e,0,Y⟩) f l) f g)(b:Nat)(c:OU)(a:g[b]?=Z c):d.cell? ⟨e,b,Y⟩=Z c:=by rcases h.2 with⟨h,_⟩|⟨p,q,m,i,_,n,_,_,_,o⟩;(·cases h);·simp at i;obtain⟨rfl,_⟩:=i;(have:m[b]?=Z c:=by rw[<-o,QB]at a;split at a;(·simpa using a);·cases a);simp[RI,n,this]
theorem cm{a}{b e}{c}{d}{f}(g)(h:bi a b c d)(i:a.heap[e]?=Z f)(j:f.isCells=OD):bi (a.putObj e g) b c d:=(cx (β:=Unit) b d (fun _=>c)).putObj g (s:=()) h i j
theorem bi.grown{b c}{d}{a}{e}{f}(h:bi b a e f)(g:b.grownBy c d)(i:Z a≠d):bi c a e f:=(g.block a h.lt i).trans h
theorem ac{a b:OB}{c}{d:OU}(h:a.cell? c=Z d)(hb:OE a a b):b.cell? c=Z d:=(hb.cell (Pr a _ h)).trans h
theorem a3{a:OB}{b}{c:OU}(d:Obj)(h:a.cell? b=Z c):(a.alloc d).cell? b=Z c:=ac h ((Ow _ a).alloc (Ox _) d)
theorem a5{a:OB}{b}{c:OU}(h:a.cell? b=Z c):a.drew.cell? b=Z c:=h
theorem a0{a b c:OB}(h:OE a a b)(d:OE b b c):OE a a c:=h.trans (d.mono h.size)
theorem d5(a:OB)(b)(c:SG):bi (a.alloc (A b c)) (a) b c/\OE a a (a.alloc (A b c))/\(a.alloc (A b c)).heap.size=a+1:=by exact⟨bi.new a b c,(Ow _ a).alloc (Ox _) _,On⟩
theorem ew(a:OB)(b c1)(c d:SG):bi ((a.alloc (A b c)).alloc (A c1 d)) (a) b c/\bi ((a.alloc (A b c)).alloc (A c1 d)) (a+1) c1 d/\OE a a ((a.alloc (A b c)).alloc (A c1 d))/\((a.alloc (A b c)).alloc (A c1 d)).heap.size=a+1+1:=by obtain⟨h0,hb,e⟩:=d5 a b c;have f:=bi.new (a.alloc (A b c)) c1 d;rw[e]at f;exact⟨h0.alloc _,f,hb.alloc hb.size _,by rw[O1,e]⟩
theorem g7(a:OB)(b c1 c2)(c d e:SG):bi (((a.alloc (A b c)).alloc (A c1 d)).alloc (A c2 e)) (a) b c/\bi (((a.alloc (A b c)).alloc (A c1 d)).alloc (A c2 e)) (a+1) c1 d/\bi (((a.alloc (A b c)).alloc (A c1 d)).alloc (A c2 e)) (a+1+1) c2 e/\OE a a (((a.alloc (A b c)).alloc (A c1 d)).alloc (A c2 e))/\(((a.alloc (A b c)).alloc (A c1 d)).alloc (A c2 e)).heap.size=a+1+1+1:=by obtain⟨h0,i,hb,f⟩:=ew a b c1 c d;have g:=bi.new ((a.alloc (A b c)).alloc (A c1 d)) c2 e;rw[f]at g;exact⟨h0.alloc _,i.alloc _,g,hb.alloc hb.size _,by rw[O1,f]⟩
theorem c8(a:OB)(b c1 c2 c3)(c d e f:SG):bi ((((a.alloc (A b c)).alloc (A c1 d)).alloc (A c2 e)).alloc (A c3 f)) (a) b c/\bi ((((a.alloc (A b c)).alloc (A c1 d)).alloc (A c2 e)).alloc (A c3 f)) (a+1) c1 d/\bi ((((a.alloc (A b c)).alloc (A c1 d)).alloc (A c2 e)).alloc (A c3 f)) (a+1+1) c2 e/\bi ((((a.alloc (A b c)).alloc (A c1 d)).alloc (A c2 e)).alloc (A c3 f)) (a+1+1+1) c3 f/\OE a a ((((a.alloc (A b c)).alloc (A c1 d)).alloc (A c2 e)).alloc (A c3 f))/\((((a.alloc (A b c)).alloc (A c1 d)).alloc (A c2 e)).alloc (A c3 f)).heap.size=a+1+1+1+1:=by obtain⟨h0,j,k,hb,g⟩:=g7 a b c1 c2 c d e;have i:=bi.new (((a.alloc (A b c)).alloc (A c1 d)).alloc (A c2 e)) c3 f;rw[g]at i;exact⟨h0.alloc _,j.alloc _,k.alloc _,i,hb.alloc hb.size _,by rw[O1,g]⟩
theorem Mc(a:OB)(b c1 c2 c3 c4)(c d e f g:SG):bi (((((a.alloc (A b c)).alloc (A c1 d)).alloc (A c2 e)).alloc (A c3 f)).alloc (A c4 g)) (a) b c/\bi (((((a.alloc (A b c)).alloc (A c1 d)).alloc (A c2 e)).alloc (A c3 f)).alloc (A c4 g)) (a+1) c1 d/\bi (((((a.alloc (A b c)).alloc (A c1 d)).alloc (A c2 e)).alloc (A c3 f)).alloc (A c4 g)) (a+1+1) c2 e/\bi (((((a.alloc (A b c)).alloc (A c1 d)).alloc (A c2 e)).alloc (A c3 f)).alloc (A c4 g)) (a+1+1+1) c3 f/\bi (((((a.alloc (A b c)).alloc (A c1 d)).alloc (A c2 e)).alloc (A c3 f)).alloc (A c4 g)) (a+1+1+1+1) c4 g/\OE a a (((((a.alloc (A b c)).alloc (A c1 d)).alloc (A c2 e)).alloc (A c3 f)).alloc (A c4 g))/\(((((a.alloc (A b c)).alloc (A c1 d)).alloc (A c2 e)).alloc (A c3 f)).alloc (A c4 g)).heap.size=a+1+1+1+1+1:=by obtain⟨h0,k,l,m,hb,i⟩:=c8 a b c1 c2 c3 c d e f;have j:=bi.new ((((a.alloc (A b c)).alloc (A c1 d)).alloc (A c2 e)).alloc (A c3 f)) c4 g;rw[i]at j;exact⟨h0.alloc _,k.alloc _,l.alloc _,m.alloc _,j,hb.alloc hb.size _,by rw[O1,i]⟩
def NK(d:List Nat)(a b:OB):Prop:=a.heap.size<=b.heap.size/\∀c∈d,b.heap[c]?=a.heap[c]?
theorem NK.refl(b)(a):NK b a a:=⟨Ox _,fun _ _=>rfl⟩
theorem NK.trans{a}{b c d:OB}(h:NK a b c)(e:NK a c d):NK a b d:=⟨Pm h.1 e.1,fun f g=>(e.2 f g).trans (h.2 f g)⟩
theorem NK.setCell{d}(b)(c e)(f)(h:∀a∈d,a≠c):NK d b (b.setCell ⟨c,e,Y⟩ f):=⟨by simp[World.setCell],fun a g=>PF b ⟨c,e,Y⟩ f a (h a g)⟩
theorem NK.alloc{c}(a)(d:Obj)(h:∀b∈c,b<a.heap.size):NK c a (a.alloc d):=⟨On,fun b e=>QW a d b (h b e)⟩
theorem NK.putObj{S}{e}(f:∀a∈S,a<e)(b)(c)(d g)(hl:e<=c)(_:b.heap[c]?=Z d)(_:d.isCells=OD)(_:d.isWalk=OD):NK S b (b.putObj c g):=⟨On,fun a i=>Pn (by have:=f a i;omega)⟩
theorem NK.grown{c}{b d}{e}(f:b.grownBy d e)(h:∀a∈c,a<b.heap.size/\Z a≠e):NK c b d:=⟨f.size,fun a g=>f.block a (h a g).1 (h a g).2⟩
theorem NK.ah{b}{c d}(h:NK b c d){a}{e}{f}(g:a∈b)(i:bi c a e f):bi d a e f:=(h.2 a g).trans i
theorem NK.cell{b}{c d}(h:NK b c d){a}{v}(e:a.block∈b)(f:c.cell? a=Z v):d.cell? a=Z v:=(QU (h.2 _ e)).trans f
section
variable{F:Fence}{n:Nat}{P:Vj}{Q:Exit->Act->OB->Prop}{a:Act}{w:OB}
theorem f4{c:Frame}{d}{e}{b}:step P (lone (c.atR a (.code (.scope b)::d)) e w)=.next (lone (c.atR a (.code b::.inScope b::d)) e w):=step_lone_go (by simp[stepG,stepG.exec,Frame.atR])
theorem p2{b:Frame}{c}{d}{e}:step P (lone (b.atR a (.inScope e::c)) d w)=.next (lone (b.atR a c) d w):=step_lone_go (by simp[stepG,stepG.exec,Frame.atR])
theorem b8{e}(h:e.wpIn F n P (Exit.noGoto Q) a w):(Code.scope e).wpIn F n P Q a w:=by intro b k l o hb hr;have h0:(lone (b.atR a (.code (.scope e)::k)) l w).fenced P F:=fenced_calm hb hr rfl;obtain⟨p,f,g,c,d⟩:=h b (.inScope e::k) l o hb hr;cases p with|normal=>exact⟨.normal,f,g,c,.head h0 f4 (StepsIn.trans d (.one (fenced_calm hb hr rfl) p2))⟩|exit i=>(have m:exitTo i (.inScope e::k)=exitTo i k:=by simp[exitTo]);exact⟨.exit i,f,g,c,fun q j=>.head h0 f4 (d.1 q (by rw[m];exact j)),fun r j=>let⟨s,t,u⟩:=d.2 r (by rw[m];exact j);⟨s,t,.head h0 f4 u⟩⟩|goto v=>exact c.elim|ret=>exact⟨_,f,g,c,.of_steps (.one h0 f4) d⟩|panic x=>exact⟨_,f,g,c,.of_steps (.one h0 f4) d⟩|outgrown=>exact⟨_,f,g,c,.of_steps (.one h0 f4) d⟩
end
end
section
open Go.RowKit
section
variable{P:Vj}{a:Act}{w:OB}{Q:Exit->Act->OB->Prop}
theorem kz{b d}(c)(f:findLabel b c=Z d)(h:b.wp P (Exit.jump c (fun a w=>d.wp P (Exit.noGoto Q) a w) Q) a w):(Code.scope b).wp P Q a w:=wp_scope_jumps c _ (fun _ _=>0) f h (fun _ _ h=>Code.wp_mono (fun e _ _ q=>by cases e<;>first|exact q|exact q.elim) h)
end
theorem qw{b}{c}{Q}{a}{w}:Exit.jump b c Q .ret a w=Q .ret a w:=rfl
end
section
open Go.RowKit
def zh(a:Array Oper):Bool:=a.toList.all fun b=>match b.op with|.defer _=>OD|_=>OQ
theorem sn{b}(h:zh b=OQ){f:Nat}{a:Oper}(c:b[f]?=Z a):∀d,a.op≠.defer d:=by intro d e;(have g:a∈b.toList:=by rw[<-Sa]at c;exact ON c);have:=Sb.1 h a g;rw[e]at this;cases this
theorem wJ{b:Fence}{g}{c}{a:Oper}{d}{e}{i:Act->OB->Prop}{j:Exit->Act->OB->Prop}(k:Nat)(l:b.round=Y)(m:∀n,a.op≠.defer n)(h:a.wpIn b g c d e i j):a.wpIn (b.inRound k) g c d e i j:=by unfold Oper.wpIn at h⊢;rw[l,Oper.semAt_none]at h;rw[Fence.inRound_round,Oper.semAt_some k _ _ m];refine⟨h.1,?_⟩;have f:=h.2;generalize(execOp d.eval a).run c e=o at f⊢;cases o with|ok p q=>cases p<;>exact f|_=>exact f
theorem fA{g}{k}{l}{m:Region.Mode}{c}{n}{o}(q:g.round=Y)(r:zh c=OQ):∀(d)(f)(b)(e),wpAnyIn g k l m c n d f b e->wpAnyIn (g.inRound o) k l m c n d f b e:=by intro d;induction d with|zero=>exact fun _ _ _ h=>h|succ d s=>intro f b e h;refine⟨h.1,fun i t=>?_⟩;have a:=wpOpIn_mono (fun b e u=>s (f.setIfInBounds i OQ) b e u) (h.2 i t);unfold wpOpIn at a⊢;cases j:c[i]? with|none=>rw[j]at a;exact a|some v=>rw[j]at a;simp only at a⊢;by_cases p:Region.wanted v (yielded c b.tmps)=OQ;(·rw[Pa p]at a⊢;exact wJ o q (sn r j) a);·rw[O3 p]at a⊢;exact a
end
section
open Go.RowKit Go.Extern.Stop Go.Stop Go.Extern
theorem kL(b)(a):(P5 #[OW 612 b]).run Ot a=.ok (OW 304 (O8 #[Oy (Z ⟨31,612,Y⟩)])) a:=Oo
def m1:Array OU->Sem OU:=QM fun a=>do
  Extern.Rtype.noPackHeld "Comparable" a;
  pure (QK (<-typeInfo a).comparable)
theorem il(a):(m1 #[O8 #[Oy (Z ⟨31,612,Y⟩)]]).run Ot a=.ok OQ a:=Oo
theorem f7(a)(b):(Go.method 742 304 a "Comparable").run Ot b=.ok (503,a) b:=Oo
theorem nu:(Ot.info? 612).map (·.comparable)=Z OQ:=Oo
theorem nt:(Ot.info? 630).map (·.size)=Z 1:=Oo
theorem yb(b)(c)(a):(Rn (OW 612 b) c 377 OQ).run Ot a=.ok (OP #[PA,OD]) a:=RP Tryz.underlying377 Oo Oo b c a
theorem pi(b)(c)(a):(Rn (OW 612 b) c 312 OQ).run Ot a=.ok (OP #[PA,OD]) a:=RP Tryz.underlying312 Oo Oo b c a
theorem nM(b)(c)(a):(Rn (OW 612 b) c 313 OQ).run Ot a=.ok (OP #[PA,OD]) a:=RP Tryz.underlying313 Oo Oo b c a
theorem Ht(a)(b):OJ Ot 114 #[OW 612 (Oy (Z a)),OW 612 (Oy (Z a))] b fun e c=>e=Ov OQ/\b=c:=by obtain⟨i,d,f⟩:=RF.1 nu;obtain⟨j,g,k⟩:=RF.1 nt;have l:=@O2 Ot 169 _ P5 T1 Oo Oo Oo Oo;have m:=@O2 Ot 503 _ m1 XX Oo Oo Oo Oo;have n:=kL;have o:=il;have p:=f7;have q:=run_eql_iface_ptr_same b a W8 WD d f g;go_in;go_wp2;refine PI 1 ?_;rw[Pw];go_wp2;go_ret;exact⟨rfl,rfl⟩
theorem va(b c)(d f)(g i)(a)(j:b≠c)(k:a.heap[b.block]?=Z (A d g (0,0)))(hb:a.heap[c.block]?=Z (A f i (0,0))):OJ Ot 114 #[OW 612 (Oy (Z b)),OW 612 (Oy (Z c))] a fun e l=>e=Ov OD/\a=l:=by obtain⟨q,m,n⟩:=RF.1 nu;obtain⟨r,o,p⟩:=RF.1 nt;have s:=@O2 Ot 169 _ P5 T1 Oo Oo Oo Oo;have t:=@O2 Ot 503 _ m1 XX Oo Oo Oo Oo;have u:=kL;have v:=il;have w:=f7;have x:=yb;have y:=pi;have z:=nM;have B:=run_eql_iface_ptr_other a W8 WD m n o (by rw[p];decide) j k hb;go_in;go_wp2;refine PI 1 ?_;rw[Pw];go_wp2;go_ret;exact⟨rfl,rfl⟩
end
namespace Ad
open Go.RowKit Go.Lib
def eg(a:OB)(c:Nat)(b:V5):Prop:=a.cell? ⟨c,0,Y⟩=Z (OW 612 (Oy (Z b)))/\∃d e,a.heap[b.block]?=Z (A d e (0,0))
theorem eg.below{a b}{c}{d}(h:eg a c d)(hb:OE a a b):eg b c d:=by obtain⟨e,g,t,f⟩:=h;exact⟨(hb.cell (Pr a _ e)).trans e,g,t,(hb.block _ (OF.1 f).1).trans f⟩
structure dX(w:OB)(aA aS aR:V5):Prop where
 cA:eg w 2 aA
 cS:eg w 0 aS
 cR:eg w 3 aR
 bt:aA≠aS
 bw:aA≠aR
 br:aS≠aR
 w0:w.cell? ⟨11,0,Y⟩=Z (U D 4096)
 w1:w.cell? ⟨11,1,Y⟩=Z (U D 128)
 w2:w.cell? ⟨11,2,Y⟩=Z (U D 1)
 s0:w.cell? ⟨18,0,Y⟩=Z (U D 1)
 s1:w.cell? ⟨18,1,Y⟩=Z (U D 128)
 s2:w.cell? ⟨18,2,Y⟩=Z (U D 2)
 s3:w.cell? ⟨18,3,Y⟩=Z (U D 2048)
 s4:w.cell? ⟨18,4,Y⟩=Z (U D 3)
 s5:w.cell? ⟨18,5,Y⟩=Z (U D 131072)
theorem dX.below{a b}{c d e}(h:dX a c d e)(hb:OE a a b):dX b c d e:={cA:=h.cA.below hb,cS:=h.cS.below hb,cR:=h.cR.below hb,bt:=h.bt,bw:=h.bw,br:=h.br,w0:=ac h.w0 hb,w1:=ac h.w1 hb,w2:=ac h.w2 hb,s0:=ac h.s0 hb,s1:=ac h.s1 hb,s2:=ac h.s2 hb,s3:=ac h.s3 hb,s4:=ac h.s4 hb,s5:=ac h.s5 hb}
def fO(a:Int):Bool:=decide (0<=a/\a<131072)
def gw(a:Int):Bool:=decide (1<=a/\a<=131072)
theorem tU(a:Int)(b):OJ Ot 239 #[a] b fun e f=>e=Ov (fO a)/\b=f:=by by_cases c:0<=a;(·by_cases d:a<131072;(·(have hr:fO a=OQ:=by simp[fO,c,d]);rw[hr];clear hr;go_in;go_wp2;go_ret;exact⟨rfl,rfl⟩);·(have hr:fO a=OD:=by simp[fO,d]);rw[hr];clear hr;go_in;go_wp2;go_ret;exact⟨rfl,rfl⟩);·(have hr:fO a=OD:=by simp[fO,c]);rw[hr];clear hr;go_in;go_wp2;go_ret;exact⟨rfl,rfl⟩
theorem qz(a:Int)(b):OJ Ot 60 #[a] b fun e f=>e=Ov (gw a)/\b=f:=by by_cases c:1<=a;(·by_cases d:a<=131072;(·(have hr:gw a=OQ:=by simp[gw,c,d]);rw[hr];clear hr;go_in;go_wp2;go_ret;exact⟨rfl,rfl⟩);·(have hr:gw a=OD:=by simp[gw,d]);rw[hr];clear hr;go_in;go_wp2;go_ret;exact⟨rfl,rfl⟩);·(have hr:gw a=OD:=by simp[gw,c]);rw[hr];clear hr;go_in;go_wp2;go_ret;exact⟨rfl,rfl⟩
theorem d2(b:Bool)(c)(a):OJ Ot 59 #[b,OW 612 (Oy (Z c))] a fun e d=>e=Ov (Pt (.func 115) #[] #[a.heap.size,(a.heap.size+1:Nat)])/\d=(a.alloc (A #[b] 4)).alloc (A #[OW 612 (Oy (Z c))] 64):=by go_in;go_wp2;go_ret;exact⟨rfl,rfl⟩
theorem h4(b c:Nat)(a:OB)(f:a.cell? ⟨b,0,Y⟩=Z (QK OQ)):OJ Ot 115 #[b,c] a fun e d=>e=Ov PA/\a=d:=by go_in;go_wp2;go_ret;exact⟨rfl,rfl⟩
theorem qx(b c:Nat)(d:V5)(a:OB)(g:a.cell? ⟨b,0,Y⟩=Z (QK OD))(i:a.cell? ⟨c,0,Y⟩=Z (OW 612 (Oy (Z d)))):OJ Ot 115 #[b,c] a fun e f=>e=Ov (OW 612 (Oy (Z d)))/\a=f:=by go_in;go_wp2;go_ret;exact⟨rfl,rfl⟩
theorem g9(b c f:Nat)(a:OB)(i:a.q b 0 (Pt (.func 115) #[] #[Oy (Z ⟨c,0,Y⟩),Oy (Z ⟨f,0,Y⟩)]))(g:a.cell? ⟨c,0,Y⟩=Z (QK OQ)):OJ Ot 58 #[J (Z ⟨b,0,Y⟩) 1 1] a fun e d=>e=Ov ()/\a=d:=by go_in;go_wp2;refine PI 2 ?_;rw[Pw];go_wp2_with(go_at_call 115;refine(h4 _ _ _ g).mono ?_;rintro j d⟨rfl,rfl⟩);rw[Pw];go_wp2;go_ret;exact⟨rfl,rfl⟩
theorem nS(g i j:Nat)(k l b:V5)(c:OB)(a:dX c k l b)(I:c.q g 0 (Pt (.func 115) #[] #[Oy (Z ⟨i,0,Y⟩),Oy (Z ⟨j,0,Y⟩)]))(v:c.cell? ⟨i,0,Y⟩=Z (QK OD))(w:c.cell? ⟨j,0,Y⟩=Z (OW 612 (Oy (Z b)))):OJ Ot 58 #[J (Z ⟨g,0,Y⟩) 1 1] c fun e d=>e=Ov (12:Int)/\c=d:=by obtain⟨K,x,y,m⟩:=a.cA;obtain⟨L,z,B,n⟩:=a.cS;obtain⟨M,o,p,q⟩:=a.cR;have r:=a.bt;have s:=a.bw;have t:=a.br;clear a;have C:=G m;have E:=G n;have u:=G q;have N:=G r;have F:=G s;have H:=G t;clear m n q r s t;go_in;go_wp2;refine PI 1 ?_;rw[Pw];go_wp2_with(go_at_call 115;refine(qx _ _ b _ v w).mono ?_;rintro f d⟨rfl,rfl⟩);refine(va b k o x p y _ F.o.symm u.o C.o).mono ?_;rintro f d⟨rfl,rfl⟩;go_wp2_with fail;refine(va b l o z p B _ H.o.symm u.o E.o).mono ?_;rintro f d⟨rfl,rfl⟩;go_wp2_with fail;refine(Ht b _).mono ?_;rintro f d⟨rfl,rfl⟩;go_wp2_with fail;go_ret;exact⟨rfl,rfl⟩
theorem jE(b d g f i:Nat)(a:OB)(m:a.q b 0 (Pt (.func 115) #[] #[Oy (Z ⟨d,0,Y⟩),Oy (Z ⟨g,0,Y⟩)]))(n:a.q b 1 (Pt (.func 115) #[] #[Oy (Z ⟨f,0,Y⟩),Oy (Z ⟨i,0,Y⟩)]))(j:a.cell? ⟨d,0,Y⟩=Z (QK OQ))(k:a.cell? ⟨f,0,Y⟩=Z (QK OQ)):OJ Ot 58 #[J (Z ⟨b,0,Y⟩) 2 2] a fun e c=>e=Ov ()/\a=c:=by go_in;go_wp2;refine PI 3 ?_;rw[Pw];go_wp2_with fail;refine(h4 _ _ _ j).mono ?_;rintro l c⟨rfl,rfl⟩;go_wp2_with fail;rw[Pw];go_wp2_with fail;refine(h4 _ _ _ k).mono ?_;rintro l c⟨rfl,rfl⟩;go_wp2_with fail;rw[Pw];go_wp2;go_ret;exact⟨rfl,rfl⟩
theorem gy{a}{b c}(h:OE a b c)(d):OE a b (c.drewN d):=h.trans ⟨rfl,rfl,rfl,Ox _,fun _ _=>rfl⟩
theorem jt(a:Int)(b)(h:0<=a)(c:a<131072):OJ Ot 239 #[a] b fun e d=>e=Ov OQ/\b=d:=by have:=tU a b;rwa[show fO a=OQ by simp[fO,h,c]]at this
theorem iF(a:Int)(b)(h:1<=a)(c:a<=131072):OJ Ot 60 #[a] b fun e d=>e=Ov OQ/\b=d:=by have:=qz a b;rwa[show gw a=OQ by simp[gw,h,c]]at this
theorem ky(b:Bool)(c:V5)(a:OB):((((a.alloc (A #[QK b] 4)).alloc (A #[OW 612 (Oy (Z c))] 64)).alloc (A #[Pt (.func 115) #[] #[Oy (Z ⟨a.heap.size,0,Y⟩),Oy (Z ⟨a.heap.size+1,0,Y⟩)]] 136)).drew).cell? ⟨a.heap.size+1+1,0,Y⟩=Z (Pt (.func 115) #[] #[Oy (Z ⟨a.heap.size,0,Y⟩),Oy (Z ⟨a.heap.size+1,0,Y⟩)])/\((((a.alloc (A #[QK b] 4)).alloc (A #[OW 612 (Oy (Z c))] 64)).alloc (A #[Pt (.func 115) #[] #[Oy (Z ⟨a.heap.size,0,Y⟩),Oy (Z ⟨a.heap.size+1,0,Y⟩)]] 136)).drew).cell? ⟨a.heap.size,0,Y⟩=Z (QK b)/\((((a.alloc (A #[QK b] 4)).alloc (A #[OW 612 (Oy (Z c))] 64)).alloc (A #[Pt (.func 115) #[] #[Oy (Z ⟨a.heap.size,0,Y⟩),Oy (Z ⟨a.heap.size+1,0,Y⟩)]] 136)).drew).cell? ⟨a.heap.size+1,0,Y⟩=Z (OW 612 (Oy (Z c)))/\OE a.heap.size a ((((a.alloc (A #[QK b] 4)).alloc (A #[OW 612 (Oy (Z c))] 64)).alloc (A #[Pt (.func 115) #[] #[Oy (Z ⟨a.heap.size,0,Y⟩),Oy (Z ⟨a.heap.size+1,0,Y⟩)]] 136)).drew):=by refine⟨a5 ?_,a5 (a3 _ (a3 _ ((bi.new a _ _).cell rfl))),a5 (a3 _ ?_),((((Ow _ a).alloc (Ox _) _).alloc On _).alloc Ol _).drew⟩;(·have h:=(bi.new ((a.alloc (A #[b] 4)).alloc (A #[OW 612 (Oy (Z c))] 64)) #[Pt (.func 115) #[] #[a,(a+1:Nat)]] 136).cell (k:=0) rfl;rwa[O1,O1]at h);·have h:=(bi.new (a.alloc (A #[b] 4)) #[OW 612 (Oy (Z c))] 64).cell (k:=0) rfl;rwa[O1]at h
theorem na(b)(a:OB):OJ Ot 58 #[J (Z ⟨a+1+1,0,Y⟩) 1 1] ((((a.alloc (A #[OQ] 4)).alloc (A #[OW 612 (Oy (Z b))] 64)).alloc (A #[Pt (.func 115) #[] #[a,(a+1:Nat)]] 136)).drew) fun e c=>e=Ov ()/\(((a.alloc (A #[OQ] 4)).alloc (A #[OW 612 (Oy (Z b))] 64)).alloc (A #[Pt (.func 115) #[] #[a,(a+1:Nat)]] 136)).drew=c:=g9 _ _ _ _ (ky OQ b a).1 (ky OQ b a).2.1
theorem gx(b:Bool)(c:V5)(a:OB):(((a.alloc (A #[QK b] 4)).alloc (A #[OW 612 (Oy (Z c))] 64)).alloc (A #[Pt (.func 115) #[] #[Oy (Z ⟨a.heap.size,0,Y⟩),Oy (Z ⟨a.heap.size+1,0,Y⟩)]] 136)).cell? ⟨a.heap.size+1+1,0,Y⟩=Z (Pt (.func 115) #[] #[Oy (Z ⟨a.heap.size,0,Y⟩),Oy (Z ⟨a.heap.size+1,0,Y⟩)])/\(((a.alloc (A #[QK b] 4)).alloc (A #[OW 612 (Oy (Z c))] 64)).alloc (A #[Pt (.func 115) #[] #[Oy (Z ⟨a.heap.size,0,Y⟩),Oy (Z ⟨a.heap.size+1,0,Y⟩)]] 136)).cell? ⟨a.heap.size,0,Y⟩=Z (QK b)/\(((a.alloc (A #[QK b] 4)).alloc (A #[OW 612 (Oy (Z c))] 64)).alloc (A #[Pt (.func 115) #[] #[Oy (Z ⟨a.heap.size,0,Y⟩),Oy (Z ⟨a.heap.size+1,0,Y⟩)]] 136)).cell? ⟨a.heap.size+1,0,Y⟩=Z (OW 612 (Oy (Z c)))/\OE a.heap.size a (((a.alloc (A #[QK b] 4)).alloc (A #[OW 612 (Oy (Z c))] 64)).alloc (A #[Pt (.func 115) #[] #[Oy (Z ⟨a.heap.size,0,Y⟩),Oy (Z ⟨a.heap.size+1,0,Y⟩)]] 136)):=by refine⟨?_,a3 _ (a3 _ ((bi.new a _ _).cell rfl)),a3 _ ?_,(((Ow _ a).alloc (Ox _) _).alloc On _).alloc Ol _⟩;(·have h:=(bi.new ((a.alloc (A #[b] 4)).alloc (A #[OW 612 (Oy (Z c))] 64)) #[Pt (.func 115) #[] #[a,(a+1:Nat)]] 136).cell (k:=0) rfl;rwa[O1,O1]at h);·have h:=(bi.new (a.alloc (A #[b] 4)) #[OW 612 (Oy (Z c))] 64).cell (k:=0) rfl;rwa[O1]at h
theorem CB(b)(a:OB):OJ Ot 58 #[J (Z ⟨a+1+1,0,Y⟩) 1 1] (((a.alloc (A #[OQ] 4)).alloc (A #[OW 612 (Oy (Z b))] 64)).alloc (A #[Pt (.func 115) #[] #[a,(a+1:Nat)]] 136)) fun e c=>e=Ov ()/\((a.alloc (A #[OQ] 4)).alloc (A #[OW 612 (Oy (Z b))] 64)).alloc (A #[Pt (.func 115) #[] #[a,(a+1:Nat)]] 136)=c:=g9 _ _ _ _ (gx OQ b a).1 (gx OQ b a).2.1
theorem rI(a)(c d b)(f:dX a c d b):OJ Ot 58 #[J (Z ⟨a+1+1,0,Y⟩) 1 1] (((a.alloc (A #[OD] 4)).alloc (A #[OW 612 (Oy (Z b))] 64)).alloc (A #[Pt (.func 115) #[] #[a,(a+1:Nat)]] 136)) fun e g=>e=Ov (12:Int)/\((a.alloc (A #[OD] 4)).alloc (A #[OW 612 (Oy (Z b))] 64)).alloc (A #[Pt (.func 115) #[] #[a,(a+1:Nat)]] 136)=g:=nS _ _ _ c d b _ (f.below (gx OD b a).2.2.2) (gx OD b a).1 (gx OD b a).2.1 (gx OD b a).2.2.1
end Ad
namespace Ad
open Go.RowKit Go.Lib Go.Shelf
attribute[local go_sem]Oper.semAt_some
open Go.RowKit Go.Lib
abbrev me(a:Int×Int):Array OU:=#[U D a.1,U D a.2]
def kx(a:Int):List (Int×Int):=[(Qr (a.tdiv 4096),a.tmod 4096),(Qr ((a.tmod 4096).tdiv 128),a.tmod 128),(Qr (a.tmod 128),0)]
theorem md(e)(I:1<=e)(f)(b:Int)(a)(n o p)(d:dX a n o p)(q:a.q f 0 b):SeqStopsA Qs e Ot 365 #[f] me (fun r=>r=kx b) (fun pre=>pre<+:kx b) 3 a:=fun K L M W c N O hY h0=>by have s:=ac q c;have t:=ac d.w0 c;have u:=ac d.w1 c;have v:=ac d.w2 c;have P:∀a,(Rf 365 (O8 #[(4096:Int),(128:Int),(1:Int)]) ()).run Ot a=.ok (4096:Int) a:=fun _=>Oo;have Q:∀a,(Rf 365 (O8 #[(4096:Int),(128:Int),(1:Int)]) (1:Int)).run Ot a=.ok (128:Int) a:=fun _=>Oo;have R:∀a,(Rf 365 (O8 #[(4096:Int),(128:Int),(1:Int)]) (2:Int)).run Ot a=.ok (1:Int) a:=fun _=>Oo;refine QA X4 rfl Pk ?_ rfl;simp only[Tryz.ntmps365,Pe,OS,OY,PH,Qb,O0,OZ,Pb,O5,Pg,O6];gi_wp2;refine WB 4 ?_;rw[SV];obtain⟨S,T,V,X,g,i⟩:=hY [] (Qr (b.tdiv 4096),b.tmod 4096) W h0 On;dsimp only[me]at g;gi_wp2;refine i.mono ?_;rintro j w(⟨rfl,k,_⟩|⟨rfl,x⟩);(·clear g i s h0 t u v;obtain⟨f2,t2,a2,b2,l,m⟩:=hY _ (Qr ((b.tmod 4096).tdiv 128),b.tmod 128) w k On;dsimp only[me]at l;gi_wp2;rw[SV];gi_wp2;refine m.mono ?_;rintro j y(⟨rfl,z,_⟩|⟨rfl,B⟩);(·clear l m k;obtain⟨f3,t3,a3,b3,C,E⟩:=hY _ (Qr (b.tmod 128),0) y z On;dsimp only[me]at C;gi_wp2;rw[SV];gi_wp2;refine E.mono ?_;rintro j W3(⟨rfl,F,_⟩|⟨rfl,H⟩);(·gi_wp2;rw[SV];gi_wp2;go_end0;exact⟨⟨_,rfl⟩,O4 ⟨_,rfl,F⟩⟩);·gi_wp2;refine OM (PS rfl _ _ _) rfl ?_;exact⟨⟨_,rfl⟩,Pu ⟨_,⟨[],rfl⟩,H⟩⟩);·gi_wp2;refine OM (PS rfl _ _ _) rfl ?_;exact⟨⟨_,rfl⟩,Pu ⟨_,⟨[_],rfl⟩,B⟩⟩);·gi_wp2;refine OM (PS rfl _ _ _) rfl ?_;exact⟨⟨_,rfl⟩,Pu ⟨_,⟨[_,_],rfl⟩,x⟩⟩
def iY(a:List (Int×Int)):Array OU:=#[U D ((a[0]?.map (·.1)).getD 0),U D ((a[1]?.map (·.1)).getD 0),U D ((a[2]?.map (·.1)).getD 0)]
def dY(a:Int):Array OU:=#[U D (Qr (a.tdiv 4096)),U D (Qr ((a.tmod 4096).tdiv 128)),U D (Qr (a.tmod 128))]
theorem pW a(c)(d:c<+:kx a)(e:Int)(b:c.getLast?=Z (e,0)):iY c=dY a:=by
 obtain⟨g,hr⟩:=d;rcases c with _|⟨i,_|⟨j,_|⟨k,l⟩⟩⟩;·simp at b
 ·simp only[kx,O6,Pg,Rt]at hr;obtain⟨rfl,_⟩:=hr;simp at b;(have f:a.tmod 128=0:=by rw[<-Int.tmod_tmod_of_dvd a (Om:(128:Int)∣4096),b.2];rfl);simp[iY,dY,b.2,f,Qr]
 ·simp only[kx,O6,Pg,Rt]at hr;obtain⟨rfl,rfl,_⟩:=hr;simp at b;simp[iY,dY,b.2,Qr]
 ·simp only[kx,O6,Rt]at hr;obtain⟨rfl,rfl,rfl,_⟩:=hr;rfl
theorem pS(b:Int)(a):OJ Ot 310 #[b] a fun e c=>e=Ov (Pt (.func 365) #[] #[a])/\c=a.alloc (A #[b] 3):=by go_in;go_wp2;go_ret;exact⟨rfl,rfl⟩
theorem wB(b:Int)(a:OB)(E F H)(R:dX a E F H):OJ Ot 240 #[b] a fun e I=>e=Ov (O8 (dY b))/\OE a a I:=by
 refine(OR (n:=9)).1 ?_;refine PE Tryz.func240 rfl Pk ?_ rfl;simp only[Tryz.ntmps240,Pe,OS,OY,PH,Qb,O0,OZ,Pb,O5,Pg,O6];gi_wp2_with fail;refine b8 ?_;gi_wp2_with fail;refine Rq ?_;gi_wp2_with(refine⟨Pk,?_⟩;gi_at_call 310;refine(OR.2 (pS _ _)).mono ?_;rintro ab I⟨rfl,rfl⟩);have L:bi ((((a.alloc (A #[(),(),()] 366)).alloc (A #[(),(),()] 366)).alloc (A #[()] 3)).alloc (A #[b] 3)) a #[(),(),()] 366:=(((bi.new a _ _).alloc _).alloc _).alloc _;have M:bi ((((a.alloc (A #[(),(),()] 366)).alloc (A #[(),(),()] 366)).alloc (A #[()] 3)).alloc (A #[b] 3)) (a+1) #[(),(),()] 366:=by have h:=((bi.new (a.alloc (A #[(),(),()] 366)) #[(),(),()] 366).alloc (A #[()] 3)).alloc (A #[b] 3);rw[O1]at h;exact h
 have N:bi ((((a.alloc (A #[(),(),()] 366)).alloc (A #[(),(),()] 366)).alloc (A #[()] 3)).alloc (A #[b] 3)) (a+1+1) #[()] 3:=by have h:=(bi.new ((a.alloc (A #[(),(),()] 366)).alloc (A #[(),(),()] 366)) #[()] 3).alloc (A #[b] 3);rw[O1,O1]at h;exact h
 have O:bi ((((a.alloc (A #[(),(),()] 366)).alloc (A #[(),(),()] 366)).alloc (A #[()] 3)).alloc (A #[b] 3)) (a+1+1+1) #[b] 3:=by have h:=bi.new (((a.alloc (A #[(),(),()] 366)).alloc (A #[(),(),()] 366)).alloc (A #[()] 3)) #[b] 3;rw[O1,O1,O1]at h;exact h
 have y:a.B ((((a.alloc (A #[(),(),()] 366)).alloc (A #[(),U D 0,U D 0] 366)).alloc (A #[U D 0] 3)).alloc (A #[U D b] 3)):=((((Ow _ a).alloc (Ox _) _).alloc On _).alloc Ol _).alloc Ol _;have P:=R.below y;have p:((((a.alloc (A #[U D 0,U D 0,U D 0] 366)).alloc (A #[U D 0,U D 0,U D 0] 366)).alloc (A #[U D 0] 3)).alloc (A #[U D b] 3)).heap.size=a.heap.size+4:=On;generalize((((a.alloc (A #[U D 0,U D 0,U D 0] 366)).alloc (A #[U D 0,U D 0,U D 0] 366)).alloc (A #[U D 0] 3)).alloc (A #[U D b] 3))=W0 at L M N O y P p⊢;refine Tx rfl Oq (gf:=365) (lb:=#[(a+1+1+1:Nat)]) rfl Pk (enters_of X4 Oo rfl) (seqStopsA_iff.1 (md _ Oq _ b _ E F H P (O.cell rfl))) (fun h k=>walksK_t h k) walksK_b (Ow _ _) (fun _=>rfl) (fun j c=>bi c a.heap.size #[U D 0,U D 0,U D 0] 366/\bi c (a.heap.size+1) (iY j) 366/\bi c (a.heap.size+1+1) #[U D j.length] 3/\a.B c) (fun z j c=>(z=.exit 0/\∃l,j.getLast?=Z (l,0))/\bi c a.heap.size #[U D 0,U D 0,U D 0] 366/\bi c (a.heap.size+1) (iY j) 366/\a.B c) (((cx _ _ _).from _).and (((cx _ _ _).from _).and (((cx _ _ _).from _).and (Sh (Ox _) (by have:=p;omega))))) (fun z=>(Tu _ _).and (((cx _ _ _).from _).and (((cx _ _ _).from _).and (Sh (Ox _) (by have:=p;omega))))) ⟨L,M,N,y⟩ (fun x=>{tmps:=#[U D b,Qk,Oy (Z ⟨a.heap.size,0,Y⟩),Oy (Z ⟨a.heap.size+1,0,Y⟩),Oy (Z ⟨a.heap.size+1+1,0,Y⟩),U D x.1,U D x.2,U D b,Pt (.func 365) #[] #[Oy (Z ⟨a.heap.size+1+1+1,0,Y⟩)],U D x.1,U D x.2,Qk,Qk,Qk,Qk,Qk,Qk,Qk,Qk],defers:=[]}) ?assign ?body ?done ?stop;case assign=>intro S x c K q;gi_wp2;exact q
 case body=>rintro S j⟨l,o⟩c⟨h0,d,g,i⟩T;rcases j with _|⟨x0,_|⟨x1,_|⟨x2,rr⟩⟩⟩;(·have u:c.q (a.heap.size+1+1) 0 (U D 0):=g.cell rfl;have v:=g.frozen 0;have c1:c.q (a.heap.size+1) 0 (U D 0):=d.cell rfl;have w:=d.frozen 0;have f:∀r s,Xv c ((c.setCell ⟨a+1,0,Y⟩ r).setCell ⟨a+1+1,0,Y⟩ s):=fun _ _=>(O9 _ _ _).trans (O9 _ _ _);by_cases hr:(o==0)=OQ;(·gi_wp2;exact⟨(f _ _).from _,⟨rfl,l,by simp only[SD]at hr;subst hr;rfl⟩,(h0.other Oq _ _).other Oq _ _,(d.set 0 _).other Oq _ _,(i.setCell On _).setCell Ol _⟩);·(have Q:(o==0)=OD:=by simpa using hr);gi_wp2;exact⟨(f _ _).from _,(f _ _).walks,(h0.other Oq _ _).other Oq _ _,(d.set 0 _).other Oq _ _,(g.other Oq _ _).set 0 _,(i.setCell On _).setCell Ol _⟩);(·have u:c.q (a+1+1) 0 (1:Int):=g.cell rfl;have v:=g.frozen 0;have c1:c.q (a+1) 1 ():=d.cell rfl;have w:=d.frozen 1;have f:∀r s,Xv c ((c.setCell ⟨a+1,1,Y⟩ r).setCell ⟨a+1+1,0,Y⟩ s):=fun _ _=>(O9 _ _ _).trans (O9 _ _ _);by_cases hr:(o==0)=OQ;(·gi_wp2;exact⟨(f _ _).from _,⟨rfl,l,by simp only[SD]at hr;subst hr;rfl⟩,(h0.other Oq _ _).other Oq _ _,(d.set 1 _).other Oq _ _,(i.setCell On _).setCell Ol _⟩);·(have Q:(o==0)=OD:=by simpa using hr);gi_wp2;exact⟨(f _ _).from _,(f _ _).walks,(h0.other Oq _ _).other Oq _ _,(d.set 1 _).other Oq _ _,(g.other Oq _ _).set 0 _,(i.setCell On _).setCell Ol _⟩);(·have u:c.q (a+1+1) 0 (2:Int):=g.cell rfl;have v:=g.frozen 0;have c1:c.q (a+1) 2 ():=d.cell rfl;have w:=d.frozen 2;have f:∀r s,Xv c ((c.setCell ⟨a+1,2,Y⟩ r).setCell ⟨a+1+1,0,Y⟩ s):=fun _ _=>(O9 _ _ _).trans (O9 _ _ _);by_cases hr:(o==0)=OQ;(·gi_wp2;exact⟨(f _ _).from _,⟨rfl,l,by simp only[SD]at hr;subst hr;rfl⟩,(h0.other Oq _ _).other Oq _ _,(d.set 2 _).other Oq _ _,(i.setCell On _).setCell Ol _⟩);·(have Q:(o==0)=OD:=by simpa using hr);gi_wp2;exact⟨(f _ _).from _,(f _ _).walks,(h0.other Oq _ _).other Oq _ _,(d.set 2 _).other Oq _ _,(g.other Oq _ _).set 0 _,(i.setCell On _).setCell Ol _⟩);·simp at T;omega
 case done=>rintro t xs c B rfl⟨h0,C,g,i⟩q;have d:bi c (a+1) (dY b) 366:=C;have u:c.q (a+1) 0 (Qr (b.tdiv 4096)):=d.cell rfl;have c1:c.q (a+1) 1 (Qr ((b.tmod 4096).tdiv 128)):=d.cell rfl;have c2:c.q (a+1) 2 (Qr (b.tmod 128)):=d.cell rfl;have V:c.q a 0 ():=h0.cell rfl;have W:c.q a 1 ():=h0.cell rfl;have X:c.q a 2 ():=h0.cell rfl;have v:=h0.frozen 0;have w:=h0.frozen 1;have f2:=h0.frozen 2;gi_wp2;rw[Po];have m:=(((O9 c ⟨a,0,Y⟩ (Qr (b.tdiv 4096))).trans (O9 _ ⟨a,1,Y⟩ (Qr ((b.tmod 4096).tdiv 128)))).trans (O9 _ ⟨a,2,Y⟩ (Qr (b.tmod 128)))).same t _ q rfl;have n:=cm (Ps Y) (((h0.set 0 (Qr (b.tdiv 4096))).set 1 (Qr ((b.tmod 4096).tdiv 128))).set 2 (Qr (b.tmod 128))) m rfl;refine⟨On,O4 ⟨_,_,rfl,Pp m,?_⟩⟩;refine⟨O8 (dY b),?_,rfl,?_⟩;(·simp[results,Tryz.f240,go_sem,(n.cell (k:=0) rfl),(n.cell (k:=1) rfl),(n.cell (k:=2) rfl),dY]);·skip;exact(((i.setCell On (Qr (b.tdiv 4096))).setCell On (Qr ((b.tmod 4096).tdiv 128))).setCell On (Qr (b.tmod 128))).trans (SS (by have:=p;omega) _ t _ _ B m rfl rfl)
 case stop=>rintro t z j c B aa⟨⟨rfl,l,hq⟩,h0,C,i⟩q;have d:bi c (a+1) (dY b) 366:=pW b j aa l hq▸C;have u:c.q (a+1) 0 (Qr (b.tdiv 4096)):=d.cell rfl;have c1:c.q (a+1) 1 (Qr ((b.tmod 4096).tdiv 128)):=d.cell rfl;have c2:c.q (a+1) 2 (Qr (b.tmod 128)):=d.cell rfl;have V:c.q a 0 ():=h0.cell rfl;have W:c.q a 1 ():=h0.cell rfl;have X:c.q a 2 ():=h0.cell rfl;have v:=h0.frozen 0;have w:=h0.frozen 1;have f2:=h0.frozen 2;gi_wp2;rw[Po];have m:=(((O9 c ⟨a,0,Y⟩ (Qr (b.tdiv 4096))).trans (O9 _ ⟨a,1,Y⟩ (Qr ((b.tmod 4096).tdiv 128)))).trans (O9 _ ⟨a,2,Y⟩ (Qr (b.tmod 128)))).same t _ q rfl;have n:=cm (Ps Y) (((h0.set 0 (Qr (b.tdiv 4096))).set 1 (Qr ((b.tmod 4096).tdiv 128))).set 2 (Qr (b.tmod 128))) m rfl;refine⟨On,O4 ⟨_,_,rfl,Pp m,?_⟩⟩;refine⟨O8 (dY b),?_,rfl,?_⟩;(·simp[results,Tryz.f240,go_sem,(n.cell (k:=0) rfl),(n.cell (k:=1) rfl),(n.cell (k:=2) rfl),dY]);·skip;exact(((i.setCell On (Qr (b.tdiv 4096))).setCell On (Qr ((b.tmod 4096).tdiv 128))).setCell On (Qr (b.tmod 128))).trans (SS (by have:=p;omega) _ t _ _ B m rfl rfl)
theorem qy(a:Int)(h:0<=a)(b:a<131072):dY a=#[U D (a/4096),U D (a%4096/128),U D (a%128)]:=by rw[dY,(show a.tdiv 4096=a/4096 from R3 h),(show a.tmod 4096=a%4096 from R2 h),(show a.tmod 128=a%128 from R2 h),(show(a%4096).tdiv 128=a%4096/128 from R3 Oq),Q6 _ ⟨Oq,Oq⟩,Q6 _ ⟨Oq,Oq⟩,Q6 _ ⟨Oq,Oq⟩]
end Ad
namespace Ad
open Go.RowKit Go.Lib
theorem mh(c d:Bool)(b:V5)(a:OB):((((((a.alloc (A #[QK c] 4)).alloc (A #[OW 612 (Oy (Z b))] 64)).alloc (A #[QK d] 4)).alloc (A #[OW 612 (Oy (Z b))] 64)).alloc (A #[Pt (.func 115) #[] #[Oy (Z ⟨a.heap.size,0,Y⟩),Oy (Z ⟨a.heap.size+1,0,Y⟩)],Pt (.func 115) #[] #[Oy (Z ⟨a.heap.size+1+1,0,Y⟩),Oy (Z ⟨a.heap.size+1+1+1,0,Y⟩)]] 136)).drew).cell? ⟨a.heap.size+1+1+1+1,0,Y⟩=Z (Pt (.func 115) #[] #[Oy (Z ⟨a.heap.size,0,Y⟩),Oy (Z ⟨a.heap.size+1,0,Y⟩)])/\((((((a.alloc (A #[QK c] 4)).alloc (A #[OW 612 (Oy (Z b))] 64)).alloc (A #[QK d] 4)).alloc (A #[OW 612 (Oy (Z b))] 64)).alloc (A #[Pt (.func 115) #[] #[Oy (Z ⟨a.heap.size,0,Y⟩),Oy (Z ⟨a.heap.size+1,0,Y⟩)],Pt (.func 115) #[] #[Oy (Z ⟨a.heap.size+1+1,0,Y⟩),Oy (Z ⟨a.heap.size+1+1+1,0,Y⟩)]] 136)).drew).cell? ⟨a.heap.size+1+1+1+1,1,Y⟩=Z (Pt (.func 115) #[] #[Oy (Z ⟨a.heap.size+1+1,0,Y⟩),Oy (Z ⟨a.heap.size+1+1+1,0,Y⟩)])/\((((((a.alloc (A #[QK c] 4)).alloc (A #[OW 612 (Oy (Z b))] 64)).alloc (A #[QK d] 4)).alloc (A #[OW 612 (Oy (Z b))] 64)).alloc (A #[Pt (.func 115) #[] #[Oy (Z ⟨a.heap.size,0,Y⟩),Oy (Z ⟨a.heap.size+1,0,Y⟩)],Pt (.func 115) #[] #[Oy (Z ⟨a.heap.size+1+1,0,Y⟩),Oy (Z ⟨a.heap.size+1+1+1,0,Y⟩)]] 136)).drew).cell? ⟨a.heap.size,0,Y⟩=Z (QK c)/\((((((a.alloc (A #[QK c] 4)).alloc (A #[OW 612 (Oy (Z b))] 64)).alloc (A #[QK d] 4)).alloc (A #[OW 612 (Oy (Z b))] 64)).alloc (A #[Pt (.func 115) #[] #[Oy (Z ⟨a.heap.size,0,Y⟩),Oy (Z ⟨a.heap.size+1,0,Y⟩)],Pt (.func 115) #[] #[Oy (Z ⟨a.heap.size+1+1,0,Y⟩),Oy (Z ⟨a.heap.size+1+1+1,0,Y⟩)]] 136)).drew).cell? ⟨a.heap.size+1,0,Y⟩=Z (OW 612 (Oy (Z b)))/\((((((a.alloc (A #[QK c] 4)).alloc (A #[OW 612 (Oy (Z b))] 64)).alloc (A #[QK d] 4)).alloc (A #[OW 612 (Oy (Z b))] 64)).alloc (A #[Pt (.func 115) #[] #[Oy (Z ⟨a.heap.size,0,Y⟩),Oy (Z ⟨a.heap.size+1,0,Y⟩)],Pt (.func 115) #[] #[Oy (Z ⟨a.heap.size+1+1,0,Y⟩),Oy (Z ⟨a.heap.size+1+1+1,0,Y⟩)]] 136)).drew).cell? ⟨a.heap.size+1+1,0,Y⟩=Z (QK d)/\((((((a.alloc (A #[QK c] 4)).alloc (A #[OW 612 (Oy (Z b))] 64)).alloc (A #[QK d] 4)).alloc (A #[OW 612 (Oy (Z b))] 64)).alloc (A #[Pt (.func 115) #[] #[Oy (Z ⟨a.heap.size,0,Y⟩),Oy (Z ⟨a.heap.size+1,0,Y⟩)],Pt (.func 115) #[] #[Oy (Z ⟨a.heap.size+1+1,0,Y⟩),Oy (Z ⟨a.heap.size+1+1+1,0,Y⟩)]] 136)).drew).cell? ⟨a.heap.size+1+1+1,0,Y⟩=Z (OW 612 (Oy (Z b)))/\OE a.heap.size a ((((((a.alloc (A #[QK c] 4)).alloc (A #[OW 612 (Oy (Z b))] 64)).alloc (A #[QK d] 4)).alloc (A #[OW 612 (Oy (Z b))] 64)).alloc (A #[Pt (.func 115) #[] #[Oy (Z ⟨a.heap.size,0,Y⟩),Oy (Z ⟨a.heap.size+1,0,Y⟩)],Pt (.func 115) #[] #[Oy (Z ⟨a.heap.size+1+1,0,Y⟩),Oy (Z ⟨a.heap.size+1+1+1,0,Y⟩)]] 136)).drew):=by
 generalize m:a.alloc (A #[c] 4)=i;generalize j:i.alloc (A #[OW 612 (Oy (Z b))] 64)=k;generalize g:k.alloc (A #[d] 4)=l;generalize f:l.alloc (A #[OW 612 (Oy (Z b))] 64)=e;have n:i.heap.size=a.heap.size+1:=by rw[<-m];simp
 have o:k=a.heap.size+1+1:=by rw[<-j];simp[n]
 have p:l.heap.size=a.heap.size+1+1+1:=by rw[<-g];simp[o]
 have q:e.heap.size=a.heap.size+1+1+1+1:=by rw[<-f];simp[p]
 have c1:i.q a 0 c:=by rw[<-m];exact(bi.new a _ _).cell rfl
 have c2:k.q (a+1) 0 (OW 612 (Oy (Z b))):=by rw[<-j,<-n];exact(bi.new i _ _).cell rfl
 have c3:l.q (a+1+1) 0 d:=by rw[<-g,<-o];exact(bi.new k _ _).cell rfl
 have c4:e.cell? ⟨a.heap.size+1+1+1,0,Y⟩=Z (OW 612 (Oy (Z b))):=by rw[<-f,<-p];exact(bi.new l _ _).cell rfl
 have hb:a.B e:=by rw[<-f,<-g,<-j,<-m];exact((((Ow _ a).alloc (Ox _) _).alloc On _).alloc Ol _).alloc Ol _
 have r:e.q a 0 c:=by rw[<-f,<-g,<-j];exact a3 _ (a3 _ (a3 _ c1))
 have s:e.q (a+1) 0 (OW 612 (Oy (Z b))):=by rw[<-f,<-g];exact a3 _ (a3 _ c2)
 have t:e.cell? ⟨a.heap.size+1+1,0,Y⟩=Z (QK d):=by rw[<-f];exact a3 _ c3
 refine⟨a5 ?_,a5 ?_,a5 (a3 _ r),a5 (a3 _ s),a5 (a3 _ t),a5 (a3 _ c4),(hb.alloc Oq _).drew⟩;·rw[<-q];exact(bi.new e _ _).cell rfl
 ·rw[<-q];exact(bi.new e _ _).cell rfl
theorem Cz(b)(a:OB):OJ Ot 58 #[J (Z ⟨a+1+1+1+1,0,Y⟩) 2 2] ((((((a.alloc (A #[OQ] 4)).alloc (A #[OW 612 (Oy (Z b))] 64)).alloc (A #[OQ] 4)).alloc (A #[OW 612 (Oy (Z b))] 64)).alloc (A #[Pt (.func 115) #[] #[a,(a+1:Nat)],Pt (.func 115) #[] #[(a+1+1:Nat),(a+1+1+1:Nat)]] 136)).drew) fun e c=>e=Ov ()/\(((((a.alloc (A #[OQ] 4)).alloc (A #[OW 612 (Oy (Z b))] 64)).alloc (A #[OQ] 4)).alloc (A #[OW 612 (Oy (Z b))] 64)).alloc (A #[Pt (.func 115) #[] #[a,(a+1:Nat)],Pt (.func 115) #[] #[(a+1+1:Nat),(a+1+1+1:Nat)]] 136)).drew=c:=jE _ _ _ _ _ _ (mh OQ OQ b a).1 (mh OQ OQ b a).2.1 (mh OQ OQ b a).2.2.1 (mh OQ OQ b a).2.2.2.2.1
theorem FF(a):(sizeOf 3).run Ot a=.ok 1 a:=Oo
theorem IC(i)(a b c d e f:Int)(g):(VZ (i+1+1) 366 (O8 #[a,b,c]) (O8 #[d,e,f])).run Ot g=.ok ((a==d)&&((b==e)&&(c==f))) g:=by rw[VZ];simp only[Rr,Ru Tryz.underlying366,Result.andThen_ok,FF];simp[List.range',go_sem];by_cases j:a=d<;>by_cases k:b=e<;>by_cases l:c=f<;>simp[j,k,l]
theorem FG(a b c d e f:Int)(g):(VZ 10000 366 (O8 #[a,b,c]) (O8 #[d,e,f])).run Ot g=.ok ((a==d)&&((b==e)&&(c==f))) g:=by simpa only[PH]using(IC 9998 a b c d e f g)
def pT(a b c:Int):Int:=Qr (Qr (Qr (Qr (a*4096))+Qr (b*128))+Qr c)
theorem wA(b c d f:Int)(a:OB)(g i j)(k:dX a g i j)(h:dY b=#[U D c,U D d,U D f]):OJ Ot 240 #[b] a fun e l=>e=Ov (O8 #[c,d,f])/\OE a a l:=by have:=wB b a g i j k;rwa[h]at this
theorem CA(b c d:Int)(a:OB):(a.alloc (A #[b,c,d] 366)).q a 0 b/\(a.alloc (A #[b,c,d] 366)).q a 1 c/\(a.alloc (A #[b,c,d] 366)).q a 2 d:=⟨(bi.new a _ _).cell rfl,(bi.new a _ _).cell rfl,(bi.new a _ _).cell rfl⟩
theorem m9(b:Bool)(c:V5)(d:Obj)(a:OB):((((a.alloc d).alloc (A #[b] 4)).alloc (A #[OW 612 (Oy (Z c))] 64)).drew).q (a+1) 0 b/\((((a.alloc d).alloc (A #[b] 4)).alloc (A #[OW 612 (Oy (Z c))] 64)).drew).q (a+1+1) 0 (OW 612 (Oy (Z c)))/\OE a a ((((a.alloc d).alloc (A #[b] 4)).alloc (A #[OW 612 (Oy (Z c))] 64)).drew):=by
 generalize i:a.alloc d=e;generalize f:e.alloc (A #[b] 4)=g;have j:e.heap.size=a.heap.size+1:=by rw[<-i];simp
 have k:g=a.heap.size+1+1:=by rw[<-f];simp[j]
 have c2:g.q (a+1) 0 b:=by rw[<-f,<-j];exact(bi.new e _ _).cell rfl
 refine⟨a5 (a3 _ c2),a5 ?_,T8 (Below.alloc ?_ Oq _)⟩;·rw[<-k];exact(bi.new g _ _).cell rfl
 ·rw[<-f,<-i];exact((Ow _ a).alloc (Ox _) _).alloc On _
theorem z1(k c:Bool)(d e:Nat)(b:V5)(a:OB)(n:a.q d 0 k)(o:a.q e 0 (OW 612 (Oy (Z b)))):(((a.alloc (A #[c] 4)).alloc (A #[OW 612 (Oy (Z b))] 64)).alloc (A #[Pt (.func 115) #[] #[d,e],Pt (.func 115) #[] #[a,(a+1:Nat)]] 136)).q (a+1+1) 0 (Pt (.func 115) #[] #[d,e])/\(((a.alloc (A #[c] 4)).alloc (A #[OW 612 (Oy (Z b))] 64)).alloc (A #[Pt (.func 115) #[] #[d,e],Pt (.func 115) #[] #[a,(a+1:Nat)]] 136)).q (a+1+1) 1 (Pt (.func 115) #[] #[a,(a+1:Nat)])/\(((a.alloc (A #[c] 4)).alloc (A #[OW 612 (Oy (Z b))] 64)).alloc (A #[Pt (.func 115) #[] #[d,e],Pt (.func 115) #[] #[a,(a+1:Nat)]] 136)).q d 0 k/\(((a.alloc (A #[c] 4)).alloc (A #[OW 612 (Oy (Z b))] 64)).alloc (A #[Pt (.func 115) #[] #[d,e],Pt (.func 115) #[] #[a,(a+1:Nat)]] 136)).q e 0 (OW 612 (Oy (Z b)))/\(((a.alloc (A #[c] 4)).alloc (A #[OW 612 (Oy (Z b))] 64)).alloc (A #[Pt (.func 115) #[] #[d,e],Pt (.func 115) #[] #[a,(a+1:Nat)]] 136)).q a 0 c/\(((a.alloc (A #[c] 4)).alloc (A #[OW 612 (Oy (Z b))] 64)).alloc (A #[Pt (.func 115) #[] #[d,e],Pt (.func 115) #[] #[a,(a+1:Nat)]] 136)).q (a+1) 0 (OW 612 (Oy (Z b)))/\OE a a (((a.alloc (A #[c] 4)).alloc (A #[OW 612 (Oy (Z b))] 64)).alloc (A #[Pt (.func 115) #[] #[d,e],Pt (.func 115) #[] #[a,(a+1:Nat)]] 136)):=by
 generalize i:a.alloc (A #[c] 4)=j;generalize g:j.alloc (A #[OW 612 (Oy (Z b))] 64)=f;have l:j.heap.size=a.heap.size+1:=by rw[<-i];simp
 have m:f=a.heap.size+1+1:=by rw[<-g];simp[l]
 have c1:f.q a 0 c:=by rw[<-g];refine a3 _ ?_;rw[<-i];exact(bi.new a _ _).cell rfl
 have c2:f.q (a+1) 0 (OW 612 (Oy (Z b))):=by rw[<-g,<-l];exact(bi.new j _ _).cell rfl
 have hb:a.B f:=by rw[<-g,<-i];exact((Ow _ a).alloc (Ox _) _).alloc On _
 refine⟨?_,?_,a3 _ (ac n hb),a3 _ (ac o hb),a3 _ c1,a3 _ c2,hb.alloc Oq _⟩;·rw[<-m];exact(bi.new f _ _).cell rfl
 ·rw[<-m];exact(bi.new f _ _).cell rfl
theorem CC(b c:Nat)(d)(a:OB)(f:a.q b 0 OQ)(g:a.q c 0 (OW 612 (Oy (Z d)))):OJ Ot 58 #[J (Z ⟨a+1+1,0,Y⟩) 2 2] (((a.alloc (A #[OQ] 4)).alloc (A #[OW 612 (Oy (Z d))] 64)).alloc (A #[Pt (.func 115) #[] #[b,c],Pt (.func 115) #[] #[a,(a+1:Nat)]] 136)) fun e i=>e=Ov ()/\((a.alloc (A #[OQ] 4)).alloc (A #[OW 612 (Oy (Z d))] 64)).alloc (A #[Pt (.func 115) #[] #[b,c],Pt (.func 115) #[] #[a,(a+1:Nat)]] 136)=i:=let h:=z1 OQ OQ b c d a f g;jE _ _ _ _ _ _ h.1 h.2.1 h.2.2.1 h.2.2.2.2.1
theorem wz(f g i d k l m:Int)(a:OB)(c q r)(j:dX a c q r)(u:pT f g i=d)(v:dY d=#[U D k,U D l,U D m])(h:0<=d)(w:d<131072)(x:((k==f)&&((l==g)&&(m==i)))=OQ):OJ Ot 172 #[f,g,i] a fun e b=>e=Ov (OP #[d,()])/\OE a a b:=by have y:=j.cA.1;have z:=j.w0;have H:=j.w1;have I:=j.w2;have K:=Pr a _ z;have L:∀a,(Rf 365 (O8 #[(4096:Int),(128:Int),(1:Int)]) ()).run Ot a=.ok (4096:Int) a:=fun _=>Oo;have M:∀a,(Rf 365 (O8 #[(4096:Int),(128:Int),(1:Int)]) (1:Int)).run Ot a=.ok (128:Int) a:=fun _=>Oo;have N:∀a,(Rf 365 (O8 #[(4096:Int),(128:Int),(1:Int)]) (2:Int)).run Ot a=.ok (1:Int) a:=fun _=>Oo;go_in;go_wp2;refine PI 4 ?_;rw[Pw];go_wp2;rw[Pw];go_wp2;rw[Pw];go_wp2;rw[Pw];go_wp2;rw[show Qr (Qr (Qr (Qr (f*4096))+Qr (g*128))+Qr i)=d from u];obtain⟨B,C,E⟩:=CA f g i a;(have O:∀o,(VZ 10000 366 (O8 #[k,l,m]) (O8 #[f,g,i])).run Ot o=.ok OQ o:=fun o=>by rw[FG,x]);go_region_held3(fun b=>b.q 2 0 (OW 612 (Oy (Z c)))/\b.q a 0 f/\b.q a 1 g/\b.q a 2 i)(first|refine⟨?_,?_,?_,?_⟩<;>(show RI _ _=_;repeat' with_reducible first|exact y|exact B|exact C|exact E|refine ac ?_ n|refine a5 ?_|refine a3 _ ?_))(first|(go_at_call 239;(with_reducible refine(jt d _ h w).mono ?_);rintro p b⟨rfl,rfl⟩)|(go_at_call 59;(with_reducible refine(d2 _ c _).mono ?_);rintro p b⟨rfl,rfl⟩)|(go_at_call 240;(with_reducible refine(wA d k l m _ c q r ?_ v).mono ?_);(refine(G j).o.below ?_;(repeat' with_reducible first|exact Ow _ _|refine T8 ?_|refine Below.alloc ?_ ?_ _)<;>(simp;try omega));rintro p b⟨rfl,n⟩;have s:=ac (m9 OQ c _ a).1 n;have t:=ac (m9 OQ c _ a).2.1 n;have F:=G (a0 (m9 OQ c _ a).2.2 n))|(go_at_call 58;(with_reducible refine(CC _ _ c _ s t).mono ?_);rintro p b⟨rfl,rfl⟩));go_wp2;go_ret2;exact⟨rfl,a0 F.o (z1 OQ OQ _ _ c _ s t).2.2.2.2.2.2⟩
def KF(a b c:Int):Prop:=0<=a/\a<32/\0<=b/\b<32/\0<=c/\c<128
theorem ld(a b c:Int)(d)(f g i)(j:dX d f g i)(h:KF a b c):OJ Ot 172 #[a,b,c] d fun e k=>e=Ov (OP #[(4096*a+128*b+c),()])/\OE d d k:=by obtain⟨n,o,p,q,r,s⟩:=h;(have l:pT a b c=4096*a+128*b+c:=by unfold pT;rw[Q6 (a*4096) ⟨Oq,Oq⟩,Q6 (a*4096) ⟨Oq,Oq⟩,Q6 (b*128) ⟨Oq,Oq⟩,Q6 c ⟨Oq,Oq⟩,Q6 (a*4096+b*128) ⟨Oq,Oq⟩,Q6 _ ⟨Oq,Oq⟩];omega);(have m:dY (4096*a+128*b+c)=#[U D a,U D b,U D c]:=by rw[qy _ Oq Oq];rw[show(4096*a+128*b+c)/4096=a by omega,show(4096*a+128*b+c)%4096/128=b by omega,show(4096*a+128*b+c)%128=c by omega]);exact wz a b c _ a b c d f g i j l m Oq Oq On
theorem js(c:Int)(a)(g d i)(j:dX a g d i)(h:1<=c)(k:c<=131072):OJ Ot 24 #[c] a fun e b=>e=Ov (OP #[U D ((c+8-1)/8*8),()])/\OE a a b:=by have l:=j.cS.1;go_in;go_wp2_with fail;go_region_held3(fun b=>b.q 0 0 (OW 612 (Oy (Z d))))(first|(show RI _ _=_;repeat' first|exact l|refine a5 ?_|refine a3 _ ?_))(first|(go_at_call 60;refine(iF c _ h k).mono ?_;rintro f b⟨rfl,rfl⟩)|(go_at_call 59;refine(d2 _ d _).mono ?_;rintro f b⟨rfl,rfl⟩)|(go_at_call 58;refine(na d a).mono ?_;rintro f b⟨rfl,rfl⟩));go_wp2;go_ret2;exact⟨rfl,(ky OQ d a).2.2.2⟩
theorem nA(a d:Int)(b)(f i j)(k:dX b f i j)(n:1<=d)(h:0<=a)(l:a<131072)(hl:d<=131072-a):OJ Ot 395 #[a,d] b fun e c=>e=Ov (OP #[U D (a/128),U D ((a+d-1)/128),()])/\OE b b c:=by have m:=k.cA.1;(have o:decide (d<=D.wrap (131072-a))=OQ:=by rw[OK _ Oq];simpa using hl);go_in;go_wp2_with fail;go_region_held3(fun c=>c.q 2 0 (OW 612 (Oy (Z f))))(first|(show RI _ _=_;repeat' first|exact m|refine a5 ?_|refine a3 _ ?_))(first|(go_at_call 239;refine(jt a _ h l).mono ?_;rintro g c⟨rfl,rfl⟩)|(go_at_call 59;refine(d2 _ f _).mono ?_;rintro g c⟨rfl,rfl⟩)|(go_at_call 58;refine(Cz f b).mono ?_;rintro g c⟨rfl,rfl⟩));go_wp2;go_ret3;exact⟨rfl,(mh OQ OQ f b).2.2.2.2.2.2⟩
end Ad
namespace Ad
open Go.RowKit Go.Lib Go.Shelf
attribute[local go_sem]Oper.semAt_some
abbrev oa(a:Int×Int):Array OU:=#[O8 #[U D a.1,U D a.2]]
def hy:List (Int×Int):=[(1,128),(2,2048),(3,131072)]
theorem jv{d}{g:Nat}{b:d->OB->Prop}(h:AbidesFrom g b){c:d}{a}(f)(i:b c a):b c (a.alloc f):=h c a _ Y i (World.grownBy_alloc a f Y) (fun _ e=>by cases e)
theorem mf(e)(I:1<=e)(a)(n o p)(b:dX a n o p):SeqStopsA Qs e Ot 320 #[] oa (fun q=>q=hy) (fun pre=>pre<+:hy) 3 a:=fun K L M W c f r hY h0=>by have s:=ac b.s0 c;have t:=ac b.s1 c;have u:=ac b.s2 c;have v:=ac b.s3 c;have w:=ac b.s4 c;have x:=ac b.s5 c;have d:=G f;clear b c f r;have N:∀a,(Rf 457 (O8 #[(1:Int),(128:Int),(2:Int),(2048:Int),(3:Int),(131072:Int)]) ()).run Ot a=.ok (O8 #[(1:Int),(128:Int)]) a:=fun _=>Oo;have O:∀a,(Rf 457 (O8 #[(1:Int),(128:Int),(2:Int),(2048:Int),(3:Int),(131072:Int)]) (1:Int)).run Ot a=.ok (O8 #[(2:Int),(2048:Int)]) a:=fun _=>Oo;have P:∀a,(Rf 457 (O8 #[(1:Int),(128:Int),(2:Int),(2048:Int),(3:Int),(131072:Int)]) (2:Int)).run Ot a=.ok (O8 #[(3:Int),(131072:Int)]) a:=fun _=>Oo;refine QA X7 rfl Pk ?_ rfl;simp only[Tryz.ntmps320,Pe,OS,OY,PH,Qb,O0,OZ,Pb,O5,Pg,O6];gi_wp2;refine WB 4 ?_;rw[SV];obtain⟨Q,R,S,T,g,i⟩:=hY [] (1,128) _ (jv d.o (A #[(1:Int),(128:Int)] 395) h0) On;dsimp only[oa]at g;gi_wp2;refine i.mono ?_;rintro j V(⟨rfl,k,_⟩|⟨rfl,y⟩);(·clear g i h0 s t u v w x;obtain⟨X,t2,a2,b2,l,m⟩:=hY _ (2,2048) _ (jv d.o (A #[(2:Int),(2048:Int)] 395) k) On;dsimp only[oa]at l;gi_wp2;rw[SV];gi_wp2;refine m.mono ?_;rintro j W2(⟨rfl,z,_⟩|⟨rfl,B⟩);(·clear l m k;obtain⟨f3,t3,a3,b3,C,E⟩:=hY _ (3,131072) _ (jv d.o (A #[(3:Int),(131072:Int)] 395) z) On;dsimp only[oa]at C;gi_wp2;rw[SV];gi_wp2;refine E.mono ?_;rintro j W3(⟨rfl,F,_⟩|⟨rfl,H⟩);(·gi_wp2;rw[SV];gi_wp2;go_end0;exact⟨⟨_,rfl⟩,O4 ⟨_,rfl,F⟩⟩);·gi_wp2;refine OM (PS rfl _ _ _) rfl ?_;exact⟨⟨_,rfl⟩,Pu ⟨_,⟨[],rfl⟩,H⟩⟩);·gi_wp2;refine OM (PS rfl _ _ _) rfl ?_;exact⟨⟨_,rfl⟩,Pu ⟨_,⟨[_],rfl⟩,B⟩⟩);·gi_wp2;refine OM (PS rfl _ _ _) rfl ?_;exact⟨⟨_,rfl⟩,Pu ⟨_,⟨[_,_],rfl⟩,y⟩⟩
theorem pV(a):OJ Ot 251 #[] a fun e b=>e=Ov (Pt (.func 320) #[] #[])/\a=b:=by go_in;go_wp2;go_ret;exact⟨rfl,rfl⟩
end Ad
namespace Ad
open Go.RowKit Go.Lib Go.Shelf
attribute[local go_sem]Oper.semAt_some
open Go.RowKit Go.Lib
theorem z2(b:Int)(c:Bool)(d)(a:OB):(((((a.alloc (A #[b] 3)).alloc (A #[c] 4)).alloc (A #[OW 612 (Oy (Z d))] 64)).alloc (A #[Pt (.func 115) #[] #[(a+1:Nat),(a+1+1:Nat)]] 136)).drew).q (a+1+1+1) 0 (Pt (.func 115) #[] #[(a+1:Nat),(a+1+1:Nat)])/\(((((a.alloc (A #[b] 3)).alloc (A #[c] 4)).alloc (A #[OW 612 (Oy (Z d))] 64)).alloc (A #[Pt (.func 115) #[] #[(a+1:Nat),(a+1+1:Nat)]] 136)).drew).q (a+1) 0 c/\(((((a.alloc (A #[b] 3)).alloc (A #[c] 4)).alloc (A #[OW 612 (Oy (Z d))] 64)).alloc (A #[Pt (.func 115) #[] #[(a+1:Nat),(a+1+1:Nat)]] 136)).drew).q (a+1+1) 0 (OW 612 (Oy (Z d)))/\bi (((((a.alloc (A #[b] 3)).alloc (A #[c] 4)).alloc (A #[OW 612 (Oy (Z d))] 64)).alloc (A #[Pt (.func 115) #[] #[(a+1:Nat),(a+1+1:Nat)]] 136)).drew) a #[b] 3/\OE a a (((((a.alloc (A #[b] 3)).alloc (A #[c] 4)).alloc (A #[OW 612 (Oy (Z d))] 64)).alloc (A #[Pt (.func 115) #[] #[(a+1:Nat),(a+1+1:Nat)]] 136)).drew):=by have f:=bi.new a #[b] 3;have hb:=(Ow a a).alloc (Ox _) (A #[b] 3);have e:(a.alloc (A #[b] 3)).heap.size=a.heap.size+1:=On;generalize a.alloc (A #[b] 3)=g at f hb e⊢;have h:=ky c d g;rw[e]at h;exact⟨h.1,h.2.1,h.2.2.1,(f.aa (by rw[e];exact h.2.2.2)),hb.trans (h.2.2.2.mono Oq)⟩
theorem Cy(b:Int)(c)(a:OB):OJ Ot 58 #[J (Z ⟨a+1+1+1,0,Y⟩) 1 1] (((((a.alloc (A #[b] 3)).alloc (A #[OQ] 4)).alloc (A #[OW 612 (Oy (Z c))] 64)).alloc (A #[Pt (.func 115) #[] #[(a+1:Nat),(a+1+1:Nat)]] 136)).drew) fun e d=>e=Ov ()/\((((a.alloc (A #[b] 3)).alloc (A #[OQ] 4)).alloc (A #[OW 612 (Oy (Z c))] 64)).alloc (A #[Pt (.func 115) #[] #[(a+1:Nat),(a+1+1:Nat)]] 136)).drew=d:=let h:=z2 b OQ c a;g9 _ _ _ _ h.1 h.2.1
def eB(a:Int):Int:=if a<=128 then 1 else if a<=2048 then 2 else 3
def pU(a:Int)(b:List (Int×Int)):Prop:=∀c∈b,c.2<a
def rJ(b:Int)(d:Nat)(e:List (Int×Int))(f:OB):Prop:=∃a,(∃c,e=c++[a]/\pU b c/\b<=a.2)/\bi f d #[U D a.1] 3
theorem qA a(d b):OwnFrom b (rJ a d):=fun s A b row e f hr=>by obtain⟨c,g,i⟩:=e;exact⟨c,g,(cx _ _ (fun _=>#[c.1])).from _ () A b row i f hr⟩
theorem qB(b:Int)(c)(d:Int×Int)(f:c++[d]<+:hy)(h:1<=b)(e:∀g∈c,g.2<b)(a:b<=d.2):d.1=eB b:=by
 obtain⟨i,hr⟩:=f;rcases c with _|⟨j,_|⟨k,_|⟨l,_|⟨m,n⟩⟩⟩⟩;·simp[hy]at hr;obtain⟨rfl,_⟩:=hr;simp at a;simp[eB,a]
 ·simp[hy]at hr;obtain⟨rfl,rfl,_⟩:=hr;have:=e _ (PQ);simp at a this;simp[eB,a];omega
 ·simp[hy]at hr;obtain⟨rfl,rfl,rfl,_⟩:=hr;have:=e (2,2048) On;simp at a this;simp[eB];omega
 ·simp[hy]at hr
 ·simp[hy]at hr
theorem ju(b:Int)(a:OB)(E i F)(H:dX a E i F)(h:1<=b)(P:b<=131072):OJ Ot 186 #[b] a fun e j=>e=Ov (OP #[(eB b),()])/\OE a a j:=by
 have Q:=H.cS.1;refine(OR (n:=9)).1 ?_;refine PE Tryz.func186 rfl Pk ?_ rfl;simp only[Tryz.ntmps186,Pe,OS,OY,PH,Qb,O0,OZ,Pb,O5,Pg,O6];refine Rd.2 ?_;go_wp2;go_step3;go_wp2;go_region_held3(fun j=>j.q 0 0 (OW 612 (Oy (Z i)))/\j.q a 0 b)(first|refine⟨?_,?_⟩<;>(show RI _ _=_;repeat' with_reducible first|exact Q|exact(show(a.alloc (A #[b] 3)).q a 0 b from(bi.new a _ _).cell rfl)|refine a5 ?_|refine a3 _ ?_))(first|(go_at_call 60;(with_reducible refine(iF b _ h P).mono ?_);rintro x j⟨rfl,rfl⟩)|(go_at_call 59;(with_reducible refine(d2 _ i _).mono ?_);rintro x j⟨rfl,rfl⟩)|(go_at_call 58;(with_reducible refine(Cy b i a).mono ?_);rintro x j⟨rfl,rfl⟩));obtain⟨_,_,_,n,l⟩:=z2 b OQ i a;have I:=H.below l;generalize((((a.alloc (A #[b] 3)).alloc (A #[OQ] 4)).alloc (A #[OW 612 (Oy (Z i))] 64)).alloc (A #[Pt (.func 115) #[] #[(a+1:Nat),(a+1+1:Nat)]] 136)).drew=d at n l I⊢;go_wp2;go_step3;go_wp2_with(go_at_call 251;(with_reducible refine(pV _).mono ?_);rintro x j⟨rfl,rfl⟩);refine(Rd (n:=9)).1 ?_;have K:=bi.new d #[()] 3;have ac:=n.lt;replace n:=n.alloc (A #[()] 3);have L:=I.below ((Ow _ d).alloc (Ox _) (A #[()] 3));replace l:=l.alloc l.size (A #[()] 3);have w:(d.alloc (A #[()] 3)).heap.size=d.heap.size+1:=On;have R:a.heap.size<=d.heap.size:=Oq;generalize d.alloc (A #[()] 3)=W2 at n K L l w⊢;refine VW rfl Oq (gf:=320) (lb:=#[]) rfl Pk (enters_of X7 Oo rfl) (seqStopsA_iff.1 (mf _ Oq _ E i F L)) (fun h k=>walksK_t h k) walksK_b (Ow _ _) (fun _=>rfl) (fun m c=>bi c a #[b] 3/\bi c d #[()] 3/\pU b m/\a.B c) (fun y m c=>y=.exit 0/\rJ b d m c/\a.B c) (((cx _ _ _).from _).and (((cx _ _ _).from _).and ((Tu _ _).and (Sh (Ox _) (by have:=w;omega))))) (fun y=>(Tu _ _).and ((qA _ _ _).and (Sh (Ox _) (by have:=w;omega)))) ⟨n,K,(fun _ h=>by cases h),l⟩ (fun f z c=>∃o,(d.heap.size<o/\z={tmps:=#[b,a,(),(),(),d,o,b,OQ,OW 612 (Oy (Z i)),Pt (.func 115) #[] #[(a+1:Nat),(a+1+1:Nat)],J (Z ⟨a+1+1+1,0,Y⟩) 1 1,(),(),OD,Qk,Pt (.func 320) #[] #[],O8 #[f.1,f.2],Qk,Qk,Qk,Qk,Qk,Qk,Qk],defers:=[]})/\bi c o #[f.1,f.2] 395) (fun f z s A B row S T hr=>by obtain⟨o,V,W⟩:=S;exact⟨o,V,(cx (β:=Unit) _ _ (fun _=>#[f.1,f.2])).from _ () A B row W T hr⟩) ?assign ?body ?done ?stop;case assign=>rintro X m f c ad⟨t,g,p,q⟩u;gi_wp2;exact u _ _ ((QZ _ _).from _) (QZ _ _).walks ⟨t.alloc _,g.alloc _,p,q.alloc q.size _⟩ ⟨c,⟨g.lt,rfl⟩,bi.new c _ _⟩
 case body=>rintro X m⟨v,C⟩z c hl _⟨t,g,p,q⟩⟨o,⟨ae,rfl⟩,bX⟩af;have c1:=t.cs;have c2:c.q d 0 ():=g.cell rfl;have f2:=g.frozen;have c3:=bX.cs;by_cases M:b<=C;(·gi_wp2;exact⟨(O9 _ _ _).from _,rfl,⟨(v,C),⟨m,rfl,p,M⟩,g.set 0 _⟩,q.setCell R _⟩);·(have hd:decide (b<=C)=OD:=by simpa using M);gi_wp2;refine⟨QN _ _,KeepsWalks.refl _,t,g,?_,q⟩;intro f r;rcases PU.1 r with r|r;(·exact p f r);·simp at r;subst r;simp;omega
 case done=>rintro N xs c O rfl⟨t,g,p,q⟩u;have:=p (3,131072) (by simp[hy]);simp at this;omega
 case stop=>rintro N y m c O aa⟨rfl,⟨v,⟨ab,rfl,h3,h4⟩,g⟩,hB⟩u;have c2:c.q d 0 v.1:=g.cell rfl;rw[(show v.1=eB b from qB b ab v aa h h3 h4)]at c2;gi_wp2;go_wp2;(try rw[Po]);refine⟨On,O4 ⟨_,_,rfl,Pp u,?_⟩⟩;exact⟨_,Sg rfl _ _ _,rfl,hB.trans (SS (by have:=w;omega) _ N _ _ O u rfl rfl)⟩
theorem rL(a:Int)(b:OB)(c d f)(g:dX b c d f)(h:1<=a)(i:a<=128):OJ Ot 186 #[a] b fun e j=>e=Ov (OP #[(1:Int),()])/\OE b b j:=by have:=ju a b c d f g h Oq;rwa[show eB a=1 by simp[eB,i]]at this
theorem rK(a:Int)(b:OB)(c d f)(g:dX b c d f)(h:128<a)(i:a<=2048):OJ Ot 186 #[a] b fun e j=>e=Ov (OP #[(2:Int),()])/\OE b b j:=by have:=ju a b c d f g Oq Oq;rwa[show eB a=2 by simp[eB,i];omega]at this
theorem CD(a:Int)(b:OB)(c d f)(g:dX b c d f)(h:2048<a)(i:a<=131072):OJ Ot 186 #[a] b fun e j=>e=Ov (OP #[(3:Int),()])/\OE b b j:=by have:=ju a b c d f g Oq i;rwa[show eB a=3 by simp[eB];omega]at this
end Ad
section
open Go.RowKit Go.Lib Go.Shelf
attribute[local go_sem]Oper.semAt_some
abbrev HH(a:Fin 32):Array OU:=#[U D ((a.val:Nat):Int)]
def nY(a b:Nat):List (Fin 32):=(List.range b).map fun c=>Ua 32 (a+c)
theorem uu(a b):nY a (b+1)=nY a b++[Ua 32 (a+b)]:=by simp[nY,Ri]
theorem nX(b a):(nY b a).length=a:=by simp[nY]
theorem yY(c a b)(h:a<=b):nY c a<+:nY c b:=by unfold nY;refine List.IsPrefix.map _ ?_;exact⟨List.range' a (b-a),by rw[Uc,Uc];have:=List.range'_append_1 (s:=0) (m:=a) (n:=b-a);rw[Ry]at this;rw[this];congr 1;omega⟩
theorem ih(a)(h:a<32):(Ua 32 a).val=a:=RG h
theorem q7(b c:Int)(a):OJ Ot 391 #[b,c] a fun e d=>e=Ov (Pt (.func 433) #[] #[a,(a+1:Nat)])/\d=(a.alloc (A #[b] 3)).alloc (A #[c] 3):=by go_in;go_wp2;go_ret;exact⟨rfl,rfl⟩
theorem lx(l:Nat)(H:1<=l)(m e a c:Nat)(d:Int)(w:a<=c)(I:c<=32)(K:d<c)(L:c<=d+1)(f:OB)(n:f.cell? ⟨m,0,Y⟩=Z (U D a))(o:f.cell? ⟨e,0,Y⟩=Z (U D d)):SeqStopsK Qs l Ot 433 #[m,e] HH (NK [e]) (fun x=>x=nY a (c-a)) (fun pre=>pre<+:nY a (c-a)) (c-a) f:=fun M y N W g z B hY h0=>by have C:=ac n g;have p:=ac o g;have E:=G hY;clear n o g z B hY;refine QA Tryz.func433 rfl Pk ?_ rfl;simp only[Tryz.ntmps433,Pe,OS,OY,PH,Qb,O0,OZ,Pb,O5,Pg,O6];gi_wp2;gi_loopw[4](fun i wr=>∃b,a<=b/\b<=c/\i=(b:Int)/\y (nY a (b-a)) wr/\wr.q e 0 d)(fun i _=>64-(intOf i).toNat);(case atStart=>exact⟨a,Ox _,w,rfl,by rw[Vl];exact h0,p⟩);case round=>obtain⟨b,O,P,rfl,j,hc⟩:=hrel;clear C p h0;by_cases Q:b<c;(·obtain⟨R,S,assign,body,k,q⟩:=E.o (nY a (b-a)) (Ua 32 b) wr j (by rw[nX];omega);dsimp only[HH]at k;rw[ih _ Oq]at k;(have r:nY a (b-a)++[Ua 32 b]=nY a (b+1-a):=by rw[show b+1-a=(b-a)+1 by omega,uu,show a+(b-a)=b by omega]);have s:=G r;clear r;gi_wp2;refine q.mono ?_;rintro T V(⟨rfl,t,u⟩|⟨rfl,v⟩);(·have F:=u.cell On hc;rw[s.o]at t;clear k q hc j u;gi_wp2;go_roundw;(case rel=>exact⟨b+1,Oq,Oq,by go_num,t,F⟩);case measure=>simp[intOf];omega);·rw[s.o]at v;gi_wp2;refine OM (PS rfl _ _ _) rfl ?_;exact⟨⟨_,rfl⟩,Pu ⟨_,yY a _ _ Oq,v⟩⟩);·have X:decide ((b:Int)<=d)=OD:=Ol;obtain rfl:b=c:=Oq;gi_wp2;go_end0;exact⟨⟨_,rfl⟩,O4 ⟨_,rfl,j⟩⟩
end
section
open Go.RowKit Go.ChangeShapes Go.WideShapes Go.ChangeAt
theorem Mu:ownKnob Ot.godebug=Y:=Oo
theorem uF{l}{e:SG×OU->l}{f:Vj}{g:Func}{b:ChangeSpec}{i j:OB}{n:Array OU}{p:OU}{k}{a}(q:DataW.Whole e f g.params.toList b.vars OD i n.toList k [] a)(r:∀(o)(c:Nat->Bool)(s:Bool),XG e f j o c s g.resultTypes.toList (p.resultList g.resultTypes.size) (b.fn l (k++[])).results [])(t:∀c,(∀d∈a,c d.block=OQ)->XG e f j 0 c OQ g.params.toList n.toList (b.fn l (k++[])).args a)(u:∀c,DataW.TrodVars e f j c b.vars (b.fn l (k++[])).vars [])(hb:OE i i j):b.post e f g OD OQ OD OD i n p j:=by have v:∀d∈a,(fun o=>decide (o<i.heap.size)) d.block=OQ:=fun d m=>P1 (q.lt d m);exact⟨k,[],a,[],a,[],q,r _ _ _,t _ v,u _,World.keptBut_mono (fun d m=>⟨m,Pu (O4 m)⟩) (hb.frame (·∈a)),(fun h=>by cases h)⟩
end
end Go.Proofs.YtpcaenpbejcagaaGreatDoor
