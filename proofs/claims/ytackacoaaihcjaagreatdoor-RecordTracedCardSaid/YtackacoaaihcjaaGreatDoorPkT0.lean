import Derived.Below
import Derived.Deep.RegionLaw
import Derived.Ground.Names2Prog
import Derived.Ground.Names7Prog
import Derived.Ground.NamesProg
import Derived.IntWalk
import Derived.JoinedOf
import Derived.KernelRfl
import Derived.LaidLaws
import Derived.LaidMore
import Derived.LaidSub
import Derived.Laws.Append
import Derived.Laws.BytesString
import Derived.Laws.Cells
import Derived.Laws.CopyRow
import Derived.Laws.Entries
import Derived.Laws.IdiomCopy
import Derived.Laws.IdiomStrings
import Derived.Laws.StructEq
import Derived.Lay
import Derived.Lib.AppendIntMem
import Derived.Lib.AtoiAll
import Derived.Lib.AtoiAllCases
import Derived.Lib.ItoaNum
import Derived.Lib.Join
import Derived.Lib.SliceRun
import Derived.Lib.SmallJoins
import Derived.Lib.Split
import Derived.Lib.Strings
import Derived.Lib.Walk
import Derived.LoopIn
import Derived.LoopNIn
import Derived.MapKept
import Derived.OpenShut
import Derived.Orders
import Derived.OrdersIn
import Derived.OwnWalkIn
import Derived.ProofKit
import Derived.RangeFuncBound
import Derived.RangeFuncCalls
import Derived.RangeFuncFrom
import Derived.RangeFuncLeaves
import Derived.RangeFuncOwn
import Derived.Scope
import Derived.Shelf.LaysC
import Derived.Shelf.LaysM
import Derived.Shelf.Slices.Clone
import Derived.Shelf.Slices.Reverse
import Derived.Shelf.Sort.Plain
import Derived.Shelf.Spec.SlicesGrow
import Derived.Shelf.Strconv.AtoiAll
import Derived.Shelf.Strconv.Itoa3
import Derived.Shelf.Strings.Cut
import Derived.Shelf.Strings.OnBuilder
import Derived.Shelf.Strings.Prefix
import Derived.Shelf.Strings.Split
import Derived.Shelf.Vars
import Derived.Stop.Joined
import Derived.Tactics
import Derived.TacticsIn
import Derived.TacticsInMore
import Derived.WalkKit
import GoSem.ClaimGoes
set_option linter.all false
namespace Go
def fG:=@Nat.ne_of_beq_eq_false
def fP:=@Nat.le_of_ble_eq_true
def jE:=@List.getD_eq_getElem?_getD
def kl:=@List.getElem?_eq_some_iff
def eT:=@decide_eq_false
def fH:=@decide_eq_true
def nM:=@List.getElem?_eq_getElem
def dC:=@Nat.zero_le
def mw:=@Go.Result.andThen_ok
def o8:=@Nat.eq_of_beq_eq_true
def aP:=@congrArg
def cQ:=@List.mem_cons
def eJ:=@Go.Sem.run_bind
def i7:=@List.mem_cons_of_mem
def gr:=@List.getElem?_map
def jt:=@List.mem_of_getElem?
def i8:=@List.mem_cons_self
def dN:=@List.mem_map
def kC:=@Nat.mul_le_mul_right
def gC:=@List.mem_append
def my:=@Option.map_eq_some_iff
def dw:=@Nat.le_refl
def ja:=@List.length_map
def sw:=@Array.getD_eq_getD_getElem?
def gt:=@Prod.mk.injEq
def lq:=@List.mem_singleton
def o0:=@List.take_of_length_le
def qJ:=@Option.isSome_iff_exists
def kD:=@List.length_cons
def lK:=@Option.some.injEq
def lu:=@List.take_length
def ju:=@List.map_cons
def mA:=@List.not_mem_nil
def lL:=@Go.Sem.run_pure
def oh:=@List.getElem_mem
def wA:=@List.length_eq_one_iff
def jZ:=@Nat.zero_add
def sU:=@Bool.false_eq_true
def sB:=@Int.toNat_natCast
def qK:=@List.cons_append
def sV:=@Go.run_underlying
def sC:=@Bool.and_eq_true
def IR:=@List.eq_nil_of_length_eq_zero
def FT:=@Array.getElem?_eq_some_iff
def wB:=@decide_eq_true_iff
def sY:=@Option.getD_some
def zN:=@List.mem_iff_getElem
def CG:=@List.length_eq_zero_iff
def sD:=@Bool.eq_iff_iff
def xH:=@Bool.false_ne_true
def xI:=@List.length_append
def IS:=@Go.World.block_lt_of_cell?
def o3:=@Nat.le_trans
def wC:=@List.all_eq_true
def wD:=@List.map_append
def wE:=@Option.some.inj
def IT:=@List.getElem?_set_self
def FU:=@List.mem_of_mem_take
def BH:=@List.take_add_one
def xJ:=@Option.map_some
def CI:=@Go.World.var?_cell
def zO:=@List.nodup_cons
def zP:=@List.append_nil
def zQ:=@List.length_nil
def Pn:=@Classical.byContradiction
def kJ:=@if_false
def BI:=@List.cons.injEq
def FV:=@Function.comp_def
def Po:=@Go.World.cell?_of_block
def Uu:=@Nat.eq_of_mul_eq_mul_right
def Uv:=@Go.World.putObj_heap_other
def Xt:=@Int.mul_le_mul_of_nonneg_right
def Uw:=@List.getElem?_append_left
def CJ:=@List.length_set
def CK:=@Int.emod_nonneg
def mB:=@or_false
def Xu:=@Int.mul_le_mul_of_nonneg_left
def Lp:=@List.map_congr_left
def Lq:=@List.length_pos_iff
def IU:=@List.nodup_append
def CM:=@Int.mul_nonneg
def Ux:=@List.getElem?_cons_zero
def Lr:=@Int.emod_lt_of_pos
def Pp:=@List.mem_append_left
def Pq:=@List.getElem?_set_ne
def Ps:=@List.mem_of_mem_drop
def zR:=@List.map_map
def Xv:=@Array.getElem?_append_left
def Xw:=@List.getElem?_append_right
def Ls:=@of_decide_eq_true
def CN:=@not_not_intro
def Xx:=@List.drop_eq_getElem_cons
def Xy:=@Int.natAbs_ediv_le_natAbs
def Uy:=@List.mem_iff_getElem?
def Uz:=@Array.getElem?_toList
def UA:=@List.length_filter_le
def Pt:=@List.getElem?_drop
def afu:=@List.exists_cons_of_length_eq_add_one
def CO:=@List.map_nil
def CP:=@Nat.add_zero
def xK:=@Go.setRow_heap
def xL:=@List.drop_zero
def CQ:=@Go.DataW.trod_int
def CR:=@decide_eq_true_eq
def R3:=@Int.mul_lt_mul_of_pos_right
def R5:=@List.idxOf_lt_length_of_mem
def CS:=@List.any_eq_true
def GW:=@List.getElem?_take
def Lt:=@List.getElem?_toArray
def Lu:=@List.take_append_drop
def Lv:=@List.set_getElem_self
def GX:=@Go.DataW.agg.injEq
def AO:=@Go.run_program
def R6:=@Go.MapKept.run_getObj_map
def R7:=@Go.World.putObj_heap_same
def R8:=@List.mem_or_eq_of_mem_set
def Lw:=@Int.ediv_emod_unique
def R9:=@Nat.lt_succ_iff_lt_or_eq
def CT:=@Int.natAbs_zero
def GY:=@List.append_assoc
def Xz:=@Array.getElem?_setIfInBounds_ne
def CU:=@UInt8.toNat_inj
def AP:=@Bool.or_false
def Sa:=@List.getElem?_cons_succ
def Lx:=@List.getD_cons_zero
def CV:=@Int.mul_le_mul
def sZ:=@Nat.mod_lt
def Sb:=@Go.MapKept.run_findKey
def Sc:=@List.drop_of_length_le
def GZ:=@Int.natAbs_tmod
def Sd:=@List.length_singleton
def XA:=@Array.getElem?_append_right
def Se:=@Array.getElem?_append
def Sf:=@List.set_append_right
def Sg:=@Go.Lib.atoiAll_bounds
def Sh:=@Int.emod_add_mul_ediv
def CW:=@Int.sign_zero
def Ly:=@List.ext_getElem?
def Lz:=@Classical.not_not
def Si:=@List.getElem?_append
def Sj:=@Go.run_storeCells_at
def Sk:=@Go.World.cells?_some
def Sl:=@Go.DataW.trod_struct
def Sm:=@Array.getElem_modify
def Sn:=@Classical.not_forall
def G0:=@List.nodup_nil
def G1:=@List.take_zero
def LA:=@List.drop_length
def LB:=@Option.bind_some
def LC:=@List.length_take
def LD:=@Bool.not_eq_true
def AQ:=@Nat.mul_one
def Sq:=@Go.DataW.trod_array
def Sr:=@List.getD_cons_succ
def Ss:=@Option.isNone_some
def ol:=@Ne.symm
def r9:=@and_true
def LF:=@Int.ediv_nonneg
def Su:=@List.set_cons_zero
def LG:=@List.nil_append
def Sv:=@List.filter_append
def Sw:=@List.getElem_idxOf
def Sx:=@Go.DataW.lit.injEq
def CX:=@Int.one_mul
def Sy:=@Array.size_append
def AR:=@Nat.blt_eq
def SA:=@Option.isSome_map
def SD:=@Int.lt_trichotomy
def SE:=@Nat.lt_trichotomy
def G2:=@Nat.sub_zero
def XB:=@Nat.div_lt_iff_lt_mul
def XC:=@Array.mem_of_getElem?
def G3:=@Nat.sub_self
def SF:=@Go.run_loadCells
def SG:=@Go.grownBy_keeps
def SH:=@List.length_drop
def XD:=@Nat.pow_le_pow_right
def aep:=@Int.gcd_pos_of_ne_zero_right
def LH:=@Bool.false_or
def LI:=@Nat.add_assoc
def LJ:=@Int.mul_assoc
def SI:=@Option.map_none
def AS:=@Array.ext
def XE:=@List.drop_succ_cons
def XF:=@List.getElem_of_mem
def XG:=@List.take_succ_cons
def XH:=@List.mem_map_of_mem
def aeq:=@Int.sign_eq_neg_one_of_neg
def aer:=@Int.lt_of_mul_lt_mul_right
def aes:=@Array.getElem_append_right
def XI:=@Nat.lt_of_lt_of_le
def XJ:=@Nat.add_sub_cancel
def XK:=@List.set_cons_succ
def LL:=@List.map_set
def XL:=@Option.isSome_some
def XM:=@Option.isSome_none
def aet:=@Array.mapM_eq_mapM_toList
def aeu:=@List.pairwise_iff_getElem
def aev:=@Array.getElem?_eq_getElem
def aew:=@Array.getElem_append_left
def aex:=@Decidable.byContradiction
def XN:=@List.flatten_cons
def G4:=@Array.ext'
def XO:=@List.any_eq_false
def LM:=@List.map_id
def XP:=@Int.ediv_le_self
def SJ:=@Nat.gcd_comm
def XQ:=@List.foldl_cons
def XR:=@List.mem_filter
def XS:=@Bool.or_eq_true
def SK:=@Int.ne_of_gt
def XT:=@List.findIdx_eq
def XU:=@Bool.decide_and
def CY:=@true_and
def XV:=@Nat.mul_le_mul
def XW:=@Array.size_map
def XX:=@List.drop_drop
def XY:=@Int.natAbs_mul
def SL:=@Nat.add_mul
variable{p:Prop}
def K0 (h:p:=by omega):p:=h
def K1 (h:p:=by
 (try(refine tX 0 ?_;try exact Zt))
 (first|done|rfl|exact True.intro)):p:=h
def K2 (h:p:=by
 have Ui:=(kl.1 hi).1;have bB:(rW s.units).length =s.units.length:=by grind
 have ak:i< (rW s.units).length :=by omega
 have cu:=λH fid=>zm (H:=H) (fid:=fid) (s:=s) (n:=x) hi hl;rw[hx]at cu;have hm:=al0 p log s u (w0::x::ws);refine gH f111 ?_;repeat' ((first|(refine kO 7 rfl ?_;first|refine ij (λ_ z=>⟨_,_,_,(cu _ _ rfl rfl rfl rfl),z⟩) ?_)|refine tX 0 ?_|exact Zt|refine bR ?_ ?_<;>intro h)<;>(try conv=>whnf))
 all_goals try exact Ze
 repeat((first|(refine kO 7 rfl ?_;first|refine se (λ_ z=>⟨_,_,_,(bN.Pk (Cx hU (uH rfl rfl rfl) hm) rfl (OA s p log u _)),z⟩) ?_)|refine tX 2 ?_|exact Zt);(try conv=>whnf))
 refine aS ?_;refine aQ ?_;(refine aR ?_;conv=>whnf);(try(refine tX 2 ?_;try exact Zt));refine⟨_,bs.trans (Fo 9 i (e':=unY u) rfl (IT ak) rfl (Oz u 11 13 15)) (vp (E':=[(3,some (.val (dyn (V1 (w0::x::ws))))),(6,pP 4),(8,pP 6),(12,vI i),(13,pP 94),(14,vI 0),(127,vBo (0 != 0))]) (X:=sX s i u u') (m:=mX) (ks:=[3,6,8,12,13,14,127]) (n':=1000) rfl ⟨⟨9,_,by simp,rfl,by rw[List.set_set];exact rV (kh rfl)⟩,⟨4,_,by simp,rfl,rfl⟩,⟨6,_,by simp,rfl,rfl⟩,⟨94,_,by simp,rfl,rfl⟩,⟨fz 43 11,_,by simp,rfl,rfl⟩,⟨fz 43 13,_,by simp,rfl,rfl⟩,⟨fz 43 15,_,by simp,rfl,rfl⟩,trivial⟩ rfl rfl),?_⟩;repeat' ((first|refine tX 0 ?_|exact Zt|refine bR ?_ ?_<;>intro h)<;>(try conv=>whnf))
 all_goals first|exact Zs|exact⟨[(9,9),(11,11),(13,13),(15,15)],nI rfl ⟨⟨9,_,by simp,rfl,anE s i u u' _⟩,⟨11,_,by simp,rfl,rfl⟩,⟨13,_,by simp,rfl,rfl⟩,⟨15,_,by simp,rfl,rfl⟩,trivial⟩,_,rfl,rfl⟩):p:=h
def K3 (h:p:=by
 obtain⟨volt,earth,opens,hall,lots,units⟩:=s
 rcases J5 log with⟨g1,g2⟩|⟨j,g1,g2,g3⟩
 ·rw[g2]at CC;refine gF f62 hl ?_;repeat' ((first|(refine kO 7 rfl ?_;first|refine Rh (ke _ _) ?_)|refine tX 0 ?_|exact Zt|refine bR ?_ ?_<;>intro h)<;>(try conv=>whnf))
  rw[hf];repeat' ((first|(refine kO 7 rfl ?_;first|refine Rq (iR _) ?_|refine rG (λ_ z=>⟨_,wF CC,z⟩) ?_)|refine tX 0 ?_|exact Zt|refine bR ?_ ?_<;>intro h)<;>(try conv=>whnf))
  all_goals first|exact Zo|exact Ew
 ·rw[g3]at CC;have hN:dK (((log.map df).length :Int) -1) j:=⟨by omega⟩;generalize log.getD j ⟨0,[],[]⟩=le at*;obtain⟨lt,lw,lx⟩:=le;refine gF f62 hl ?_;repeat' ((first|(refine kO 7 rfl ?_;first|refine Rh (ke _ _) ?_)|refine tX 0 ?_|exact Zt|refine bR ?_ ?_<;>intro h)<;>(try conv=>whnf))
  all_goals rw[hf]
  all_goals
   repeat' ((first|(refine kO 7 rfl ?_;first|refine Rq (iR _) ?_|refine rG (λ_ z=>⟨_,wF CC,z⟩) ?_)|refine tX 0 ?_|exact Zt|refine bR ?_ ?_<;>intro h)<;>(try conv=>whnf))
   all_goals first|exact Zo|exact Ew):p:=h
def K4 (h:p:=by
 repeat' ((first|refine tX 0 ?_|exact Zt|refine bR ?_ ?_<;>intro h)<;>(try conv=>whnf))
 all_goals first|exact Zs|exact⟨m0,dU rfl rfl,_,rfl,rfl⟩):p:=h
def K5 (h:p:=by
 repeat' ((first|refine tX 0 ?_|exact Zt|refine bR ?_ ?_<;>intro h)<;>(try conv=>whnf))
 all_goals first|exact Zo|(exact rfl)):p:=h
def K6 (h:p:=by
 repeat((first|(refine kO 7 rfl ?_;first|refine rG (λ_ z=>⟨_,MM (show(4:Int)≠0 by decide),z⟩) ?_)|refine tX 0 ?_|exact Zt);(try conv=>whnf))
 rw[vt];repeat((first|(refine kO 7 rfl ?_;first|refine rG (λ_ z=>⟨_,MM (show(4:Int)≠0 by decide),z⟩) ?_)|refine tX 0 ?_|exact Zt);(try conv=>whnf))
 (first|done|rfl|exact True.intro)):p:=h
def K7 (h:p:=by(first|done|rfl|exact True.intro)):p:=h
def K8 (h:p:=by
 repeat' ((first|refine tX 0 ?_|exact Zt|refine bR ?_ ?_<;>intro h)<;>(try conv=>whnf))
 all_goals first|exact Zs|exact⟨m3,dU rfl rfl,_,rfl,rfl⟩):p:=h
def K9 (h:p:=by decide):p:=h
def UC (h:p:=by
 repeat' ((first|refine tX 0 ?_|exact Zt|refine bR ?_ ?_<;>intro h)<;>(try conv=>whnf))
 all_goals first|exact Ze|exact⟨m3,dU rfl rfl,_,rfl,rfl⟩):p:=h
def K11 (h:p:=by
 repeat' ((first|(refine kO 7 rfl ?_;first|refine rG (λ_ z=>⟨_,aN (by simp only[ab,ja];omega) _,z⟩) ?_|refine rG (λ_ z=>⟨_,bG (by simp only[ab,ja];omega) _,z⟩) ?_|refine rG (λ_ z=>⟨_,wF rfl,z⟩) ?_)|refine tX 0 ?_|exact Zt|refine bR ?_ ?_<;>intro h)<;>(try conv=>whnf))
 all_goals exact Ew):p:=h
def dp (h:p:=by kernel_rfl):p:=h
def br (h:p:=by grind):p:=h
def K15 (h:p:=by
 repeat' ((first|(refine kO 7 rfl ?_;first|refine ij (λ_ z=>⟨_,_,_,(Ap hl (by grind[gY,cT]) ⟨_,_,rfl,rfl⟩ rfl),z⟩) ?_)|refine tX 0 ?_|exact Zt|refine bR ?_ ?_<;>intro h)<;>(try conv=>whnf))
 all_goals exact Ew):p:=h
def K16 (h:p:=by
 repeat' ((first|(refine kO 7 rfl ?_;first|refine Rq (ec _ _ _) ?_)|refine tX 0 ?_|exact Zt|refine bR ?_ ?_<;>intro h)<;>(try conv=>whnf))
 all_goals exact Z0):p:=h
def K17 (h:p:=by
 (try(refine tX 0 ?_;try exact Zt))
 refine af (ι:=Nat) (λi=>1<=i/\i<=a.length) (λi=>a.length -i) (λi=>⟨[(0,vL a),(1,vL b),(5,pO 0),(6,vI (FP a b i)),(7,vI i)],[(0,some (.row true 1 (.ints (Xe a b i))))],1⟩) 1 (ai (by rw[g5,e1,e2];kernel_rfl)) ⟨dw _,by omega⟩ ?_;clear d0' d1 d2 h e1 e2;rintro i ⟨zE,hi⟩;have d0':=dig b i;have d1:=ha.get i;have d2:=hb.get i;have d3:=Am a b i;have d4:=Cl a b i;have d5:=M6 a b i
 (try(refine tX 0 ?_;try exact Zt))
 (refine bR ?_ ?_<;>intro h<;>(try conv=>whnf))
 ·have ak:i<a.length:=by omega
  (try(refine tX 0 ?_;try exact Zt))
  (refine bR ?_ ?_<;>intro h<;>(try conv=>whnf))
  ·have f1:FP a b (i+1)=1:=if_pos h;have f2:sbD a b i=a.getD i 0 -b.getD i 0 -FP a b i+1000000000:=if_pos h
   (try(refine tX 0 ?_;try exact Zt))
   exact⟨i+1,⟨by omega,ak⟩,by omega,ai (by rw[d5,f1,f2];kernel_rfl)⟩
  ·have f1:FP a b (i+1)=0:=if_neg h;have f2:sbD a b i=a.getD i 0 -b.getD i 0 -FP a b i:=if_neg h
   (try(refine tX 0 ?_;try exact Zt))
   exact⟨i+1,⟨by omega,ak⟩,by omega,ai (by rw[d5,f1,f2];kernel_rfl)⟩
 ·obtain rfl:i=a.length:=by omega
  (try(refine tX 0 ?_;try exact Zt))
  rfl):p:=h
def K18 (h:p:=by
 repeat' ((first|(refine kO 7 rfl ?_;first|refine ij (λ_ z=>⟨_,_,_,(c0 _ _ ⟨_,_,rfl,rfl⟩ rfl),z⟩) ?_|refine rG (λ_ z=>⟨_,aN (by(simp[ab];done)) _,z⟩) ?_|refine rG (λ_ z=>⟨_,bG (by(simp[ab];done)) _,z⟩) ?_|refine rG (λ_ z=>⟨_,aN (by simp only[ab,ju,kD];omega) _,z⟩) ?_|refine rG (λ_ z=>⟨_,bG (by simp only[ab,ju,kD];omega) _,z⟩) ?_|refine rG (λ_ z=>⟨_,wF rfl,z⟩) ?_)|refine tX 0 ?_|exact Zt|refine bR ?_ ?_<;>intro h)<;>(try conv=>whnf))
 all_goals exact Ei):p:=h
def G6 (h:p:=by simp only[execOp,ho,eJ,hr,mw];rfl):p:=h
def K20 (h:p:=by
 obtain rfl:i=e.text.length:=by omega
 have WZ:(kv.map Q7).length =19:=rfl;have hv:=bg (f:=Q7) (l:=kv) hj vD;rw[show vb j=(kv.getD j vD).2 from rfl]at hr;generalize kv.getD j vD=q at*;repeat' ((first|refine tX 0 ?_|exact Zt|refine bR ?_ ?_<;>intro h)<;>(try conv=>whnf))
 all_goals try(exfalso;omega)
 repeat((first|(refine kO 7 rfl ?_;first|refine se (λ_ z=>⟨_,_,_,(Ft _ _ zE b1 b2 b3 b4),z⟩) ?_|refine se (λ_ z=>⟨_,_,_,(Rn (n:=1034) hS rfl rfl rfl rfl),z⟩) ?_)|refine tX 2 ?_|exact Zt);(try conv=>whnf))
 repeat' ((first|refine tX 0 ?_|exact Zt|refine bR ?_ ?_<;>intro h)<;>(try conv=>whnf))
 refine al2 (R:=[fz 1036 9,fz 1036 11,fz 1036 13,fz 1036 15]) _ y hy ⟨rfl,rfl,al (.st _)<|al (.st _)<|al (.st _)<|al (.st _)<|al (.st _)<|al ?_ lY⟩;rw[hyu]
 exact WL (a:=fz 1036 11) (b:=fz 1036 13) (c:=fz 1036 15) Ui (aP (λl=>some (co.aA 17 l)) (ag0 (fresh 1036 0) s.units i0 u')) rfl rfl rfl ⟨.head _,.tail _ (.head _),.tail _ (.tail _ (.head _)),.tail _ (.tail _ (.tail _ (.head _)))⟩):p:=h
def K21 (h:p:=by
 by_cases h1:i=fid
 ·by_cases h2:j=fid;omega
  ·exfalso;subst h1;rw[jw]at bi;cases bi;rw[it _ _ _ h2]at bj;obtain⟨h3,h4⟩:=live h2 hj;exact h3 (hR.inj j id b _ _ h4 hb bj xm)
 ·by_cases h2:j=fid
  ·exfalso;subst h2;rw[jw]at bj;cases bj;rw[it _ _ _ h1]at bi;obtain⟨h3,h4⟩:=live h1 hi;exact h3 (hR.inj i id b _ _ h4 hb bi xm)
  ·rw[it _ _ _ h1]at bi;rw[it _ _ _ h2]at bj
   exact hR.inj i j x _ _ (live h1 hi).2 (live h2 hj).2 bi bj):p:=h
def K22 (h:p:=by
 repeat' ((first|refine tX 0 ?_|exact Zt|refine bR ?_ ?_<;>intro h)<;>(try conv=>whnf))
 all_goals first|exact Zo|exact⟨i+1,ak,by omega,ai (by rw[xB,lV];kernel_rfl)⟩):p:=h
def K23 (h:p:=by
 obtain rfl:i=e.text.length:=by omega
 have WZ:(kv.map Q7).length =19:=rfl;have hv:=bg (f:=Q7) (l:=kv) hj vD;rw[show vb j=(kv.getD j vD).2 from rfl]at hr;generalize kv.getD j vD=q at*;repeat' ((first|refine tX 0 ?_|exact Zt|refine bR ?_ ?_<;>intro h)<;>(try conv=>whnf))
 all_goals try(exfalso;omega)
 repeat((first|(refine kO 7 rfl ?_;first|refine se (λ_ z=>⟨_,_,_,(Rl _ _ b1 b2 b3 b4),z⟩) ?_|refine se (λ_ z=>⟨_,_,_,(Rm (n:=1034) hS rfl rfl rfl),z⟩) ?_)|refine tX 2 ?_|exact Zt);(try conv=>whnf))
 repeat' ((first|refine tX 0 ?_|exact Zt|refine bR ?_ ?_<;>intro h)<;>(try conv=>whnf))
 by_cases hy:y.2=0
 ·exact al2 (R:=[fz 1036 5,fz 1036 7,fz 1036 9]) _ y hy ⟨rfl,rfl,al (.st _)<|al (.st _)<|al (.row (.head _) rfl)<|al (.st _)<|al (.row (.tail _ (.head _)) rfl)<|al (.row (.tail _ (.tail _ (.head _))) rfl) lY⟩
 ·exact al1 _ y hy):p:=h
theorem K24 (h:p:=by
 repeat' ((first|refine tX 0 ?_|exact Zt|refine bR ?_ ?_<;>intro h)<;>(try conv=>whnf))
 all_goals first
  |(exfalso;omega)
  |rfl):p:=h
def K26 (h:p:=by
 rw[aY hx h2 h4 (show aI E p log ⟨volt,earth,opens,hall,lots,units⟩ _ 14 [x] n r=(_,_)from hq.trans ((if_neg xH).trans (if_pos hh)))];refine gI f128 h3 hl rfl ?_;repeat' ((first|(refine kO 7 rfl ?_;first|refine ij (λ_ z=>⟨_,_,_,(c0 _ _ ⟨_,_,rfl,rfl⟩ rfl),z⟩) ?_|refine rG (λ_ z=>⟨_,bG (CN hh) _,z⟩) ?_|refine rG (λ_ z=>⟨_,aN (by(simp[ab];done)) _,z⟩) ?_|refine rG (λ_ z=>⟨_,bG (by simp only[ab,ju,kD];omega) _,z⟩) ?_|refine rG (λ_ z=>⟨_,wF rfl,z⟩) ?_|refine ij (λ_ z=>⟨_,_,_,(vc hM hp hr rfl rfl rfl (jO (by assumption)) rfl rfl rfl),z⟩) ?_)|refine tX 0 ?_|exact Zt|refine bR ?_ ?_<;>intro h)<;>(try conv=>whnf))
 all_goals exact Ei):p:=h
def K27 (h:p:=by
 refine gH f111 ?_;repeat' ((first|(refine kO 7 rfl ?_;first|refine ij (λ_ z=>⟨_,_,_,(cu _ _ rfl rfl rfl),z⟩) ?_)|refine tX 0 ?_|exact Zt|refine bR ?_ ?_<;>intro h)<;>(try conv=>whnf))
 all_goals first|exact Zs|exact⟨m0,dU rfl rfl,_,rfl,rfl⟩):p:=h
def K28 (h:p:=by
 repeat' ((first|(refine kO 7 rfl ?_;first|refine Rq (gm _) ?_|refine Rq (ec _ _ _) ?_)|refine tX 0 ?_|exact Zt|refine bR ?_ ?_<;>intro h)<;>(try conv=>whnf))
 all_goals exact Z0):p:=h
def K29 (h:p:=by
 repeat' ((first|refine tX 0 ?_|exact Zt|refine bR ?_ ?_<;>intro h)<;>(try conv=>whnf))
 all_goals first|exact Ze|exact⟨n,⟨by omega,hg⟩,by omega,ai (by rw[show((n:Int) -1)=(((n+1:Nat):Int) -1 -1)by omega];kernel_rfl)⟩):p:=h
def K30 (h:p:=by
 repeat' ((first|refine tX 0 ?_|exact Zt|refine bR ?_ ?_<;>intro h)<;>(try conv=>whnf))
 all_goals first|exact Zo|exact⟨i+1,ak,by omega,ai (by rw[xB];kernel_rfl)⟩):p:=h
def K31 (h:p:=by
 refine gI f125 h3 hl rfl ?_;repeat' ((first|(refine kO 7 rfl ?_;first|refine ij (λ_ z=>⟨_,_,_,(c0 _ _ ⟨_,_,rfl,rfl⟩ rfl),z⟩) ?_|refine rG (λ_ z=>⟨_,bG hh _,z⟩) ?_|refine rG (λ_ z=>⟨_,aN (by(simp[ab];done)) _,z⟩) ?_|refine rG (λ_ z=>⟨_,bG (by(simp[ab];done)) _,z⟩) ?_|refine rG (λ_ z=>⟨_,aN (by simp only[ab,ju,kD];omega) _,z⟩) ?_|refine rG (λ_ z=>⟨_,bG (by simp only[ab,ju,kD];omega) _,z⟩) ?_|refine rG (λ_ z=>⟨_,wF rfl,z⟩) ?_)|refine tX 0 ?_|exact Zt|refine bR ?_ ?_<;>intro h)<;>(try conv=>whnf))
 all_goals exact Ei):p:=h
def K32 (h:p:=by
 rw[h3]at hcc kF
 (try(refine tX 0 ?_;try exact Zt))
 rw[vt]
 (try(refine tX 0 ?_;try exact Zt))
 exact⟨i+1,⟨ak,iT kF⟩,by omega,fA (ks:=[1,2,8,14,15,16]) (m:=[(0,0)]) (n:=1) (by rw[vP,<- hpk];kernel_rfl)⟩):p:=h
def K33 (h:p:=by
 obtain rfl:i=e.text.length:=by omega
 have WZ:(kv.map Q7).length =19:=rfl;have hv:=bg (f:=Q7) (l:=kv) hj vD;rw[show vb j=(kv.getD j vD).2 from rfl]at hr;generalize kv.getD j vD=q at*;repeat' ((first|refine tX 0 ?_|exact Zt|refine bR ?_ ?_<;>intro h)<;>(try conv=>whnf))
 all_goals try(exfalso;omega)
 repeat((first|(refine kO 7 rfl ?_;first|refine se (λ_ z=>⟨_,_,_,(Ft _ _ zE b1 b2 b3 b4),z⟩) ?_|refine se (λ_ z=>⟨_,_,_,(Ro (n:=1034) hS rfl rfl rfl rfl),z⟩) ?_)|refine tX 2 ?_|exact Zt);(try conv=>whnf))
 repeat' ((first|refine tX 0 ?_|exact Zt|refine bR ?_ ?_<;>intro h)<;>(try conv=>whnf))
 exact al1 _ y hy):p:=h
def K34 (h:p:=by
 have hn: ¬(len*ie.size>2^24):=by omega
 refine⟨(Array.range (len*ie.size)).map (λx=>(if len*ie.size=0 then #[]else ez.cells)[x%(if len*ie.size=0 then #[]else ez.cells).size]!),by simp,λcells l8=>?_⟩;simp only[Instr.buildSlice,eJ,hT.cU,hd,mw,GP.iF,hn,kJ];by_cases h0:len*ie.size=0
 ·rw[if_pos h0]at l8;simp only[h0,if_true,eJ,lL,mw];rw[h0]at l8;rw[l8];simp[newRow]
 ·rw[if_neg h0]at l8;simp only[h0,kJ,eJ,GP.sR,mw,lL];rw[l8]
  simp[newRow]):p:=h
def K35 (h:p:=by
 refine gF f119 hl ?_;repeat' ((first|(refine kO 7 rfl ?_;first|refine rG (λ_ z=>⟨_,aN (by omega) _,z⟩) ?_|refine rG (λ_ z=>⟨_,bG (by omega) _,z⟩) ?_|refine rG (λ_ z=>⟨_,wF rfl,z⟩) ?_)|refine tX 0 ?_|exact Zt|refine bR ?_ ?_<;>intro h)<;>(try conv=>whnf))
 all_goals exact Ew):p:=h
def K36 (h:p:=by
 refine gI f128 h3 hl rfl ?_;repeat' ((first|(refine kO 7 rfl ?_;first|refine ij (λ_ z=>⟨_,_,_,(c0 _ _ ⟨_,_,rfl,rfl⟩ rfl),z⟩) ?_|refine rG (λ_ z=>⟨_,aN hh _,z⟩) ?_|refine rG (λ_ z=>⟨_,aN (by(simp[ab];done)) _,z⟩) ?_|refine rG (λ_ z=>⟨_,bG (by simp only[ab,ju,kD];omega) _,z⟩) ?_|refine rG (λ_ z=>⟨_,wF rfl,z⟩) ?_|refine ij (λ_ z=>⟨_,_,_,(vc hM hp hr rfl rfl rfl (jO (by assumption)) rfl rfl rfl),z⟩) ?_)|refine tX 0 ?_|exact Zt|refine bR ?_ ?_<;>intro h)<;>(try conv=>whnf))
 all_goals exact Ei):p:=h
def IV (h:p:=by
 (try(refine tX 0 ?_;try exact Zt))
 rfl):p:=h
def K38 (h:p:=by
 repeat' ((first|refine tX 0 ?_|exact Zt|refine bR ?_ ?_<;>intro h)<;>(try conv=>whnf))
 all_goals first|exact Ze|exact⟨n+1,hnt,by omega,ai (by rw[FQ];kernel_rfl)⟩|trace_state):p:=h
def K39 (h:p:=by
 repeat' ((first|(refine kO 7 rfl ?_;first|refine rG (λ_ z=>⟨_,aN hk _,z⟩) ?_|refine rG (λ_ z=>⟨_,bG hk _,z⟩) ?_|refine rG (λ_ z=>⟨_,wF rfl,z⟩) ?_)|refine tX 0 ?_|exact Zt|refine bR ?_ ?_<;>intro h)<;>(try conv=>whnf))
 all_goals exact Ei):p:=h
def K40 (h:p:=by
 simp only[m7]at hr;split at hr
 ·rename_i n hn;simp at hr;subst hr;have hm:=Ab hn;obtain⟨_,b,h1,h2⟩:=hd;exact⟨⟨_,hm⟩,b,by rw[h.kH hm];exact h1,h2⟩
 grind):p:=h
def K41 (h:p:=by
 repeat' ((first|refine tX 0 ?_|exact Zt|refine bR ?_ ?_<;>intro h)<;>(try conv=>whnf))
 all_goals exact rfl):p:=h
def K42 (h:p:=by
 (try(refine tX 0 ?_;try exact Zt))
 exact⟨i -1,⟨by omega,by omega⟩,by omega,ai (by rw[show i -1+1=i by omega];unfold EL EM;rw[s1,s2];kernel_rfl)⟩):p:=h
def K43 (h:p:=by
 (try(refine tX 0 ?_;try exact Zt))
 exact⟨i -1,⟨by omega,by omega⟩,by omega,ai (by rw[show i -1+1=i by omega];unfold J8 J9;rw[s1,s2];kernel_rfl)⟩):p:=h
def K44 (h:p:=by
 rintro F nt a w ⟨N,⟨q1,q2,q0,β,q3,q4⟩,q5⟩
 have hg:ii {P:=default,gl:=[],ty:=[]} Hh.get [(id,some (.row false z c))]:=ii.kj λp hp=>by
  rw[lq]at hp;subst hp;exact⟨m,z,c,hb,rfl⟩
 have ht:Tr F β N Hh.get w β N (Hp.on [(id,some (.row false z c))] Hh.get) w:=hg.soft.tr;refine⟨N,⟨q1,q2,q0,β,?_,?_⟩,q5⟩
 ·have:=ht.env q4 q3;rwa [<- Hp.get_append]at this
 ·have:=hg.heap q4
  rwa [<- Hp.get_append]at this):p:=h
def K45 (h:p:=by
 refine sF f179 ?_;repeat((first|(refine kO 7 rfl ?_;first|refine rG (λ_ z=>⟨_,aN h1 _,z⟩) ?_)|refine tX 0 ?_|exact Zt);(try conv=>whnf))
 refine JG hu rfl rfl rfl rfl rfl rfl (by simp;omega) ?_;conv=>whnf
 rw[zx]
 exact tL):p:=h
def K46 (h:p:=by
 rw[aY hx h2 h4 (show aI E p log ⟨volt,earth,opens,hall,lots,units⟩ _ 14 [x] n r=(_,_)from hq.trans (if_pos rfl))];refine gI f128 h3 hl rfl ?_
 exact tL):p:=h
def K47 (h:p:=by repeat first|exact ib.base _|refine ib.step rfl ?_):p:=h
def K48 (h:p:=by
 repeat' ((first|(refine kO 7 rfl ?_;first|refine Rq (ec _ _ _) ?_)|refine tX 0 ?_|exact Zt|refine bR ?_ ?_<;>intro h)<;>(try conv=>whnf))
 all_goals first|exact Zo|exact mH (by unfold Y2;split<;>(try split)<;>omega)):p:=h
def K49 (h:p:=by
 repeat' split at h
 all_goals(simp only[gt]at h;obtain⟨rfl,h⟩:=h)
 all_goals first|exact hm|exact⟨hm.units,hm.lots,hm.opens,hm.unit⟩):p:=h
def K50 (h:p:=by
 repeat' ((first|refine tX 0 ?_|exact Zt|refine bR ?_ ?_<;>intro h)<;>(try conv=>whnf))
 all_goals first|exact Zo|(exact absurd h hx)|exact⟨i+1,⟨ak,λhm=>(FF.1 hm).elim dx λe=>hx e.symm⟩,by omega,Zc⟩):p:=h
def K51 (h:p:=by
 (refine bR ?_ ?_<;>intro h<;>(try conv=>whnf))
 ·(try(refine tX 0 ?_;try exact Zt))
  generalize (lo+hi+1)/2=mm at*;exact⟨(mm,hi),⟨⟨by omega,by omega,by omega⟩,by show y*mm<=_;omega,p5⟩,by omega,Zc⟩
 ·(try(refine tX 0 ?_;try exact Zt))
  generalize (lo+hi+1)/2=mm at*;refine⟨(lo,mm -1),⟨⟨by omega,by omega,by omega⟩,p4,?_⟩,by omega,Zc⟩;simp only
  rw[Int.sub_add_cancel];omega):p:=h
def wG (h:p:=by simp;omega):p:=h
def K53 (h:p:=by
 by_cases hz:(ws.take (w+1)).getD k []= []
 ·have zJ: []∈ws.take (w+1):=FU (ahn.2 (.inr hz.symm));rw[if_pos zJ];rw[hz]at RL;exact tL
 ·generalize (ws.take (w+1)).getD k []=y at*;repeat' ((first|refine tX 0 ?_|exact Zt|refine bR ?_ ?_<;>intro h)<;>(try conv=>whnf))
  all_goals first|exact Ze|exact⟨k+1,⟨uD,λhm=>(ahn.1 hm).elim FR λe=>hz e.symm⟩,by omega,Zc⟩):p:=h
def K54 (h:p:=by
 unfold iG at Xh;split at Xh
 ·rename_i fn GN;obtain⟨FN,mV⟩:=aG Xh;obtain⟨body,mV⟩:=qJ.1 mV;have xl:(fn.name=="runtime.NumGoroutine")=false:=by grind
  simp only[execOp,ho,resolve,hc,Fz,Deferred.ofValue,eJ,lL,mw,invoke,callFunc,AO,GN,xl,mV,Ss,sU,kJ]
 grind):p:=h
theorem K55 (h:p:=by
 obtain⟨_,hB⟩:=hR.rel id bz e
 cases bz with
 |map es=>obtain⟨b',arr,T,q1,q2,q3,_⟩:=hB;grind
 |box t cs=>obtain⟨b',arr,T,q1,q2,q3,_⟩:=hB;grind
 |dV cs=>obtain⟨b',arr,T,q1,q2,q3,_⟩:=hB;grind
 |row m z c=>
  obtain⟨_,q1|⟨b',cap,q1,q2,arr,T,q3,_⟩⟩:=hB
  grind
  grind
 |aA z l=>
  obtain⟨_,q1|⟨b',cap,arr,T,q1,q2,q3,_⟩⟩:=hB
  grind
  grind):p:=h
def K56 (h:p:=by
 intro b' o' v' h';unfold Mem.but at h';split at h'
 grind
 ·rename_i e8;unfold dT at h';split at h'
  ·rename_i hge;rw[qR (gN.gG (o3 hH.below.size hge))];omega
   ·intro id bz e hid;by_cases W8:id=fid
    grind[jw]
    ·rw[aH _ _ _ W8]at e;rw[it _ _ _ W8]at hid;have:=(hH.gb e hid).1;omega
  ·exact t2.mv b' o' v' h'):p:=h
theorem K57 (h:p:=by
 obtain rfl:i=l.length:=by omega
 rw[LA]at he;repeat' ((first|refine tX 0 ?_|exact Zt|refine bR ?_ ?_<;>intro h)<;>(try conv=>whnf))
 all_goals first
  |(exfalso;omega)
  |exact mH he):p:=h
def K58 (h:p:=by exact key (by simp[builtin,Builtin.len_,vK,RY,hT.cU,hd,oV,goInt]) (bh.pure hR h (fU rfl))):p:=h
def K59 (h:p:=by
 refine aS ?_;(refine aR ?_;conv=>whnf);(try(refine tX 2 ?_;try exact Zt));refine aQ ?_;(refine aR ?_;conv=>whnf);(try(refine tX 2 ?_;try exact Zt));refine⟨_,dh 6 rfl,?_⟩;repeat' ((first|refine tX 0 ?_|exact Zt|refine bR ?_ ?_<;>intro h)<;>(try conv=>whnf))
 all_goals first|(exact rfl)|(cases x<;>first|(exact rfl)|(exact absurd rfl h)|(cases h))|trace_state):p:=h
def K60 (h:p:=by
 have:(gA (fresh (Fw.tag fid) 0) T' R).map Prod.fst=ah R++(ah T').map (fresh (Fw.tag fid) 0):=by simp[gA,sc,FV]
 rw[this,IU];refine⟨hR,?_,λa ha b hb RR=>?_⟩
 ·have AM:=(m8.new fh hi).ok.news;have:(sc (ah T') (fresh (Fw.tag fid) 0)).map Prod.snd=(ah T').map (fresh (Fw.tag fid) 0):=by simp[sc,FV]
  grind
 grind):p:=h
def K61 (h:p:=by
 show Int.gcd y (x.tmod y)=_;rw[<- hg];show Nat.gcd y.natAbs (x.tmod y).natAbs =Nat.gcd x.natAbs y.natAbs
 rw[GZ,SJ x.natAbs y.natAbs,Nat.gcd_rec y.natAbs x.natAbs,SJ]):p:=h
def K62 (h:p:=by
 intro d hd;have:d= .st (.lit (.pointer none)):=by simpa using hd
 subst this
 trivial):p:=h
def K63 (h:p:=by
 simp only[cQ,mA,mB]at AN
 grind[bA,uA]):p:=h
def K64 (h:p:=by
 rw[if_neg h1]at c1 ⊢;refine gF f116 sr ?_;repeat' ((first|(refine kO 7 rfl ?_;first|refine ij (λ_ z=>⟨_,_,_,(c0 _ _ ⟨_,_,rfl,rfl⟩ rfl),z⟩) ?_|refine Rq (iR _) ?_|refine rG (λ_ z=>⟨_,wF (E:=4) rfl,z⟩) ?_)|refine tX 0 ?_|exact Zt|refine bR ?_ ?_<;>intro h)<;>(try conv=>whnf))
 all_goals first|exact Zo|exact Ew):p:=h
def K65 (h:p:=by
 repeat' ((first|(refine kO 7 rfl ?_;first|refine rG (λ_ z=>⟨_,wF rfl,z⟩) ?_)|refine tX 0 ?_|exact Zt|refine bR ?_ ?_<;>intro h)<;>(try conv=>whnf))
 all_goals exact Ew):p:=h
theorem K66 (h:p:=by
 repeat' ((first|refine tX 0 ?_|exact Zt|refine bR ?_ ?_<;>intro h)<;>(try conv=>whnf))
 all_goals first
  |(exfalso;omega)
  |exact⟨i+1,⟨ak,by omega⟩,by omega,Zc⟩):p:=h
def K67 (h:p:=by
 by_cases hb:A<=p.eH -used
 all_goals
  repeat' ((first|(refine kO 7 rfl ?_;first|refine Rq cA ?_|refine rG (λ_ z=>⟨_,aN hb _,z⟩) ?_|refine rG (λ_ z=>⟨_,bG hb _,z⟩) ?_|refine rG (λ_ z=>⟨_,wF rfl,z⟩) ?_)|refine tX 0 ?_|exact Zt|refine bR ?_ ?_<;>intro h)<;>(try conv=>whnf))
  all_goals exact Ei):p:=h
def Pv (h:p:=by rw[<- hn];kernel_rfl):p:=h
def K69 (h:p:=by
 refine gH f243 ?_;repeat' ((first|(refine kO 7 rfl ?_;first|refine ij (λ_ z=>⟨_,_,_,(cv _ _ _ _ _ rfl rfl rfl),z⟩) ?_|refine ij (λ_ z=>⟨_,_,_,(cr _ _ _ _ _ rfl rfl rfl),z⟩) ?_)|refine tX 0 ?_|exact Zt|refine bR ?_ ?_<;>intro h)<;>(try conv=>whnf))
 all_goals first|exact Zs|exact⟨m3,dU rfl rfl,_,rfl,rfl⟩):p:=h
def K70 (h:p:=by
 refine sF f147 ?_;repeat((first|(refine kO 7 rfl ?_;first|refine Rq (dm _ _ _) ?_)|refine tX 0 ?_|exact Zt);(try conv=>whnf))
 (first|done|rfl|exact True.intro)):p:=h
def K71 (h:p:=by
 rcases R9.1 hj with h'|rfl
 ·exact Lc j h'
 ·exact h):p:=h
def K72 (h:p:=by
 repeat' ((first|refine tX 0 ?_|exact Zt|refine bR ?_ ?_<;>intro h)<;>(try conv=>whnf))
 all_goals first|exact Zo|exact gX (eT λh=>h0 h.1).symm):p:=h
def K73 (h:p:=by
 obtain⟨h1,h2⟩:=live hi e;refine⟨h2,(hR.rel i bz h2).1,λb1 xz=>setRow_other w b b1 _ λjq=>h1 ?_⟩;subst jq
 exact hR.inj i id b1 bz _ h2 hb xz xm):p:=h
def K76 (h:p:=by repeat first|refine BC.step rfl ?_|exact BC.base _):p:=h
def K77 (h:p:=by
 have hz:=hz n hd;have hap:(l++[n]).length =l.length+1:=by simp
 repeat' ((first|refine tX 0 ?_|exact Zt|refine bR ?_ ?_<;>intro h)<;>(try conv=>whnf))
 all_goals first|exact Zo|(exact absurd rfl h)|(exact⟨(i+1,st,l++[n]),⟨⟨ak,by dsimp only;omega⟩,hz⟩,by dsimp only;omega,Zc⟩)):p:=h
def K78 (h:p:=by
 repeat' split at h
 all_goals(simp only[gt]at h;obtain⟨rfl,h⟩:=h)
 all_goals first|exact hm|exact⟨hm.lots,hm.len,hm.gas,hm.used,hm.res⟩):p:=h
theorem K79 (h:p:=by
 cases d with
 |own k=>simp only[m7];rw[oD hT hm hme]
 |ptr k o=>simp only[m7];rw[oD hT hm hme]
 |cF k _ _ _=>simp only[m7];rw[oD hT hm hme]
 |mp k=>simp only[m7];rw[oD hT hm hme]
 |sv g k=>simp only[m7];rw[oD hT hm hme]
 |st c=>rfl
 |nil=>rfl):p:=h
def K80 (h:p:=by
 refine gB f287 ?_;repeat' ((first|(refine kO 7 rfl ?_;first|refine ij (λ_ z=>⟨_,_,_,kU (c2 _) rfl,z⟩) ?_|refine ij (λ_ z=>⟨_,_,_,kU (c3 _) rfl,z⟩) ?_)|refine tX 0 ?_|exact Zt|refine bR ?_ ?_<;>intro h)<;>(try conv=>whnf))
 all_goals exact⟨rfl,rfl,_,rfl,rfl⟩):p:=h
def K81 (h:p:=by
 have hu:=h0 _ rfl;refine⟨cR β fid (some w.heap.size),_,u,R,hK,by rw[hu];exact(td.trans ht).trans t2,by grind,?_⟩;rw[hu];refine cI ⟨.inr rfl,rfl,λnL z' n' hb wx=>?_⟩;rw[an]at hb;cases hb;cases wx
 exact .inr ⟨w.heap.size,dH,_,e,by simp[cR],rfl,vK,ID⟩):p:=h
def FW (h:p:=by assumption):p:=h
def K83 (h:p:=by
 refine sF f137 ?_;repeat' ((first|refine tX 0 ?_|exact Zt|refine bR ?_ ?_<;>intro h)<;>(try conv=>whnf))
 all_goals first|exact Zo|(exact rfl)|(exact absurd h hp)|(exact absurd rfl (by assumption))|(exact mI (fH (by omega)))|(exact mI (eT (by omega)))):p:=h
def K84 (h:p:=by
 (try(refine tX 0 ?_;try exact Zt))
 exact⟨(l++[(m:Int)%1000000000],m/1000000000),⟨g,by simp;omega,by simp;omega,by simp;omega,by simp;omega,by simp⟩,by simp only;omega,ai (by rw[show((m/1000000000:Nat):Int)=(m:Int)/1000000000 by omega];kernel_rfl)⟩):p:=h
def K85 (h:p:=by
 (try(refine tX 0 ?_;try exact Zt))
 exact⟨i+1,ak,by omega,ai (by rw[hs];kernel_rfl)⟩):p:=h
def K86 (h:p:=by
 refine gH f199 ?_;repeat' ((first|(refine kO 7 rfl ?_;first|refine ij (λ_ z=>⟨_,_,_,(cm _ _ _ _ _ rfl rfl rfl),z⟩) ?_)|refine tX 0 ?_|exact Zt|refine bR ?_ ?_<;>intro h)<;>(try conv=>whnf))
 all_goals first|exact Zs|exact⟨m3,dU rfl rfl,_,rfl,rfl⟩):p:=h
def K87 (h:p:=by
 repeat' ((first|refine tX 0 ?_|exact Zt|refine bR ?_ ?_<;>intro h)<;>(try conv=>whnf))
 all_goals first|exact Z0|(exact absurd hx h)):p:=h
def K88 (h:p:=by
 rw[lq]at hy;subst hy;intro d hd;rw[lq]at hd;subst hd
 trivial):p:=h
def K89 (h:p:=by
 obtain⟨_,b,h1,h2⟩:=h
 exact⟨(fB id hm).2,b,by rw[(fB id hm).1];exact h1,h2⟩):p:=h
def K90 (h:p:=by
 repeat' ((first|refine tX 0 ?_|exact Zt|refine bR ?_ ?_<;>intro h)<;>(try conv=>whnf))
 all_goals first|exact Zo|exact Ew):p:=h
def K91 (h:p:=by
 obtain⟨hn,b,h1,h2⟩:=h
 exact⟨t.used _ hn,b,by rw[t.kH _ hn];exact h1,h2⟩):p:=h
def K92 (h:p:=by
 intro d hd;rw[lq]at hd;subst hd
 trivial):p:=h
def K93 (h:p:=by
 repeat' ((first|refine tX 0 ?_|exact Zt|refine bR ?_ ?_<;>intro h)<;>(try conv=>whnf))
 all_goals first|exact Zo|(exact absurd rfl h)|(exact⟨(i+1,n,[]),⟨⟨ak,by simp⟩,by rw[h0];exact hz⟩,by dsimp only;omega,Zc⟩)):p:=h
def K94 (h:p:=by
 rw[if_pos hn]at e;refine⟨fresh (Fw.tag fid) 0 n,b'.rn (fresh (Fw.tag fid) 0),?_,?_,pj Uj (fh.dM n b' e)⟩
 grind[gA]
 ·rw[Hp.get_append,tD,if_pos (by show _∈ah _;grind[dj]),jN hi n hn,e];rfl):p:=h
def K95 (h:p:=by
 subst h1;rw[an]at e;cases e;intro d hd;simp only[cQ,mA,mB]at hd
 rcases hd with rfl|rfl|rfl|rfl|rfl|rfl|rfl|rfl|rfl|rfl|rfl|rfl|rfl<;>first|trivial|(show _∈_::_;simp)):p:=h
def K96 (h:p:=by
 repeat' ((first|(refine kO 7 rfl ?_;first|refine ij (λ_ z=>⟨_,_,_,(c3 _ _ ⟨_,_,rfl,rfl⟩ rfl),z⟩) ?_)|refine tX 0 ?_|exact Zt|refine bR ?_ ?_<;>intro h)<;>(try conv=>whnf))
 all_goals first|exact Zo|exact Ex):p:=h
def K97 (h:p:=by
 (try(refine tX 0 ?_;try exact Zt))
 grind):p:=h
def K98 (h:p:=by
 intro b2 o v' wz;unfold Mem.but;split
 ·rename_i hb2;subst hb2;exfalso;unfold MV at wz;rw[if_pos q2]at wz;split at wz
  ·rename_i hs;have:=hs id _ hb h1
   grind[co.sS]
  grind
 ·exact yn FE b2 o v' wz):p:=h
def K99 (h:p:=by
 (try(refine tX 0 ?_;try exact Zt))
 refine aD ?_
 (try(refine tX 0 ?_;try exact Zt))
 refine aD ?_
 exact tL):p:=h
def afv (h:p:=by
 obtain⟨o,b0,h1,rfl,h3,rfl⟩:=(m8.new fh hi).heap id b e
 exact JD (co.dJ l7 (fh.dM o b0 h3))):p:=h
def ahM (h:p:=by
 simp only[cP,cQ,mA,mB]at hd
 rcases hd with rfl|rfl|rfl|rfl|rfl|rfl|rfl|rfl|rfl|rfl|rfl|rfl|rfl|rfl|rfl|rfl|rfl<;>first|trivial|(show _∈ah _;simp[lz])):p:=h
def LN (h:p:=by have:=(e.text.getD i 0).toNat_lt;omega):p:=h
def xM (h:p:=by
 refine sF f280 ?_
 exact tL):p:=h
def ahN (h:p:=by
 rw[wR]at qF;simp only[cQ]at qF;rcases qF with rfl|rfl|rfl|rfl|rfl|rfl|rfl|rfl|h'
 ·omega
 ·omega
 ·omega
 ·omega
 ·omega
 ·omega
 ·omega
 ·omega
 ·have:=wQ hi h';omega):p:=h
def ahO (h:p:=by
 simp only[cP,cQ,mA,mB]at hd
 rcases hd with rfl|rfl|rfl|rfl|rfl|rfl|rfl|rfl|rfl|rfl|rfl|rfl|rfl|rfl|rfl|rfl|rfl<;>first|trivial|(show _∈_::_;simp)):p:=h
def ahP (h:p:=by
 repeat' ((first|(refine kO 7 rfl ?_;first|refine rG (λ_ z=>⟨_,MM (show(6:Int)≠0 by decide),z⟩) ?_)|refine tX 0 ?_|exact Zt|refine bR ?_ ?_<;>intro h)<;>(try conv=>whnf))
 all_goals exact Z0):p:=h
def afw (h:p:=by
 simp only[builtin,vK,RY,List.map_toArray,ju,CO,eJ,hr,mw]
 rfl):p:=h
def afx (h:p:=by
 repeat' ((first|refine tX 0 ?_|exact Zt|refine bR ?_ ?_<;>intro h)<;>(try conv=>whnf))
 all_goals exact Ew):p:=h
def afy (h:p:=by rw[show ws.getD i []=ws[i]by simp[jE,ak]];exact oh ak):p:=h
def ahQ (h:p:=by
 (try(refine tX 0 ?_;try exact Zt))
 rw[e1];rw[f]
 (refine bR ?_ ?_<;>intro h<;>(try conv=>whnf))
 ·(try(refine tX 0 ?_;try exact Zt))
  rw[if_pos h]
 ·(try(refine tX 0 ?_;try exact Zt))
  rw[if_neg h]):p:=h
def afz (h:p:=by
 obtain⟨z,hz,rfl⟩:=my.1 hp;obtain⟨h5,h6⟩:=oF.2 z hz
 rw[k2 _ h5,k3 _ h6]):p:=h
def ahR (h:p:=by
 repeat' ((first|refine tX 0 ?_|exact Zt|refine bR ?_ ?_<;>intro h)<;>(try conv=>whnf))
 all_goals rfl):p:=h
def afA (h:p:=by
 rw[an]at this;cases this;cases wx
 exact .inr ⟨b,cap,_,T,by simp[cR],rfl,vK,by omega⟩):p:=h
def ahS (h:p:=by
 obtain rfl:i=l.length:=by omega
 repeat' ((first|refine tX 0 ?_|exact Zt|refine bR ?_ ?_<;>intro h)<;>(try conv=>whnf))
 all_goals first|exact Zo|exact gX (fH ⟨h0,hp⟩).symm):p:=h
def afB (h:p:=by rwa [show(if b=true then(0:Int)else e)=if p then 0 else e from by simp only[BP.iff (b:=b)]]at h):p:=h
def ahT (h:p:=by
 unfold Go.Fw.IM at h;simp only[sC]at h;have:=bW h.1.1;simp only[ju,CO,zO,cQ,mA,mB,not_or]at this
 grind):p:=h
def vu (h:p:=by grind[fu,Op.operands]):p:=h
def abE (h:p:=by
 obtain⟨d,e1,e2⟩:=Ju hE e
 exact fB.vQ (q3 s d e1) e2):p:=h
def UD (h:p:=by
 show(if u.rel then _ else _)=_
 rw[hrel];rfl):p:=h
def am2 (h:p:=by
 have:(gA (fresh (Fw.tag fid) 0) T' R).map Prod.snd=ah R++ah T':=by simp[gA,sc,FV]
 rw[this,IU]
 exact⟨hR,fh.nd,λa ha b hb RR=>by grind⟩):p:=h
def abF (h:p:=by
 rw[jZ]
 grind[gd,Nat.lt_of_lt_of_le,Nat.mul_le_mul_right]):p:=h
def ahU (h:p:=by
 refine sF f281 ?_;repeat' ((first|(refine kO 7 rfl ?_;first|refine Rq (mS _ _ _) ?_)|refine tX 0 ?_|exact Zt|refine bR ?_ ?_<;>intro h)<;>(try conv=>whnf))
 all_goals exact Z0):p:=h
def ahV (h:p:=by
 repeat' ((first|refine tX 0 ?_|exact Zt|refine bR ?_ ?_<;>intro h)<;>(try conv=>whnf))
 all_goals first|(exact rfl)|(cases x<;>first|(exact rfl)|(exact absurd rfl h)|(cases h))):p:=h
def ahW (h:p:=by
 repeat' ((first|refine tX 0 ?_|exact Zt|refine bR ?_ ?_<;>intro h)<;>(try conv=>whnf))
 all_goals first|exact Zo|exact⟨i+1,hp,by omega,ai (by rw[zx];kernel_rfl)⟩):p:=h
def ahX (h:p:=by
 have:bq 0 us=bq 0 (us.take i)++(lz u (17+6*i) (19+6*i) (21+6*i)++bq (i+1) (us.drop (i+1))):=by
  conv=>lhs;rw[h1]
  rw[yI,h2,jZ];rfl
 grind):p:=h
def afC (h:p:=by
 generalize av 32 s=l at*;have hn:(ab l).length =l.length:=by simp
 refine sF f69 ?_
 exact tA):p:=h
def ahY (h:p:=by
 repeat' ((first|(refine kO 7 rfl ?_;first|refine rG (λ_ z=>⟨_,wF rfl,z⟩) ?_)|refine tX 0 ?_|exact Zt|refine bR ?_ ?_<;>intro h)<;>(try conv=>whnf))
 all_goals exact Ei):p:=h
def ahZ (h:p:=by
 rcases Nat.lt_or_gt_of_ne hjn with OZ|hgt'
 ·have:(j+1)*z0<=n*z0:=kC _ OZ
  grind
 ·have:(n+1)*z0<=j*z0:=kC _ hgt'
  grind):p:=h
def ah0 (h:p:=by
 show if iO=id then Q .normal a w else Q (.exit iO) a w
 split at h
 ·rename_i e;rw[if_pos (o8 e)];grind
 ·rename_i e
  rw[if_neg (λe'=>by simp_all)];grind):p:=h
def ah1 (h:p:=by
 obtain⟨o,n⟩:=q;obtain⟨h1,rfl⟩:=Ti.1 h;show tag n<n'
 rw[hT.tag h1];exact h0):p:=h
def ah2 (h:p:=by
 refine rG (r:=lit (.int .i64 (l.length:Nat))) (u:=[]) (R:=[]) (λK hK=>?_) h2;unfold fu;rw[ho];simp only[hc,ha,hx];unfold eV;simp only[hi,hk,SC.ao]
 exact hK):p:=h
def afD (h:p:=by
 have hk:iO≠fid:=λe=>hf (e▸IE)
 exact⟨blk',(live hk e).2,blk'.fV⟩):p:=h
def ah3 (h:p:=by rw[sD];simp only[wB,sC];unfold eK;constructor<;>(intro h;refine⟨?_,?_⟩<;>first|omega|exact hp)):p:=h
def afE (h:p:=by simp[Instr.sliceAt,hT.cU,hd,Instr.sureAddr,Instr.sliceBounds,GP.iF,Addr.add]):p:=h
def ah4 (h:p:=by
 refine rG (r:=lit (.int .i64 (l.length:Nat))) (u:=[]) (R:=[id]) (λK hK=>?_) h2;unfold fu;rw[ho];simp only[hc,ha,hx];unfold eV;simp only[hi,hk,hH]
 exact hK):p:=h
def CZ (h:p:=by
 refine sF f203 ?_
 exact tL):p:=h
def ah5 (h:p:=by
 repeat' ((first|refine tX 0 ?_|exact Zt|refine bR ?_ ?_<;>intro h)<;>(try conv=>whnf))
 all_goals first|exact Ze|exact⟨k+1,uD,by omega,Zc⟩|trace_state):p:=h
def ah6 (h:p:=by
 intro p hp;rcases cQ.1 hp with rfl|hp
 ·exact .inr ⟨t,cs,l,u,r,hb,rfl,eG,λq hq=>i7 _ hq⟩
 ·exact .inl (cJ eG p hp)):p:=h
def afF (h:p:=by
 intro d hd;rw[lq]at hd;subst hd
 exact hT.xG):p:=h
theorem ah7 (h:p:=by
 match vs,hl with
 | [],_=>rfl
 | [v],hl=>
  exfalso;have:l.length=1:=by grind
  obtain⟨y,rfl⟩:=wA.1 this
  grind
 |_::_::_,_=>rfl):p:=h
def ah8 (h:p:=by
 refine⟨.inr rfl,by rw[B8];rfl,λnL z' n' hb wx=>?_⟩;rw[aH _ _ _ (ol e8),iT]at hb;cases hb;cases wx
 exact .inl ⟨by simp[cR],h0,B8⟩):p:=h
def ah9 (h:p:=by
 repeat' ((first|refine tX 0 ?_|exact Zt|refine bR ?_ ?_<;>intro h)<;>(try conv=>whnf))
 all_goals first|exact Zo|(exact rfl)|(exact absurd (by assumption) hp)):p:=h
def afG (h:p:=by
 (try(refine tX 0 ?_;try exact Zt))
 rw[if_neg h];(first|done|rfl|exact True.intro)):p:=h
def abG (h:p:=by unfold lz;dsimp only;rw[<- lj];kernel_rfl):p:=h
def Pw (h:p:=by rw[Hp.ar,an]):p:=h
theorem aia (h:p:=by
 have e1:lo.map a.eval=none:=by cases lo with|none=>rfl|some x=>grind
 have e2:hi.map a.eval=none:=by cases hi with|none=>rfl|some x=>grind
 grind):p:=h
def Px (h:p:=by
 refine gI f124 h3 hl rfl ?_
 exact tL):p:=h
def afH (h:p:=by
 obtain⟨rfl,_⟩:=hx.am.bw
 exact⟨_,rfl,bh.pure hR h (fU rfl)⟩):p:=h
def am3 (h:p:=by
 simp only[AQ,CP];rw[sw,hg]
 exact .lit rfl):p:=h
def aib (h:p:=by
 have hj:j<z':=by grind
 have ak:i*z'+j<c'.len*z':=by
  have:(i+1)*z'<=c'.len*z':=kC _ (SC.ip he)
  grind
 simp_all):p:=h
def abH (h:p:=by have:scB 1000000000000 (iV ch):=hS;omega):p:=h
def aic (h:p:=by
 obtain⟨is,hd⟩:=UO (hT.bY.trans bV);unfold Op.equal Op.maxDepth Op.equalIn
 simp only[eJ,hT.cU,hd,mw,lL]):p:=h
def aid (h:p:=by
 have:k=9\/k=11\/k=13\/k=15:=by simpa [F1,ah]using hk
 rcases this with rfl|rfl|rfl|rfl
 ·exact h9
 ·exact ha
 ·exact hb
 ·exact hc):p:=h
def aie (h:p:=by
 rw[aY hx h2 h4 (show aI E p log ⟨volt,earth,opens,hall,lots,units⟩ _ 3 [x,y] n r=(_,_)from if_pos hm)];refine gI f117 h3 hl rfl ?_
 exact tL):p:=h
def aif (h:p:=by
 rename_i xs ys;simp at h;subst h;refine⟨rfl,rfl,rfl,by simp[SC.len],λi e he=>?_⟩;simp only[SC.elem,SC.len,Si]at he ⊢
 grind):p:=h
def aig (h:p:=by
 rw[gr,my]at hk;obtain⟨x0,RY,rfl⟩:=hk
 exact fB.r8 (hv k x0 RY) (nQ (B6 x0 (jt RY)))):p:=h
def aih (h:p:=by
 subst h2;unfold wd;rw[ex];simp only[CW,CT,cY,Int.add_zero];refine sF f396 ?_
 (try(refine tX 0 ?_;try exact Zt))
 rw[ex];rfl):p:=h
def aii (h:p:=by
 rw[Xx hi];show(if l[i]≠0 then l[i]else fs (l.drop (i+1)))=_
 rw[show l.getD i 0=l[i]by simp[jE,hi]]):p:=h
def aij (h:p:=by
 have qF:=PT e;have e3:a2.tmps.getD s undef=a.tmps.getD s undef:=(u3 s qF).trans ((p3 s qF).trans (amQ s qF));have:=u1.env s dv e
 grind):p:=h
theorem aik (h:p:=by
 clear hx
 induction x with
 |nil=>rfl
 |cons d x ih=>
  simp only[eX]
  rw[key d i8,ih λd hd=>key d (i7 _ hd)]):p:=h
def ail (h:p:=by
 unfold fu at h;rw[ho]at h;simp only at h;split at h
 ·rename_i d hd;exact bJ (by simp[execOp,ho]) ⟨_,rfl,bh.pure hR h (ev hd)⟩
 grind):p:=h
theorem aim (h:p:=by
 generalize a.eval fo=vf at GN
 cases GN with
 |empty a cap hv=>grind[SC.ao]
 |view _ _ _ _ _ hv=>grind[SC.ao]
 |fn fv cv ga h1 h2=>
  grind):p:=h
def ain (h:p:=by
 rw[aY hx h2 h4 (show aI E p log ⟨volt,earth,opens,hall,lots,units⟩ _ 16 [x] n r=(_,_)from rfl)];refine gI f130 h3 hl rfl ?_
 exact tL):p:=h
def aio (h:p:=by
 obtain rfl:i=p.aa.length:=by omega
 rw[show(cO p.aa).take p.aa.length=cO p.aa from o0 (by simp[cO])]
 exact tA):p:=h
def XZ (h:p:=by grind[Nat.eq_of_mul_eq_mul_right]):p:=h
def afI (h:p:=by rwa [if_neg (λhb=>hp ((BP.iff (b:=b)).1 hb))]at h):p:=h
def aip (h:p:=by
 intro e he;rcases gC.1 he with he|he
 ·obtain⟨w,_,rfl⟩:=dN.1 he;rfl
 ·rw[lq]at he;subst he;rfl):p:=h
def aiq (h:p:=by
 rw[DQ zE ak];intro b jS;rcases gC.1 jS with jS|jS
 ·exact xj b jS
 ·rw[lq]at jS;subst jS;exact hx):p:=h
def UE (h:p:=by rw[<- Xj];kernel_rfl):p:=h
def air (h:p:=by
 have hk:=Hp.dS e;have:k=11\/k=13\/k=15:=by simpa [lz,ah]using hk
 rcases this with rfl|rfl|rfl<;>(cases e;trivial)):p:=h
def afJ (h:p:=by
 intro d hd;have:d= .st (.view (log.map df)):=by grind
 subst this;trivial):p:=h
def ais (h:p:=by
 rw[ho]at h;simp only at h ⊢;rw[he m (by grind[Op.operands]),he k (by grind[Op.operands]),he v (by grind[Op.operands])];split at h
 grind
 omega):p:=h
def afK (h:p:=by
 rcases R9.1 hj with h'|rfl
 ·exact hp j h'
 ·exact h):p:=h
theorem ait (h:p:=by
 cases h with
 |empty _ _ hv=>grind[SC.ao]
 |view _ _ _ _ _ hv=>grind[SC.ao]
 |ref b o f hc hr=>exact .ref b o f (by simp) (by simp)):p:=h
def UF (h:p:=by cases d<;>simp[eA]at h;grind):p:=h
def aiu (h:p:=by
 subst xA;rw[an]at hb;cases hb;cases wx
 exact .inr ⟨w.heap.size,len,arr',e,by simp[cR],by grind,gO w _,by omega⟩):p:=h
def UG (h:p:=by have:=(s.getD i 0).toNat_lt;omega):p:=h
def abI (h:p:=by simp only[qK];grind[cB,mN]):p:=h
def UH (h:p:=by
 refine gI f126 h3 hl rfl ?_
 exact tL):p:=h
def aiv (h:p:=by
 have:k=11\/k=13\/k=15:=by simpa [lz,ah]using hk
 rcases this with rfl|rfl|rfl<;>exact⟨by decide,by decide,rfl⟩):p:=h
def aiw (h:p:=by
 obtain rfl:i=ch.length:=by omega
 (try(refine tX 0 ?_;try exact Zt))
 rw[he,LA];(first|done|rfl|exact True.intro)):p:=h
def aix (h:p:=by
 repeat' ((first|refine tX 0 ?_|exact Zt|refine bR ?_ ?_<;>intro h)<;>(try conv=>whnf))
 all_goals first|(exact rfl)|trace_state):p:=h
def afL (h:p:=by rw[sD];simp only[wB];omega):p:=h
def afM (h:p:=by exact⟨β,_,_,_,h,fh.bf,hH.bf,⟨#[],rfl,rfl,by simp⟩⟩):p:=h
def X0 (h:p:=by exact⟨q0,.inl ⟨by grind,q1.2⟩⟩):p:=h
def aiy (h:p:=by
 have:=h4 (ws.getD 0 []) (by rw[show ws.getD 0 []=ws[0]by simp[jE,h6]];exact oh h6)
 omega):p:=h
def aiz (h:p:=by
 intro k n y c hn;have:0<=(n:Int)/\(n:Int)<=(y:Int):=⟨by omega,by omega⟩
 simp[Instr.sliceBound,asIntOf,this]):p:=h
def aiA (h:p:=by
 (try(refine tX 0 ?_;try exact Zt))
 exact⟨i+1,⟨⟨by omega,ak⟩,amv⟩,by omega,ai (by rw[hv];kernel_rfl)⟩):p:=h
def aiB (h:p:=by simp only[qK];rw[cB c1,cB c2,cB c3,cB c4,cB c5,cB c6,cB c7,mN]):p:=h
def aiC (h:p:=by
 have hk:=(kl.1 hx).1;have qF:k<ds.length:=by omega
 have hd:ds[k]? =some ds[k]:=by grind
 grind):p:=h
def X3 (h:p:=by simp[sc,FV]):p:=h
def aiD (h:p:=by
 unfold gA
 exact gC.2 (.inl (jU.2 ⟨hk,rfl⟩))):p:=h
def afN (h:p:=by
 by_cases hjn:j=n
 ·rw[if_pos hjn]at hj;grind[iq]
 grind):p:=h
def abJ (h:p:=by rw[vP,lV];kernel_rfl):p:=h
def afO (h:p:=by rw[ni];exact yX (by rw[l6 B7];simp)):p:=h
theorem aiE (h:p:=by
 match vs,hl,q2 with
 | [v],_,_=>exact⟨_,h,Uh 0 y rfl⟩
 | [],hl,q2=>grind
 |_::_::_,hl,q2=>grind):p:=h
theorem aiF (h:p:=by
 cases h2 with
 |num h=>exact h
 |empty a cap hv=>simp[SC.ao]at hv
 |view _ _ _ _ _ hv=>simp[SC.ao]at hv):p:=h
def aiG (h:p:=by simp only[qK];rw[cB b1,cB b2,cB b3,cB b4,cB b5,cB b6,mN]):p:=h
def aiH (h:p:=by
 have:10*0+(b.toNat -48)<=fJ 0 (b::r'):=Ad (acc:=10*0+(b.toNat -48)) (l:=r')
 grind[dk]):p:=h
def afP (h:p:=by
 rw[it _ _ _ hk]at jS
 exact hs iO bz (live hk e').2 jS):p:=h
def UI (h:p:=by exact .inl ⟨by decide,rfl⟩):p:=h
def am4 (h:p:=by
 rw[this,zR];have e:(B ∘ λx:ByteArray=>x.data.toList)=id:=by funext x;exact acC x
 simp_all):p:=h
def aiI (h:p:=by
 rw[h2]at h5;unfold wN;rw[h5];show(if b=true\/0<=v then some v else none).isSome =true
 rw[if_pos h1];rfl):p:=h
def aiJ (h:p:=by
 obtain⟨h0,h⟩:=h;have h1: ¬b<0:=by omega
 refine⟨_,?_,?_,h⟩
 ·simp[binOp,Op.shift,h1]
 ·rfl):p:=h
def abK (h:p:=by unfold BS at hb0;rw[ea]at hb0;exact hb0):p:=h
def afQ (h:p:=by
 refine gI f117 h3 hl rfl ?_
 exact tL):p:=h
def aiK (h:p:=by
 have hm:(if false=true\/0<=n then some n else none)=some m:=hm;split at hm
 ·cases hm;rfl
 ·cases hm):p:=h
def abL (h:p:=by grind[SC.elem]):p:=h
def afR (h:p:=by
 intro d hd;obtain⟨c,_,rfl⟩:=dN.1 hd
 trivial):p:=h
def aiL (h:p:=by
 cases x<;>cases y<;>cases z<;>first|(exact absurd ⟨⟨rfl,rfl⟩,rfl⟩ hall)|skip
 all_goals exact tA):p:=h
def aiM (h:p:=by
 have iT:=vn dx e8
 (try(refine tX 0 ?_;try exact Zt))
 generalize (vG.getD k 0).toNat =x at*
 exact tL):p:=h
def aiN (h:p:=by
 obtain⟨N,⟨_,_,_,β,hE,hR⟩,_⟩:=hr;have:=mC hG hR hE hb
 exact(aq.am this).bw.1):p:=h
def aiO (h:p:=by rw[show((l.length:Int) -1+1).toNat =l.length by omega,J6,J6];kernel_rfl):p:=h
theorem aiP (h:p:=by
 match ps,hp2 with
 | [],_=>rfl
 | [_],_=>rfl
 |_::_::_::_,_=>rfl
 | [_,_],h=>exact absurd rfl h):p:=h
def aiQ (h:p:=by exact Y4 (JT hn hg (Int.gcd_dvd_left ..)) (JT ⟨by omega,by omega⟩ hg (Int.gcd_dvd_right ..))):p:=h
def aiR (h:p:=by rw[show ps.getD i []=ps[i]by simp[jE,ak]];exact oh ak):p:=h
def am5 (h:p:=by rwa [show KV (fresh (tag fid) 1) (.val (dyn (I z)))= .val (dyn (I z))from aP DV.val (JH _ _)]at g):p:=h
theorem am6 (h:p:=by
 cases h2 with
 |num h=>exact h
 |empty a cap hv=>grind[SC.ao]
 |view _ _ _ _ _ hv=>grind[SC.ao]):p:=h
def afS (h:p:=by rwa [if_pos ((BP.iff (b:=b)).2 hp)]at h):p:=h
def abM (h:p:=by unfold maxLen;omega):p:=h
def LO (h:p:=by exact⟨q0,.inl q1⟩):p:=h
def aiS (h:p:=by rw[Hp.ar];exact λs dv e=>hs.vQ (q3 s dv e)):p:=h
theorem aiT (h:p:=by
 cases k with
 |zero=>simp at hk;subst hk;exact⟨.int .i64 0,by grind,.lit rfl⟩
 |succ k=>grind):p:=h
def aiU (h:p:=by
 rintro⟨a,b,c,d⟩ h;obtain⟨e1,e2,e3,e4⟩:=J3 h
 rw[k1 _ e1,k2 _ e2,k3 _ e3,k4 _ e4]):p:=h
def aiV (h:p:=by simp only[execOp,ho,eJ,SI,hr,mw];rfl):p:=h
theorem aiW (h:p:=by
 have:c.args.toList.length=2:=by omega
 match hl:c.args.toList,this with
 | [x0,x1],_=>grind):p:=h
theorem aiX (h:p:=by
 cases h with
 |empty a cap hv h0=>exact .empty a cap hv h0
 |view _ _ _ _ _ hv fO=>grind[SC.len]):p:=h
def abN (h:p:=by rw[<- Et];simp[*]):p:=h
def UJ (h:p:=by have:=hS.units;omega):p:=h
def aiY (h:p:=by
 rw[lh,hT.lots u hm y hy]
 exact⟨.inl,λo=>o.resolve_right (hnu _ _ (hT.nm u hm) hy)⟩):p:=h
def aiZ (h:p:=by exact cI (.fn #[] #[] (λ_=> #[]) rfl rfl (by simp) (by simp) (by simp) (by simp) (by simp))):p:=h
def ai0 (h:p:=by
 unfold fu;rw[ho];simp only[hc,hx];show K (lit (.int .i64 (if b>a then b else a))) [] []
 grind):p:=h
def ai1 (h:p:=by
 unfold Op.equal Op.maxDepth
 exact LZ (n:=9999) (c:=.bool) rfl hT.IN (hT.bY.trans bV)):p:=h
def ai2 (h:p:=by exact(Po (w:=w) (a:=⟨b,o,none⟩) (zH.below.block b (ak h1) h1)).symm):p:=h
def ai3 (h:p:=by
 obtain rfl:i=p.aa.length:=by omega
 rw[o0 (dw _)]
 exact tA):p:=h
def X4 (h:p:=by unfold gok;omega):p:=h
def abO (h:p:=by rw[<- hb];kernel_rfl):p:=h
def UK (h:p:=by simpa using h):p:=h
def ai4 (h:p:=by
 (try(refine tX 0 ?_;try exact Zt))
 rw[he,if_pos h];(first|done|rfl|exact True.intro)):p:=h
def ai5 (h:p:=by
 obtain⟨c,_,rfl⟩:=dN.1 h;obtain⟨c',_,rfl⟩:=dN.1 hd
 trivial):p:=h
def UL (h:p:=by
 refine sF f224 ?_
 exact tL):p:=h
theorem ai6 (h:p:=by
 cases h with
 |lit h=>rfl
 |empty a cap hv h0=>cases hv
 |view b o cap z f hv=>cases hv):p:=h
def ai7 (h:p:=by
 simp only[jE,Pt]
 rw[show 1+(i -1)=i by omega]):p:=h
def afT (h:p:=by
 rw[fH hx]at hp1;rw[nK hx]
 exact tL):p:=h
def ai8 (h:p:=by
 rw[Pt]at hc;simp at e;subst e;have:=q5 _ _ hc
 simpa using this.flat rfl):p:=h
def ai9 (h:p:=by
 simp only[jT,h1,h2,h3,h4,h5,h6,h7,fm,eX,m7,id1,id2,id3,id4]
 rfl):p:=h
def am7 (h:p:=by
 intro d hd;have:d= .ptr 1 0:=by simpa using hd
 subst this
 exact(dl p l hu).xG):p:=h
def aja (h:p:=by simp[jE,h]):p:=h
def abP (h:p:=by have:=h n hn;omega):p:=h
def X5 (h:p:=by cases k<;>rfl):p:=h
def ajb (h:p:=by rw[BH,nM h];simp[jE,h]):p:=h
def ajc (h:p:=by rw[jE,nM ak];exact oh _):p:=h
def ajd (h:p:=by exact⟨β,_,_,_,hK,(tG.trans t2).bf,hN.bf,⟨#[],rfl,rfl,by simp⟩⟩):p:=h
def am8 (h:p:=by
 intro hm;have hm:n∈ah (cN (fresh (Fw.tag fid) 0) T'):=hm
 grind[dj]):p:=h
def afU (h:p:=by unfold gY cT at hx;omega):p:=h
def aje (h:p:=by
 intro d hd;have:d= .st (.view (l.map df)):=by simpa using hd
 subst this
 trivial):p:=h
def abQ (h:p:=by simpa using hi):p:=h
def ajf (h:p:=by
 (try(refine tX 0 ?_;try exact Zt))
 generalize (s.getD 1 0).toNat =c at*
 exact tL):p:=h
def ajg (h:p:=by
 rw[hs];refine⟨by rw[nz.eq];omega,⟨by omega,by grind⟩,u,?_⟩
 simp_all):p:=h
def ajh (h:p:=by
 rw[hs];refine⟨by rw[nz.eq];omega,⟨by grind,by omega⟩,u,?_⟩
 simp_all):p:=h
def aji (h:p:=by
 rw[an]at hb;cases hb;cases wx
 exact .inl ⟨by simp[cR],h0,rfl⟩):p:=h
def ajj (h:p:=by
 rw[dj]at hid;obtain⟨k,hk,rfl⟩:=dN.1 hid
 exact l7 k hk):p:=h
def ajk (h:p:=by
 rw[run_choose];simp only[Question.forced,sU,kJ,hk]
 rfl):p:=h
def ajl (h:p:=by
 show -9223372036854775807<=x.tmod y/\x.tmod y<=9223372036854775807
 omega):p:=h
def ajm (h:p:=by have:=(kl.1 IC).1;have h17:k+1<17:=this;omega):p:=h
def X6 (h:p:=by simp[SC.len]):p:=h
def afV (h:p:=by grind[yt,s7,i64_in]):p:=h
def ajn (h:p:=by
 have hid:id∈ah (cN (fresh (Fw.tag fid) 0) T'):=hid
 grind[dj]):p:=h
def abR (h:p:=by rw[kF];exact h3):p:=h
def ajo (h:p:=by
 rcases this with rfl|rfl|rfl
 ·rw[h1];rfl
 ·rw[h2];rfl
 ·rw[h3];rfl):p:=h
def ajp (h:p:=by
 by_cases he:E.2=0
 ·rw[if_pos he];exact tL
 ·rw[if_neg he]
  exact tL):p:=h
def ajq (h:p:=by intro x hx;simp at hx;rcases hx with rfl|rfl<;>rfl):p:=h
def ajr (h:p:=by rw[RA h,List.any_append,List.any_cons,List.any_nil,AP]):p:=h
def afW (h:p:=by
 unfold dyn;simp only[zR]
 congr 1):p:=h
def abS (h:p:=by dsimp only;omega):p:=h
def X7 (h:p:=by
 refine sF f304 ?_
 exact tL):p:=h
def ajs (h:p:=by
 rw[aH _ _ _ hi]at e
 exact⟨e,(hN.rel i b0 e).1,λ_ _=>rfl⟩):p:=h
def ajt (h:p:=by rw[xI,Sd];omega):p:=h
def aju (h:p:=by
 conv=>rhs;rw[<- ih]
 cases ws<;>simp[join_cons,join_one,joinTail]):p:=h
def afX (h:p:=by have:=aP List.length dG;grind):p:=h
def ajv (h:p:=by
 obtain rfl:k=3:=by omega
 exact absurd (hkk.symm.trans (hkn dx)) h3):p:=h
def ajw (h:p:=by simp[Instr.indexAt,asIntOf,hT.cU,hd,h2,hE.iF,addr_add]):p:=h
def ajx (h:p:=by rw[show(l++[r]).take (w+1)=l by rw[<- ak];simp];simp;omega):p:=h
def abT (h:p:=by rw[ja,aak]):p:=h
def ajy (h:p:=by
 rw[bL e1]
 exact(q7 j e k x he hk).mono fh.mv (Mem.le_refl _)):p:=h
def ajz (h:p:=by
 (try(refine tX 0 ?_;try exact Zt))
 rw[Int.neg_mul,CX];rfl):p:=h
def abU (h:p:=by rw[hgl];omega):p:=h
def UM (h:p:=by simp[h]):p:=h
def afY (h:p:=by rw[e1,e2];kernel_rfl):p:=h
def ajA (h:p:=by
 rw[YP,YP,show(a==b)=decide (a=b)by grind]
 exact hK):p:=h
def ajB (h:p:=by have:=aep n (show d≠0 by omega);omega):p:=h
def ajC (h:p:=by
 refine(Lw hy).2 ⟨by omega,by omega,?_⟩
 grind):p:=h
def afZ (h:p:=by
 rw[eT hx]at hp1
 exact tL):p:=h
def ajD (h:p:=by
 have:id=fid:=by simpa using hid
 rw[this]):p:=h
def ajE (h:p:=by rw[hn];exact gq.2 ⟨hT.fresh,λx g=>absurd g (e8 x)⟩):p:=h
def ajF (h:p:=by
 rw[CP]at this;rw[<- this,<- Array.foldl_toList]
 simp):p:=h
theorem ajG (h:p:=by
 cases hl:c.args.toList with
 |nil=>grind
 |cons x0 rest=>grind):p:=h
def ajH (h:p:=by
 refine⟨[.lit (.int .i64 (l.getD n 0))],?_,hK⟩
 grind[SC.elem]):p:=h
def ajI (h:p:=by first|exact lvM h1|exact uvM λ_=>rfl):p:=h
def ajJ (h:p:=by first|exact lvM h4|exact uvM λ_=>rfl):p:=h
def abV (h:p:=by have:=SC.ip he;omega):p:=h
def ajK (h:p:=by rw[this,b4,<- SL];exact kC _ np):p:=h
def ajL (h:p:=by
 rw[Uw hkp]at hk;have:=hr.2 k c hk
 grind):p:=h
def ajM (h:p:=by simp only[gt]at h;obtain⟨rfl,h⟩:=h;exact hm):p:=h
def abW (h:p:=by grind[jJ]):p:=h
def am9 (h:p:=by cases h):p:=h
def af0 (h:p:=by grind[lR]):p:=h
def ana (h:p:=by
 rcases h with h|h
 ·exact h.2 mv w vs hm hG ha
 ·exact h.elim):p:=h
def ajN (h:p:=by
 obtain rfl:i=ps.length:=by omega
 rw[gT dx]
 exact tA):p:=h
def abX (h:p:=by grind[maxLen]):p:=h
def abY (h:p:=by grind[rd,cell_setRow_other]):p:=h
def af1 (h:p:=by simp[Op.equalIn,sV hu]):p:=h
def abZ (h:p:=by rw[<- SL];grind):p:=h
def anb (h:p:=by
 have:=pj (ρ:=λk=>k) jo g2
 grind[co.Li]):p:=h
def af2 (h:p:=by
 refine gI f127 h3 hl rfl ?_
 exact tL):p:=h
def ab0 (h:p:=by rw[q1];rfl):p:=h
def ajO (h:p:=by
 obtain rfl:k=res.length:=by omega
 rw[N5]
 exact tL):p:=h
def ajP (h:p:=by(conv=>rhs;rw[<- lj]);kernel_rfl):p:=h
def ajQ (h:p:=by
 rw[aH _ _ _ h]at e
 exact⟨blk',e,blk'.fV⟩):p:=h
def ajR (h:p:=by
 show(if(index s [32]== -1)=true then _ else _)=_
 grind):p:=h
def ajS (h:p:=by
 conv=>lhs;rw[<- e]
 simp[jE,hv]):p:=h
def ajT (h:p:=by
 simp only[Sy,hc.size,hd.size,OW]
 grind):p:=h
def ajU (h:p:=by exact .inr ⟨b,cap,arr,T,by simp[cR],rfl,r1,r2⟩):p:=h
theorem ajV (h:p:=by
 cases r with
 |uK z c=>exact hm.elim
 |_=>exact hs.elim):p:=h
def ab1 (h:p:=by
 refine sF f213 ?_
 exact tL):p:=h
def ab2 (h:p:=by
 refine sF f310 ?_
 exact tL):p:=h
def ab3 (h:p:=by
 refine sF f370 ?_
 exact tL):p:=h
def ab4 (h:p:=by
 refine sF f252 ?_
 exact tA):p:=h
def ab5 (h:p:=by
 refine sF f110 ?_
 exact tL):p:=h
def ajW (h:p:=by
 rw[hx]at hc;generalize t.bu.getD i []=y at*
 exact tL):p:=h
def ab6 (h:p:=by simpa [F0,ah]using hk):p:=h
def ajX (h:p:=by rw[nn,<- SL];exact kC _ eu):p:=h
theorem ajY (h:p:=by
 cases qs with
 |nil=>simp at ha;omega
 |cons a b=>simp):p:=h
def ajZ (h:p:=by have:=(Cu hP h).1.units;omega):p:=h
def af3 (h:p:=by
 rw[hm];refine sF f229 ?_
 exact tA):p:=h
def aj0 (h:p:=by rw[hs];exact λt e=>(hd t e).1):p:=h
theorem aj1 (h:p:=by
 induction n with
 |zero=>rfl
 |succ n ih=>grind[cV]):p:=h
def anc (h:p:=by exact⟨_,rfl,Below.refl _ _,⟨_,rfl,.lit rfl⟩⟩):p:=h
theorem aj2 (h:p:=by
 cases qs with
 |nil=>simp at ha;omega
 |cons a b=>rfl):p:=h
def ane (h:p:=by
 have:=wC.1 hn q h
 rwa [AR]at this):p:=h
def ab7 (h:p:=by exact Pb S a w' eL hr):p:=h
def aj3 (h:p:=by
 obtain⟨h5,h6⟩:=oF.2 p hp
 rw[k2 _ h5,k3 _ h6]):p:=h
theorem aj4 (h:p:=by
 induction n with
 |zero=>rfl
 |succ n ih=>grind[aW]):p:=h
def aj5 (h:p:=by dsimp only;rw[e1,e2];kernel_rfl):p:=h
def ab8 (h:p:=by
 rw[fp dx]
 exact tA):p:=h
def ab9 (h:p:=by
 refine sF f88 ?_
 exact tA):p:=h
def af4 (h:p:=by simp only;omega):p:=h
def af5 (h:p:=by rw[kF];decide):p:=h
def aj6 (h:p:=by rw[<- e];exact(hT.lt id hid).2):p:=h
def aj7 (h:p:=by
 rcases FH h h' with⟨rfl,rfl⟩|rfl
 ·rfl
 ·simp):p:=h
def aj8 (h:p:=by
 rw[bL e1]
 exact fh.jr hR (q7 j e k x he hk)):p:=h
theorem aj9 (h:p:=by
 cases base with
 |none=>simp_all
 |some b=>simp_all):p:=h
def af6 (h:p:=by rw[<- hzl,<- hE.xF];simp):p:=h
def af7 (h:p:=by
 rw[this]
 exact .lit rfl):p:=h
def aka (h:p:=by rw[ja];kernel_rfl):p:=h
def akb (h:p:=by rw[bp,bp];omega):p:=h
def aca (h:p:=by grind[cB,mN]):p:=h
def akc (h:p:=by
 rw[gr,IC]at hd;cases hd
 exact .st _):p:=h
def akd (h:p:=by rintro⟨a',w',h⟩;exact h):p:=h
def ake (h:p:=by rw[FA];exact dw _):p:=h
def acb (h:p:=by simp[F1]):p:=h
def akf (h:p:=by simp[execOp,ho,hcv,asBool]):p:=h
def af8 (h:p:=by simpa using hl):p:=h
def akg (h:p:=by
 rcases h with h|h
 grind
 ·rw[h,jM];grind):p:=h
def akh (h:p:=by
 rw[Hp.ar,xA]
 exact t3.env hN (t2.env q4 q3)):p:=h
def af9 (h:p:=by simpa using h5):p:=h
def aki (h:p:=by exact eG (es:=[]) (.empty _ _ rfl rfl) (by simp)):p:=h
def akj (h:p:=by
 obtain⟨h1,h2⟩:=aG h
 grind[Mn]):p:=h
def acd (h:p:=by simp[bq,lz,ah]):p:=h
def akk (h:p:=by have:=h4 b (by simp);omega):p:=h
def akl (h:p:=by have:=h4 a (by simp);omega):p:=h
def akm (h:p:=by grind[SC.len]):p:=h
def akn (h:p:=by grind[jI]):p:=h
def ako (h:p:=by
 rw[eR h6];generalize jK ru=e at*
 exact tL):p:=h
def akp (h:p:=by
 have ea:BR s=0:=by unfold BR;grind
 grind):p:=h
def akq (h:p:=by cases hb;obtain⟨_,b,_,rfl⟩:=h1;grind):p:=h
def akr (h:p:=by
 obtain⟨c0,h3,h4⟩:=uE j _ _ hj
 grind):p:=h
def aks (h:p:=by
 rename_i aoo;split at h
 grind[lN]
 grind):p:=h
def akt (h:p:=by obtain⟨m,z,c,rfl⟩:=tQ e;trivial):p:=h
def aku (h:p:=by
 rw[bL e]
 exact fh.jr hR (h5 k x hk)):p:=h
def akv (h:p:=by simp;rw[hc.size];omega):p:=h
def akw (h:p:=by simp[Builtin.firstCells]):p:=h
def akx (h:p:=by subst h7;rw[an]at e;cases e;trivial):p:=h
def aky (h:p:=by subst h3;rw[an]at e;cases e;trivial):p:=h
def akz (h:p:=by subst h5;rw[an]at e;cases e;trivial):p:=h
end Go
namespace Go.Fw
open Go.RowKit (Below)
inductive SC where
 |lit (v:Value)
 |ints (xs:List Int)
 |view (es:List (List SC))
 |ref (cs:List SC)
 |fn (f:FuncId) (first:List (Bool × List SC)) (bI:List (List SC))
 |err
 |num (k:IntKind)
 |raw (v:Value)
 |any
 deriving Inhabited
abbrev SV:=Bool × List SC
namespace SC
def ao:SC->Bool
 | .ints _| .view _=>true
 |_=>false
def len:SC->Nat
 | .ints xs=>xs.length
 | .view es=>es.length
 |_=>0
def elem:SC->Nat->Option (List SC)
 | .ints xs,i=>(xs[i]?).map λn=>[.lit (.int .i64 n)]
 | .view es,i=>es[i]?
 |_,_=>none
end SC
theorem SC.ip {c:SC}{i:Nat}{e:List SC}(h:c.elem i=some e):i<c.len:=by
 cases c<;>simp[SC.elem,SC.len]at h ⊢
 grind
 grind
def SC.od {c:SC}{i:Nat}(h:i<c.len): ∃e,c.elem i=some e:=by
 cases c<;>simp[SC.elem,SC.len]at h ⊢;simp_all;simp_all
def plain:Value->Bool
 | .bool _| .int _ _| .float _ _| .complex _ _ _| .string _| .nilFunc | .nilIface | .pointer none| .map none| .chan none=>true
 |_=>false
abbrev Mem:=Nat->Nat->Option Value
def Mem.le (m m':Mem):Prop:=∀b o v,m b o=some v->m' b o=some v
def eU:Mem:=λ_ _=>none
def rd (w:World):Mem:=λb o=>w.cell? ⟨b,o,none⟩
def Mem.le_refl (m:Mem):m.le m:=λ_ _ _ h=>h
def Mem.le_trans {a b c:Mem}(h:a.le b)(k:b.le c):a.le c:=λx y v e=>k x y v (h x y v e)
def dX (m:Mem):eU.le m:=λ_ _ _ h=>by grind[eU]
inductive dq (mv:Mem):Mem->Value->SC->Prop
 |lit {mr:Mem} {v:Value} (h:plain v=true):dq mv mr v (.lit v)
 |empty {mr:Mem} {c:SC} (a:Option Addr) (cap:Nat) (hv:c.ao=true) (h0:c.len=0):dq mv mr (.slice a 0 cap) c
 |view {mr:Mem} {c:SC} (b o cap z:Nat) (f:Nat->Value) (hv:c.ao=true) (fO:0<c.len) (hz:0<z) (gc:c.len<=cap)
   (hl: ∀i e,c.elem i=some e->e.length=z) (hc: ∀k,k<c.len*z->mv b (o+k)=some (f k))
   (hr: ∀(i:Nat) (e:List SC) (j:Nat) (x:SC),c.elem i=some e->e[j]? =some x->dq mv eU (f (i*z+j)) x):dq mv mr (.slice (some ⟨b,o,none⟩) c.len cap) c
 |ref {mr:Mem} {cs:List SC} (b o:Nat) (f:Nat->Value) (hc: ∀k,k<cs.length->mr b (o+k)=some (f k))
   (hr: ∀(k:Nat) (x:SC),cs[k]? =some x->dq mv mr (f k) x):dq mv mr (.pointer (some ⟨b,o,none⟩)) (.ref cs)
 |err {mr:Mem} {v:Value} (h: ∃T x,v= .iface T x):dq mv mr v .err
 |num {mr:Mem} {v:Value} {k:IntKind} (h: ∃m,v= .int k m):dq mv mr v (.num k)
 |raw {mr:Mem} {v:Value} (h:v.oneCell'=true):dq mv mr v (.raw v)
 |any {mr:Mem} {v:Value} (h:v.oneCell'=true):dq mv mr v .any
 |fn {mr:Mem} {f:FuncId} {first:List (Bool × List SC)} {bI:List (List SC)} (fv cv:Array Value) (ga:Nat->Array Value) (h1:fv.size=first.length) (h2:cv.size=bI.length)
   (hf1: ∀(j:Nat) (c:SC),first[j]? =some (false,[c])->dq mv mr (fv.getD j undef) c) (hf0: ∀(j:Nat) (cs:List SC),first[j]? =some (false,cs)->∃c,cs= [c])
   (hf2: ∀(j:Nat) (cs:List SC),first[j]? =some (true,cs)->fv.getD j undef= .agg (ga j)/\(ga j).size =cs.length)
   (hf3: ∀(j:Nat) (cs:List SC) (k:Nat) (x:SC),first[j]? =some (true,cs)->cs[k]? =some x->dq mv mr ((ga j).getD k undef) x)
   (Xc: ∀(j:Nat) (cs:List SC),bI[j]? =some cs->dq mv mr (cv.getD j undef) (.ref cs)):dq mv mr (.func (.func f) fv cv) (.fn f first bI)
def dq.mono {mv mr mv' CB:Mem}(hv:mv.le mv')(hr:mr.le CB){v:Value}{c:SC}(h:dq mv mr v c):dq mv' CB v c:=by
 induction h generalizing CB with
 |lit h=>exact .lit h
 |empty a cap hv h0=>exact .empty a cap hv h0
 |view b o cap z f h1 h2 h3 h4 hl hc _ ih=>exact .view b o cap z f h1 h2 h3 h4 hl (λk hk=>hv _ _ _ (hc k hk)) λi e j x he hx=>ih i e j x he hx (Mem.le_refl _)
 |ref b o f hc _ ih=>exact .ref b o f (λk hk=>hr _ _ _ (hc k hk)) λk x hx=>ih k x hx hr
 |err h=>exact .err h
 |num h=>exact .num h
 |raw h=>exact .raw h
 |any h=>exact .any h
 |fn fv cv ga h1 h2 _ hf0 hf2 _ _ i1 i3 ic=>exact .fn fv cv ga h1 h2 (λj c hc=>i1 j c hc hr) hf0 hf2 (λj cs k x h1 h2=>i3 j cs k x h1 h2 hr) λj cs hc=>ic j cs hc hr
def SC.flat:SC->Bool
 | .ref _| .fn _ _ _=>false
 |_=>true
theorem dq.flat {mv mr CB:Mem}{v:Value}{c:SC}(h:dq mv mr v c)(hf:c.flat=true):dq mv CB v c:=by
 cases h with
 |lit h=>exact .lit h
 |empty a cap hv h0=>exact .empty a cap hv h0
 |view b o cap z f h1 h2 h3 h4 hl hc hr=>exact .view b o cap z f h1 h2 h3 h4 hl hc hr
 |ref b o f hc _=>grind[SC.flat]
 |err h=>exact .err h
 |num h=>exact .num h
 |raw h=>exact .raw h
 |any h=>exact .any h
 |fn=>grind[SC.flat]
def eo (mv mr:Mem)(v:Value)(x:SV):Prop:=
 if x.1 then ∃arr,v= .agg arr/\arr.size=x.2.length/\∀k c,x.2[k]? =some c->dq mv mr (arr.getD k undef) c
 else ∃c,x.2= [c]/\dq mv mr v c
def eo.mono {mv mr mv' CB:Mem}(hv:mv.le mv')(hr:mr.le CB){v:Value}{x:SV}(h:eo mv mr v x):eo mv' CB v x:=by
 unfold eo at*;split
 ·rename_i hx;rw[if_pos hx]at h;obtain⟨arr,h1,h2,h3⟩:=h;exact⟨arr,h1,h2,λk c hc=>(h3 k c hc).mono hv hr⟩
 ·rename_i hx;rw[if_neg hx]at h;obtain⟨c,h1,h2⟩:=h;exact⟨c,h1,h2.mono hv hr⟩
def o4 (mv mr:Mem)(vs:Array Value)(l:List SV):Prop:=vs.size=l.length/\∀k x,l[k]? =some x->eo mv mr (vs.getD k undef) x
def o4.mono {mv mr mv' CB:Mem}(hv:mv.le mv')(hr:mr.le CB){vs:Array Value}{l:List SV}(h:o4 mv mr vs l):o4 mv' CB vs l:=
 ⟨h.1,λk x hx=>(h.2 k x hx).mono hv hr⟩
def LP (w:World)(mv:Mem)(b z:Nat)(c:SC)(cap:Nat):Prop:=
 ∃arr T,w.heap[b]? =some (.cells arr T)/\arr.size=cap*z/\0<z/\c.ao=true/\c.len<=cap/\(∀i e,c.elem i=some e->e.length=z)/\
  ∀i e j x,c.elem i=some e->e[j]? =some x->dq mv eU (arr.getD (i*z+j) undef) x
inductive mb where
 |one (x:SV)
 |aJ (l:List SV)
 |own (z:Nat) (c:SC)
 |mix (t:Bool) (l:List (Bool × List (Option SC))) (z:Nat) (c:SC)
 |uK (z:Nat) (c:SC)
def Py (m:Mem)(vo v:Value):Option SC->Prop
 |some c=>dq m eU v c
 |none=>v=vo
def BJ (m:Mem)(vo v:Value)(x:Bool × List (Option SC)):Prop:=
 if x.1 then ∃arr,v= .agg arr/\arr.size=x.2.length/\∀k c,x.2[k]? =some c->Py m vo (arr.getD k undef) c
 else ∃c,x.2= [c]/\Py m vo v c
def BJ.mono {m m':Mem}(h:m.le m'){vo v:Value}{x:Bool × List (Option SC)}(hx:BJ m vo v x):BJ m' vo v x:=by
 have key: ∀ {v:Value} {c:Option SC},Py m vo v c->Py m' vo v c:=by
  intro v c hc
  cases c with
  |none=>exact hc
  |some c=>exact dq.mono h (Mem.le_refl _) hc
 unfold BJ at*
 grind
def dT (mv:Mem)(n:Nat)(w':World):Mem:=λb o=>if n<=b then rd w' b o else mv b o
def Mem.but (m:Mem)(b:Nat):Mem:=λb' o=>if b'=b then none else m b' o
def qL (mv:Mem)(n:Nat)(w':World)(v:Value):mb->Prop
 | .one x=>eo (dT mv n w') eU v x
 | .aJ l=>∃arr,v= .tuple arr/\o4 (dT mv n w') eU arr l
 | .own z c=>(v= .slice none 0 0/\c.len=0/\c.ao=true/\0<z/\∀i e,c.elem i=some e->e.length=z)\/
   ∃b cap,v= .slice (some ⟨b,0,none⟩) c.len cap/\n<=b/\LP w' ((dT mv n w').but b) b z c cap
 | .mix t l z c=>∃vo m,((vo= .slice none 0 0/\c.len=0/\c.ao=true/\0<z/\(∀i e,c.elem i=some e->e.length=z)/\m=dT mv n w')\/
   ∃b cap,vo= .slice (some ⟨b,0,none⟩) c.len cap/\n<=b/\LP w' ((dT mv n w').but b) b z c cap/\m=(dT mv n w').but b)/\
   if t then ∃arr,v= .tuple arr/\arr.size=l.length/\∀k x,l[k]? =some x->BJ m vo (arr.getD k undef) x else ∃x,l= [x]/\BJ m vo v x
 | .uK _ _=>False
abbrev s6:=List (Nat × List SC)
def eP (gl:s6)(m:Mem):Prop:=∀g cs,(g,cs)∈gl->(∀k x,cs[k]? =some x->∃v,m g k=some v/\dq eU eU v x)/\(0<cs.length->m g cs.length=none)
def iG (P:Program)(f:FuncId):Bool:=
 match P.funcs[f]? with
 |some fn=> !(fn.name=="runtime.NumGoroutine")&&fn.body.isSome
 |none=>false
def akA (P:Program)(gl:s6)(f:FuncId)(args:List SV)(r:mb):Prop:=
 iG P f=true/\∀(mv:Mem) (w:World) (vs:Array Value),mv.le (rd w)->eP gl (rd w)->o4 mv (rd w) vs args->
  Calls P f vs w λe w'=>∃v,e= .returned v/\Below w.heap.size w w'/\qL mv w.heap.size w' v r
def akB (P:Program)(f:FuncId)(args:List SV):mb->Prop
 | .uK z c'=>∃c,args= [(false,[c])]/\iG P f=true/\c'.ao=true/\c'.len=c.len/\(∀i e,c'.elem i=some e->e.length=z)/\
   (c.len=0->∀w,Calls P f #[.slice none 0 0] w λe w'=>e= .returned (.tuple #[])/\Below w.heap.size w w')/\
   ∀(mv:Mem) (w:World) (b cap:Nat) (arr:Array Value) (T:TypeId),w.heap[b]? =some (.cells arr T)->arr.size=cap*z->c.len<=cap->
    (∀i e j x,c.elem i=some e->e[j]? =some x->dq mv eU (arr.getD (i*z+j) undef) x)->
    Calls P f #[.slice (some ⟨b,0,none⟩) c.len cap] w λe w'=>e= .returned (.tuple #[])/\∃w1 arr',Below w.heap.size w w1/\w'=w1.setRow b arr'/\arr'.size=arr.size/\
     ∀i e j x,c'.elem i=some e->e[j]? =some x->dq mv eU (arr'.getD (i*z+j) undef) x
 |_=>False
def nN (P:Program)(gl:s6)(f:FuncId)(args:List SV)(r:mb):Prop:=akA P gl f args r\/akB P f args r
def nN.pure {P:Program}{gl:s6}{f:FuncId}{args:List SV}{x:SV}(h:nN P gl f args (.one x)):akA P gl f args (.one x):=h.elim id λh=>h.elim
end Go.Fw
namespace Go.Fw
inductive DC where
 |st (c:SC)
 |ptr (id off:Nat)
 |own (id:Nat)
 |cF (id z i off:Nat)
 |nil
 |mp (id:Nat)
 |sv (f:Nat) (id:Nat)
 deriving Inhabited
abbrev DX:=Bool × List DC
inductive DV where
 |val (x:DX)
 |aJ (l:List DX)
 deriving Inhabited
inductive co where
 |box (t:TypeId) (cs:List DC)
 |dV (cs:List SC)
 |row (m:Bool) (z:Nat) (c:SC)
 |aA (z:Nat) (l:List (List DC))
 |map (es:List (ByteArray × SV))
 deriving Inhabited
def co.sz:co->Option (Nat × Nat)
 | .row _ z c=>some (z,c.len)
 | .aA z l=>some (z,l.length)
 |_=>none
abbrev Hp:=List (Nat × Option co)
def Hp.get:Hp->Nat->Option co
 | [],_=>none
 |(j,b)::H,i=>match Nat.beq i j with
  |true=>b
  |false=>Hp.get H i
abbrev HF:=Nat->Option co
abbrev EF:=Nat->Option DV
abbrev dP:=List (Nat × Option DV)
def dP.get:dP->Nat->Option DV
 | [],_=>none
 |(j,b)::H,i=>match Nat.beq i j with
  |true=>b
  |false=>dP.get H i
inductive AT where
 |int (k:IntKind)|bool|str|slice (e:TypeId)|array (n:Nat) (e:TypeId)|struct (fs:List (Nat × TypeId))|ptr (e:TypeId)|func|iface|map (k e:TypeId)|other
 deriving Inhabited
def cH:AT->Bool
 | .struct _=>true
 | .array _ _=>true
 |_=>false
inductive ZC where
 |lit (v:Value)
 |nil
 deriving Inhabited
structure TI where
 bY:AT
 size:Nat
 bytes:Nat
 zero:List ZC
 kinds:List Bool
 eqs:Option (List AT)
 deriving Inhabited
def eA:TypeDesc->AT
 | .int k=>.int k
 | .bool =>.bool
 | .string =>.str
 | .slice e=>.slice e
 | .array n e=>.array n e
 | .struct fs=>.struct (fs.toList.map λf=>(f.offset,f.type))
 | .pointer e=>.ptr e
 | .func _ _ _=>.func
 | .interface _=>.iface
 | .map k e=>.map k e
 |_=>.other
def BK:Value->ZC
 | .slice none 0 0=>.nil
 |v=>.lit v
def kK (P:Program):Nat->TypeId->Option (List AT)
 |0,_=>none
 |d+1,t=>match P.info? t,P.underlying t with
  |some i,some .bool =>if i.size=1 then some [.bool]else none
  |some i,some (.int k)=>if i.size=1 then some [.int k]else none
  |some i,some .string =>if i.size=1 then some [.str]else none
  |some i,some (.struct fs)=>match P.stoodInHeld t,fs.toList.foldl (λacc f=>match acc with
    |none=>none
    |some l=>match f.name != "_"&&f.offset==l.length,kK P d f.type with
     |true,some l'=>some (l++l')
     |_,_=>none) (some [])with
   |false,some l=>if l.length=i.size then some l else none
   |_,_=>none
  |some i,some (.array n e)=>match kK P d e with
   |some l=>if n*l.length=i.size then some (List.replicate n l).flatten else none
   |none=>none
  |_,_=>none
def akC (P:Program)(t:TypeId):Option (AT × Nat × Nat × List ZC × Option (List AT)):=
 match P.info? t,P.underlying t with
 |some i,some d=>match i.zero,(match d with| .struct fs=>fs.toList.all λf=>(P.info? f.type).isSome |_=>true)with
  |some v,true=>some (eA d,i.size,i.bytes,v.cells.toList.map BK,if P.eqGuardType P.depth t then none else kK P 8 t)
  |_,_=>none
 |_,_=>none
structure bQ where
 P:Program
 gl:s6
 ty:List (Nat × TI)
 nx:List Nat:=[]
 deep:List Nat:=[]
 mz:List (Nat × Bool):=[]
 hx:List Nat:=[]
 fx:List Nat:=[]
 sx:List (Nat × String):=[]
def X8 (P:Program)(t:TypeId):Option Bool:=match P.info? t with
 |some i=>match i.zero with
  |some (.agg _)=>some true
  |some v=>match v.oneCell' with
   |true=>some false
   |false=>none
  |none=>none
 |none=>none
def LQ:List (Nat × TI)->Nat->Option TI
 | [],_=>none
 |(j,b)::H,i=>match Nat.beq i j with
  |true=>some b
  |false=>LQ H i
def bQ.ti (C:bQ)(t:TypeId):Option TI:=LQ C.ty t
structure bQ.Ok (C:bQ):Prop where
 mixed:C.P.follows .mixedOrders =true
 ty:(C.ty.map λp=>akC C.P p.1)=C.ty.map λp=>some (p.2.bY,p.2.size,p.2.bytes,p.2.zero,p.2.eqs)
 mz:(C.mz.map λp=>X8 C.P p.1)=C.mz.map λp=>some p.2
def bQ.kG (C:bQ)(e:TypeId):Bool:=
 match C.ti e with
 |some i=>match i.bY with
  | .int .i64 =>true
  |_=>false
 |none=>false
def bQ.kinds (C:bQ)(t:TypeId):List Bool:=
 match C.ti t with
 |some i=>i.kinds
 |none=>[]
def AU:Bool->SC
 |true=>.ints []
 |false=>.view []
def bv (H:HF)(k:Bool):DC->Option (SC × Hp × List Nat)
 | .st c=>some (c,[],[])
 | .nil =>some (AU k,[],[])
 | .own id=>match H id with
  |some (.row m z c)=>some (c,(match m with|true=>[(id,some (.row false z c))]|false=>[]),[id])
  |some (.aA _ _)=>some (.any,[],[id])
  |_=>none
 |_=>none
def bS (H:HF):List Bool->List DC->Option (List SC × Hp × List Nat)
 |_,[]=>some ([],[],[])
 |ks,d::ds=>match bv H (ks.headD false) d with
  |some (c,u,r)=>match bS H ks.tail ds with
   |some (cs,u',r')=>some (c::cs,u++u',r++r')
   |none=>none
  |none=>none
def om:List SC->Bool
 | []=>true
 |c::cs=>match c.flat with
  |true=>om cs
  |false=>false
def mZ (C:bQ)(H:HF)(k:Bool):DC->Option (SC × Hp × List Nat)
 | .ptr id off=>match H id with
  |some (.dV cs)=>some (.ref (cs.drop off),[],[id])
  |some (.box t cs)=>match bS H (C.kinds t) cs with
   |some (l,u,r)=>some (.ref (l.drop off),u,id::r)
   |none=>none
  |_=>none
 | .cF id z i off=>match H id with
  |some (.aA z' l)=>match Nat.beq z z',l[i]? with
   |true,some e=>match bS H [] e with
    |some (cs,u,r)=>some (.ref (cs.drop off),u,id::r)
    |none=>none
   |_,_=>none
  |some (.row _ z' c)=>match Nat.beq z z',c.elem i with
   |true,some e=>some (.ref (e.drop off),[],[id])
   |_,_=>none
  |_=>none
 |d=>bv H k d
def oq (C:bQ)(H:HF):List Bool->List DC->Option (List SC × Hp × List Nat)
 |_,[]=>some ([],[],[])
 |ks,d::ds=>match mZ C H (ks.headD false) d with
  |some (c,u,r)=>match oq C H ks.tail ds with
   |some (cs,u',r')=>some (c::cs,u++u',r++r')
   |none=>none
  |none=>none
def o9 (C:bQ)(H:HF):List TypeId->List DX->Option (List SV × Hp × List Nat)
 |_,[]=>some ([],[],[])
 |ts,x::xs=>match oq C H (C.kinds (ts.headD 0)) x.2 with
  |some (c,u,r)=>match o9 C H ts.tail xs with
   |some (cs,u',r')=>some ((x.1,c)::cs,u++u',r++r')
   |none=>none
  |none=>none
def dyn (x:SV):DX:=(x.1,x.2.map .st)
def bm (c:DC):DV:=.val (false,[c])
def lit (v:Value):DV:=.val (false,[.st (.lit v)])
def IW:Value->Option DV
 | .slice none 0 0=>some (bm .nil)
 | .func (.func f) a b=>match a.toList,b.toList with
  | [],[]=>some (bm (.st (.fn f [] [])))
  |_,_=>none
 |v=>match plain v with
  |true=>some (lit v)
  |false=>none
def xN:s6->Nat->Option (List SC)
 | [],_=>none
 |(j,b)::H,i=>match Nat.beq i j with
  |true=>some b
  |false=>xN H i
def bQ.ev (C:bQ)(E:EF):Operand->Option DV
 | .tmp t=>E t
 | .const v=>IW v
 | .global g=>match xN C.gl g with
  |some cs=>some (bm (.st (.ref cs)))
  |none=>none
 | .func f=>some (bm (.st (.fn f [] [])))
def iq {α:Type}(cs:List α)(off:Nat)(xs:List α):List α:=cs.take off++xs++cs.drop (off+xs.length)
def ZC.dyn:ZC->Option DC
 | .nil =>some .nil
 | .lit v=>match plain v with
  |true=>some (.st (.lit v))
  |false=>none
def C0:List ZC->Option (List DC)
 | []=>some []
 |z::zs=>match z.dyn with
  |some d=>match C0 zs with
   |some ds=>some (d::ds)
   |none=>none
  |none=>none
def qM:List Bool->List ZC->Option (List SC)
 |_,[]=>some []
 |ks,.nil ::zs=>match qM ks.tail zs with
  |some ds=>some (AU (ks.headD false)::ds)
  |none=>none
 |ks,.lit v::zs=>match plain v with
  |true=>match qM ks.tail zs with
   |some ds=>some (.lit v::ds)
   |none=>none
  |false=>none
def G7 (O9:Nat->Option (Nat × Nat))(cells:List DC):List (Nat × Option DV)->Option (List DC)
 | []=>some cells
 |(i,some (.val x))::rest=>match O9 i with
  |some (off,size)=>match Nat.beq x.2.length size&&Nat.ble (off+size) cells.length with
   |true=>G7 O9 (iq cells off x.2) rest
   |false=>none
  |none=>none
 |_=>none
def kL (H:HF)(ks:List Bool)(z:Nat):Nat->List (Nat × Option DV)->Option (List (List SC) × Hp × List Nat)
 |_,[]=>some ([],[],[])
 |n,(i,some (.val x))::rest=>match Nat.beq i n&&Nat.beq x.2.length z with
  |true=>match bS H ks x.2 with
   |some (e,u,r)=>match om e,kL H ks z (n+1) rest with
    |true,some (es,u',r')=>some (e::es,u++u',r++r')
    |_,_=>none
   |none=>none
  |false=>none
 |_,_=>none
def wH:List (List SC)->Option (List Int)
 | []=>some []
 | [.lit (.int .i64 n)]::r=>match wH r with
  |some l=>some (n::l)
  |none=>none
 |_=>none
def X9 (k:Bool)(es:List (List SC)):Option SC:=
 match k with
 |true=>match wH es with
  |some l=>some (.ints l)
  |none=>none
 |false=>some (.view es)
def SC.cat:SC->SC->Option SC
 | .ints xs,.ints ys=>some (.ints (xs++ys))
 | .view xs,.view ys=>some (.view (xs++ys))
 |_,_=>none
def SC.zK:SC->Nat->Prop
 | .ints _,z=>z=1
 | .view es,z=>∀e,e∈es->e.length=z
 |_,_=>False
def SC.xD:SC->Nat->List SC->Option SC
 | .ints xs,i,[.lit (.int .i64 n)]=>some (.ints (xs.set i n))
 | .view es,i,e=>some (.view (es.set i e))
 |_,_,_=>none
def SC.sub:SC->Nat->Nat->SC
 | .ints xs,l,h=>.ints ((xs.take h).drop l)
 | .view es,l,h=>.view ((es.take h).drop l)
 |c,_,_=>c
def xy:Nat:=4294967296
def SM:AT->Value->Value->Option Bool
 | .int _,.int k a,.int k' b=>match decide (k=k')with
  |true=>some (a==b)
  |false=>none
 | .bool,.bool a,.bool b=>some (a==b)
 | .str,.string a,.string b=>some (a==b)
 |_,_,_=>none
def mc:List AT->List DC->List DC->Option Bool
 | [],[],[]=>some true
 |c::cs,.st (.lit a)::xs,.st (.lit b)::ys=>match SM c a b with
  |some p=>match mc cs xs ys with
   |some q=>some (p&&q)
   |none=>none
  |none=>none
 |_,_,_=>none
def s7 (op:BinOp)(k:IntKind)(a b:Int)(K:Value->Prop):Prop:=
 match op with
 | .add =>K (.int k (k.wrap (a+b)))
 | .sub =>K (.int k (k.wrap (a -b)))
 | .mul =>K (.int k (k.wrap (a*b)))
 | .quo =>b≠0/\K (.int k (k.wrap (a.tdiv b)))
 | .rem =>b≠0/\K (.int k (a.tmod b))
 | .and =>K (.int k (k.wrap (BitVec.ofInt k.bits a &&& BitVec.ofInt k.bits b).toNat))
 | .or =>K (.int k (k.wrap (BitVec.ofInt k.bits a ||| BitVec.ofInt k.bits b).toNat))
 | .xor =>K (.int k (k.wrap (BitVec.ofInt k.bits a^^^BitVec.ofInt k.bits b).toNat))
 | .andNot =>K (.int k (k.wrap (BitVec.ofInt k.bits a &&& ~~~BitVec.ofInt k.bits b).toNat))
 | .eql =>K (.bool (a==b))
 | .neq =>K (.bool (a != b))
 | .lss =>K (.bool (decide (a<b)))
 | .leq =>K (.bool (decide (a<=b)))
 | .gtr =>K (.bool (decide (a>b)))
 | .geq =>K (.bool (decide (a>=b)))
 |_=>False
def wI (op:BinOp)(a b:ByteArray)(K:Value->Prop):Prop:=
 match op with
 | .add =>a.size+b.size<=2^40/\K (.string (a++b))
 | .eql =>K (.bool (a.toList==b.toList))
 | .neq =>K (.bool !(a.toList==b.toList))
 | .lss =>K (.bool (Op.bytesLess a.toList b.toList))
 | .leq =>K (.bool (Op.bytesLess a.toList b.toList || a.toList==b.toList))
 | .gtr =>K (.bool !(Op.bytesLess a.toList b.toList || a.toList==b.toList))
 | .geq =>K (.bool !(Op.bytesLess a.toList b.toList))
 |_=>False
def qN (op:BinOp):Value->Value->(Value->Prop)->Prop
 | .int k a,.int k' b,K=>match op with
  | .shl =>0<=b/\K (.int k (k.wrap (a*2^(min b.toNat k.bits))))
  | .shr =>0<=b/\K (.int k (a.fdiv (2^(min b.toNat k.bits))))
  |op=>match decide (k=k')with
   |true=>s7 op k a b K
   |false=>False
 | .string a,.string b,K=>wI op a b K
 |_,_,_=>False
def lM:Operand->Bool
 | .const _=>true
 |_=>false
def LR:DC->Option Bool
 | .ptr _ _=>some true
 | .cF _ _ _ _=>some true
 | .st (.ref _)=>some true
 | .st (.lit (.pointer none))=>some false
 |_=>none
def LS (C:bQ)(nc:Bool)(op:BinOp)(T:TypeId)(x y:DX)(K:DV->Prop):Prop:=
 match x,y with
 |(false,[.st (.lit (.bool a))]),(false,[.st (.lit (.bool b))])=>match C.ti T with
  |some i=>match i.bY,op with
   | .bool,.eql =>K (lit (.bool (a==b)))
   | .bool,.neq =>K (lit (.bool !(a==b)))
   |_,_=>False
  |none=>False
 |(false,[.st (.lit .nilIface)]),(false,[.st (.lit .nilIface)])=>match C.ti T,nc with
  |some i,true=>match i.bY,op with
   | .iface,.eql =>K (lit (.bool true))
   | .iface,.neq =>K (lit (.bool false))
   |_,_=>False
  |_,_=>False
 |(false,[.st .err]),(false,[.st (.lit .nilIface)])=>match C.ti T with
  |some i=>match i.bY,op with
   | .iface,.eql =>K (lit (.bool false))
   | .iface,.neq =>K (lit (.bool true))
   |_,_=>False
  |none=>False
 |(false,[d]),(false,[.st (.lit (.pointer none))])=>match LR d,C.ti T with
  |some b,some i=>match i.bY,op with
   | .ptr _,.eql =>K (lit (.bool !b))
   | .ptr _,.neq =>K (lit (.bool b))
   |_,_=>False
  |_,_=>False
 |(false,[.st (.lit a)]),(false,[.st (.lit b)])=>qN op a b λv=>K (lit v)
 |(true,xs),(true,ys)=>match C.ti T with
  |some i=>match cH i.bY with
   |true=>match i.eqs,op with
    |some l,.eql =>match mc l xs ys with
     |some b=>K (lit (.bool b))
     |none=>False
    |some l,.neq =>match mc l xs ys with
     |some b=>K (lit (.bool !b))
     |none=>False
    |_,_=>False
   |false=>False
  |none=>False
 |_,_=>False
def Pd (op:UnOp)(x:DX)(K:DV->Prop):Prop:=
 match op,x with
 | .neg,(false,[.st (.lit (.int k n))])=>K (lit (.int k (k.wrap (0 -n))))
 | .xor,(false,[.st (.lit (.int k n))])=>K (lit (.int k (k.wrap (BitVec.ofInt k.bits (if k.signed then -1 else k.max)^^^BitVec.ofInt k.bits n).toNat)))
 | .not,(false,[.st (.lit (.bool b))])=>K (lit (.bool !b))
 |_,_=>False
abbrev j0:=DV->Hp->List Nat->Prop
def ot (C:bQ)(T:TypeId)(x:DX)(H:HF)(K:j0):Prop:=
 match C.ti T with
 |none=>False
 |some i=>
  match x with
  |(false,[.ptr id off])=>match H id with
   |some (.box _ cs)=>match Nat.ble (off+i.size) cs.length&&(cH i.bY || Nat.beq i.size 1)with
    |true=>K (.val (cH i.bY,(cs.drop off).take i.size)) [] [id]
    |false=>False
   |some (.dV cs)=>match Nat.ble (off+i.size) cs.length&&(cH i.bY || Nat.beq i.size 1)with
    |true=>K (.val (cH i.bY,((cs.drop off).take i.size).map .st)) [] [id]
    |false=>False
   |_=>False
  |(false,[.st (.ref cs)])=>match Nat.ble i.size cs.length&&(cH i.bY || Nat.beq i.size 1)with
   |true=>K (.val (cH i.bY,(cs.take i.size).map .st)) [] []
   |false=>False
  |(false,[.cF id z n off])=>match H id with
   |some (.row _ z' c)=>match Nat.beq z z'&&Nat.ble (off+i.size) z&&(cH i.bY || Nat.beq i.size 1)with
    |true=>∃e,c.elem n=some e/\K (.val (cH i.bY,((e.drop off).take i.size).map .st)) [] [id]
    |false=>False
   |some (.aA z' l)=>match Nat.beq z z'&&Nat.ble (off+i.size) z&&(cH i.bY || Nat.beq i.size 1)with
    |true=>∃e,l[n]? =some e/\K (.val (cH i.bY,(e.drop off).take i.size)) [] [id]
    |false=>False
   |_=>False
  |_=>False
def qO (C:bQ)(T:TypeId)(x v:DX)(H:HF)(K:j0):Prop:=
 match C.ti T with
 |none=>False
 |some i=>match Nat.beq v.2.length i.size with
  |false=>False
  |true=>match x with
   |(false,[.ptr id off])=>match H id with
    |some (.box t cs)=>match Nat.ble (off+i.size) cs.length with
     |true=>K (.aJ []) [(id,some (.box t (iq cs off v.2)))] [id]
     |false=>False
    |_=>False
   |(false,[.cF id z n off])=>match H id with
    |some (.row true z' c)=>match Nat.beq z z'&&Nat.ble (off+i.size) z with
     |true=>match bS H i.kinds v.2 with
      |some (l,[],r)=>match om l with
       |true=>∃e,c.elem n=some e/\match c.xD n (iq e off l)with
        |some c'=>K (.aJ []) [(id,some (.row true z' c'))] (id::r)
        |none=>False
       |false=>False
      |_=>False
     |false=>False
    |some (.aA z' l)=>match Nat.beq z z'&&Nat.ble (off+i.size) z with
     |true=>∃e,l[n]? =some e/\K (.aJ []) [(id,some (.aA z' (l.set n (iq e off v.2))))] [id]
     |false=>False
    |_=>False
   |_=>False
def ou (C:bQ)(T:TypeId)(x:DX)(f:Nat)(K:j0):Prop:=
 match C.ti T with
 |none=>False
 |some i=>match i.bY with
  | .struct fs=>match fs[f]? with
   |some (o,ft)=>match C.ti ft with
    |some fi=>match Nat.ble 1 fi.size with
     |true=>match x with
      |(false,[.ptr id off])=>K (bm (.ptr id (off+o))) [] []
      |(false,[.st (.ref cs)])=>K (bm (.st (.ref (cs.drop o)))) [] []
      |(false,[.cF id z n off])=>K (bm (.cF id z n (off+o))) [] []
      |_=>False
     |false=>False
    |none=>False
   |none=>False
  |_=>False
def eQ (C:bQ)(T:TypeId)(x ix:DX)(H:HF)(K:j0):Prop:=
 match C.ti T with
 |none=>False
 |some i=>match i.bY,ix with
  | .slice e,(false,[.st (.lit (.int _ n))])=>match C.ti e with
   |none=>False
   |some ie=>match x with
    |(false,[.own id])=>match H id with
     |some (.row _ z c)=>match Nat.beq z ie.size with
      |true=>(0<=n/\n<c.len)/\K (bm (.cF id z n.toNat 0)) [] [id]
      |false=>False
     |some (.aA z l)=>match Nat.beq z ie.size with
      |true=>(0<=n/\n<l.length)/\K (bm (.cF id z n.toNat 0)) [] [id]
      |false=>False
     |_=>False
    |(false,[.st c])=>match c.ao with
     |true=>0<=n/\∃el,c.elem n.toNat=some el/\el.length=ie.size/\K (bm (.st (.ref el))) [] []
     |false=>False
    |_=>False
  | .array len e,(false,[.st (.lit (.int _ n))])=>match C.ti e with
   |none=>False
   |some ie=>match x with
    |(false,[.ptr id off])=>(0<=n/\n<len)/\K (bm (.ptr id (off+n.toNat*ie.size))) [] []
    |(false,[.st (.ref cs)])=>(0<=n/\n<len)/\K (bm (.st (.ref (cs.drop (n.toNat*ie.size))))) [] []
    |_=>False
  |_,_=>False
def ace (i:TI):Bool:=cH i.bY
def C1 (i:TI)(cs:List DC)(off:Nat)(K:j0):Prop:=
 match Nat.ble (off+i.size) cs.length&&(ace i || Nat.beq i.size 1)with
 |true=>K (.val (ace i,(cs.drop off).take i.size)) [] []
 |false=>False
def s8 (C:bQ)(T:TypeId)(x ix:DX)(K:j0):Prop:=
 match C.ti T with
 |none=>False
 |some i=>match i.bY,ix with
  | .array len e,(false,[.st (.lit (.int _ n))])=>match C.ti e with
   |none=>False
   |some ie=>match x with
    |(true,cs)=>(0<=n/\n<len)/\C1 ie cs (n.toNat*ie.size) K
    |_=>False
  | .str,(false,[.st (.lit (.int _ n))])=>match x with
   |(false,[.st (.lit (.string s))])=>0<=n/\∃b,s[n.toNat]? =some b/\K (lit (.int .u8 (b.toNat:Nat))) [] []
   |_=>False
  |_,_=>False
def zS (C:bQ)(T:TypeId)(x:DX)(f:Nat)(K:j0):Prop:=
 match C.ti T with
 |none=>False
 |some i=>match i.bY with
  | .struct fs=>match fs[f]? with
   |some (o,ft)=>match C.ti ft with
    |some fi=>match x with
     |(true,cs)=>C1 fi cs o K
     |_=>False
    |none=>False
   |none=>False
  |_=>False
def FX (d:Option (Option DV))(GM:Nat)(K:Nat->Prop):Prop:=
 match d with
 |none=>K GM
 |some (some (.val (false,[.st (.lit (.int _ n))])))=>0<=n/\K n.toNat
 |_=>False
def gL (C:bQ)(T:TypeId)(x:DX)(lo hi:Option (Option DV))(H:HF)(K:j0):Prop:=
 match C.ti T with
 |none=>False
 |some i=>match i.bY with
  | .slice e=>match C.ti e with
   |none=>False
   |some ie=>match bS H i.kinds x.2 with
    |some ([c],u,r)=>match x.1,c.ao with
     |false,true=>FX lo 0 λl=>FX hi c.len λh=>(l<=h/\h<=c.len)/\c.zK ie.size/\K (bm (.st (c.sub l h))) u r
     |_,_=>False
    |_=>False
  | .str =>match x with
   |(false,[.st (.lit (.string s))])=>FX lo 0 λl=>FX hi s.size λh=>(l<=h/\h<=s.size)/\K (lit (.string (s.extract l h))) [] []
   |_=>False
  | .array n e=>match C.ti e with
   |none=>False
   |some ie=>match x,lo,hi with
    |(false,[.ptr id off]),none,none=>match H id with
     |some (.box t cs)=>match bS H (C.kinds t) cs with
      |some (l,u,r)=>match C.kG e,Nat.beq ie.size 1&&Nat.ble (off+n) l.length&&Nat.ble 1 n with
       |true,true=>match wH (((l.drop off).take n).map λc=>[c])with
        |some ns=>K (bm (.st (.ints ns))) ((id,some (.dV l))::u) (id::r)
        |none=>False
       |_,_=>False
      |none=>False
     |some (.dV l)=>match C.kG e,Nat.beq ie.size 1&&Nat.ble (off+n) l.length&&Nat.ble 1 n with
       |true,true=>match wH (((l.drop off).take n).map λc=>[c])with
        |some ns=>K (bm (.st (.ints ns))) [] [id]
        |none=>False
       |_,_=>False
     |_=>False
    |_,_,_=>False
  |_=>False
def cE (C:bQ)(f:FuncId)(first bI:List (Option DV))(H:HF)(K:j0):Prop:=
 let rec firsts:List (Option DV)->Option (List SV × Hp × List Nat)
  | []=>some ([],[],[])
  |some (.val x)::xs=>match bS H [] x.2 with
   |some (c,u,r)=>match firsts xs with
    |some (cs,u',r')=>some ((x.1,c)::cs,u++u',r++r')
    |none=>none
   |none=>none
  |_=>none
 let rec capts:List (Option DV)->Option (List (List SC) × Hp × List Nat)
  | []=>some ([],[],[])
  |some (.val (false,[.ptr id 0]))::xs=>match H id with
   |some (.dV cs)=>match capts xs with
    |some (l,u',r')=>some (cs::l,u',id::r')
    |none=>none
   |some (.box t cs)=>match bS H (C.kinds t) cs with
    |some (c,u,r)=>match capts xs with
     |some (l,u',r')=>some (c::l,(id,some (.dV c))::(u++u'),id::(r++r'))
     |none=>none
    |none=>none
   |_=>none
  |some (.val (false,[.st (.ref cs)]))::xs=>match capts xs with
    |some (l,u',r')=>some (cs::l,u',r')
    |none=>none
  |_=>none
 match firsts first with
 |some (a,u,r)=>match capts bI with
  |some (b,u',r')=>K (bm (.st (.fn f a b))) (u++u') (r++r')
  |none=>False
 |none=>False
def lN (C:bQ)(fid:Nat)(T:TypeId)(l c:DX)(K:j0):Prop:=
 match C.ti T with
 |none=>False
 |some i=>match i.bY,l,c with
  | .slice e,(false,[.st (.lit (.int _ n))]),(false,[.st (.lit (.int _ m))])=>match C.ti e with
   |none=>False
   |some ie=>match Nat.ble 1 ie.size&&Nat.ble ie.bytes 4096&&Nat.beq ie.zero.length ie.size with
    |true=>(0<=n/\n<=m/\m<=xy)/\match C.kG e with
     |true=>match ie.zero with
      | [.lit (.int .i64 0)]=>K (bm (.own fid)) [(fid,some (.row true ie.size (.ints (List.replicate n.toNat 0))))] []
      |_=>False
     |false=>match qM ie.kinds ie.zero with
      |some z=>K (bm (.own fid)) [(fid,some (.row true ie.size (.view (List.replicate n.toNat z))))] []
      |none=>False
    |false=>False
  |_,_,_=>False
def qP (C:bQ)(fid:Nat)(T:TypeId)(x y:DX)(H:HF)(K:j0):Prop:=
 match C.ti T with
 |none=>False
 |some i=>match i.bY,y with
  | .slice e,(false,[yc])=>match C.ti e with
   |none=>False
   |some ie=>match Nat.ble 1 ie.size&&Nat.ble ie.bytes 4096&&Nat.beq ie.zero.length ie.size with
    |false=>False
    |true=>match bv H (C.kG e) yc with
     |none=>False
     |some (cy,_,ry)=>match x with
      |(false,[.nil])=>match SC.cat (AU (C.kG e)) cy with
       |some c'=>c'.zK ie.size/\c'.len<=xy/\K (bm (.own fid)) [(fid,some (.row true ie.size c'))] ry
       |none=>False
      |(false,[.own id])=>match H id with
       |some (.row m z c)=>match Nat.beq z ie.size,SC.cat c cy with
        |true,some c'=>cy.zK z/\c'.len<=xy/\K (bm (.own fid)) [(fid,some (.row m z c')),(id,none)] (id::ry)
        |_,_=>False
       |_=>False
      |_=>False
  |_,_=>False
def IX (C:bQ)(e:TypeId)(ie:TI)(n:Nat):Option SC:=
 match C.kG e with
 |true=>match ie.zero with
  | [.lit (.int .i64 0)]=>some (.ints (List.replicate n 0))
  |_=>none
 |false=>match qM ie.kinds ie.zero with
  |some z=>some (.view (List.replicate n z))
  |none=>none
def pX (C:bQ)(fid:Nat)(T:TypeId)(x y:DX)(H:HF)(K:j0):Prop:=
 match C.ti T with
 |none=>False
 |some i=>match i.bY,y with
  | .slice e,(false,[.st (.lit (.int _ n))])=>match C.ti e with
   |none=>False
   |some ie=>match Nat.ble 1 ie.size&&Nat.ble ie.bytes 4096&&Nat.beq ie.zero.length ie.size with
    |false=>False
    |true=>(0<=n/\n<=xy)/\match IX C e ie n.toNat with
     |none=>False
     |some cy=>match x with
      |(false,[.own id])=>match H id with
       |some (.row m z c)=>match Nat.beq z ie.size,SC.cat c cy with
        |true,some c'=>c'.len<=xy/\K (bm (.own fid)) [(fid,some (.row m z c')),(id,none)] [id]
        |_,_=>False
       |_=>False
      |_=>False
  |_,_=>False
def s9 (afm:Bool)(k:IntKind)(a:Int):List DX->(Value->Prop)->Prop
 | [],K=>K (.int k a)
 |(false,[.st (.lit (.int k' b))])::r,K=>match decide (k=k')with
  |true=>s9 afm k (match afm with|true=>if b>a then b else a|false=>if b<a then b else a) r K
  |false=>False
 |_,_=>False
def eV (C:bQ)(fid:Nat)(b:Builtin)(RQ:List TypeId)(args:List (Option DV))(H:HF)(K:j0):Prop:=
 match b,RQ,args with
 | .len,t::_,[some (.val x)]=>match C.ti t with
  |none=>False
  |some i=>match i.bY,x with
   | .slice _,(false,[.st c])=>match c.ao with
    |true=>K (lit (.int .i64 (c.len:Nat))) [] []
    |false=>False
   | .slice _,(false,[.nil])=>K (lit (.int .i64 0)) [] []
   | .slice _,(false,[.own id])=>match H id with
    |some (.row _ _ c)=>K (lit (.int .i64 (c.len:Nat))) [] [id]
    |some (.aA _ l)=>K (lit (.int .i64 (l.length:Nat))) [] [id]
    |_=>False
   | .str,(false,[.st (.lit (.string s))])=>K (lit (.int .i64 (s.size:Nat))) [] []
   | .array n _,_=>K (lit (.int .i64 (n:Nat))) [] []
   |_,_=>False
 | .append,[t,t'],[some (.val x),some (.val y)]=>match C.ti t' with
  |some i'=>match i'.bY with
   | .slice _=>qP C fid t x y H K
   | .int _=>pX C fid t x y H K
   |_=>False
  |none=>False
 | .max,_,some (.val (false,[.st (.lit (.int k a))]))::r=>match r.mapM λd=>match d with|some (.val x)=>some x|_=>none with
  |some xs=>s9 true k a xs λv=>K (lit v) [] []
  |none=>False
 | .min,_,some (.val (false,[.st (.lit (.int k a))]))::r=>match r.mapM λd=>match d with|some (.val x)=>some x|_=>none with
  |some xs=>s9 false k a xs λv=>K (lit v) [] []
  |none=>False
 |_,_,_=>False
def aey (C:bQ)(f:FuncId)(args:List SV)(K:mb->Prop):Prop:=∃r,nN C.P C.gl f args r/\K r
def IY:List (Option DV)->Option (List DX)
 | []=>some []
 |some (.val x)::r=>match IY r with
  |some l=>some (x::l)
  |none=>none
 |_=>none
def aez (fid:Nat):Option SC->DC
 |some c=>.st c
 |none=>.own fid
def LU (fid:Nat)(x:Bool × List (Option SC)):DX:=(x.1,x.2.map (aez fid))
def xO:List SC->Bool
 | []=>true
 | .lit _::cs=>xO cs
 |_=>false
def LV:List SV->Bool
 | []=>true
 |x::l=>match xO x.2 with
  |true=>LV l
  |false=>false
def SN (b:Bool)(u:Hp):Hp:=match b with
 |true=>[]
 |false=>u
def jb (fid:Nat)(u:Hp)(rs:List Nat)(K:j0):mb->Prop
 | .one x=>K (.val (dyn x)) (SN (xO x.2) u) rs
 | .aJ l=>K (.aJ (l.map dyn)) (SN (LV l) u) rs
 | .own z c=>K (bm (.own fid)) ((fid,some (.row true z c))::u) rs
 | .mix true l z c=>K (.aJ (l.map (LU fid))) ((fid,some (.row true z c))::u) rs
 | .mix false [x] z c=>K (.val (LU fid x)) ((fid,some (.row true z c))::u) rs
 | .mix false _ _ _=>False
 | .uK z c=>match u,rs with
  | [(id,some (.row false z' _))],[iO]=>match Nat.beq id iO&&Nat.beq z z' with
   |true=>K (.aJ []) [(id,some (.row true z c))] [id]
   |false=>False
  |_,_=>False
def xP (n:Nat):List Nat->Bool
 | []=>false
 |m::l=>match Nat.beq n m with
  |true=>true
  |false=>xP n l
def akD (mv mr:Mem)(v:Value):DC->Prop
 | .st c=>dq mv mr v c
 | .nil =>v= .slice none 0 0
 |_=>False
def akE (P:Program)(gl:s6)(f:FuncId)(args:List DX)(r:mb):Prop:=
 iG P f=true/\∀(mv:Mem) (w:World) (vs:Array Value),mv.le (rd w)->eP gl (rd w)->vs.size=args.length->(∀k x,args[k]? =some x->∃d,x=(false,[d])/\akD mv (rd w) (vs.getD k undef) d)->
  Calls P f vs w λe w'=>∃v,e= .returned v/\Go.RowKit.Below w.heap.size w w'/\qL mv w.heap.size w' v r
def okN:List DX->Bool
 | []=>true
 |(false,[.st _])::xs=>okN xs
 |(false,[.nil])::xs=>okN xs
 |_=>false
def wJ (C:bQ)(fid:Nat)(f:FuncId)(first:List SV)(bI:List (List SC))(xs:List DX)(K:j0):Prop:=
 match first,bI,okN xs with
 | [],[],true=>∃r,akE C.P C.gl f xs r/\jb fid [] [] K r
 |_,_,_=>False
def jf (C:bQ)(fid:Nat)(fv:Option DV)(args:List (Option DV))(RQ:List TypeId)(H:HF)(K:j0):Prop:=
 match fv,IY args with
 |some (.val (false,[.st (.fn f first bI)])),some xs=>match o9 C H RQ xs with
  |some (l,u,rs)=>aey C f (first++l++bI.map λcs=>(false,[.ref cs])) (jb fid u rs K)
  |none=>False
 |_,_=>False
def anf (C:bQ):Operand->Bool
 | .func f=>xP f C.nx
 | .const (.func (.func f) _ _)=>xP f C.nx
 |_=>false
def qQ (C:bQ)(fid:Nat)(nx:Bool)(fv:Option DV)(args:List (Option DV))(RQ:List TypeId)(H:HF)(K:j0):Prop:=
 match nx with
 |true=>match fv,IY args with
  |some (.val (false,[.st (.fn f first bI)])),some xs=>wJ C fid f first bI xs K
  |_,_=>False
 |false=>jf C fid fv args RQ H K
def md:List (List SC)->Option (List UInt8)
 | []=>some []
 | [.lit (.int .u8 n)]::r=>match md r with
  |some l=>some (UInt8.ofNat n.toNat::l)
  |none=>none
 |_=>none
def zT (C:bQ)(e:TypeId):Bool:=match C.ti e with
 |some ie=>match ie.bY with
  | .int .u8 =>Nat.beq ie.size 1
  |_=>false
 |none=>false
def xQ (C:bQ)(src dst:TypeId)(x:DX)(H:HF)(K:j0):Prop:=
 match C.ti src,C.ti dst with
 |some i,some j=>match i.bY with
  | .int _=>match j.bY,x with
   | .int k,(false,[.st (.lit (.int _ n))])=>K (lit (.int k (k.wrap n))) [] []
   |_,_=>False
  | .str =>match j.bY,x with
   | .str,(false,[.st (.lit (.string s))])=>K (lit (.string s)) [] []
   |_,_=>False
  | .slice e=>match j.bY,x with
   | .str,(false,[d])=>match zT C e,bv H false d with
    |true,some (.view es,_,r)=>match md es with
     |some l=>K (lit (.string ⟨l.toArray⟩)) [] r
     |none=>False
    |_,_=>False
   |_,_=>False
  |_=>False
 |_,_=>False
def fu (C:bQ)(fid:Nat)(o:Oper)(ev:Operand->Option DV)(H:HF)(K:j0):Prop:=
 match o.op with
 | .move x=>match ev x with
  |some v=>K v [] []
  |none=>False
 | .assign x=>match ev x with
  |some v=>K v [] []
  |none=>False
 | .pick c a b=>match ev c with
  |some (.val (false,[.st (.lit (.bool t))]))=>match t with
   |true=>match ev a with
    |some v=>K v [] []
    |none=>False
   |false=>match ev b with
    |some v=>K v [] []
    |none=>False
  |_=>False
 | .alloc T=>match C.ti T with
  |some i=>match C0 i.zero with
   |some cs=>K (bm (.ptr fid 0)) [(fid,some (.box T cs))] []
   |none=>False
  |none=>False
 | .box T x=>match ev x with
  |some (.val x)=>K (bm (.ptr fid 0)) [(fid,some (.box T x.2))] []
  |_=>False
 | .build T parts=>match C.ti T with
  |some i=>match C0 i.zero with
   |some zs=>match i.bY with
    | .struct fs=>match G7 (λn=>match fs[n]? with|some (o,ft)=>(match C.ti ft with|some fi=>some (o,fi.size)|none=>none)|none=>none) zs (parts.toList.map λp=>(p.1,ev p.2))with
     |some cs=>K (.val (true,cs)) [] []
     |none=>False
    | .array _ e=>match C.ti e with
     |some ie=>match G7 (λn=>some (n*ie.size,ie.size)) zs (parts.toList.map λp=>(p.1,ev p.2))with
      |some cs=>K (.val (true,cs)) [] []
      |none=>False
     |none=>False
    |_=>False
   |none=>False
  |none=>False
 | .buildSlice T len parts=>match C.ti T with
  |some i=>match i.bY with
   | .slice e=>match C.ti e with
    |some ie=>match Nat.ble 1 ie.size&&Nat.ble (len*ie.size) 16777216&&Nat.beq parts.size len with
     |true=>match kL H ie.kinds ie.size 0 (parts.toList.map λp=>(p.1,ev p.2))with
      |some (es,u,r)=>match X9 (C.kG e) es with
       |some c=>K (bm (.own fid)) ((fid,some (.row true ie.size c))::u) r
       |none=>False
      |none=>False
     |false=>False
    |none=>False
   |_=>False
  |none=>False
 | .load T a=>match ev a with
  |some (.val x)=>ot C T x H K
  |_=>False
 | .store T a v=>match ev a,ev v with
  |some (.val x),some (.val y)=>qO C T x y H K
  |_,_=>False
 | .fieldAddr T a f=>match ev a with
  |some (.val x)=>ou C T x f K
  |_=>False
 | .indexAddr T a ix=>match ev a,ev ix with
  |some (.val x),some (.val y)=>eQ C T x y H K
  |_,_=>False
 | .index T a ix=>match ev a,ev ix with
  |some (.val x),some (.val y)=>s8 C T x y K
  |_,_=>False
 | .field T a f=>match ev a with
  |some (.val x)=>zS C T x f K
  |_=>False
 | .slice T x lo hi mx=>match ev x,mx with
  |some (.val x),none=>gL C T x (lo.map ev) (hi.map ev) H K
  |_,_=>False
 | .binOp op T a b _=>match ev a,ev b with
  |some (.val x),some (.val y)=>LS C (lM a || lM b) op T x y λv=>K v [] []
  |_,_=>False
 | .unOp op _ a=>match ev a with
  |some (.val x)=>Pd op x λv=>K v [] []
  |_=>False
 | .convert s d a=>match ev a with
  |some (.val x)=>xQ C s d x H K
  |_=>False
 | .extract t ix=>match ev t with
  |some (.aJ l)=>match l[ix]? with
   |some x=>K (.val x) [] []
   |none=>False
  |_=>False
 | .makeFunc (.func f) first bI=>cE C f (first.toList.map ev) (bI.toList.map ev) H K
 | .makeSlice T l c=>match ev l,ev c with
  |some (.val x),some (.val y)=>lN C fid T x y K
  |_,_=>False
 | .call c=>match c.callee with
  | .value f=>qQ C fid (anf C f) (ev f) (c.args.toList.map ev) c.argTypes.toList H K
  | .builtin b=>eV C fid b c.argTypes.toList (c.args.toList.map ev) H K
  |_=>False
 |_=>False
open Go.RowKit (Below)
open Classical
def bn (H:HF)(f:Nat)(b:Option co):HF:=λi=>if i=f then b else H i
def Hp.on:Hp->HF->HF
 | [],H=>H
 |(j,b)::u,H=>bn (Hp.on u H) j b
def co.sS:co->Nat->Prop
 | .box _ _,_=>False
 | .dV _,_=>True
 | .row m z c,o=>m=false/\o<c.len*z
 | .aA _ _,_=>False
 | .map _,_=>False
structure gN where
 w0:World
 Pc:Mem
 own:Nat->Prop
 fixed:List (Nat × Value):=[]
 db:Nat:=0
 mr0:Mem:=rd w0
abbrev gN.base (F:gN):Nat:=F.w0.heap.size
def gN.dz (F:gN)(b:Nat):Prop:=F.base<=b\/F.own b
def gN.gG {F:gN}{b:Nat}(h:F.base<=b):F.dz b:=.inl h
structure jv (m:Nat->Prop) (w w':World):Prop where
 os:w'.os=w.os
 tape:w'.tape=w.tape
 output:w'.output=w.output
 size:w.heap.size<=w'.heap.size
 block: ∀k,k<w.heap.size->¬m k->w'.heap[k]? =w.heap[k]?
theorem jv.refl (m:Nat->Prop)(w:World):jv m w w:=⟨rfl,rfl,rfl,dw _,λ_ _ _=>rfl⟩
def jv.trans {m:Nat->Prop}{a b c:World}(h:jv m a b)(k:jv m b c):jv m a c:=
 ⟨k.os.trans h.os,k.tape.trans h.tape,k.output.trans h.output,o3 h.size k.size,λi hi hm=>(k.block i (XI hi h.size) hm).trans (h.block i hi hm)⟩
def jv.Le {m:Nat->Prop}{w w':World}(h:Below w.heap.size w w'):jv m w w':=⟨h.os,h.tape,h.output,h.size,λk hk _=>h.block k hk⟩
def jv.mono {m m':Nat->Prop}{w w':World}(h:jv m w w')(hm: ∀b,b<w.heap.size->m b->m' b):jv m' w w':=⟨h.os,h.tape,h.output,h.size,λk hk hn=>h.block k hk λe=>hn (hm k hk e)⟩
def jv.below {m:Nat->Prop}{w w':World}(h:jv m w w')(hm: ∀b,b<w.heap.size->¬m b):Below w.heap.size w w':=⟨h.os,h.tape,h.output,h.size,λk hk=>h.block k hk (hm k hk)⟩
def fT (β:Nat->Option Nat)(H:HF)(b o:Nat):Prop:=∀id bz,H id=some bz->β id=some b->bz.sS o
noncomputable def MV (F:gN)(β:Nat->Option Nat)(H:HF)(w:World):Mem:=λb o=>if F.dz b then(if fT β H b o then rd w b o else none)else F.Pc b o
noncomputable def MR (F:gN)(β:Nat->Option Nat)(H:HF)(w:World):Mem:=λb o=>if F.dz b then MV F β H w b o else F.mr0 b o
section
variable (F:gN)(β:Nat->Option Nat)(N:Nat->Prop)(H:HF)(w:World)
def UN (v:Value)(id z n:Nat):Prop:=
 (β id=none/\n=0/\v= .slice none 0 0)\/
  ∃b cap arr T,β id=some b/\v= .slice (some ⟨b,0,none⟩) n cap/\w.heap[b]? =some (.cells arr T)/\arr.size=cap*z
def cd (v:Value):DC->Prop
 | .st c=>dq (MV F β H w) (MR F β H w) v c
 | .nil =>v= .slice none 0 0
 | .ptr id off=>N id/\∃b,β id=some b/\v= .pointer (some ⟨b,off,none⟩)
 | .own id=>N id/\v.oneCell'=true/\∀bz z n,H id=some bz->bz.sz=some (z,n)->UN β w v id z n
 | .cF id z i off=>N id/\∃b,β id=some b/\v= .pointer (some ⟨b,i*z+off,none⟩)
 | .mp id=>N id/\∃b,β id=some b/\v= .map (some b)
 | .sv g id=>N id/\∃b,β id=some b/\v= .func (.func g) #[] #[.pointer (some ⟨b,0,none⟩)]
def aq (v:Value)(x:DX):Prop:=
 if x.1 then ∃arr,v= .agg arr/\arr.size=x.2.length/\∀k c,x.2[k]? =some c->cd F β N H w (arr.getD k undef) c
 else ∃c,x.2= [c]/\cd F β N H w v c
def b8 (v:Value):DV->Prop
 | .val x=>aq F β N H w v x
 | .aJ l=>∃arr,v= .tuple arr/\arr.size=l.length/\∀k x,l[k]? =some x->aq F β N H w (arr.getD k undef) x
def ir (id:Nat):co->Prop
 | .box _ cs=>∃b arr T,β id=some b/\F.dz b/\w.heap[b]? =some (.cells arr T)/\arr.size=cs.length/\∀k x,cs[k]? =some x->cd F β N H w (arr.getD k undef) x
 | .dV cs=>∃b arr T,β id=some b/\F.dz b/\w.heap[b]? =some (.cells arr T)/\arr.size=cs.length/\∀k x,cs[k]? =some x->dq (MV F β H w) (MR F β H w) (arr.getD k undef) x
 | .row _ z c=>(0<z/\c.ao=true/\∀i e,c.elem i=some e->e.length=z)/\
   ((β id=none/\c.len=0)\/∃b cap,β id=some b/\F.dz b/\LP w (MV F β H w) b z c cap)
 | .aA z l=>(0<z/\∀(i:Nat) (e:List DC),l[i]? =some e->e.length=z)/\
   ((β id=none/\l.length=0)\/∃b cap arr T,β id=some b/\F.dz b/\w.heap[b]? =some (.cells arr T)/\arr.size=cap*z/\l.length<=cap/\
    ∀(i:Nat) (e:List DC) (k:Nat) (x:DC),l[i]? =some e->e[k]? =some x->cd F β N H w (arr.getD (i*z+k) undef) x)
 | .map es=>∃b arr ame,β id=some b/\F.dz b/\w.heap[b]? =some (.map arr ame)/\arr.size=es.length/\
   ∀(i:Nat) (k:ByteArray) (x:SV) (e:MapEntry),es[i]? =some (k,x)->arr[i]? =some e->e.key= .string k/\eo (MV F β H w) (MR F β H w) e.val x
structure ac:Prop where
 rel: ∀id bz,H id=some bz->N id/\ir F β N H w id bz
 inj: ∀i j b x y,H i=some x->H j=some y->β i=some b->β j=some b->i=j
 below:jv F.dz F.w0 w
 sT: ∀b o v,F.Pc b o=some v->rd w b o=some v/\(F.dz b->fT β H b o)
def dD (E:EF)(a:Act):Prop:=∀s dv,E s=some dv->b8 F β N H w (a.tmps.getD s undef) dv
end
def co.zM:co->co->Prop
 | .box _ _,.box _ _=>True
 | .box _ _,.dV _=>True
 | .dV _,.dV _=>True
 | .row _ z c,.row _ z' c'=>z=z'/\c.len=c'.len
 | .aA z l,.aA z' l'=>z=z'/\l.length=l'.length
 | .map _,.map _=>True
 |_,_=>False
theorem co.R2 {a b:co}(h:a.zM b):b.sz=a.sz:=by cases a<;>cases b<;>simp[co.zM,co.sz]at h ⊢ <;>(grind)
def co.fV (b:co):b.zM b:=by cases b<;>simp[co.zM]
structure Tr (F:gN) (β:Nat->Option Nat) (N:Nat->Prop) (H:HF) (w:World) (cL:Nat->Option Nat) (N':Nat->Prop) (H':HF) (w':World):Prop where
 below:jv F.dz w w'
 mem: ∀b o v,F.dz b->fT β H b o->rd w b o=some v->fT cL H' b o/\rd w' b o=some v
 used: ∀id,N id->N' id
 kH: ∀id,N id->cL id=β id
 keep: ∀id blk',N id->H' id=some blk'->∃bz,H id=some bz/\bz.zM blk'
 size: ∀id blk' zn b arr T,N id->H' id=some blk'->blk'.sz=some zn->β id=some b->F.dz b->w.heap[b]? =some (.cells arr T)->∃arr',w'.heap[b]? =some (.cells arr' T)/\arr'.size=arr.size
 ax: ∀(k:Nat) (x:Option (List Deferred)),w.heap[k]? =some (.deferred x)->w'.heap[k]? =some (.deferred x)
section
variable {F:gN}{β cL:Nat->Option Nat}{N N':Nat->Prop}{H H':HF}{w w':World}
theorem Tr.refl:Tr F β N H w β N H w:=
 ⟨jv.refl _ _,λ_ _ _ _ h e=>⟨h,e⟩,λ_ h=>h,λ_ _=>rfl,λ_ b _ e=>⟨b,e,b.fV⟩,λ_ _ _ _ arr _ _ _ _ _ _ h=>⟨arr,h,rfl⟩,λ_ _ h=>h⟩
def Below.ahL {B:Nat}(h:Below B w w'){b o:Nat}(hb:b<B):rd w' b o=rd w b o:=h.cell hb
theorem jv.rd {m:Nat->Prop}(h:jv m w w'){b o:Nat}{v:Value}(hb: ¬m b)(e:rd w b o=some v):rd w' b o=some v:=by
 have ak:=IS _ _ e;exact(Po (w:=w) (a:=⟨b,o,none⟩) (h.block b ak hb)).trans e
def Tr.mv (t:Tr F β N H w cL N' H' w'):(MV F β H w).le (MV F cL H' w'):=by
 intro b o v h;unfold MV at*;by_cases hb:F.dz b
 ·simp only[hb,if_true]at h ⊢;by_cases hs:fT β H b o
  ·simp only[hs,if_true]at h;obtain⟨h1,h2⟩:=t.mem b o v hb hs h
   grind
  grind
 grind
def Tr.mr (t:Tr F β N H w cL N' H' w'):(MR F β H w).le (MR F cL H' w'):=by
 intro b o v h;unfold MR at*;by_cases hb:F.dz b
 ·simp only[hb,if_true]at h ⊢;exact t.mv b o v h
 grind
def Tr.sT (t:Tr F β N H w cL N' H' w')(h: ∀b o v,F.Pc b o=some v->rd w b o=some v/\(F.dz b->fT β H b o)): ∀b o v,F.Pc b o=some v->rd w' b o=some v/\(F.dz b->fT cL H' b o):=by
 intro b o v e;obtain⟨h1,h2⟩:=h b o v e;by_cases hb:F.dz b
 ·obtain⟨h3,h4⟩:=t.mem b o v hb (h2 hb) h1
  grind
 ·exact⟨t.below.rd hb h1,λh=>absurd h hb⟩
theorem Tr.jr (t:Tr F β N H w cL N' H' w')(hR:ac F β N H w){v:Value}{d:DC}(h:cd F β N H w v d):cd F cL N' H' w' v d:=by
 cases d with
 |st c=>exact dq.mono t.mv t.mr h
 |nil=>exact h
 |ptr id off=>
  exact K91
 |own id=>
  obtain⟨hn,h1c,h⟩:=h;refine⟨t.used _ hn,h1c,λblk' z n hb hz=>?_⟩;obtain⟨bz,e,hl⟩:=t.keep id _ hn hb;have eb:=t.kH id hn;have hz0:=hz;rw[co.R2 hl]at hz;have h:=h _ _ _ e hz;unfold UN at*;rw[eb]
  rcases h with⟨h1,h2,h3⟩|⟨b,cap,arr,T,h1,h2,h3,h4⟩
  grind
  ·have FA:F.dz b:=by
    obtain⟨_,jS⟩:=hR.rel id _ e
    cases bz with
    |row m z c=>
     obtain⟨_,jS|⟨b',jD,q1,q2,q3⟩⟩:=jS
     grind
     grind
    |aA z l=>
     obtain⟨_,jS|⟨b',jD,arr',T',q1,q2,q3⟩⟩:=jS
     grind
     grind
    |box _ _=>grind[co.sz]
    |dV _=>grind[co.sz]
    |map _=>grind[co.sz]
   obtain⟨arr',e',es⟩:=t.size id _ _ b arr T hn hb hz0 h1 FA h3
   grind
 |cF id z i off=>
  exact K91
 |sv g id=>
  exact K91
 |mp id=>
  exact K91
def Tr.r8 (t:Tr F β N H w cL N' H' w')(hR:ac F β N H w){v:Value}{d:DX}(h:aq F β N H w v d):aq F cL N' H' w' v d:=by
 unfold aq at*;split
 ·rename_i hx;rw[if_pos hx]at h;obtain⟨arr,h1,h2,h3⟩:=h;exact⟨arr,h1,h2,λk c hc=>t.jr hR (h3 k c hc)⟩
 ·rename_i hx;rw[if_neg hx]at h;obtain⟨c,h1,h2⟩:=h;exact⟨c,h1,t.jr hR h2⟩
theorem Tr.vQ (t:Tr F β N H w cL N' H' w')(hR:ac F β N H w){v:Value}{d:DV}(h:b8 F β N H w v d):b8 F cL N' H' w' v d:=by
 cases d with
 |val x=>exact t.r8 hR h
 |aJ l=>
  obtain⟨arr,h1,h2,h3⟩:=h;exact⟨arr,h1,h2,λk c hc=>t.r8 hR (h3 k c hc)⟩
def Tr.env (t:Tr F β N H w cL N' H' w')(hR:ac F β N H w){E:EF}{a:Act}(h:dD F β N H w E a):dD F cL N' H' w' E a:=
 λs dv e=>t.vQ hR (h s dv e)
theorem ac.step (hR:ac F β N H w)(t:Tr F β N H w cL N' H' w')(T:Nat->Prop)
  (hu: ∀id bz,¬T id->H' id=some bz->H id=some bz/\N id/\∀b,β id=some b->w'.heap[b]? =w.heap[b]?)
  (ht: ∀id bz,T id->H' id=some bz->N' id/\ir F cL N' H' w' id bz)
  (hi: ∀i j b x y,H' i=some x->H' j=some y->cL i=some b->cL j=some b->i=j):ac F cL N' H' w':=by
 refine⟨λid bz e=>?_,hi,hR.below.trans t.below,t.sT hR.sT⟩;by_cases hT:T id
 grind
 ·obtain⟨e0,GO,hw⟩:=hu id bz hT e;have eb:=t.kH id GO;obtain⟨hn,hb⟩:=hR.rel id bz e0;refine⟨t.used _ hn,?_⟩
  cases bz with
  |box ty cs=>
   obtain⟨b,arr,T',h1,h2,h3,h4,h5⟩:=hb;exact⟨b,arr,T',by grind,h2,by grind,h4,λk x hx=>t.jr hR (h5 k x hx)⟩
  |dV cs=>
   obtain⟨b,arr,T',h1,h2,h3,h4,h5⟩:=hb;exact⟨b,arr,T',by grind,h2,by grind,h4,λk x hx=>(h5 k x hx).mono t.mv t.mr⟩
  |row m z c=>
   obtain⟨h0,h1|⟨b,cap,h1,h2,arr,T',q1,q2,q3,q4,q5,q6,q7⟩⟩:=hb
   ·exact⟨h0,.inl ⟨by grind,h1.2⟩⟩
   ·exact⟨h0,.inr ⟨b,cap,by grind,h2,arr,T',by grind,q2,q3,q4,q5,q6,λi e j x he hx=>(q7 i e j x he hx).mono t.mv (Mem.le_refl _)⟩⟩
  |aA z l=>
   obtain⟨h0,h1|⟨b,cap,arr,T',h1,h2,q1,q2,q3,q4⟩⟩:=hb
   ·exact⟨h0,.inl ⟨by grind,h1.2⟩⟩
   ·exact⟨h0,.inr ⟨b,cap,arr,T',by grind,h2,by grind,q2,q3,λi e j x he hx=>t.jr hR (q4 i e j x he hx)⟩⟩
  |map es=>
   obtain⟨b,arr,ck,h1,h2,h3,h4,h5⟩:=hb;exact⟨b,arr,ck,by grind,h2,by grind,h4,λi k x e hi he=>let⟨a1,a2⟩:=h5 i k x e hi he;⟨a1,a2.mono t.mv t.mr⟩⟩
def SO (h:Below w.heap.size w w'){b o:Nat}{v:Value}(e:rd w b o=some v):rd w' b o=some v:=by rw[Below.ahL h (IS _ _ e)];exact e
def kM {b:Nat}{o:Obj}(e:w.heap[b]? =some o):b<w.heap.size:=(FT.1 e).1
def Tr.grow (_hR:ac F β N H w)(h:Below w.heap.size w w'):Tr F β N H w β N H w' where
 below:=.Le h
 mem:=λ_ _ _ _ hs e=>⟨hs,SO h e⟩
 used:=λ_ h=>h
 kH:=λ_ _=>rfl
 keep:=λ_ b _ e=>⟨b,e,b.fV⟩
 size:=λ_ _ _ b arr T _ _ _ _ _ e=>⟨arr,by rw[h.block b (kM e)];exact e,rfl⟩
 ax:=λk o e=>by rw[h.block k (kM e)];exact e
theorem ac.gb (hR:ac F β N H w){id b:Nat}{bz:co}(e:H id=some bz)(hb:β id=some b):b<w.heap.size/\F.dz b:=by
 obtain⟨_,h⟩:=hR.rel id bz e
 cases bz with
 |box ty cs=>obtain⟨b',arr,T',h1,h2,h3,_⟩:=h;grind
 |dV cs=>obtain⟨b',arr,T',h1,h2,h3,_⟩:=h;grind
 |row m z c=>
  obtain⟨_,h1|⟨b',cap,h1,h2,arr,T',q1,_⟩⟩:=h
  grind
  grind
 |aA z l=>
  obtain⟨_,h1|⟨b',cap,arr,T',h1,h2,q1,_⟩⟩:=h
  grind
  grind
 |map es=>obtain⟨b',arr,T',h1,h2,h3,_⟩:=h;grind
def ac.grow (hR:ac F β N H w)(h:Below w.heap.size w w'):ac F β N H w':=
 hR.step (Tr.grow hR h) (λ_=>False) (λid bz _ e=>⟨e,(hR.rel id bz e).1,λb hb=>h.block b (hR.gb e hb).1⟩) (λ_ _ h=>h.elim) hR.inj
theorem an (H:HF)(f:Nat)(b:Option co):bn H f b f=b:=by simp[bn]
theorem aH (H:HF)(f:Nat)(b:Option co){i:Nat}(h:i≠f):bn H f b i=H i:=by simp[bn,h]
theorem Hp.ar (j:Nat)(b:Option co)(H:Hp):Hp.get ((j,b)::H)=bn H.get j b:=by
 funext i;by_cases h:i=j
 ·subst h;simp[Hp.get,bn]
 grind[Nat.eq_of_beq_eq_true,Hp.get,bn]
theorem Hp.get_append (u H:Hp):Hp.get (u++H)=u.on H.get:=by
 induction u with
 |nil=>rfl
 |cons p u ih=>rw[qK,Hp.ar,ih];rfl
theorem Hp.Us (u u':Hp)(H:HF):Hp.on (u++u') H=u.on (u'.on H):=by
 induction u with
 |nil=>rfl
 |cons p u ih=>rw[qK];show bn _ _ _=bn _ _ _;rw[ih]
def tag (id:Nat):Nat:=match Nat.beq (id%2) 0 with
 |true=>id/2
 |false=>id/8589934592
def jM (n:Nat):tag (2*n)=n:=by
 have h:2*n%2=0:=by omega
 unfold tag;simp_all
theorem aga (id:Nat):tag id<=id:=by grind[tag]
def bf (N:Nat->Prop)(f:Nat):Nat->Prop:=λid=>N id\/tag id=tag f
def cR (β:Nat->Option Nat)(f:Nat)(b:Option Nat):Nat->Option Nat:=λid=>if id=f then b else β id
theorem jw (β:Nat->Option Nat)(f:Nat)(b:Option Nat):cR β f b f=b:=by simp[cR]
def it (β:Nat->Option Nat)(f:Nat)(b:Option Nat){i:Nat}(h:i≠f):cR β f b i=β i:=by simp[cR,h]
def Tr.new (_hR:ac F β N H w)(h:Below w.heap.size w w'){f:Nat}(hf: ¬N f)(b:Option Nat)(hb: ∀x,b=some x->w.heap.size<=x)(bz:co):
  Tr F β N H w (cR β f b) (bf N f) (bn H f (some bz)) w' where
 below:=.Le h
 mem:=λb' o v _ hs e=>by
  refine⟨λid blk' e' jS=>?_,SO h e⟩;by_cases hid:id=f
  ·subst hid;rw[jw]at jS;have:=hb _ jS;have:=IS _ _ e
   grind
  ·rw[aH _ _ _ hid]at e';rw[it _ _ _ hid]at jS;exact hs id blk' e' jS
 used:=λ_ h=>.inl h
 kH:=λid hn=>it _ _ _ λe=>hf (e▸hn)
 keep:=λid b' hn e=>by
  have hid:id≠f:=λe=>hf (e▸hn);rw[aH _ _ _ hid]at e;exact⟨b',e,b'.fV⟩
 size:=λ_ _ _ b arr T _ _ _ _ _ e=>⟨arr,by rw[h.block b (kM e)];exact e,rfl⟩
 ax:=λk o e=>by rw[h.block k (kM e)];exact e
def ac.new (hR:ac F β N H w)(h:Below w.heap.size w w'){f:Nat}(hf: ¬N f)(b:Option Nat)(hb: ∀x,b=some x->w.heap.size<=x)(bz:co)
  (hrel:ir F (cR β f b) (bf N f) (bn H f (some bz)) w' f bz):ac F (cR β f b) (bf N f) (bn H f (some bz)) w':=by
 refine hR.step (Tr.new hR h hf b hb bz) (λid=>id=f) (λid blk' hid e=>?_) (λid blk' hid e=>?_) (λi j x y z hi hj bi bj=>?_)
 ·rw[aH _ _ _ hid]at e;exact⟨e,(hR.rel id blk' e).1,λb hb=>h.block b (hR.gb e hb).1⟩
 ·subst hid;rw[an]at e;cases e;exact⟨.inr rfl,hrel⟩
 ·by_cases h1:i=f
  ·by_cases h2:j=f
   grind
   ·exfalso;subst h1;rw[aH _ _ _ h2]at hj;rw[jw]at bi;rw[it _ _ _ h2]at bj;have:=(hR.gb hj bj).1
    grind
  ·by_cases h2:j=f
   ·exfalso;subst h2;rw[aH _ _ _ h1]at hi;rw[jw]at bj;rw[it _ _ _ h1]at bi;have:=(hR.gb hi bi).1
    grind
   ·rw[aH _ _ _ h1]at hi;rw[aH _ _ _ h2]at hj;rw[it _ _ _ h1]at bi;rw[it _ _ _ h2]at bj;exact hR.inj i j x y z hi hj bi bj
def Tr.trans {amT:Nat->Option Nat}{N'':Nat->Prop}{H'':HF}{w'':World}(t:Tr F β N H w cL N' H' w')(u:Tr F cL N' H' w' amT N'' H'' w''):Tr F β N H w amT N'' H'' w'' where
 below:=t.below.trans u.below
 mem:=λb o v hb hs e=>let⟨h1,h2⟩:=t.mem b o v hb hs e;u.mem b o v hb h1 h2
 used:=λid h=>u.used id (t.used id h)
 kH:=λid h=>(u.kH id (t.used id h)).trans (t.kH id h)
 keep:=λid OP hn e=>by
  obtain⟨blk',e',sr⟩:=u.keep id OP (t.used id hn) e;obtain⟨bz,e0,hl⟩:=t.keep id blk' hn e';refine⟨bz,e0,?_⟩;cases bz<;>cases blk'<;>cases OP<;>simp[co.zM]at* <;>(grind)
 size:=λid OP zn b arr T hn e0 ez eb hb e=>by
  obtain⟨blk',ek,hl⟩:=u.keep id OP (t.used id hn) e0;obtain⟨arr',e',s'⟩:=t.size id blk' zn b arr T hn ek (by grind[co.R2]) eb hb e;obtain⟨aoj,e'',s''⟩:=u.size id OP zn b arr' T (t.used id hn) e0 ez ((t.kH id hn).trans eb) hb e'
  grind
 ax:=λk o e=>u.ax k o (t.ax k o e)
end
end Go.Fw
namespace Go.Fw
open Go.RowKit (Below)
section
variable {C:bQ}{F:gN}{β cL:Nat->Option Nat}{N N':Nat->Prop}{H H':HF}{w w':World}
def o5 (H H':HF):Prop:=∀id,H' id=H id\/(∃m z c,H id=some (.row m z c)/\H' id=some (.row false z c))\/∃t cs l,H id=some (.box t cs)/\H' id=some (.dV l)
theorem o5.refl (H:HF):o5 H H:=λ_=>.inl rfl
def o5.live (h:o5 H H'){id:Nat}{x:co}(e:H' id=some x): ∃y,H id=some y/\y.zM x:=by
 rcases h id with h|⟨m,z,c,h1,h2⟩|⟨t,cs,l,h1,h2⟩
 ·exact⟨x,by grind,x.fV⟩
 ·rw[h2]at e;cases e;exact⟨_,h1,rfl,rfl⟩
 ·rw[h2]at e;cases e;exact⟨_,h1,trivial⟩
def o5.tr (h:o5 H H'):Tr F β N H w β N H' w where
 below:=jv.refl _ _
 mem:=λb o v _ hs e=>by
  refine⟨λid bz e' hb=>?_,e⟩;rcases h id with h|⟨m,z,c,h1,h2⟩|⟨t,cs,l,h1,h2⟩
  ·exact hs id bz br hb
  ·have:=hs id _ h1 hb;rw[h2]at e';cases e';exact⟨rfl,this.2⟩
  ·rw[h2]at e';cases e';trivial
 used:=λ_ h=>h
 kH:=λ_ _=>rfl
 keep:=λid blk' _ e=>let⟨y,e1,hl⟩:=h.live e;⟨y,e1,hl⟩
 size:=λ_ _ _ _ arr _ _ _ _ _ _ h=>⟨arr,h,rfl⟩
 ax:=λ_ _ h=>h
def Pz (hR:ac F β N H w)(h:o5 H H'){id b z:Nat}{c:SC}(e:H' id=some (.row false z c))(hb:β id=some b){o:Nat}(ho:o<c.len*z):fT β H' b o:=by
 intro iO bz e' jS;obtain⟨y,ey,_⟩:=h.live e;obtain⟨y',ey',_⟩:=h.live e';have:iO=id:=hR.inj iO id b y' y ey' ey jS hb;subst this;rw[e]at e';cases e';exact⟨rfl,ho⟩
def tg (hR:ac F β N H w)(h:o5 H H'){id b:Nat}{cs:List SC}(e:H' id=some (.dV cs))(hb:β id=some b)(o:Nat):fT β H' b o:=by
 intro iO bz e' jS;obtain⟨y,ey,_⟩:=h.live e;obtain⟨y',ey',_⟩:=h.live e';have:iO=id:=hR.inj iO id b y' y ey' ey jS hb;subst this;rw[e]at e';cases e';trivial
def qR {b o:Nat}(hb:F.dz b)(hs:fT β H b o):MV F β H w b o=rd w b o:=by
 unfold MV
 grind
theorem gd {arr:Array Value}{T:TypeId}{b o:Nat}(h:w.heap[b]? =some (.cells arr T))(ho:o<arr.size):rd w b o=some (arr.getD o undef):=by simp[rd,World.cell?,h,Array.getD,ho]
def Ya (hR:ac F β N H w)(h:o5 H H'){id z:Nat}{c:SC}{v:Value}(e:H' id=some (.row false z c))(hv:UN β w v id z c.len)
  (gD:ir F β N H w id (.row false z c)):dq (MV F β H' w) (MR F β H' w) v c:=by
 obtain⟨⟨hz,abu,hl⟩,hr⟩:=gD;by_cases h0:c.len=0
 ·rcases hv with⟨_,_,rfl⟩|⟨b,cap,arr,T,h1,rfl,h3,h4⟩
  ·exact .empty _ _ abu h0
  ·rw[h0];exact .empty _ _ abu h0
 rcases hv with⟨_,h0',_⟩|⟨b,cap,arr,T,h1,rfl,h3,h4⟩
 ·omega
 rcases hr with⟨_,h0'⟩|⟨b',jD,q1,q2,arr',T',q3,q4,q5,q6,q7,q8,q9⟩
 ·omega
 rw[h1]at q1;cases q1;rw[h3]at q3;cases q3;have eu:c.len*z<=arr.size:=by rw[q4];exact kC _ q7
 have gc:cap=jD:=Uu hz K0;subst gc;refine .view b 0 cap z (λk=>arr.getD k undef) abu K0 hz q7 hl (λk hk=>?_) (λi el j x he hx=>?_)
 ·rw[jZ,qR q2 (Pz hR h e h1 hk)]
  grind[gd]
 ·exact(q9 i el j x he hx).mono (o5.tr (N:=N) h).mv (Mem.le_refl _)
def me (H:HF)(p:Nat × Option co):Prop:=∃m z c,H p.1=some (.row m z c)/\p.2=some (.row false z c)
theorem nv {k:Bool}{d:DC}{c:SC}{u:Hp}{r:List Nat}(h:bv H k d=some (c,u,r)): ∀p∈u,me H p:=by
 cases d with
 |st c'=>grind[bv]
 |nil=>grind[bv]
 |own id=>
  simp only[bv]at h;split at h
  ·rename_i m z c' e;simp at h;obtain⟨rfl,rfl,rfl⟩:=h;cases m
   ·simp
   ·intro p hp;simp at hp;subst hp;exact⟨_,_,_,e,rfl⟩
  grind
  grind
 |ptr id off=>grind[bv]
 |cF id z i off=>grind[bv]
 |sv g id=>grind[bv]
 |mp id=>grind[bv]
theorem G8 (hR:ac F β N H w)(hS:o5 H H'){v:Value}{k:Bool}{d:DC}{c:SC}{u:Hp}{r:List Nat}(hd:cd F β N H w v d)
  (h:bv H k d=some (c,u,r))(hu: ∀p∈u,∃z c,p.2=some (.row false z c)/\H' p.1=some (.row false z c)):dq (MV F β H' w) (MR F β H' w) v c:=by
 cases d with
 |st c'=>
  simp[bv]at h;obtain⟨rfl,_,_⟩:=h;exact dq.mono (o5.tr (N:=N) hS).mv (o5.tr (N:=N) hS).mr hd
 |nil=>
  simp[bv]at h;obtain⟨rfl,_,_⟩:=h;have:v= .slice none 0 0:=hd;subst this;cases k
  ·exact .empty _ _ rfl rfl
  ·exact .empty _ _ rfl rfl
 |own id=>
  simp only[bv]at h;split at h
  ·rename_i m z c' e;simp at h;obtain⟨rfl,OX,rfl⟩:=h;obtain⟨hn,_,hd⟩:=hd;have hv:=hd _ _ _ e rfl;have hb:=(hR.rel id _ e).2
   have e':H' id=some (.row false z c'):=by
    cases m
    ·rcases hS id with h|⟨m,z1,c1,h1,h2⟩|⟨t,cs,l,h1,h2⟩
     grind
     grind
     grind
    ·subst OX;obtain⟨z1,c1,h1,h2⟩:=hu (id,some (.row false z c')) (by simp)
     grind
   refine Ya hR hS e' hv ?_;exact hb
  ·simp at h;obtain⟨rfl,_,_⟩:=h;exact .any hd.2.1
  grind
 |ptr id off=>grind[bv]
 |cF id z i off=>grind[bv]
 |sv g id=>grind[bv]
 |mp id=>grind[bv]
theorem cJ: ∀ {ks:List Bool} {ds:List DC} {l:List SC} {u:Hp} {r:List Nat},bS H ks ds=some (l,u,r)->∀p∈u,me H p
 |ks,[],l,u,r,h=>by grind[bS]
 |ks,d::ds,l,u,r,h=>by
  simp only[bS]at h;split at h
  ·rename_i c u1 r1 h1;split at h
   ·rename_i cs u2 r2 h2;simp at h;obtain⟨_,rfl,_⟩:=h;intro p hp;rcases gC.1 hp with hp|hp
    grind[nv]
    ·exact cJ h2 p hp
   grind
  grind
theorem iu: ∀ {ks:List Bool} {ds:List DC} {l:List SC} {u:Hp} {r:List Nat},bS H ks ds=some (l,u,r)->l.length=ds.length
 |ks,[],l,u,r,h=>by grind[bS]
 |ks,d::ds,l,u,r,h=>by
  simp only[bS]at h;split at h
  ·split at h
   ·rename_i cs u2 r2 h2;simp at h;obtain⟨rfl,_,_⟩:=h;simp[iu h2]
   grind
  grind
theorem iy (hR:ac F β N H w)(hS:o5 H H'): ∀ {ks:List Bool} {ds:List DC} {l:List SC} {u:Hp} {r:List Nat} {f:Nat->Value},(∀k d,ds[k]? =some d->cd F β N H w (f k) d)->
  bS H ks ds=some (l,u,r)->(∀p∈u,∃z c,p.2=some (.row false z c)/\H' p.1=some (.row false z c))->∀k c,l[k]? =some c->dq (MV F β H' w) (MR F β H' w) (f k) c
 |ks,[],l,u,r,f,_,h,_=>by grind[bS]
 |ks,d::ds,l,u,r,f,hf,h,hu=>by
  simp only[bS]at h;split at h
  ·rename_i c u1 r1 h1;split at h
   ·rename_i cs u2 r2 h2;simp at h;obtain⟨rfl,rfl,_⟩:=h;intro k x hx
    cases k with
    |zero=>
     simp at hx;subst hx;exact G8 hR hS (hf 0 d rfl) h1 λp hp=>hu p (gC.2 (.inl hp))
    |succ k=>
     simp at hx;exact iy hR hS (f:=λk=>f (k+1)) (λk d hd=>hf (k+1) d br) h2 (λp hp=>hu p (gC.2 (.inr hp))) k x hx
   grind
  grind
def akF (C:bQ)(H:HF)(u:Hp)(p:Nat × Option co):Prop:=
 me H p\/∃t cs l ul rl,H p.1=some (.box t cs)/\p.2=some (.dV l)/\bS H (C.kinds t) cs=some (l,ul,rl)/\∀q∈ul,q∈u
def ii (C:bQ)(H:HF)(u:Hp):Prop:=∀p∈u,akF C H u p
theorem xR (u:Hp)(H:HF)(id:Nat):(u.on H id=H id/\∀p∈u,p.1≠id)\/∃p∈u,p.1=id/\u.on H id=p.2:=by
 induction u with
 |nil=>exact .inl ⟨rfl,by simp⟩
 |cons q u ih=>
  obtain⟨j,b⟩:=q;by_cases h:id=j
  ·exact .inr ⟨(j,b),by simp,h.symm,by simp[Hp.on,bn,h]⟩
  ·have he:Hp.on ((j,b)::u) H id=Hp.on u H id:=by show bn _ _ _ id=_;simp[bn,h]
   grind
def ii.soft {u:Hp}(h:ii C H u):o5 H (u.on H):=by
 intro id
 rcases xR u H id with⟨h1,_⟩|⟨p,hp,rfl,h1⟩
 grind
 ·rcases h p hp with⟨m,z,c,e1,e2⟩|⟨t,cs,l,ul,rl,e1,e2,_⟩
  grind
  grind
def ii.frozen {u:Hp}(h:ii C H u){p:Nat × Option co}(hp:p∈u)(hf:me H p): ∃z c,p.2=some (.row false z c)/\u.on H p.1=some (.row false z c):=by
 obtain⟨m,z,c,e1,e2⟩:=hf;refine⟨z,c,e2,?_⟩
 rcases xR u H p.1 with⟨_,h1⟩|⟨q,hq,hqp,h1⟩
 grind
 ·rcases h q hq with⟨m',z',c',q1,q2⟩|⟨t,cs,l,ul,rl,q1,_⟩
  grind
  grind
def ii.heap {u:Hp}(hR:ac F β N H w)(h:ii C H u):ac F β N (u.on H) w:=by
 have hS:=h.soft;have hT:Tr F β N H w β N (u.on H) w:=hS.tr;refine hR.step hT (λid=>u.on H id≠H id) (λid bz hid e=>?_) (λid bz hid e=>?_) (λi j b x y hi hj bi bj=>?_)
 ·have:u.on H id=H id:=Pn hid;have e':H id=some bz:=by grind
  exact⟨e',(hR.rel id bz e').1,λ_ _=>rfl⟩
 ·rcases xR u H id with⟨h1,_⟩|⟨p,hp,rfl,h1⟩
  grind
  ·rcases h p hp with⟨m,z,c,e1,e2⟩|⟨t,cs,l,ul,rl,e1,e2,e3,e4⟩
   ·rw[h1,e2]at e;cases e;obtain⟨hn,h0,hb⟩:=hR.rel _ _ e1;refine⟨hn,h0,?_⟩;rcases hb with hb|⟨b,cap,q1,q2,arr,T,q3,q4,q5,q6,q7,q8,q9⟩
    grind
    ·exact .inr ⟨b,cap,q1,q2,arr,T,q3,q4,q5,q6,q7,q8,λi e j x he hx=>(q9 i e j x he hx).mono hT.mv (Mem.le_refl _)⟩
   ·rw[h1,e2]at e;cases e;obtain⟨hn,b,arr,T,q1,q2,q3,q4,q5⟩:=hR.rel _ _ e1;refine⟨hn,b,arr,T,q1,q2,q3,by grind[iu],?_⟩;exact iy hR hS q5 e3 λq hq=>h.frozen (e4 q hq) (cJ e3 q hq)
 ·obtain⟨x',AN,_⟩:=hS.live hi;obtain⟨y',hy',_⟩:=hS.live hj;exact hR.inj i j b x' y' AN hy' bi bj
def ii.aft {u:Hp}(h:ii C H u){id:Nat}{t:TypeId}{ds:List DC}{l:List SC}{ue:Hp}{re:List Nat}(hp:(id,some (.dV l))∈u)(hb:H id=some (.box t ds))
  (hs:bS H (C.kinds t) ds=some (l,ue,re)):u.on H id=some (.dV l):=by
 rcases xR u H id with⟨_,h1⟩|⟨q,hq,hqp,h1⟩
 grind
 ·rcases h q hq with⟨m',z',c',q1,q2⟩|⟨t',cs,l',ul,rl,q1,q2,q3,_⟩
  grind
  grind
def ii.kj {u:Hp}(h: ∀p∈u,me H p):ii C H u:=λp hp=>.inl (h p hp)
def ii.append {u v:Hp}(h:ii C H u)(k:ii C H v):ii C H (u++v):=by
 intro p hp;rcases gC.1 hp with hp|hp
 ·rcases h p hp with h|⟨t,cs,l,ul,rl,e1,e2,e3,e4⟩
  ·exact .inl h
  ·exact .inr ⟨t,cs,l,ul,rl,e1,e2,e3,λq hq=>gC.2 (.inl (e4 q hq))⟩
 ·rcases k p hp with h|⟨t,cs,l,ul,rl,e1,e2,e3,e4⟩
  ·exact .inl h
  ·exact .inr ⟨t,cs,l,ul,rl,e1,e2,e3,λq hq=>gC.2 (.inr (e4 q hq))⟩
end
def G9: ∀ {l:List (Nat × TI)} {t:Nat} {i:TI},LQ l t=some i->(t,i)∈l
 | [],_,_,h=>by grind[LQ]
 |(j,b)::l,t,i,h=>by
  simp only[LQ]at h;split at h;simp_all
  ·exact i7 _ (G9 h)
structure LW (P:Program) (t:TypeId) (i:TI) (f:TypeInfo) (d:TypeDesc) (v:Value):Prop where
 oc:P.info? t=some f
 IN:P.underlying t=some d
 bY:eA d=i.bY
 size:f.size=i.size
 bytes:f.bytes=i.bytes
 zero:f.zero=some v
 xF:v.cells.toList.map BK=i.zero
 eqs:(if P.eqGuardType P.depth t then none else kK P 8 t)=i.eqs
 fields: ∀fs,d= .struct fs->∀g∈fs.toList,(P.info? g.type).isSome =true
theorem bQ.Ok.get {C:bQ}(h:C.Ok){t:TypeId}{i:TI}(e:C.ti t=some i): ∃f d v,LW C.P t i f d v:=by
 have hm:=G9 e;obtain⟨k,hk⟩:=Uy.1 hm;have hty:=aP (·[k]?) h.ty;simp only[gr,hk,xJ,lK]at hty;unfold akC at hty;split at hty
 ·rename_i f d hf hd;split at hty
  ·rename_i v hz hall;simp only[lK,gt]at hty;obtain⟨h1,h2,h3,h4,h5⟩:=hty;refine⟨f,d,v,hf,hd,h1,h2,h3,hz,h4,h5,?_⟩
   grind
  grind
 grind
section
variable {P:Program}{t:TypeId}{i:TI}{f:TypeInfo}{d:TypeDesc}{v:Value}
def LW.cU (h:LW P t i f d v)(w:World):(underlying t).run P w= .ok d w:=sV h.IN w
def LW.iF (h:LW P t i f d v)(w:World):(sizeOf t).run P w= .ok i.size w:=by simp[sizeOf,typeInfo,h.oc,h.size]
def LW.Xp (h:LW P t i f d v)(w:World):(typeInfo t).run P w= .ok f w:=by simp[typeInfo,h.oc]
def LW.sR (h:LW P t i f d v)(w:World):(zeroValue t).run P w= .ok v w:=by simp[zeroValue,typeInfo,h.oc,h.zero]
def LW.GV (h:LW P t i f d v)(w:World):(isAgg t).run P w= .ok (cH i.bY) w:=by
 rw[<- h.bY];cases d<;>simp[isAgg,h.cU,eA,cH]
def di {e:TypeId}(h:eA d= .slice e):d= .slice e:=by exact UF
def km {n:Nat}{e:TypeId}(h:eA d= .array n e):d= .array n e:=by exact UF
def qT {k:IntKind}(h:eA d= .int k):d= .int k:=by exact UF
def LX (h:eA d= .bool):d= .bool :=by cases d<;>simp[eA]at h;rfl
def UO (h:eA d= .iface): ∃m,d= .interface m:=by exact UF
def mf (h:eA d= .str):d= .string :=by cases d<;>simp[eA]at h;rfl
def qU {fs:List (Nat × TypeId)}(h:eA d= .struct fs): ∃gs,d= .struct gs/\gs.toList.map (λf=>(f.offset,f.type))=fs:=UF
end
theorem SP {mv mr:Mem}{v:Value}{c:SC}(h:dq mv mr v c):v.oneCell'=true:=by
 cases h with
 |lit h=>cases ‹Value› <;>simp[plain]at h<;>rfl
 |empty=>rfl
 |view=>rfl
 |ref=>rfl
 |err h=>obtain⟨T,x,rfl⟩:=h;rfl
 |num h=>obtain⟨m,rfl⟩:=h;rfl
 |raw h=>exact h
 |any h=>exact h
 |fn=>rfl
def Ha {v:Value}(h:v.oneCell'=true):v.cells= #[v]:=by cases v<;>simp[Value.oneCell']at h<;>rfl
section
variable (C:bQ)(F:gN)(β:Nat->Option Nat)(N:Nat->Prop)(H:HF)(fid:Nat)(K:j0)
def bh (w:World)(v:Value)(w':World):Prop:=
 ∃cL r u R,K r u R/\Tr F β N H w cL (bf N fid) (u.on H) w'/\ac F cL (bf N fid) (u.on H) w'/\b8 F cL (bf N fid) (u.on H) w' v r
end
section
variable {C:bQ}{F:gN}{β:Nat->Option Nat}{N:Nat->Prop}{H:HF}{fid:Nat}{K:j0}{w w':World}
theorem cd.bf {f:Nat}{v:Value}{d:DC}(h:cd F β N H w v d):cd F β (bf N f) H w v d:=by
 cases d with
 |st c=>exact h
 |nil=>exact h
 |ptr id off=>exact⟨.inl h.1,h.2⟩
 |own id=>exact⟨.inl h.1,h.2⟩
 |cF id z i off=>exact⟨.inl h.1,h.2⟩
 |sv g id=>exact⟨.inl h.1,h.2⟩
 |mp id=>exact⟨.inl h.1,h.2⟩
def Tr.bf {cL:Nat->Option Nat}{H':HF}{f:Nat}(t:Tr F β N H w cL N H' w'):Tr F β N H w cL (bf N f) H' w':=
 ⟨t.below,t.mem,λ_ h=>.inl h,t.kH,t.keep,t.size,t.ax⟩
theorem ir.bf {f id:Nat}{b:co}(h:ir F β N H w id b):ir F β (bf N f) H w id b:=by
 cases b with
 |box t cs=>obtain⟨b,arr,T,h1,h2,h3,h4,h5⟩:=h;exact⟨b,arr,T,h1,h2,h3,h4,λk x hx=>(h5 k x hx).bf⟩
 |dV cs=>exact h
 |row m z c=>exact h
 |aA z l=>
  obtain⟨q0,q1|⟨b,cap,arr,T,q1,q2,q3,q4,q5,q6⟩⟩:=h
  ·exact LO
  ·exact⟨q0,.inr ⟨b,cap,arr,T,q1,q2,q3,q4,q5,λi e k x hi hx=>(q6 i e k x hi hx).bf⟩⟩
 |map es=>exact h
def ac.bf {f:Nat}(h:ac F β N H w):ac F β (bf N f) H w:=
 ⟨λid bz e=>let⟨a,b⟩:=h.rel id bz e;⟨.inl a,b.bf⟩,h.inj,h.below,h.sT⟩
def bh.still (hR:ac F β N H w){u:Hp}(hg:ii C H u){R:List Nat}{r:DV}{v:Value}(hK:K r u R)
  (hv:b8 F β (Fw.bf N fid) (u.on H) w v r):bh F β N H fid K w v w:=
 ⟨β,r,u,R,hK,hg.soft.tr.bf,(hg.heap hR).bf,hv⟩
def aq.bf {f:Nat}{v:Value}{d:DX}(h:aq F β N H w v d):aq F β (Fw.bf N f) H w v d:=by
 unfold aq at*;split
 ·rename_i hx;rw[if_pos hx]at h;obtain⟨arr,h1,h2,h3⟩:=h;exact⟨arr,h1,h2,λk c hc=>(h3 k c hc).bf⟩
 ·rename_i hx;rw[if_neg hx]at h;obtain⟨c,h1,h2⟩:=h;exact⟨c,h1,h2.bf⟩
theorem b8.bf {f:Nat}{v:Value}{d:DV}(h:b8 F β N H w v d):b8 F β (Fw.bf N f) H w v d:=by
 cases d with
 |val x=>exact aq.bf h
 |aJ l=>obtain⟨arr,h1,h2,h3⟩:=h;exact⟨arr,h1,h2,λk c hc=>(h3 k c hc).bf⟩
def bh.pure (hR:ac F β N H w){R:List Nat}{r:DV}{v:Value}(hK:K r [] R)(hv:b8 F β N H w v r):bh F β N H fid K w v w:=
 ⟨β,r,[],R,hK,(o5.refl H).tr.bf,hR.bf,hv.bf⟩
theorem fU {v:Value}(h:plain v=true):b8 F β N H w v (lit v):=⟨.st (.lit v),rfl,.lit h⟩
def cI {v:Value}{d:DC}(h:cd F β N H w v d):b8 F β N H w v (bm d):=⟨d,rfl,h⟩
def aq.am {v:Value}{d:DC}(h:aq F β N H w v (false,[d])):cd F β N H w v d:=by
 obtain⟨c,h1,h2⟩:=h
 grind
def aq.Ca {v:Value}{cs:List DC}(h:aq F β N H w v (true,cs)): ∃arr,v= .agg arr/\arr.size=cs.length/\∀k c,cs[k]? =some c->cd F β N H w (arr.getD k undef) c:=h
theorem cd.aby {v:Value}(h:cd F β N H w v (.st .err)): ∃T x,v= .iface T x:=by
 have h:dq _ _ v .err :=h
 cases h with
 |empty a cap hv=>grind[SC.ao]
 |view _ _ _ _ _ hv=>grind[SC.ao]
 |err h=>exact h
theorem cd.bw {v x:Value}(h:cd F β N H w v (.st (.lit x))):v=x/\plain x=true:=by
 cases h with
 |lit h=>grind
 |empty a cap hv=>grind[SC.ao]
 |view _ _ _ _ _ hv=>grind[SC.ao]
structure bE (C:bQ) (F:gN):Prop where
 ok:eP C.gl (rd F.w0)
 mv:F.Pc.le (rd F.w0)
 Ut: ∀g cs,(g,cs)∈C.gl->0<cs.length->¬F.own g
 rok:eP C.gl F.mr0
 rle:F.mr0.le (rd F.w0)
 mvr:F.Pc.le F.mr0
theorem AV: ∀ {l:s6} {t:Nat} {i:List SC},xN l t=some i->(t,i)∈l
 | [],_,_,h=>by grind[xN]
 |(j,b)::l,t,i,h=>by
  simp only[xN]at h;split at h;simp_all
  ·exact i7 _ (AV h)
def th {b o:Nat}{v:Value}(e:rd F.w0 b o=some v)(hn: ¬F.own b): ¬F.dz b:=by
 have hb:b<F.base:=IS _ _ e;rintro(h|h)
 ·omega
 grind
def agb {b o:Nat}{v:Value}(e:F.mr0 b o=some v)(hm: ¬F.dz b):MR F β H w b o=some v:=by
 unfold MR
 grind
theorem IZ {C:bQ}(hG:bE C F)(hR:ac F β N H w):(MR F β H w).le (rd w):=by
 intro b o v h;unfold MR at h;split at h
 ·unfold MV at h
  grind
 ·rename_i hb;exact hR.below.rd hb (hG.rle b o v h)
def eP.mr {C:bQ}(hG:bE C F):eP C.gl (MR F β H w):=by
 intro g cs hm;obtain⟨h0,h9⟩:=hG.rok g cs hm
 have hn:0<cs.length->¬F.dz g:=λfO=>by
  obtain⟨v,h1,_⟩:=h0 0 cs[0] br;exact th (hG.rle g 0 v h1) (hG.Ut g cs hm fO)
 refine⟨λk x hx=>?_,λfO=>?_⟩
 ·obtain⟨v,h1,h2⟩:=h0 k x hx;exact⟨v,agb h1 (hn (Nat.lt_of_le_of_lt (dC _) (kl.1 hx).1)),h2⟩
 ·unfold MR
  grind
def PA {v:Value}{d:DV}(h:IW v=some d):b8 F β N H w v d:=by
 unfold IW at h;split at h
 ·simp at h;subst h;exact cI rfl
 ·split at h
  ·rename_i a b _ _ ha hb;simp at h;subst h;have ha:a= #[]:=by grind
   have hb:b= #[]:=by grind
   subst ha;subst hb;exact aiZ
  grind
 grind[fU]
theorem mC (hG:bE C F)(_hR:ac F β N H w){E:EF}{a:Act}(hE:dD F β N H w E a){x:Operand}{d:DV}(h:C.ev E x=some d):b8 F β N H w (a.eval x) d:=by
 cases x with
 |tmp t=>exact hE t d h
 |const v=>exact PA h
 |global g=>
  simp only[bQ.ev]at h;split at h
  ·rename_i cs hc;simp at h;subst h;have hm:=AV hc;have fB:=(eP.mr (β:=β) (H:=H) (w:=w) hG g cs hm).1;refine cI ?_;refine .ref g 0 (λk=>((MR F β H w g k).getD undef)) (λk hk=>?_) (λk x hx=>?_)
   ·obtain⟨v,h1,_⟩:=fB k cs[k] br
    grind
   ·obtain⟨v,h1,h2⟩:=fB k x hx;rw[h1];exact h2.mono (dX _) (dX _)
  grind
 |func f=>
  simp[bQ.ev]at h;subst h;exact aiZ
end
section
variable {C:bQ}{F:gN}{β:Nat->Option Nat}{N:Nat->Prop}{H:HF}{fid:Nat}{K:j0}{w w':World}{P:Program}
def addr_add (b o n:Nat):(⟨b,o,none⟩:Addr).add n=⟨b,o+n,none⟩:=Addr.add_lit b o n
def C2 (ag:Bool)(n:Nat)(f:Nat->Value):Value:=if ag then .agg ((List.range n).map f).toArray else f 0
theorem LY {t:TypeId}{i:TI}{tf:TypeInfo}{d:TypeDesc}{z:Value}(hT:LW P t i tf d z){b off:Nat}{f:Nat->Value}
  (hc: ∀k,k<i.size->rd w b (off+k)=some (f k))(hs:(cH i.bY || Nat.beq i.size 1)=true):(loadVar t ⟨b,off,none⟩).run P w= .ok (C2 (cH i.bY) i.size f) w:=by
 unfold loadVar C2;simp only[eJ,hT.GV,mw];cases Xo:cH i.bY
 ·simp only[Xo,LH]at hs;have h1:i.size=1:=o8 hs;have:=hc 0 K0;simp only[rd,CP]at this;simp[this]
 ·simp only[if_true,eJ,hT.iF,mw];rw[SF w _ _ f (λj hj=>by rw[addr_add];exact hc j hj)];simp
def qV {f:Nat->Value}{cs:List DC}{off n:Nat}{ag:Bool}(Uf: ∀k c,cs[k]? =some c->cd F β N H w (f k) c)(hl:off+n<=cs.length)
  (hs:(ag || Nat.beq n 1)=true):aq F β N H w (C2 ag n λk=>f (off+k)) (ag,(cs.drop off).take n):=by
 cases ag
 ·simp only[LH]at hs;have h1:n=1:=o8 hs;subst h1;refine⟨cs[off],?_,?_⟩
  grind[List.drop_eq_getElem_cons]
  ·exact Uf off _ (by simp)
 ·refine⟨_,rfl,by grind,λk c hc=>?_⟩;rw[GW]at hc;simp_all
theorem C3 {f:Nat->Value}{cs:List SC}{off n:Nat}{ag:Bool}(Uf: ∀k c,cs[k]? =some c->dq (MV F β H w) (MR F β H w) (f k) c)(hl:off+n<=cs.length)
  (hs:(ag || Nat.beq n 1)=true):aq F β N H w (C2 ag n λk=>f (off+k)) (ag,((cs.drop off).take n).map .st):=by
 have:=qV (N:=N) (f:=f) (cs:=cs.map .st) (off:=off) (n:=n) (ag:=ag) (λk c hc=>by
  rw[gr]at hc
  cases hk:cs[k]? with
  |none=>simp[hk]at hc
  |some x=>simp[hk]at hc;subst hc;exact Uf k x hk) br hs
 simp_all
def aG {a b:Bool}(h:(a&&b)=true):a=true/\b=true:=by grind
theorem SQ (hC:C.Ok)(hG:bE C F)(hR:ac F β N H w){T:TypeId}{x:DX}{v0:Value}(hx:aq F β N H w v0 x)(h:ot C T x H K):
  ∃v,(Instr.loadAt T v0).run C.P w= .ok v w/\bh F β N H fid K w v w:=by
 unfold ot at h;split at h
 ·grind
 rename_i i hi;obtain⟨tf,d,z,hT⟩:=hC.get hi
 have bC: ∀ {b o:Nat} {f:Nat->Value},(∀k,k<i.size->rd w b (o+k)=some (f k))->(cH i.bY || Nat.beq i.size 1)=true->
   (Instr.loadAt T (.pointer (some ⟨b,o,none⟩))).run C.P w= .ok (C2 (cH i.bY) i.size f) w:=by
  grind[Instr.loadAt,Instr.sureAddr,LY]
 split at h
 ·
  rename_i id off;obtain⟨hn,b,jq,rfl⟩:=hx.am;split at h
  ·rename_i t cs hb;obtain⟨_,b',arr,T',h1,h2,h3,h4,h5⟩:=hR.rel id _ hb;rw[jq]at h1;cases h1;split at h
   ·rename_i eu;obtain⟨eu,hs⟩:=aG eu;have eu:=fP eu
    exact⟨_,bC (f:=λk=>arr.getD (off+k) undef) (λk hk=>gd h3 K0) hs,
     bh.pure hR h (qV (f:=λk=>arr.getD k undef) (λk c hc=>h5 k c hc) eu hs)⟩
   grind
  ·rename_i cs hb;obtain⟨_,b',arr,T',h1,h2,h3,h4,h5⟩:=hR.rel id _ hb;rw[jq]at h1;cases h1;split at h
   ·rename_i eu;obtain⟨eu,hs⟩:=aG eu;have eu:=fP eu
    exact⟨_,bC (f:=λk=>arr.getD (off+k) undef) (λk hk=>gd h3 K0) hs,
     bh.pure hR h (C3 (f:=λk=>arr.getD k undef) (λk c hc=>h5 k c hc) eu hs)⟩
   grind
  grind
 ·
  rename_i cs;have hp:=hx.am;split at h
  ·rename_i eu;obtain⟨eu,hs⟩:=aG eu;have eu:=fP eu
   cases hp with
   |empty a cap hv=>grind[SC.ao]
   |view _ _ _ _ _ hv=>grind[SC.ao]
   |ref b o f hc hr=>
    have IK: ∀k,k<cs.length->rd w b (o+k)=some (f k):=by
     intro k hk;exact IZ hG hR _ _ _ (hc k hk)
    have:=C3 (N:=N) (f:=f) (off:=0) (n:=i.size) (cs:=cs) (ag:=cH i.bY) hr K0 hs;refine⟨_,bC (f:=f) (λk hk=>IK k K0) hs,bh.pure hR h ?_⟩;show aq _ _ _ _ _ _ _
    grind
  grind
 ·
  rename_i id z0 n off;obtain⟨hn,b,jq,rfl⟩:=hx.am;split at h
  ·rename_i m z' c hb;split at h
   ·rename_i eu;obtain⟨eu,hs⟩:=aG eu;obtain⟨pV,eu⟩:=aG eu;have eu:=fP eu;have pV:=o8 pV;subst pV;obtain⟨e,he,h⟩:=h;obtain⟨_,⟨hz,hv,hl⟩,gD⟩:=hR.rel id _ hb
    rcases gD with⟨h1,_⟩|⟨b',cap,h1,h2,arr,T',q1,q2,q3,q4,q5,q6,q7⟩
    ·grind
    rw[jq]at h1;cases h1;have iE:=hl n e he;have ak:=SC.ip he
    have zJ:n*z0+z0<=arr.size:=by
     rw[q2];have:(n+1)*z0<=cap*z0:=kC _ K0
     grind
    exact⟨_,bC (f:=λk=>arr.getD (n*z0+(off+k)) undef) (λk hk=>by grind[gd]) hs,
     bh.pure hR h (C3 (f:=λk=>arr.getD (n*z0+k) undef) (λk c hc=>(q7 n e k c he hc).mono (Mem.le_refl _) (dX _)) K0 hs)⟩
   grind
  ·rename_i z' l hb;split at h
   ·rename_i eu;obtain⟨eu,hs⟩:=aG eu;obtain⟨pV,eu⟩:=aG eu;have eu:=fP eu;have pV:=o8 pV;subst pV;obtain⟨e,he,h⟩:=h;obtain⟨_,⟨hz,hl⟩,gD⟩:=hR.rel id _ hb
    rcases gD with⟨h1,_⟩|⟨b',cap,arr,T',h1,h2,q1,q2,q3,q4⟩
    ·grind
    rw[jq]at h1;cases h1;have iE:=hl n e he;have ak:=(kl.1 he).1
    have zJ:n*z0+z0<=arr.size:=by
     rw[q2];have:(n+1)*z0<=cap*z0:=kC _ K0
     grind
    exact⟨_,bC (f:=λk=>arr.getD (n*z0+(off+k)) undef) (λk hk=>by grind[gd]) hs,
     bh.pure hR h (qV (f:=λk=>arr.getD (n*z0+k) undef) (λk c hc=>q4 n e k c he hc) K0 hs)⟩
   grind
  grind
 grind
theorem C4 {mv mr:Mem}{cs:List SC}{b o:Nat}(h:dq mv mr (.pointer (some ⟨b,o,none⟩)) (.ref cs))(n:Nat):dq mv mr (.pointer (some ⟨b,o+n,none⟩)) (.ref (cs.drop n)):=by
 cases h with
 |ref _ _ f hc hr=>
  refine .ref b (o+n) (λk=>f (n+k)) (λk hk=>?_) (λk x hx=>?_)
  grind
  grind
theorem I0 {mv mr:Mem}{v:Value}{cs:List SC}(h:dq mv mr v (.ref cs)): ∃b o,v= .pointer (some ⟨b,o,none⟩):=by
 cases h with
 |ref b o f hc hr=>grind
 |empty a cap hv=>grind[SC.ao]
 |view _ _ _ _ _ hv=>grind[SC.ao]
theorem I1 (hC:C.Ok)(hR:ac F β N H w){T:TypeId}{x:DX}{v0:Value}{n:Nat}(hx:aq F β N H w v0 x)(h:ou C T x n K):
  ∃v,(Instr.fieldAt T v0 n).run C.P w= .ok v w/\bh F β N H fid K w v w:=by
 unfold ou at h;split at h
 ·grind
 rename_i i hi;obtain⟨tf,d,z,hT⟩:=hC.get hi;split at h
 ·rename_i fs bV;obtain⟨gs,hd,hgs⟩:=qU (hT.bY.trans bV);split at h
  ·rename_i o ft RZ;split at h
   ·rename_i fi kF;obtain⟨ff,fd,fz,hF⟩:=hC.get kF;split at h
    ·rename_i nn;have nn:=fP nn;rw[<- hgs,gr]at RZ
     cases hg:gs.toList[n]? with
     |none=>grind
     |some g=>
      simp[hg]at RZ;obtain⟨ho,hft⟩:=RZ;have Um:gs[n]? =some g:=by grind
      have bC: ∀b off,(Instr.fieldAt T (.pointer (some ⟨b,off,none⟩)) n).run C.P w= .ok (.pointer (some ⟨b,off+o,none⟩)) w:=by
       intro b off;have e8: ¬fi.size=0:=by omega
       simp[Instr.fieldAt,hT.cU,hd,Um,Instr.sureAddr,fieldPlace,hft,hF.iF,e8,addr_add,ho]
      split at h
      ·rename_i id off;obtain⟨hn,b,jq,rfl⟩:=hx.am;exact⟨_,bC b off,bh.pure hR h (cI ⟨hn,b,jq,rfl⟩)⟩
      ·rename_i cs;obtain⟨b,off,rfl⟩:=I0 hx.am;exact⟨_,bC b off,bh.pure hR h (cI (C4 hx.am o))⟩
      ·rename_i id z0 m off;obtain⟨hn,b,jq,rfl⟩:=hx.am;exact⟨_,bC b _,bh.pure hR h (cI ⟨hn,b,jq,by grind⟩)⟩
      grind
    grind
   grind
  grind
 grind
def jv.setRow {m:Nat->Prop}{b:Nat}(hb:m b)(arr:Array Value):jv m w (w.setRow b arr):=
 ⟨rfl,rfl,rfl,by simp,λk _ hk=>setRow_other w b k arr (λe=>hk (e▸hb))⟩
def mg {b:Nat}(lB: ∃arr T,w.heap[b]? =some (.cells arr T))(arr':Array Value)(k:Nat)(x:Option (List Deferred))(e:w.heap[k]? =some (.deferred x)):(w.setRow b arr').heap[k]? =some (.deferred x):=by grind[setRow_other]
def Tr.write (hR:ac F β N H w){id b:Nat}{bz blk':co}{arr arr':Array Value}{T:TypeId}(hb:H id=some bz)(xm:β id=some b)
  (lB:w.heap[b]? =some (.cells arr T))(nn:arr'.size=arr.size)(hl:bz.zM blk')(eG: ∀o,bz.sS o->blk'.sS o/\arr'[o]? =arr[o]?):
  Tr F β N H w β N (bn H id (some blk')) (w.setRow b arr') where
 ax:=mg ⟨_,_,lB⟩ arr'
 below:=jv.setRow (hR.gb hb xm).2 arr'
 mem:=λb' o v _ hs e=>by
  refine⟨λiO nL e' jS=>?_,?_⟩
  ·by_cases h:iO=id
   ·subst h;rw[an]at e';cases e';exact(eG o (hs iO bz hb jS)).1
   ·rw[aH _ _ _ h]at e';exact hs iO nL e' jS
  ·by_cases h:b'=b
   ·subst h;have:=(eG o (hs id bz hb xm)).2;simp only[rd,World.cell?,lB]at e;simp only[rd,World.cell?,xK w b' arr arr' T (0,0) lB]
    grind
   exact abY
 used:=λ_ h=>h
 kH:=λ_ _=>rfl
 keep:=λiO nL _ e=>by
  by_cases h:iO=id
  grind[an]
  ·rw[aH _ _ _ h]at e;exact⟨nL,e,nL.fV⟩
 size:=λ_ _ _ b' xk T0 _ _ _ _ _ e=>by grind[setRow_heap,setRow_other]
def ac.write (hR:ac F β N H w){id b:Nat}{bz blk':co}{arr arr':Array Value}{T:TypeId}(hb:H id=some bz)(xm:β id=some b)
  (lB:w.heap[b]? =some (.cells arr T))(nn:arr'.size=arr.size)(hl:bz.zM blk')(eG: ∀o,bz.sS o->blk'.sS o/\arr'[o]? =arr[o]?)
  (hrel:ir F β N (bn H id (some blk')) (w.setRow b arr') id blk'):ac F β N (bn H id (some blk')) (w.setRow b arr'):=by
 refine hR.step (Tr.write hR hb xm lB nn hl eG) (λi=>i=id) (λi b0 hi e=>?_) (λi b0 hi e=>?_) (λi j x y z hi hj bi bj=>?_)
 ·rw[aH _ _ _ hi]at e;refine⟨e,(hR.rel i b0 e).1,λb1 h1=>setRow_other w b b1 arr' λh=>hi ?_⟩;subst h;exact hR.inj i id b1 b0 bz e hb h1 xm
 ·subst hi;rw[an]at e;cases e;exact⟨(hR.rel i bz hb).1,hrel⟩
 ·have live: ∀ {k:Nat} {b0:co},bn H id (some blk') k=some b0->∃b1,H k=some b1:=by
   grind[aH]
  obtain⟨b1,h1⟩:=live hi;obtain⟨b2,h2⟩:=live hj;exact hR.inj i j x b1 b2 h1 h2 bi bj
theorem cd.one_cell {v:Value}{c:DC}(h:cd F β N H w v c):v.oneCell'=true:=by
 cases c with
 |st c=>exact SP h
 |nil=>have:v= .slice none 0 0:=h;subst this;rfl
 |ptr id off=>obtain⟨_,b,_,rfl⟩:=h;rfl
 |cF id z i off=>obtain⟨_,b,_,rfl⟩:=h;rfl
 |sv g id=>obtain⟨_,b,_,rfl⟩:=h;rfl
 |mp id=>obtain⟨_,b,_,rfl⟩:=h;rfl
 |own id=>exact h.2.1
theorem aq.cells {v:Value}{x:DX}(h:aq F β N H w v x):v.cells.size=x.2.length/\∀k c,x.2[k]? =some c->cd F β N H w (v.cells.getD k undef) c:=by
 obtain⟨ag,cs⟩:=x;cases ag
 ·obtain⟨c,h0,hc⟩:=h;simp at h0;subst h0;rw[Ha hc.one_cell];refine⟨rfl,λk c' hk=>?_⟩
  cases k with
  |zero=>simp_all
  |succ k=>grind
 ·obtain⟨arr,rfl,h2,h3⟩:=h;exact⟨h2,h3⟩
def aq.cells_one {v:Value}{x:DX}(h:aq F β N H w v x): ∀u∈v.cells.toList,u.oneCell'=true:=by
 intro u hu;obtain⟨k,hk⟩:=Uy.1 hu;have qF:v.cells[k]? =some u:=by grind
 obtain⟨h1,h2⟩:=h.cells;have ak:k<v.cells.size:=(FT.1 qF).1;have:=h2 k x.2[k] br;have e:v.cells.getD k undef=u:=by simp_all
 rw[e]at this;exact this.one_cell
def aO (arr:Array Value)(off:Nat)(vs:List Value):Array Value:=(arr.toList.take off++vs++arr.toList.drop (off+vs.length)).toArray
theorem fj {arr:Array Value}{off:Nat}{vs:List Value}(h:off+vs.length<=arr.size):(aO arr off vs).size =arr.size:=by grind[aO]
def qW {α:Type}{l:List α}{off:Nat}{vs:List α}(h:off+vs.length<=l.length)(k:Nat):
  (iq l off vs)[k]? =if k<off then l[k]? else if k<off+vs.length then vs[k -off]? else l[k]? :=by
 unfold iq
 grind
def ge {arr:Array Value}{off:Nat}{vs:List Value}(h:off+vs.length<=arr.size)(k:Nat):
  (aO arr off vs)[k]? =if k<off then arr[k]? else if k<off+vs.length then vs[k -off]? else arr[k]? :=by
 grind[aO]
theorem mh {arr:Array Value}{k:Nat}{v:Value}(h:arr[k]? =some v):arr.getD k undef=v:=by simp_all
theorem bL {a b:Array Value}{k l:Nat}(h:a[k]? =b[l]?):a.getD k undef=b.getD l undef:=by simp_all
theorem I2 {t:TypeId}{i:TI}{tf:TypeInfo}{d:TypeDesc}{z v:Value}(hT:LW P t i tf d z){b off:Nat}{arr:Array Value}{T:TypeId}
  (lB:w.heap[b]? =some (.cells arr T))(hv:v.cells.size=i.size)(h1: ∀u∈v.cells.toList,u.oneCell'=true)(eu:off+i.size<=arr.size):
  (storeVar t ⟨b,off,none⟩ v).run P w= .ok () (w.setRow b (aO arr off v.cells.toList)):=by
 unfold storeVar;simp only[eJ,hT.iF,mw,hv,ne_eq,not_true_eq_false,kJ]
 grind[run_storeCells_at,aO]
def SC.Lo {c c':SC}{n:Nat}{e:List SC}(h:c.xD n e=some c'):c'.len=c.len/\c'.ao=c.ao:=by
 unfold SC.xD at h
 grind[SC.len,SC.ao]
def SC.qI {c c':SC}{n:Nat}{e:List SC}(h:c.xD n e=some c')(hn:n<c.len)(j:Nat):c'.elem j=if j=n then some e else c.elem j:=by
 unfold SC.xD at h
 grind[SC.len,SC.elem]
theorem lO: ∀ {l:List SC},om l=true->∀(k:Nat) (x:SC),l[k]? =some x->x.flat=true
 | [],_,k,x,h=>by grind
 |c::cs,hf,k,x,h=>by
  simp only[om]at hf;split at hf
  ·rename_i hc
   cases k with
   |zero=>grind
   |succ k=>exact lO hf k x br
  grind
def Yb (hC:C.Ok)(hR:ac F β N H w){T:TypeId}{x y:DX}{v0 v1:Value}(hx:aq F β N H w v0 x)(hy:aq F β N H w v1 y)(h:qO C T x y H K):
  ∃w',(Instr.storeAt T v0 v1).run C.P w= .ok () w'/\bh F β N H fid K w undef w':=by
 unfold qO at h;split at h
 ·grind
 rename_i i hi;obtain⟨tf,d,z,hT⟩:=hC.get hi;obtain⟨hc1,Xm⟩:=hy.cells;have sP:=hy.cells_one;split at h
 ·grind
 rename_i bB;have bB:=o8 bB
 have bC: ∀ {b off:Nat} {arr:Array Value} {T0:TypeId},w.heap[b]? =some (.cells arr T0)->off+i.size<=arr.size->
   (Instr.storeAt T (.pointer (some ⟨b,off,none⟩)) v1).run C.P w= .ok () (w.setRow b (aO arr off v1.cells.toList)):=by
  grind[Instr.storeAt,Instr.sureAddr,I2]
 have abt:v1.cells.toList.length=i.size:=by grind
 split at h
 ·rename_i id off;obtain⟨hn,b,jq,rfl⟩:=hx.am;split at h
  ·rename_i t cs hb;obtain⟨_,b',arr,T',h1,h2,h3,h4,h5⟩:=hR.rel id _ hb;rw[jq]at h1;cases h1;split at h
   ·rename_i eu;have eu:=fP eu;refine⟨_,bC h3 K0,?_⟩;have nn:(aO arr off v1.cells.toList).size =arr.size:=fj K0;have eG: ∀o,(co.box t cs).sS o->(co.box t (iq cs off y.2)).sS o/\(aO arr off v1.cells.toList)[o]? =arr[o]? :=λo h=>h.elim;have fh:=Tr.write (N:=N) (blk':=.box t (iq cs off y.2)) hR hb jq h3 nn trivial eG;have hH:=ac.write (N:=N) (blk':=.box t (iq cs off y.2)) hR hb jq h3 nn trivial eG ⟨b,_,T',jq,h2,xK w b arr _ T' (0,0) h3,by grind[iq],λk x hk=>?_⟩
    ·exact afM
    ·rw[qW K0]at hk;have e:=ge (arr:=arr) (off:=off) (vs:=v1.cells.toList) K0 k;rw[abt]at e;by_cases k1:k<off
     ·simp only[k1,if_true]at hk e;exact aku
     ·by_cases k2:k<off+i.size
      ·have k2':k<off+y.2.length:=by omega
       simp only[k1,kJ,k2,if_true,k2']at hk e;rw[bL (b:=v1.cells) (l:=k -off) br];exact fh.jr hR (Xm _ x hk)
      ·have k2': ¬k<off+y.2.length:=by omega
       simp only[k1,kJ,k2,k2']at hk e;exact aku
   grind
  grind
 ·rename_i id z0 n off;obtain⟨hn,b,jq,rfl⟩:=hx.am;split at h
  ·rename_i z' c hb;split at h
   ·rename_i eu;obtain⟨pV,eu⟩:=aG eu;have eu:=fP eu;have pV:=o8 pV;subst pV;split at h
    ·rename_i l r an1;split at h
     ·rename_i oe;obtain⟨e,he,h⟩:=h;split at h
      ·rename_i c' lj;obtain⟨_,⟨hz,hv,hl⟩,gD⟩:=hR.rel id _ hb
       rcases gD with⟨h1,_⟩|⟨b',cap,h1,h2,arr,T',q1,q2,q3,q4,q5,q6,q7⟩
       ·grind
       rw[jq]at h1;cases h1;have iE:=hl n e he;have ak:=SC.ip he
       have zJ:n*z0+z0<=arr.size:=by
        rw[q2];have:(n+1)*z0<=cap*z0:=kC _ K0
        grind
       refine⟨_,bC q1 K0,?_⟩;obtain⟨jd,hcv⟩:=SC.Lo lj;have nn:(aO arr (n*z0+off) v1.cells.toList).size =arr.size:=fj K0;have eG: ∀o,(co.row true z0 c).sS o->(co.row true z0 c').sS o/\(aO arr (n*z0+off) v1.cells.toList)[o]? =arr[o]? :=λo h=>by cases h.1
       have vt:(co.row true z0 c).zM (.row true z0 c'):=⟨rfl,jd.symm⟩;have fh:=Tr.write (N:=N) hR hb jq q1 nn vt eG;have vN:l.length=i.size:=by grind[iu]
       have hlr:=iy hR (o5.refl H) (f:=λk=>v1.cells.getD k undef) Xm an1 (λp hp=>by cases hp)
       have hbl:ir F β N (bn H id (some (.row true z0 c'))) (w.setRow b (aO arr (n*z0+off) v1.cells.toList)) id (.row true z0 c'):=by
        refine⟨⟨hz,by grind,λj e' hj=>?_⟩,.inr ⟨b,cap,jq,h2,_,T',xK w b arr _ T' (0,0) q1,by omega,q3,by grind,by omega,λj e' hj=>?_,λj e' k x hj hk=>?_⟩⟩
        ·rw[SC.qI lj ak]at hj;exact afN
        ·rw[SC.qI lj ak]at hj;exact afN
        ·have e1:=ge (arr:=arr) (off:=n*z0+off) (vs:=v1.cells.toList) K0 (j*z0+k);rw[abt]at e1;rw[SC.qI lj ak]at hj;by_cases hjn:j=n
         ·subst hjn;rw[if_pos rfl]at hj;cases hj;rw[qW K0,vN]at hk;by_cases k1:k<off
          ·rw[if_pos k1]at hk;rw[if_pos K0]at e1;exact ajy
          ·by_cases k2:k<off+i.size
           ·rw[if_neg k1,if_pos k2]at hk;rw[if_neg K0,if_pos K0]at e1;rw[bL (b:=v1.cells) (l:=k -off) br];exact((hlr _ x hk).flat (lO oe _ x hk)).mono fh.mv (Mem.le_refl _)
           ·rw[if_neg k1,if_neg k2]at hk;rw[if_neg K0,if_neg K0]at e1;exact ajy
         ·rw[if_neg hjn]at hj;have hkz:k<z0:=by grind
          have e2:(aO arr (n*z0+off) v1.cells.toList)[j*z0+k]? =arr[j*z0+k]? :=ahZ;rw[bL e2];exact(q7 j e' k x hj hk).mono fh.mv (Mem.le_refl _)
       have hH:=ac.write (N:=N) hR hb jq q1 nn vt eG hbl;exact afM
      grind
     grind
    grind
   grind
  ·rename_i z' l hb;split at h
   ·rename_i eu;obtain⟨pV,eu⟩:=aG eu;have eu:=fP eu;have pV:=o8 pV;subst pV;obtain⟨e,he,h⟩:=h;obtain⟨_,⟨hz,hl⟩,gD⟩:=hR.rel id _ hb
    rcases gD with⟨h1,_⟩|⟨b',cap,arr,T',h1,h2,q1,q2,q5,q7⟩
    ·grind
    rw[jq]at h1;cases h1;have iE:=hl n e he;have ak:=(kl.1 he).1
    have zJ:n*z0+z0<=arr.size:=by
     rw[q2];have:(n+1)*z0<=cap*z0:=kC _ K0
     grind
    refine⟨_,bC q1 K0,?_⟩;have nn:(aO arr (n*z0+off) v1.cells.toList).size =arr.size:=fj K0;have eG: ∀o,(co.aA z0 l).sS o->(co.aA z0 (l.set n (iq e off y.2))).sS o/\(aO arr (n*z0+off) v1.cells.toList)[o]? =arr[o]? :=λo h=>h.elim;have vt:(co.aA z0 l).zM (.aA z0 (l.set n (iq e off y.2))):=⟨rfl,(CJ ..).symm⟩;have fh:=Tr.write (N:=N) hR hb jq q1 nn vt eG;have lj: ∀j,(l.set n (iq e off y.2))[j]? =if j=n then some (iq e off y.2)else l[j]? :=by grind
    have hbl:ir F β N (bn H id (some (.aA z0 (l.set n (iq e off y.2))))) (w.setRow b (aO arr (n*z0+off) v1.cells.toList)) id (.aA z0 (l.set n (iq e off y.2))):=by
     refine⟨⟨hz,λj e' hj=>?_⟩,.inr ⟨b,cap,_,T',jq,h2,xK w b arr _ T' (0,0) q1,by omega,by grind,λj e' k x hj hk=>?_⟩⟩
     ·rw[lj]at hj;exact afN
     ·have e1:=ge (arr:=arr) (off:=n*z0+off) (vs:=v1.cells.toList) K0 (j*z0+k);rw[abt]at e1;rw[lj]at hj;by_cases hjn:j=n
      ·subst hjn;rw[if_pos rfl]at hj;cases hj;rw[qW K0,bB]at hk;by_cases k1:k<off
       ·rw[if_pos k1]at hk;rw[if_pos K0]at e1;exact aj8
       ·by_cases k2:k<off+i.size
        ·rw[if_neg k1,if_pos k2]at hk;rw[if_neg K0,if_pos K0]at e1;rw[bL (b:=v1.cells) (l:=k -off) br];exact fh.jr hR (Xm _ x hk)
        ·rw[if_neg k1,if_neg k2]at hk;rw[if_neg K0,if_neg K0]at e1;exact aj8
      ·rw[if_neg hjn]at hj;have hkz:k<z0:=by grind
       have e2:(aO arr (n*z0+off) v1.cells.toList)[j*z0+k]? =arr[j*z0+k]? :=ahZ;rw[bL e2];exact fh.jr hR (q7 j e' k x hj hk)
    have hH:=ac.write (N:=N) hR hb jq q1 nn vt eG hbl;exact afM
   grind
  grind
 grind
end
section
variable {C:bQ}{F:gN}{β:Nat->Option Nat}{N:Nat->Prop}{H:HF}{fid:Nat}{K:j0}{w w':World}{P:Program}
def tk (hG:bE C F)(_hR:ac F β N H w):(MV F β H w).le (MR F β H w):=by
 intro b o v h;unfold MR;by_cases hb:F.dz b
 grind
 ·rw[if_neg hb];unfold MV at h;rw[if_neg hb]at h;exact hG.mvr b o v h
theorem dq.CE {mv mr:Mem}{v:Value}{c:SC}(h:dq mv mr v c)(hv:c.ao=true): ∃a cap,v= .slice a c.len cap/\c.len<=cap:=by
 cases h with
 |lit=>grind[SC.ao]
 |empty a cap _ h0=>simp_all
 |view b o cap z f _ _ _ gc=>grind
 |ref=>grind[SC.ao]
 |err=>grind[SC.ao]
 |num=>grind[SC.ao]
 |raw=>grind[SC.ao]
 |any=>grind[SC.ao]
 |fn=>grind[SC.ao]
theorem dq.Xq {mv mr:Mem}(eu:mv.le mr){v:Value}{c:SC}(h:dq mv mr v c)(hv:c.ao=true){n:Nat}{el:List SC}(he:c.elem n=some el):
  ∃b o cap,v= .slice (some ⟨b,o,none⟩) c.len cap/\dq mv mr (.pointer (some ⟨b,o+n*el.length,none⟩)) (.ref el):=by
 cases h with
 |lit=>grind[SC.ao]
 |empty a cap _ h0=>have:=SC.ip he;omega
 |view b o cap z f _ fO hz gc hl hc hr=>
  have wx:=hl n el he;subst wx;refine⟨b,o,cap,rfl,.ref b _ (λk=>f (n*el.length+k)) (λk hk=>?_) λk x hx=>(hr n el k x he hx).mono (Mem.le_refl _) (dX _)⟩;have ak:=SC.ip he;rw[LI];refine eu _ _ _ (hc _ ?_);have:(n+1)*el.length<=c.len*el.length:=kC _ ak
  grind
 |ref=>grind[SC.ao]
 |err=>grind[SC.ao]
 |num=>grind[SC.ao]
 |raw=>grind[SC.ao]
 |any=>grind[SC.ao]
 |fn=>grind[SC.ao]
def I3 (hC:C.Ok)(hG:bE C F)(hR:ac F β N H w){T:TypeId}{x y:DX}{v0 v1:Value}(hx:aq F β N H w v0 x)(hy:aq F β N H w v1 y)(h:eQ C T x y H K):
  ∃v,(Instr.indexAt T v0 v1).run C.P w= .ok v w/\bh F β N H fid K w v w:=by
 unfold eQ at h;split at h
 ·grind
 rename_i i hi;obtain⟨tf,d,z,hT⟩:=hC.get hi;split at h
 ·rename_i e k n bV;have hd:=di (hT.bY.trans bV);obtain⟨rfl,_⟩:=hy.am.bw;split at h
  ·grind
  rename_i ie lD;obtain⟨ef,ed,ez,hE⟩:=hC.get lD
  have bC: ∀(b o len cap:Nat),0<=n->n.toNat<len->(Instr.indexAt T (.slice (some ⟨b,o,none⟩) len cap) (.int k n)).run C.P w= .ok (.pointer (some ⟨b,o+n.toNat*ie.size,none⟩)) w:=by
   intro b o len cap h0 h1;have h2:0<=n/\n< (len:Int):=⟨h0,by omega⟩;exact ajw
  split at h
  ·rename_i id;obtain⟨hn,_,hp⟩:=hx.am;split at h
   ·rename_i m z0 c hb;split at h
    ·rename_i hz;have hz:=o8 hz;obtain⟨⟨h0,h1⟩,h⟩:=h
     rcases hp _ z0 c.len hb rfl with⟨_,h2,_⟩|⟨b,cap,arr,T',jq,rfl,_,_⟩
     ·omega
     ·refine⟨_,bC b 0 c.len cap h0 K0,bh.pure hR h (cI ⟨hn,b,jq,?_⟩)⟩
      grind
    grind
   ·rename_i z0 l hb;split at h
    ·rename_i hz;have hz:=o8 hz;obtain⟨⟨h0,h1⟩,h⟩:=h
     rcases hp _ z0 l.length hb rfl with⟨_,h2,_⟩|⟨b,cap,arr,T',jq,rfl,_,_⟩
     ·omega
     ·refine⟨_,bC b 0 l.length cap h0 K0,bh.pure hR h (cI ⟨hn,b,jq,?_⟩)⟩
      grind
    grind
   grind
  ·rename_i c;split at h
   ·rename_i hv;obtain⟨h0,el,he,bB,h⟩:=h;obtain⟨b,o,cap,rfl,hr⟩:=dq.Xq (tk hG hR) hx.am hv he;refine⟨_,bC b o c.len cap h0 (SC.ip he),bh.pure hR h (cI ?_)⟩;rw[<- bB];exact hr
   grind
  grind
 ·rename_i len e k n bV;have hd:=km (hT.bY.trans bV);obtain⟨rfl,_⟩:=hy.am.bw;split at h
  ·grind
  rename_i ie lD;obtain⟨ef,ed,ez,hE⟩:=hC.get lD
  have bC: ∀(b o:Nat),0<=n->n< (len:Int)->(Instr.indexAt T (.pointer (some ⟨b,o,none⟩)) (.int k n)).run C.P w= .ok (.pointer (some ⟨b,o+n.toNat*ie.size,none⟩)) w:=by
   intro b o h0 h1;have h2:0<=n/\n< (len:Int):=⟨h0,h1⟩;simp[Instr.indexAt,asIntOf,hT.cU,hd,h2,hE.iF,addr_add,Instr.sureAddr]
  split at h
  ·rename_i id off;obtain⟨hn,b,jq,rfl⟩:=hx.am;obtain⟨⟨h0,h1⟩,h⟩:=h;exact⟨_,bC b off h0 h1,bh.pure hR h (cI ⟨hn,b,jq,rfl⟩)⟩
  ·rename_i cs;obtain⟨b,o,rfl⟩:=I0 hx.am;obtain⟨⟨h0,h1⟩,h⟩:=h;exact⟨_,bC b o h0 h1,bh.pure hR h (cI (C4 hx.am _))⟩
  grind
 grind
def Yc {t:TypeId}{i:TI}{tf:TypeInfo}{d:TypeDesc}{z:Value}(hT:LW P t i tf d z){arr:Array Value}{off:Nat}(eu:off+i.size<=arr.size)(hs:(cH i.bY || Nat.beq i.size 1)=true):
  (part t arr off).run P w= .ok (C2 (cH i.bY) i.size λk=>arr.getD (off+k) undef) w:=by
 unfold part C2;simp only[eJ,hT.GV,mw];cases Xo:cH i.bY
 ·simp only[Xo,LH]at hs;have h1:i.size=1:=o8 hs;have ak:off<arr.size:=by omega
  simp_all
 ·simp only[if_true,eJ,hT.iF,mw,lL];congr 2;apply AS
  grind
  ·intro k h1 h2;have:off+k<arr.size:=by grind
   simp_all
def SR (hR:ac F β N H w){t:TypeId}{i:TI}{tf:TypeInfo}{d:TypeDesc}{z:Value}(hT:LW P t i tf d z){arr:Array Value}{cs:List DC}{off:Nat}
  (nn:arr.size=cs.length)(Uf: ∀k c,cs[k]? =some c->cd F β N H w (arr.getD k undef) c)(h:C1 i cs off K):
  ∃v,(part t arr off).run P w= .ok v w/\bh F β N H fid K w v w:=by
 unfold C1 at h;split at h
 ·rename_i eu;obtain⟨eu,hs⟩:=aG eu;have eu:=fP eu;exact⟨_,Yc hT K0 hs,bh.pure hR h (qV (f:=λk=>arr.getD k undef) Uf eu hs)⟩
 grind
def Yd (hC:C.Ok)(hR:ac F β N H w){T:TypeId}{x y:DX}{v0 v1:Value}(hx:aq F β N H w v0 x)(hy:aq F β N H w v1 y)(h:s8 C T x y K):
  ∃v,(Instr.index T v0 v1).run C.P w= .ok v w/\bh F β N H fid K w v w:=by
 unfold s8 at h;split at h
 ·grind
 rename_i i hi;obtain⟨tf,d,z,hT⟩:=hC.get hi;split at h
 ·rename_i len e k n bV;have hd:=km (hT.bY.trans bV);obtain⟨rfl,_⟩:=hy.am.bw;split at h
  ·grind
  rename_i ie lD;obtain⟨ef,ed,ez,hE⟩:=hC.get lD;split at h
  ·rename_i cs;obtain⟨arr,rfl,h2,h3⟩:=hx.Ca;obtain⟨h0,h⟩:=h;obtain⟨v,hr,hp⟩:=SR (fid:=fid) hR hE h2 h3 h;refine⟨v,?_,hp⟩;simp[Instr.index,asIntOf,hT.cU,hd,h0,hE.iF,hr]
  grind
 ·rename_i k n bV;have hd:=mf (hT.bY.trans bV);obtain⟨rfl,_⟩:=hy.am.bw;split at h
  ·rename_i s;obtain⟨rfl,_⟩:=hx.am.bw;obtain⟨h0,b,hb,h⟩:=h;refine⟨_,?_,bh.pure hR h (fU rfl)⟩;simp[Instr.index,asIntOf,hT.cU,hd,h0,hb]
  grind
 grind
theorem Ye (hC:C.Ok)(hR:ac F β N H w){T:TypeId}{x:DX}{v0:Value}{n:Nat}(hx:aq F β N H w v0 x)(h:zS C T x n K):
  ∃v,(Instr.field T v0 n).run C.P w= .ok v w/\bh F β N H fid K w v w:=by
 unfold zS at h;split at h
 ·grind
 rename_i i hi;obtain⟨tf,d,z,hT⟩:=hC.get hi;split at h
 ·rename_i fs bV;obtain⟨gs,hd,hgs⟩:=qU (hT.bY.trans bV);split at h
  ·rename_i o ft RZ;split at h
   ·rename_i fi kF;obtain⟨ff,fd,fz,hF⟩:=hC.get kF;rw[<- hgs,gr]at RZ
    cases hg:gs.toList[n]? with
    |none=>grind
    |some g=>
     simp[hg]at RZ;obtain⟨ho,hft⟩:=RZ;have Um:gs[n]? =some g:=by grind
     split at h
     ·rename_i cs;obtain⟨arr,rfl,h2,h3⟩:=hx.Ca;obtain⟨v,hr,hp⟩:=SR (fid:=fid) hR hF h2 h3 h;refine⟨v,?_,hp⟩;simp[Instr.field,hT.cU,hd,Um,asAgg,hft,ho,hr]
     grind
   grind
  grind
 grind
def Below.og (w:World)(o:Obj):Below w.heap.size w (w.alloc o):=(Below.refl _ _).alloc (dw _) o
def gO (w:World)(o:Obj):(w.alloc o).heap[w.heap.size]? =some o:=by
 show(w.heap.push o)[w.heap.size]? =some o;simp
def bh.new {u:Hp}(W6:ac F β N (u.on H) w)(t1:Tr F β N H w β N (u.on H) w)(hf: ¬N fid){bz:co}{R:List Nat}{r:DV}{v:Value}{b:Option Nat}(hw:Below w.heap.size w w')(hb: ∀x,b=some x->w.heap.size<=x)
  (hK:K r ((fid,some bz)::u) R)
  (hrel: ∀(H1:HF),H1=bn (u.on H) fid (some bz)->Tr F β N H w (cR β fid b) (bf N fid) H1 w'->Tr F β N (u.on H) w (cR β fid b) (bf N fid) H1 w'->ir F (cR β fid b) (bf N fid) H1 w' fid bz)
  (hv: ∀(H1:HF),H1=bn (u.on H) fid (some bz)->b8 F (cR β fid b) (bf N fid) H1 w' v r):bh F β N H fid K w v w':=by
 have t2:=Tr.new W6 hw hf b hb bz;have t:=t1.trans t2;exact⟨_,r,_,R,hK,t,ac.new W6 hw hf b hb bz (hrel _ rfl t t2),hv _ rfl⟩
theorem aeA {v:Value}{d:DC}(h:(BK v).dyn =some d):cd F β N H w v d:=by
 unfold BK at h;split at h
 ·simp[ZC.dyn]at h;subst h;rfl
 ·simp only[ZC.dyn]at h;split at h
  ·rename_i hp;simp at h;subst h;exact .lit hp
  grind
theorem C5: ∀ {zs:List Value} {cs:List DC},C0 (zs.map BK)=some cs->cs.length=zs.length/\∀(k:Nat) (c:DC),cs[k]? =some c->∃v,zs[k]? =some v/\(BK v).dyn =some c
 | [],cs,h=>by grind[C0]
 |z::zs,cs,h=>by
  simp only[ju,C0]at h;split at h
  ·rename_i d hd;split at h
   ·rename_i ds hds;simp at h;subst h;obtain⟨h1,h2⟩:=C5 hds
    grind
   grind
  grind
def Yf (hC:C.Ok)(hR:ac F β N H w)(hf: ¬N fid){T:TypeId}{i:TI}{cs:List DC}{v0:Value}(hi:C.ti T=some i)(hz:C0 i.zero=some cs)(h:K (bm (.ptr fid 0)) [(fid,some (.box T cs))] []):
  ∃v w',(Instr.alloc T true v0).run C.P w= .ok v w'/\bh F β N H fid K w v w':=by
 obtain⟨tf,d,z,hT⟩:=hC.get hi;rw[<- hT.xF]at hz;obtain⟨hl,hc⟩:=C5 hz;refine⟨.pointer (some ⟨w.heap.size,0,none⟩),w.alloc (.cells z.cells T),by simp[Instr.alloc,hT.sR,newVar,newRow],?_⟩;refine bh.new (u:=[]) (b:=some w.heap.size) hR Tr.refl hf (Below.og w _) (by simp) h (λH1 _ t _=>?_) (λH1 _=>cI ⟨.inr rfl,w.heap.size,by simp[cR],rfl⟩);refine⟨w.heap.size,z.cells,T,by simp[cR],gN.gG hR.below.size,gO w _,by grind,λk c hk=>?_⟩
 grind[mh,aeA]
def agc (hR:ac F β N H w)(hf: ¬N fid){T:TypeId}{x:DX}{v0:Value}(hx:aq F β N H w v0 x)(h:K (bm (.ptr fid 0)) [(fid,some (.box T x.2))] []):
  ∃v w',(Instr.box T v0).run C.P w= .ok v w'/\bh F β N H fid K w v w':=by
 obtain⟨h1,h2⟩:=hx.cells;refine⟨.pointer (some ⟨w.heap.size,0,none⟩),w.alloc (.cells v0.cells T),by simp[Instr.box,newVar,newRow],?_⟩;refine bh.new (u:=[]) (b:=some w.heap.size) hR Tr.refl hf (Below.og w _) (by simp) h (λH1 _ t _=>?_) (λH1 _=>cI ⟨.inr rfl,w.heap.size,by simp[cR],rfl⟩);exact⟨w.heap.size,v0.cells,T,by simp[cR],gN.gG hR.below.size,gO w _,h1,λk c hk=>t.jr hR (h2 k c hk)⟩
theorem zU (off:Nat): ∀(l:List Value) (j:Nat) (cs:Array Value),off+j+l.length<=cs.size->
  (l.zipIdx j).foldl (λcs (p:Value × Nat)=>cs.setIfInBounds (off+p.2) p.1) cs=aO cs (off+j) l
 | [],j,cs,_=>by simp[aO]
 |v::l,j,cs,h=>by
  simp only[List.zipIdx_cons,XQ];rw[zU off l (j+1) _ br];unfold aO;congr 1;have e:=list_seg_step cs.toList (off+j) v l K0;simpa [Array.toList_setIfInBounds,LI]using e
theorem I4 {O9 place':Nat->Option (Nat × Nat)}(hpp: ∀n x,O9 n=some x->place' n=some x): ∀ {parts:List (Nat × Value)} {ps:List (Nat × Option DV)} {arr:Array Value} {cells:List DC} {cs:List DC},parts.length=ps.length->
  (∀(k:Nat) (p:Nat × Value) (q:Nat × Option DV),parts[k]? =some p->ps[k]? =some q->p.1=q.1/\∀d,q.2=some d->b8 F β N H w p.2 d)->arr.size=cells.length->(∀(k:Nat) (c:DC),cells[k]? =some c->cd F β N H w (arr.getD k undef) c)->
  G7 O9 cells ps=some cs->∃arr',Instr.fill place' arr parts=some arr'/\arr'.size=cs.length/\∀(k:Nat) (c:DC),cs[k]? =some c->cd F β N H w (arr'.getD k undef) c
 | [],[],arr,cells,cs,_,_,hs,hc,h=>by
  simp[G7]at h;subst h;exact⟨arr,rfl,hs,hc⟩
 | [],_::_,_,_,_,h,_,_,_,_=>by grind
 |_::_,[],_,_,_,h,_,_,_,_=>by grind
 |(i,v)::parts,(j,d)::ps,arr,cells,cs,hl,hp,hs,hc,h=>by
  obtain⟨Lb,hd⟩:=hp 0 _ _ rfl rfl;simp at Lb;subst Lb;unfold G7 at h;split at h
  grind
  ·rename_i n x rest vO;cases vO;have hx:aq F β N H w v x:=hd _ rfl;obtain⟨c1,c2⟩:=hx.cells;split at h
   ·rename_i off size pE;split at h
    ·rename_i eu;obtain⟨hl1,eu⟩:=aG eu;have hl1:=o8 hl1;have eu:=fP eu;have hlc:v.cells.toList.length=x.2.length:=by omega
     have OU:v.cells.zipIdx.foldl (λcs (p:Value × Nat)=>cs.setIfInBounds (off+p.2) p.1) arr=aO arr off v.cells.toList:=by
      have:=zU off v.cells.toList 0 arr K0;exact ajF
     have abn:=I4 hpp (parts:=parts) (ps:=ps) (arr:=aO arr off v.cells.toList) (cells:=iq cells off x.2) (cs:=cs) br
      (λk p q h1 h2=>hp (k+1) p q br br) (by grind[fj,iq]) (λk c hk=>?_) h
     ·obtain⟨arr',e1,e2,e3⟩:=abn;refine⟨arr',?_,e2,e3⟩;have g1: ¬(v.cells.size≠size):=by omega
      have g2: ¬(off+v.cells.size>arr.size):=by omega
      simp only[Instr.fill,hpp _ _ pE,g1,g2,decide_false,AP,sU,kJ]
      grind
     ·have e:=ge (arr:=arr) (off:=off) (vs:=v.cells.toList) K0 k;rw[hlc]at e;rw[qW K0]at hk;by_cases k1:k<off
      ·simp only[k1,if_true]at hk e
       grind[bL]
      ·by_cases k2:k<off+x.2.length
       ·simp only[k1,kJ,k2,if_true]at hk e
        grind[bL]
       ·simp only[k1,kJ,k2]at hk e
        grind[bL]
    grind
   grind
  grind
end
section
variable {C:bQ}{F:gN}{β:Nat->Option Nat}{N:Nat->Prop}{H:HF}{fid:Nat}{K:j0}{w w':World}{P:Program}
theorem vR {α γ:Type}{g:α->Sem γ}{h:α->γ}: ∀ {l:List α},(∀x∈l,(g x).run P w= .ok (h x) w)->(l.mapM g).run P w= .ok (l.map h) w
 | [],_=>by simp
 |x::l,hl=>by
  have h1:=hl x (by simp);have h2:=vR (l:=l) λy hy=>hl y br;simp_all
def Yg {α γ:Type}{g:α->Sem γ}{h:α->γ}{l:Array α}(hl: ∀x∈l.toList,(g x).run P w= .ok (h x) w):(l.mapM g).run P w= .ok (l.map h) w:=by
 rw[aet,Sem.run_map,vR hl];simp
 grind
def C6 (hG:bE C F)(hR:ac F β N H w){E:EF}{a:Act}(hE:dD F β N H w E a)(parts:Array (Nat × Operand)):
  ((parts.map λp=>(p.1,a.eval p.2)).toList.length =(parts.toList.map λp=>(p.1,C.ev E p.2)).length)/\
  ∀(k:Nat) (p:Nat × Value) (q:Nat × Option DV),(parts.map λp=>(p.1,a.eval p.2)).toList[k]? =some p->(parts.toList.map λp=>(p.1,C.ev E p.2))[k]? =some q->
   p.1=q.1/\∀d,q.2=some d->b8 F β N H w p.2 d:=by
 grind[mC]
theorem Yh (hC:C.Ok)(hG:bE C F)(hR:ac F β N H w){E:EF}{a:Act}(hE:dD F β N H w E a){o:Oper}{T:TypeId}{parts:Array (Nat × Operand)}(ho:o.op= .build T parts)
  (h:fu C fid o (C.ev E) H K): ∃v,(Instr.build T (parts.map λp=>(p.1,a.eval p.2))).run C.P w= .ok v w/\bh F β N H fid K w v w:=by
 unfold fu at h;rw[ho]at h;simp only at h;obtain⟨hl,hp⟩:=C6 hG hR hE parts;split at h
 ·rename_i i hi;obtain⟨tf,d,z,hT⟩:=hC.get hi;split at h
  ·rename_i zs hz;rw[<- hT.xF]at hz;obtain⟨z1,z2⟩:=C5 hz;have hz3: ∀(k:Nat) (c:DC),zs[k]? =some c->cd F β N H w (z.cells.getD k undef) c:=by grind[mh,aeA]
   have hz4:z.cells.size=zs.length:=by grind
   split at h
   ·rename_i fs bV;obtain⟨gs,hd,hgs⟩:=qU (hT.bY.trans bV);split at h
    ·rename_i cs OT
     have aee:(gs.mapM λf=>do pure (f.offset,<- sizeOf f.type):Sem _).run C.P w= .ok (gs.map λf=>(f.offset,C.P.cellsOf f.type)) w:=by
      refine Yg λf hf=>?_;have:=hT.fields gs hd f hf;obtain⟨fi,kF⟩:=qJ.1 this;simp[sizeOf,typeInfo,kF,Program.cellsOf]
     obtain⟨arr',e1,e2,e3⟩:=I4 (place':=((gs.map λf=>(f.offset,C.P.cellsOf f.type))[·]?)) (by
      intro n x hx;split at hx
      ·rename_i o ft RZ;rw[<- hgs,gr]at RZ
       cases hg:gs.toList[n]? with
       |none=>grind
       |some g=>
        simp[hg]at RZ;obtain⟨h1,h2⟩:=RZ;split at hx
        ·rename_i fi kF;simp at hx;subst hx;obtain⟨ff,fd,fz,hF⟩:=hC.get kF;have Um:gs[n]? =some g:=by grind
         simp[Um,Program.cellsOf,h2,h1,hF.oc,hF.size]
        grind
      grind) hl hp hz4 hz3 OT
     refine⟨.agg arr',?_,bh.pure hR h ⟨arr',rfl,e2,e3⟩⟩;simp only[Instr.build,eJ,hT.sR,mw,hT.cU,hd,aee];simp_all
    grind
   ·rename_i n e bV;have hd:=km (hT.bY.trans bV);split at h
    ·rename_i ie lD;obtain⟨ef,ed,ez,GP⟩:=hC.get lD;split at h
     ·rename_i cs OT;obtain⟨arr',e1,e2,e3⟩:=I4 (λ_ _ h=>h) hl hp hz4 hz3 OT;refine⟨.agg arr',?_,bh.pure hR h ⟨arr',rfl,e2,e3⟩⟩;simp only[Instr.build,eJ,hT.sR,mw,hT.cU,hd,GP.iF];simp_all
     grind
    grind
   grind
  grind
 grind
theorem UP {op:BinOp}{k:IntKind}{a b:Int}{K':Value->Prop}(h:s7 op k a b K')(hs:op≠ .shl)(hs':op≠ .shr)(T:TypeId):
  ∃v,(binOp op T (.int k a) (.int k b)).run P w= .ok v w/\plain v=true/\K' v:=by
 cases op<;>simp only[s7]at h<;>first
  |exact(hs rfl).elim
  |exact(hs' rfl).elim
  |exact h.elim
  |(refine⟨_,?_,?_,h⟩<;>simp[binOp,Op.intArith,Op.intBits,Op.intCmp,plain];done)
  |(obtain⟨h0,h⟩:=h;refine⟨_,?_,?_,h⟩<;>simp[binOp,Op.intDiv,h0,plain];done)
  |skip
theorem UQ {op:BinOp}{a b:ByteArray}{K':Value->Prop}(h:wI op a b K')(T:TypeId):
  ∃v,(binOp op T (.string a) (.string b)).run P w= .ok v w/\plain v=true/\K' v:=by
 cases op<;>simp only[wI]at h<;>first
  |exact h.elim
  |(refine⟨_,?_,?_,h⟩<;>simp[binOp,Op.stringOp,plain];done)
  |(obtain⟨h0,h⟩:=h
    refine⟨_,?_,?_,h⟩
    ·have h1: ¬(((a.size+b.size:Nat):Int)>IntKind.i64.max):=by
      grind[IntKind.max_i64]
     simp only[binOp,Op.stringOp,h1,kJ];rfl
    ·rfl)
  |skip
def US {op:BinOp}{x y:Value}{K':Value->Prop}(h:qN op x y K')(T:TypeId):
  ∃v,(binOp op T x y).run P w= .ok v w/\plain v=true/\K' v:=by
 unfold qN at h;split at h
 ·rename_i k a k' b;split at h
  ·exact aiJ
  ·exact aiJ
  ·rename_i hs hs';split at h
   ·rename_i hk;simp at hk;subst hk;exact UP h K0 K0 T
   grind
 ·exact UQ h T
 grind
theorem LZ {t:TypeId}{c:AT}{a b:Value}{p:Bool}{d:TypeDesc}{n:Nat}(h:SM c a b=some p)(hu:P.underlying t=some d)(hd:eA d=c):(Op.equalIn (n+1) t a b).run P w= .ok p w:=by
 unfold SM at h;split at h
 ·split at h
  ·rename_i k1 a k2 b hk;simp at hk;subst hk;simp at h;subst h;have:=qT hd;subst this;exact af1
  grind
 ·simp at h;subst h;have:=LX hd;subst this;exact af1
 ·simp at h;subst h;have:=mf hd;subst this;exact af1
 grind
def gP:List AT->List Value->List Value->Option Bool
 | [],[],[]=>some true
 |c::cs,a::xs,b::ys=>match SM c a b with
  |some p=>match gP cs xs ys with
   |some q=>some (p&&q)
   |none=>none
  |none=>none
 |_,_,_=>none
theorem pF: ∀ {l1 l2:List AT} {x1 y1 x2 y2:List Value} {p:Bool},x1.length=l1.length->y1.length=l1.length->gP (l1++l2) (x1++x2) (y1++y2)=some p->
  ∃a b,gP l1 x1 y1=some a/\gP l2 x2 y2=some b/\p=(a&&b)
 | [],l2,x1,y1,x2,y2,p,h1,h2,h=>by
  have:x1= []:=CG.1 h1;have:y1= []:=CG.1 h2;subst x1;subst y1;exact⟨true,p,rfl,h,by simp⟩
 |c::l1,l2,x::x1,y::y1,x2,y2,p,h1,h2,h=>by
  simp only[qK,gP]at h;split at h
  ·rename_i p0 FE;split at h
   ·rename_i q0 hq0;simp at h;subst h;obtain⟨a,b,e1,e2,rfl⟩:=pF br br hq0
    grind[gP]
   grind
  grind
 |c::l1,l2,[],y1,x2,y2,p,h1,h2,h=>by grind
 |c::l1,l2,x::x1,[],x2,y2,p,h1,h2,h=>by grind
def cut (arr:Array Value)(off n:Nat):List Value:=(arr.toList.drop off).take n
def qX (arr:Array Value)(off m n:Nat):cut arr off (m+n)=cut arr off m++cut arr (off+m) n:=by grind[cut,List.drop_drop]
def Cb {arr:Array Value}{off n:Nat}(h:off+n<=arr.size):(cut arr off n).length =n:=by grind[cut]
def acf (P:Program)(w:World)(m:Nat)(t:TypeId)(l:List AT):Prop:=
 ∀(xs ys:Array Value) (off:Nat) (p:Bool),off+l.length<=xs.size->off+l.length<=ys.size->gP l (cut xs off l.length) (cut ys off l.length)=some p->
  ∃a b,(part t xs off).run P w= .ok a w/\(part t ys off).run P w= .ok b w/\(Op.equalIn m t a b).run P w= .ok p w
def pY (P:Program)(n:Nat)(acc:Option (List AT))(f:Field):Option (List AT):=
 match acc with
 |none=>none
 |some l=>match f.name != "_"&&f.offset==l.length,kK P n f.type with
  |true,some l'=>some (l++l')
  |_,_=>none
theorem FZ (P:Program)(n:Nat)(fs:List Field):fs.foldl (pY P n) none=none:=by
 induction fs with
 |nil=>rfl
 |cons f fs ih=>grind[pY]
theorem AW {n m:Nat}(ih: ∀t l,kK P n t=some l->acf P w m t l): ∀(fs:List Field) (l0 l:List AT),fs.foldl (pY P n) (some l0)=some l->
  ∃l1,l=l0++l1/\∀(xs ys:Array Value) (p:Bool),l.length<=xs.size->l.length<=ys.size->gP l1 (cut xs l0.length l1.length) (cut ys l0.length l1.length)=some p->
   (Op.eqFields m xs ys fs).run P w= .ok p w
 | [],l0,l,h=>by
  simp at h;subst h;refine⟨[],by simp,λxs ys p _ _ hp=>?_⟩;simp[cut,gP]at hp;subst hp;rfl
 |f::fs,l0,l,h=>by
  simp only[XQ]at h
  cases eG:pY P n (some l0) f with
  |none=>grind[FZ]
  |some l2=>
   rw[eG]at h;obtain⟨l1,rfl,hl⟩:=AW ih fs l2 l h;simp only[pY]at eG;split at eG
   ·rename_i l' FN hlv;simp at eG FN;subst eG;refine⟨l'++l1,by simp,λxs ys p hx hy hp=>?_⟩;have AN:l0.length+l'.length<=xs.size:=by grind
    have hy':l0.length+l'.length<=ys.size:=by grind
    rw[xI,qX,qX]at hp;obtain⟨a,b,e1,e2,rfl⟩:=pF (Cb AN) (Cb hy') hp;obtain⟨u,v,r1,r2,r3⟩:=ih f.type l' hlv xs ys l0.length a AN hy' e1;have OW:=hl xs ys b hx hy br;have hn:f.name≠"_":=FN.1;have ho:f.offset=l0.length:=FN.2;simp only[Op.eqFields];rw[if_pos hn,ho];simp only[eJ,r1,mw,r2,r3];cases a
    ·simp
    grind
   grind
theorem wK {n:Nat}{t:TypeId}{l:List AT}(h:kK P n t=some l): ∃i d,P.info? t=some i/\P.underlying t=some d/\i.size=l.length/\(cH (eA d)=false->l= [eA d]):=by
 cases n with
 |zero=>grind[kK]
 |succ n=>
  unfold kK at h;split at h
  grind[eA]
  grind[eA]
  grind[eA]
  grind[eA,cH]
  ·refine⟨_,_,by assumption,by assumption,?_,by simp[eA,cH]⟩;split at h
   ·split at h
    ·simp at h;subst h;simp_all
    grind
   grind
  grind
def nO {t:TypeId}{i:TypeInfo}{d:TypeDesc}(hi:P.info? t=some i)(hd:P.underlying t=some d)(arr:Array Value){off:Nat}(ak:cH (eA d)=false->off<arr.size):
  (part t arr off).run P w= .ok (if cH (eA d)then .agg (arr.extract off (off+i.size))else arr.getD off undef) w:=by
 have Xo:(isAgg t).run P w= .ok (cH (eA d)) w:=by cases d<;>simp[isAgg,sV hd,eA,cH]
 unfold part;simp only[eJ,Xo,mw];cases h:cH (eA d);simp_all
 ·simp[sizeOf,typeInfo,hi]
theorem tm (arr:Array Value)(off n o k:Nat)(h:o+k<=n):cut (arr.extract off (off+n)) o k=cut arr (off+o) k:=by
 unfold cut;apply Ly
 grind
theorem vS {m e:Nat}{l:List AT}{xs ys:Array Value}(hs:(sizeOf e).run P w= .ok l.length w)(ih:acf P w m e l): ∀(n j:Nat) (p:Bool),(j+n)*l.length<=xs.size->(j+n)*l.length<=ys.size->
  gP (List.replicate n l).flatten (cut xs (j*l.length) (n*l.length)) (cut ys (j*l.length) (n*l.length))=some p->
  ∃r,(forIn (List.range' j n) (none,()) (λi (__s:Option Bool × Unit)=>(do
       let __do_lift <- part e xs (i*l.length);let __do_lift_1 <- part e ys (i*l.length);let __do_lift <- Op.equalIn m e __do_lift __do_lift_1
       if(!__do_lift)=true then pure (ForInStep.done (some false,()))else pure (ForInStep.yield (none,())):Sem (ForInStep (Option Bool × Unit))))).run P w= .ok r w/\
   (match r.1 with|some r=>r|none=>true)=p
 |0,j,p,_,_,hp=>by
  simp[cut,gP]at hp;simp_all
 |n+1,j,p,hx,hy,hp=>by
  have e1:(n+1)*l.length=l.length+n*l.length:=by grind
  have e2:(j+(n+1))*l.length=j*l.length+(l.length+n*l.length):=by grind
  rw[List.replicate_succ,XN,e1,qX,qX]at hp;obtain⟨a,b,g1,g2,rfl⟩:=pF (Cb K0) (Cb K0) hp;obtain⟨u,v,r1,r2,r3⟩:=ih xs ys (j*l.length) a K0 K0 g1;have e3:j*l.length+l.length=(j+1)*l.length:=by grind
  rw[e3]at g2;obtain⟨r,q1,q2⟩:=vS hs ih n (j+1) b br br g2;rw[List.range'_succ,List.forIn_cons];simp only[eJ,r1,mw,r2,r3];cases a;simp_all;simp_all
theorem SU: ∀(n:Nat) (t:TypeId) (l:List AT),kK P n t=some l->∀m,n<=m->acf P w m t l
 |0,t,l,h,m,_=>by grind[kK]
 |n+1,t,l,h,0,hm=>by omega
 |n+1,t,l,h,m+1,hm=>by
  intro xs ys off p hx hy hp;obtain⟨i,d,hi,hd,Xo,anS⟩:=wK h;have ih: ∀t l,kK P n t=some l->acf P w m t l:=λt l hl=>SU n t l hl m K0
  have anR:cH (eA d)=false->∃a b,(part t xs off).run P w= .ok a w/\(part t ys off).run P w= .ok b w/\(Op.equalIn (m+1) t a b).run P w= .ok p w:=by
   intro hc;have hl:=anS hc;subst hl;simp at hx hy;refine⟨_,_,nO hi hd xs (λ_=>by omega),nO hi hd ys (λ_=>by omega),?_⟩
   have c1:cut xs off 1= [xs.getD off undef]:=by
    unfold cut;rw[Xx br];simp[Array.getD,show off<xs.size by omega]
   have c2:cut ys off 1= [ys.getD off undef]:=by
    unfold cut;rw[Xx br];simp[Array.getD,show off<ys.size by omega]
   simp only[Sd,c1,c2,gP]at hp;split at hp
   ·rename_i q hq;simp at hp;subst hp;simp only[hc,sU,kJ]
    grind[LZ]
   grind
  cases jd:cH (eA d)with
  |false=>grind
  |true=>
   have nn:=Xo;refine⟨_,_,nO hi hd xs br,nO hi hd ys br,?_⟩;simp only[jd,if_true];have sx:(xs.extract off (off+i.size)).size =l.length:=by grind
   have sy:(ys.extract off (off+i.size)).size =l.length:=by grind
   unfold kK at h;rw[hi,hd]at h
   cases d with
   |struct fs=>
    simp only at h;split at h
    ·rename_i l' eG OU;split at h
     ·simp at h;subst h;have ahy:fs.toList.foldl (pY P n) (some [])=some l':=OU;obtain⟨l1,e1,hl1⟩:=AW ih fs.toList [] l' ahy
      grind[Program.fieldsOf,run_equalIn_struct,tm]
     grind
    grind
   |array k e=>
    simp only at h;split at h
    ·rename_i l' hlv;split at h
     ·rename_i uD;simp at h;subst h;obtain⟨ie,de,lD,hde,amP,FA⟩:=wK hlv;have hse:(sizeOf e).run P w= .ok ie.size w:=by simp[sizeOf,typeInfo,lD]
      rw[amP]at hse;simp only[Op.equalIn,eJ,sV hd,mw,hse];have vN:(List.replicate k l').flatten.length =k*l'.length:=by omega
      rw[vN]at sx sy hp;have hx2:off+k*l'.length<=xs.size:=by grind
      have hy2:off+k*l'.length<=ys.size:=by omega
      obtain⟨r,q1,q2⟩:=vS (xs:=xs.extract off (off+i.size)) (ys:=ys.extract off (off+i.size)) hse (ih e l' hlv) k 0 p br br
       (by rw[Nat.zero_mul,tm _ _ _ _ _ K0,tm _ _ _ _ _ K0];omega)
      rw[Std.Legacy.Range.forIn_eq_forIn_range'];simp only[Std.Legacy.Range.size,G2,XJ,Nat.div_one,q1,mw];rw[<- q2]
      cases r with
      |mk r1 r2=>cases r1<;>rfl
     grind
    grind
   |_=>simp[eA,cH]at jd
end
section
variable {C:bQ}{F:gN}{β:Nat->Option Nat}{N:Nat->Prop}{H:HF}{fid:Nat}{K:j0}{w w':World}{P:Program}
theorem xS: ∀ {l:List AT} {xs ys:List DC} {a b:List Value} {p:Bool},a.length=xs.length->b.length=ys.length->
  (∀(k:Nat) (c:DC) (v:Value),xs[k]? =some c->a[k]? =some v->cd F β N H w v c)->(∀(k:Nat) (c:DC) (v:Value),ys[k]? =some c->b[k]? =some v->cd F β N H w v c)->
  mc l xs ys=some p->gP l a b=some p
 | [],[],[],a,b,p,ha,hb,_,_,h=>by
  have:a= []:=CG.1 ha;have:b= []:=CG.1 hb;subst a;subst b;exact h
 |c::l,x::xs,y::ys,a,b,p,ha,hb,h1,h2,h=>by
  obtain⟨u,a,rfl⟩:=afu ha;obtain⟨v,b,rfl⟩:=afu hb;unfold mc at h;split at h
  grind
  ·rename_i l1 l2 l3 e1 e2 e3;cases e1;cases e2;cases e3;obtain⟨rfl,_⟩:=(h1 0 _ u rfl rfl).bw;obtain⟨rfl,_⟩:=(h2 0 _ v rfl rfl).bw;split at h
   ·rename_i p0 FE;split at h
    ·rename_i q0 hq0;have:=xS (a:=a) (b:=b) br br (λk c v e1 e2=>h1 (k+1) c v br br) (λk c v e1 e2=>h2 (k+1) c v br br) hq0
     grind[gP]
    grind
   grind
  grind
 | [],_::_,_,_,_,_,_,_,_,_,h=>by grind[mc]
 | [],[],_::_,_,_,_,_,_,_,_,h=>by grind[mc]
 |_::_,[],_,_,_,_,_,_,_,_,h=>by grind[mc]
 |_::_,_::_,[],_,_,_,_,_,_,_,h=>by grind[mc]
theorem pb {op:BinOp}{T:TypeId}{x y:Operand}{a b:Value}(h: ∃f:Bool,f=true/\(match a with| .nilIface =>false| .agg _=>false|_=>true)=f):eqGuard op T x y a b=pure ():=by
 obtain⟨f,rfl,h⟩:=h;cases a<;>simp at h<;>cases op<;>cases b<;>rfl
def AX {op:BinOp}{T:TypeId}{x y:Operand}(h:(lM x || lM y)=true):eqGuard op T x y .nilIface .nilIface =pure ():=by cases x<;>cases y<;>simp[lM]at h<;>cases op<;>rfl
def AY {op:BinOp}{T U:TypeId}{x y:Operand}{u:Value}:eqGuard op T x y (.iface U u) .nilIface =pure ():=by cases op<;>rfl
def agd {T:TypeId}(hT: ∃i d,P.info? T=some i/\P.underlying T=some d/\cH (eA d)=true){l:List AT}(hl:kK P 8 T=some l){a b:Array Value}{p:Bool}(ha:a.size=l.length)(hb:b.size=l.length)
  (h:gP l a.toList b.toList=some p):(Op.equal T (.agg a) (.agg b)).run P w= .ok p w:=by
 obtain⟨i,d,hi,hd,Xo⟩:=hT;obtain⟨i',d',kA,xq,nn,_⟩:=wK hl;rw[hi]at kA;cases kA;rw[hd]at xq;cases xq;have c1:cut a 0 l.length=a.toList:=by grind[cut,List.take_of_length_le]
 have c2:cut b 0 l.length=b.toList:=by grind[cut,List.take_of_length_le]
 obtain⟨u,v,h1,h2,h3⟩:=SU (w:=w) 8 T l hl Op.maxDepth K9 a b 0 p K0 K0 br;rw[nO hi hd a br]at h1;rw[nO hi hd b br]at h2;simp only[Xo,if_true,Result.ok.injEq,r9]at h1 h2;have ea:a.extract 0 (0+i.size)=a:=by grind
 have eb:b.extract 0 (0+i.size)=b:=by grind
 rw[ea]at h1;rw[eb]at h2;subst h1;subst h2;exact h3
theorem acg (hC:C.Ok)(hR:ac F β N H w){op:BinOp}{T:TypeId}{x y:DX}{xo yo:Operand}{v0 v1:Value}(hx:aq F β N H w v0 x)(hy:aq F β N H w v1 y)(h:LS C (lM xo || lM yo) op T x y λv=>K v [] []):
  ∃v,(do eqGuard op T xo yo v0 v1;binOp op T v0 v1:Sem Value).run C.P w= .ok v w/\bh F β N H fid K w v w:=by
 unfold LS at h;split at h
 ·rename_i a b;obtain⟨rfl,_⟩:=hx.am.bw;obtain⟨rfl,_⟩:=hy.am.bw;split at h
  ·rename_i i hi;obtain⟨tf,d,z,hT⟩:=hC.get hi;split at h
   ·rename_i bV;refine⟨_,?_,bh.pure hR h (fU rfl)⟩;rw[pb ⟨true,rfl,rfl⟩];have e:(Op.equal T (.bool a) (.bool b)).run C.P w= .ok (a==b) w:=ai1;simp only[eJ,lL,mw];show(do pure (.bool (<- Op.equal T (.bool a) (.bool b))):Sem Value).run C.P w=_;simp_all
   ·rename_i bV;refine⟨_,?_,bh.pure hR h (fU rfl)⟩;rw[pb ⟨true,rfl,rfl⟩];have e:(Op.equal T (.bool a) (.bool b)).run C.P w= .ok (a==b) w:=ai1;simp only[eJ,lL,mw];show(do pure (.bool (!(<- Op.equal T (.bool a) (.bool b)))):Sem Value).run C.P w=_;simp_all
   grind
  grind
 ·obtain⟨rfl,_⟩:=hx.am.bw;obtain⟨rfl,_⟩:=hy.am.bw;split at h
  ·rename_i i hi amV;obtain⟨tf,d,z,hT⟩:=hC.get hi;have key:i.bY= .iface ->(Op.equal T .nilIface .nilIface).run C.P w= .ok true w:=λbV=>by exact aic
   split at h
   ·rename_i bV;refine⟨_,?_,bh.pure hR h (fU rfl)⟩;rw[AX amV];simp only[eJ,lL,mw];show(do pure (.bool (<- Op.equal T .nilIface .nilIface)):Sem Value).run C.P w=_;simp_all
   ·rename_i bV;refine⟨_,?_,bh.pure hR h (fU rfl)⟩;rw[AX amV];simp only[eJ,lL,mw];show(do pure (.bool (!(<- Op.equal T .nilIface .nilIface))):Sem Value).run C.P w=_;simp_all
   grind
  grind
 ·obtain⟨U,u,rfl⟩:=hx.am.aby;obtain⟨rfl,_⟩:=hy.am.bw;split at h
  ·rename_i i hi;obtain⟨tf,d,z,hT⟩:=hC.get hi;have key:i.bY= .iface ->(Op.equal T (.iface U u) .nilIface).run C.P w= .ok false w:=λbV=>by exact aic
   split at h
   ·rename_i bV;refine⟨_,?_,bh.pure hR h (fU rfl)⟩;rw[AY];simp only[eJ,lL,mw];show(do pure (.bool (<- Op.equal T (.iface U u) .nilIface)):Sem Value).run C.P w=_;simp_all
   ·rename_i bV;refine⟨_,?_,bh.pure hR h (fU rfl)⟩;rw[AY];simp only[eJ,lL,mw];show(do pure (.bool (!(<- Op.equal T (.iface U u) .nilIface))):Sem Value).run C.P w=_;simp_all
   grind
  grind
 ·rename_i dd;obtain⟨rfl,_⟩:=hy.am.bw;split at h
  ·rename_i b i hb hi;obtain⟨tf,d,z,hT⟩:=hC.get hi
   obtain⟨p,rfl,hp⟩: ∃p:Option Addr,v0= .pointer p/\p.isSome=b:=by
    have h1:=hx.am;unfold LR at hb;split at hb
    ·exact akq
    ·exact akq
    ·cases hb
     cases h1 with
     |empty a cap hv=>grind[SC.ao]
     |view _ _ _ _ _ hv=>grind[SC.ao]
     |ref b o f hc hr=>grind
    ·cases hb;obtain⟨rfl,_⟩:=h1.bw;grind
    grind
   have key: ∀e,i.bY= .ptr e->(Op.equal T (.pointer p) (.pointer none)).run C.P w= .ok (!b) w:=λe bV=>by
    obtain⟨d',hd⟩: ∃e',d= .pointer e':=by
     have:=hT.bY.trans bV;cases d<;>simp[eA]at this
     grind
    unfold Op.equal Op.maxDepth Op.equalIn;subst hp;cases p<;>simp[eJ,hT.cU,hd,mw,lL]
   have hg: ∀op,eqGuard op T xo yo (.pointer p) (.pointer none)=pure ():=λop=>pb ⟨true,rfl,rfl⟩;split at h
   ·rename_i bV;refine⟨_,?_,bh.pure hR h (fU rfl)⟩;rw[hg];simp only[eJ,lL,mw];show(do pure (.bool (<- Op.equal T (.pointer p) (.pointer none))):Sem Value).run C.P w=_;simp_all
   ·rename_i bV;refine⟨_,?_,bh.pure hR h (fU rfl)⟩;rw[hg];simp only[eJ,lL,mw];show(do pure (.bool (!(<- Op.equal T (.pointer p) (.pointer none)))):Sem Value).run C.P w=_;simp_all
   grind
  grind
 ·rename_i a b hnb hnc hnp;obtain⟨rfl,_⟩:=hx.am.bw;obtain⟨rfl,_⟩:=hy.am.bw;obtain⟨v,hr,hp,hk⟩:=US (P:=C.P) (w:=w) h T;refine⟨v,?_,bh.pure hR hk (fU hp)⟩;have hg:eqGuard op T xo yo v0 v1=pure ():=by grind[pb,qN]
  grind
 ·rename_i xs ys;obtain⟨a,rfl,a1,a2⟩:=hx.Ca;obtain⟨b,rfl,b1,b2⟩:=hy.Ca;split at h
  ·rename_i i hi;obtain⟨tf,d,z,hT⟩:=hC.get hi;split at h;rotate_left
   ·grind
   rename_i aoC
   have key: ∀ {l:List AT} {p:Bool},i.eqs=some l->mc l xs ys=some p->C.P.eqGuardType C.P.depth T=false/\(Op.equal T (.agg a) (.agg b)).run C.P w= .ok p w:=by
    intro l p he hp;have hq:=hT.eqs;rw[he]at hq;split at hq
    grind
    ·rename_i hg;refine⟨by grind,?_⟩
     have oX:=xS (a:=a.toList) (b:=b.toList) K0 K0 (λk c v e1 e2=>by
      have:=a2 k c e1;rwa [mh (by simpa using e2)]at this) (λk c v e1 e2=>by
      grind[mh]) hp
     have bB: ∀ {l:List AT} {a b:List Value} {p:Bool},gP l a b=some p->a.length=l.length/\b.length=l.length:=by
      intro l
      induction l with
      |nil=>grind[gP]
      |cons c l ih=>
       intro a b p h
       cases a with
       |nil=>grind[gP]
       |cons x a=>cases b with
        |nil=>grind[gP]
        |cons y b=>
         grind[gP]
     obtain⟨l1,l2⟩:=bB oX;exact agd ⟨_,_,hT.oc,hT.IN,by rw[hT.bY];omega⟩ hq K0 K0 oX
   split at h
   ·rename_i l he;split at h
    ·rename_i p hp;obtain⟨hg,hr⟩:=key he hp;refine⟨_,?_,bh.pure hR h (fU rfl)⟩;have e:(eqGuard .eql T xo yo (.agg a) (.agg b)).run C.P w= .ok () w:=by simp[eqGuard,hg]
     simp only[eJ,e,mw];show(do pure (.bool (<- Op.equal T (.agg a) (.agg b))):Sem Value).run C.P w=_;simp_all
    grind
   ·rename_i l he;split at h
    ·rename_i p hp;obtain⟨hg,hr⟩:=key he hp;refine⟨_,?_,bh.pure hR h (fU rfl)⟩;have e:(eqGuard .neq T xo yo (.agg a) (.agg b)).run C.P w= .ok () w:=by simp[eqGuard,hg]
     simp only[eJ,e,mw];show(do pure (.bool (!(<- Op.equal T (.agg a) (.agg b)))):Sem Value).run C.P w=_;simp_all
    grind
   grind
  grind
 grind
end
section
variable {C:bQ}{F:gN}{β:Nat->Option Nat}{N:Nat->Prop}{H:HF}{fid:Nat}{K:j0}{w w':World}{P:Program}
def age (hR:ac F β N H w){op:UnOp}{x:DX}{v0:Value}(hx:aq F β N H w v0 x)(h:Pd op x λv=>K v [] []):
  ∃v,(Op.unary op v0).run P w= .ok v w/\bh F β N H fid K w v w:=by
 unfold Pd at h;split at h
 ·exact afH
 ·exact afH
 ·exact afH
 grind
theorem zW {mx:Bool}{k:IntKind}: ∀ {xs:List DX} {vs:List Value} {a:Int} {K':Value->Prop},vs.length=xs.length->(∀(j:Nat) (x:DX) (v:Value),xs[j]? =some x->vs[j]? =some v->aq F β N H w v x)->
  s9 mx k a xs K'->∃v,(vs.foldlM (if mx then Builtin.max2 else Builtin.min2) (.int k a)).run P w= .ok v w/\plain v=true/\K' v
 | [],vs,a,K',hl,_,h=>by
  have:vs= []:=CG.1 hl;subst this;exact⟨_,rfl,rfl,h⟩
 |x::xs,vs,a,K',hl,hv,h=>by
  obtain⟨v,vs,rfl⟩:=afu hl;unfold s9 at h;split at h
  grind
  ·rename_i k' b r vO;cases vO;split at h
   ·rename_i hk;simp at hk;subst hk;obtain⟨rfl,_⟩:=(hv 0 _ v rfl rfl).am.bw;obtain⟨u,h1,h2,h3⟩:=zW (vs:=vs) br (λj x v e1 e2=>hv (j+1) x v br br) h
    grind[Builtin.min2,Builtin.max2]
   grind
  grind
theorem UT {T e:TypeId}(hu:P.underlying T=some (.slice e)){z:Nat}(hs:(sizeOf e).run P w= .ok z w){a:Option Addr}{len cap l h:Nat}{lo hi:Option Value}
  (hlo:(match lo with|none=>l=0|some v=>∃k,v= .int k (l:Int)))(Xb:(match hi with|none=>h=len|some v=>∃k,v= .int k (h:Int)))(h1:l<=h)(h2:h<=len)(h3:len<=cap):
  (Instr.sliceAt T (.slice a len cap) lo hi none).run P w= .ok (.slice (if cap=l then a else a.map (·.add (l*z))) (h -l) (cap -l)) w:=by
 have e1:(Instr.sliceBounds true len cap lo hi none).run P w= .ok (l,h,cap) w:=by
  have hb: ∀(k:IntKind) (n y:Nat) (c:BoundsCode),n<=y->(Instr.sliceBound (.int k (n:Int)) y c).run P w= .ok n w:=aiz
  cases lo with
  |none=>
   simp at hlo;subst hlo
   cases hi with
   |none=>simp at Xb;subst Xb;simp[Instr.sliceBounds]
   |some v=>obtain⟨k,rfl⟩:=Xb;simp[Instr.sliceBounds,hb _ _ _ _ (show h<=cap by omega)]
  |some u=>
   obtain⟨k,rfl⟩:=hlo
   cases hi with
   |none=>simp at Xb;subst Xb;simp[Instr.sliceBounds,hb _ _ _ _ h1]
   |some v=>obtain⟨k',rfl⟩:=Xb;simp[Instr.sliceBounds,hb _ _ _ _ (show h<=cap by omega),hb _ _ _ _ h1]
 have e2:(underlying T).run P w= .ok (.slice e) w:=sV hu w;simp only[Instr.sliceAt,eJ,e2,mw,Instr.slice,e1,hs];simp
def SC.abB {c:SC}(hv:c.ao=true){l h:Nat}(h2:h<=c.len):(c.sub l h).len =h -l/\(c.sub l h).ao =true:=by cases c<;>simp[SC.ao]at hv<;>simp[SC.sub,SC.len,SC.ao]at* <;>omega
theorem SC.Ll {c:SC}(hv:c.ao=true){l h i:Nat}{e:List SC}(he:(c.sub l h).elem i=some e):c.elem (l+i)=some e/\l+i<h:=by
 cases c with
 |ints xs=>
  grind[SC.sub,SC.elem]
 |view es=>
  grind[SC.sub,SC.elem]
 |_=>grind[SC.ao]
theorem dq.sub {mv mr:Mem}{a:Option Addr}{len cap:Nat}{c:SC}(h:dq mv mr (.slice a len cap) c)(hv:c.ao=true){l r z:Nat}(h1:l<=r)(h2:r<=c.len)(hz: ∀i e,c.elem i=some e->e.length=z):
  len=c.len/\dq mv mr (.slice (if cap=l then a else a.map (·.add (l*z))) (r -l) (cap -l)) (c.sub l r):=by
 obtain⟨s1,s2⟩:=SC.abB (l:=l) hv h2;by_cases h0:r -l=0
 ·refine⟨?_,by rw[h0];exact .empty _ _ s2 K0⟩;obtain⟨a',jD,e,_⟩:=h.CE hv
  grind
 ·cases h with
  |lit hp=>grind[SC.ao]
  |err=>grind
  |num=>grind
  |raw=>grind[SC.ao]
  |any=>grind[SC.ao]
  |empty a cap _ h0'=>omega
  |view b o cap z' f _ fO wx gc hl hc hr=>
   obtain⟨e0,RS⟩:=SC.od fO;have:z'=z:=by grind
   subst this;refine⟨rfl,?_⟩;rw[if_neg K0];have s1':(c.sub l r).len =r -l:=s1;rw[<- s1',xJ,addr_add];refine .view b (o+l*z') (cap -l) z' (λk=>f (l*z'+k)) s2 K0 wx K0 (λi e he=>hl _ e (SC.Ll hv he).1) (λk hk=>?_) (λi e j x he hx=>?_)
   ·rw[LI];refine hc _ ?_;rw[s1']at hk;have:(l+(r -l))*z'<=c.len*z':=kC _ K0
    grind
   ·have:=hr (l+i) e j x (SC.Ll hv he).1 hx
    grind
theorem uL: ∀ {es:List (List SC)} {ns:List Int},wH es=some ns->ns.length=es.length/\∀(i:Nat) (m:Int),ns[i]? =some m->es[i]? =some [.lit (.int .i64 m)]
 | [],ns,h=>by grind[wH]
 |e::es,ns,h=>by
  unfold wH at h;split at h
  grind
  ·rename_i n r vO;cases vO;split at h
   ·rename_i l hl;simp at h;subst h;obtain⟨h1,h2⟩:=uL hl
    grind
   grind
  grind
def I5 {d:Option (Option DV)}{GM:Nat}{K':Nat->Prop}(h:FX d GM K'): ∃n,K' n/\((d=none/\n=GM)\/∃k,d=some (some (lit (.int k (n:Int))))):=by
 unfold FX at h;split at h
 grind
 ·rename_i k n;obtain⟨h0,h⟩:=h;exact⟨_,h,.inr ⟨k,by rw[Int.toNat_of_nonneg h0];rfl⟩⟩
 grind
theorem xT {c:SC}{z:Nat}(h:c.zK z): ∀i e,c.elem i=some e->e.length=z:=by
 intro i e he
 cases c with
 |ints xs=>grind[SC.zK,SC.elem]
 |view es=>exact h e (jt he)
 |_=>grind[SC.elem]
theorem Cc (hG:bE C F)(hR:ac F β N H w){E:EF}{a:Act}(hE:dD F β N H w E a){lo:Option Operand}{n GM:Nat}
  (h:(lo.map (C.ev E)=none/\n=GM)\/∃k,lo.map (C.ev E)=some (some (lit (.int k (n:Int))))):
  (match lo.map a.eval with|none=>n=GM|some v=>∃k,v= .int k (n:Int)):=by
 cases lo with
 |none=>
  grind
 |some x=>
  rcases h with⟨h,_⟩|⟨k,h⟩
  grind
  ·simp at h;have:=mC hG hR hE h;exact⟨k,(aq.am this).bw.1⟩
theorem Yi (hC:C.Ok)(hG:bE C F)(hR:ac F β N H w){E:EF}{a:Act}(hE:dD F β N H w E a){T:TypeId}{x:DX}{v0:Value}{lo hi:Option Operand}(hx:aq F β N H w v0 x)
  (h:gL C T x (lo.map (C.ev E)) (hi.map (C.ev E)) H K):
  ∃v,(Instr.sliceAt T v0 (lo.map a.eval) (hi.map a.eval) none).run C.P w= .ok v w/\bh F β N H fid K w v w:=by
 unfold gL at h;split at h
 ·grind
 rename_i i kA;obtain⟨tf,d,z,hT⟩:=hC.get kA;split at h
 ·rename_i e bV;have hd:=di (hT.bY.trans bV);split at h
  ·grind
  rename_i ie lD;obtain⟨ef,ed,ez,GP⟩:=hC.get lD;split at h
  ·rename_i c u r eG;split at h
   ·rename_i GQ hv;obtain⟨l,h,hl⟩:=I5 h;obtain⟨hh,h,hh'⟩:=I5 h;obtain⟨⟨h1,h2⟩,hu,h⟩:=h;have bB:=iu eG;obtain⟨ag,cs⟩:=x;simp at GQ;subst GQ;obtain⟨dc,Uf,hd0⟩:=hx;simp at Uf;subst Uf;have hg:ii C H u:=ii.kj (cJ eG)
    have il:=iy hR hg.soft (f:=λ_=>v0) (λk d hk=>by
     grind) eG (λp hp=>hg.frozen hp (cJ eG p hp)) 0 c rfl
    obtain⟨a0,ahr,rfl,gc⟩:=il.CE hv;obtain⟨_,RP⟩:=il.sub hv h1 h2 (xT hu);refine⟨_,UT (by rw[hT.IN,hd]) (GP.iF w) (Cc hG hR hE hl) (Cc hG hR hE hh') h1 h2 gc,bh.still hR hg h (b8.bf (cI RP))⟩
   grind
  grind
 ·rename_i bV;have hd:=mf (hT.bY.trans bV);split at h
  ·rename_i s;obtain⟨rfl,_⟩:=hx.am.bw;obtain⟨l,h,hl⟩:=I5 h;obtain⟨hh,h,hh'⟩:=I5 h;obtain⟨⟨h1,h2⟩,h⟩:=h;have o1:=Cc hG hR hE hl;have o2:=Cc hG hR hE hh';refine⟨.string (s.extract l hh),?_,bh.pure hR h (fU rfl)⟩;have hb: ∀(k:IntKind) (n y:Nat) (c:BoundsCode),n<=y->(Instr.sliceBound (.int k (n:Int)) y c).run C.P w= .ok n w:=aiz
   have e1:(Instr.sliceBounds false s.size s.size (lo.map a.eval) (hi.map a.eval) none).run C.P w= .ok (l,hh,s.size) w:=by
    cases hlo:lo.map a.eval with
    |none=>
     rw[hlo]at o1;simp at o1;subst o1
     cases Xb:hi.map a.eval with
     |none=>rw[Xb]at o2;simp at o2;subst o2;simp[Instr.sliceBounds]
     |some v=>rw[Xb]at o2;obtain⟨k,rfl⟩:=o2;simp[Instr.sliceBounds,hb _ _ _ _ h2]
    |some u=>
     rw[hlo]at o1;obtain⟨k,rfl⟩:=o1
     cases Xb:hi.map a.eval with
     |none=>rw[Xb]at o2;simp at o2;subst o2;simp[Instr.sliceBounds,hb _ _ _ _ h1]
     |some v=>rw[Xb]at o2;obtain⟨k',rfl⟩:=o2;simp[Instr.sliceBounds,hb _ _ _ _ h2,hb _ _ _ _ h1]
   simp only[Instr.sliceAt,eJ,hT.cU,hd,mw,Instr.slice];simp[e1]
  grind
 ·rename_i n e bV;have hd:=km (hT.bY.trans bV);split at h
  ·grind
  rename_i ie lD;obtain⟨ef,ed,ez,GP⟩:=hC.get lD;split at h
  ·rename_i id off hlo Xb;obtain⟨hn,b,jq,rfl⟩:=hx.am;split at h
   ·rename_i t cs hb;split at h
    ·rename_i l u r eG;split at h
     ·rename_i O7 eu;obtain⟨eu,h1n⟩:=aG eu;obtain⟨FQ,zI⟩:=aG eu;have FQ:=o8 FQ;have zI:=fP zI;have h1n:=fP h1n;split at h
      ·rename_i ns IF;have hg:ii C H ((id,some (.dV l))::u):=ah6;obtain⟨ahp,hnv⟩:=uL IF;simp at ahp;have hH:=hg.heap hR;have hid:(Hp.on ((id,some (.dV l))::u) H) id=some (.dV l):=by simp[Hp.on,bn]
       obtain⟨_,b',arr,T',q1,q2,q3,q4,q5⟩:=hH.rel id _ hid;rw[jq]at q1;cases q1;have hnn:n=ns.length:=by omega
       have bC:(Instr.sliceAt T (.pointer (some ⟨b,off,none⟩)) none none none).run C.P w= .ok (.slice (some ⟨b,off,none⟩) n n) w:=by
        have GO: ¬n=0:=by omega
        exact afE
       refine⟨.slice (some ⟨b,off,none⟩) n n,?_,bh.still hR hg h (b8.bf (cI ?_))⟩
       ·exact aia
       ·show dq _ _ _ _;have amH:(SC.ints ns).len =n:=by grind[SC.len]
        have:= @dq.view (MV F β (Hp.on ((id,some (.dV l))::u) H) w) (MR F β (Hp.on ((id,some (.dV l))::u) H) w) (.ints ns) b off n 1 (λk=>arr.getD (off+k) undef) rfl K0 K0 K0 (λi e he=>by
         grind[SC.elem]) (λk hk=>by
         rw[qR q2 (tg hR hg.soft hid jq (off+k))]
         grind[gd]) (λi e j x he hx=>by
         simp[SC.elem]at he;obtain⟨m,hm,rfl⟩:=he;have hj:j=0:=by grind
         subst hj;simp at hx;subst hx;have hli:=hnv i m hm;simp only[gr,my]at hli;obtain⟨c,hc,e⟩:=hli;rw[GW]at hc;split at hc
         ·exact ai8
         grind)
        grind
      grind
     grind
    grind
   ·rename_i l hb;split at h
    ·rename_i O7 eu;obtain⟨eu,h1n⟩:=aG eu;obtain⟨FQ,zI⟩:=aG eu;have FQ:=o8 FQ;have zI:=fP zI;have h1n:=fP h1n;split at h
     ·rename_i ns IF
      have hg:ii C H ([]:Hp):=by
       intro p hp
       grind
      obtain⟨ahp,hnv⟩:=uL IF;simp at ahp;have hH:=hg.heap hR;have hid:(Hp.on ([]:Hp) H) id=some (.dV l):=by simpa [Hp.on]using hb
      obtain⟨_,b',arr,T',q1,q2,q3,q4,q5⟩:=hH.rel id _ hid;rw[jq]at q1;cases q1;have hnn:n=ns.length:=by omega
      have bC:(Instr.sliceAt T (.pointer (some ⟨b,off,none⟩)) none none none).run C.P w= .ok (.slice (some ⟨b,off,none⟩) n n) w:=by
       have GO: ¬n=0:=by omega
       exact afE
      refine⟨.slice (some ⟨b,off,none⟩) n n,?_,bh.still hR hg h (b8.bf (cI ?_))⟩
      ·exact aia
      ·show dq _ _ _ _;have amH:(SC.ints ns).len =n:=by grind[SC.len]
       have:= @dq.view (MV F β (Hp.on ([]:Hp) H) w) (MR F β (Hp.on ([]:Hp) H) w) (.ints ns) b off n 1 (λk=>arr.getD (off+k) undef) rfl K0 K0 K0 (λi e he=>by
        grind[SC.elem]) (λk hk=>by
        rw[qR q2 (tg hR hg.soft hid jq (off+k))]
        grind[gd]) (λi e j x he hx=>by
        simp[SC.elem]at he;obtain⟨m,hm,rfl⟩:=he;have hj:j=0:=by grind
        subst hj;simp at hx;subst hx;have hli:=hnv i m hm;simp only[gr,my]at hli;obtain⟨c,hc,e⟩:=hli;rw[GW]at hc;split at hc
        ·exact ai8
        grind)
       grind
     grind
    grind
   grind
  grind
 grind
end
section
variable {C:bQ}{F:gN}{β:Nat->Option Nat}{N:Nat->Prop}{H:HF}{fid:Nat}{K:j0}{w w':World}{P:Program}
theorem C7 {z:Nat}: ∀ {parts:List (Nat × Value)} {n:Nat} {arr:Array Value},(∀(k:Nat) (p:Nat × Value),parts[k]? =some p->p.1=n+k/\p.2.cells.size=z)->(n+parts.length)*z<=arr.size->
  ∃arr',Instr.fill (λi=>some (i*z,z)) arr parts=some arr'/\arr'.size=arr.size/\(∀(k:Nat) (p:Nat × Value) (j:Nat),parts[k]? =some p->j<z->arr'[(n+k)*z+j]? =p.2.cells[j]?)/\(∀o,o<n*z->arr'[o]? =arr[o]?)
 | [],n,arr,_,_=>⟨arr,rfl,rfl,by simp,λ_ _=>rfl⟩
 |(i,v)::parts,n,arr,hp,hs=>by
  obtain⟨hi,hv⟩:=hp 0 _ rfl;simp at hi hv;subst hi;have e1:(i+(parts.length+1))*z=i*z+z+parts.length*z:=by grind
  simp only[kD]at hs;rw[e1]at hs;have hlc:v.cells.toList.length=z:=by omega
  have nn:(aO arr (i*z) v.cells.toList).size =arr.size:=fj K0;have e2:(i+1+parts.length)*z=i*z+z+parts.length*z:=by grind
  obtain⟨arr',f1,f2,f3,f4⟩:=C7 (parts:=parts) (n:=i+1) (arr:=aO arr (i*z) v.cells.toList) (λk p hk=>by
   obtain⟨h1,h2⟩:=hp (k+1) p br
   exact⟨by omega,h2⟩) K0
  have OU:v.cells.zipIdx.foldl (λcs (p:Value × Nat)=>cs.setIfInBounds (i*z+p.2) p.1) arr=aO arr (i*z) v.cells.toList:=by
   have:=zU (i*z) v.cells.toList 0 arr K0;exact ajF
  refine⟨arr',?_,by omega,λk p j hk hj=>?_,λo ho=>?_⟩
  ·have g1: ¬(v.cells.size≠z):=by omega
   have g2: ¬(i*z+v.cells.size>arr.size):=by omega
   simp only[Instr.fill,g1,g2,decide_false,AP,sU,kJ]
   grind
  ·cases k with
   |zero=>
    simp at hk;subst hk;have:(i+1)*z=i*z+z:=by grind
    rw[CP,f4 _ K0,ge K0,if_neg K0,if_pos K0];simp
   |succ k=>
    grind
  ·have:(i+1)*z=i*z+z:=by grind
   rw[f4 o K0,ge K0,if_pos ho]
theorem AZ {ks:List Bool}{z:Nat}: ∀ {ps:List (Nat × Option DV)} {n:Nat} {es:List (List SC)} {u:Hp} {r:List Nat},kL H ks z n ps=some (es,u,r)->
  (∀p∈u,me H p)/\es.length=ps.length/\∀(k:Nat) (e:List SC),es[k]? =some e->∃x ue re,ps[k]? =some (n+k,some (.val x))/\x.2.length=z/\om e=true/\bS H ks x.2=some (e,ue,re)/\∀q∈ue,q∈u
 | [],n,es,u,r,h=>by grind[kL]
 |p::ps,n,es,u,r,h=>by
  unfold kL at h;split at h
  grind
  ·rename_i n0 i x rest vO;cases vO;split at h
   ·rename_i hb;obtain⟨h1,h2⟩:=aG hb;have h1:=o8 h1;have h2:=o8 h2;subst h1;split at h
    ·rename_i e u1 r1 eG;split at h
     ·rename_i WX u2 r2 hf abn;simp at h;obtain⟨rfl,rfl,_⟩:=h;obtain⟨q1,q2,q3⟩:=AZ abn
      grind[cJ]
     grind
    grind
   grind
  grind
def Yj {k:Bool}{es:List (List SC)}{c:SC}(h:X9 k es=some c):c.ao=true/\c.len=es.length/\∀i e,c.elem i=some e->es[i]? =some e:=by
 unfold X9 at h;split at h
 ·split at h
  ·rename_i l hl;simp at h;subst h;obtain⟨h1,h2⟩:=uL hl;refine⟨rfl,h1,λi e he=>?_⟩
   grind[SC.elem]
  grind
 ·simp at h;subst h;exact⟨rfl,rfl,λi e he=>he⟩
def F3 (hC:C.Ok)(hG:bE C F)(hR:ac F β N H w)(hf: ¬N fid){E:EF}{a:Act}(hE:dD F β N H w E a){o:Oper}{T:TypeId}{len:Nat}{parts:Array (Nat × Operand)}(ho:o.op= .buildSlice T len parts)
  (h:fu C fid o (C.ev E) H K): ∃v w',(Instr.buildSlice T len (parts.map λp=>(p.1,a.eval p.2))).run C.P w= .ok v w'/\bh F β N H fid K w v w':=by
 unfold fu at h;rw[ho]at h;simp only at h;obtain⟨hl,hp⟩:=C6 hG hR hE parts;split at h
 ·rename_i i hi;obtain⟨tf,d,z,hT⟩:=hC.get hi;split at h
  ·rename_i e bV;have hd:=di (hT.bY.trans bV);split at h
   ·rename_i ie lD;obtain⟨ef,ed,ez,GP⟩:=hC.get lD;split at h
    ·rename_i hb;obtain⟨hb,h3⟩:=aG hb;obtain⟨h1,h2⟩:=aG hb;have h1:=fP h1;have h2:=fP h2;have h3:=o8 h3;split at h
     ·rename_i es u r hes;split at h
      ·rename_i c hc;obtain⟨q1,q2,q3⟩:=AZ hes;obtain⟨c1,c2,c3⟩:=Yj hc;have bB:es.length=len:=by grind
       have FK: ∃xk:Array Value,xk.size=len*ie.size/\∀cells,Instr.fill (λi=>some (i*ie.size,ie.size)) xk (parts.map λ(p:Nat × Operand)=>(p.1,a.eval p.2)).toList =some cells->
         (Instr.buildSlice T len (parts.map λ(p:Nat × Operand)=>(p.1,a.eval p.2))).run C.P w= .ok (.slice (some ⟨w.heap.size,0,none⟩) len len) (w.alloc (.cells cells e)):=by
        exact K34
       obtain⟨xk,hs0,bC⟩:=FK;have pE:(parts.map λ(p:Nat × Operand)=>(p.1,a.eval p.2)).toList.length =len:=by omega
       have OY: ∀(k:Nat) (p:Nat × Value),(parts.map λ(p:Nat × Operand)=>(p.1,a.eval p.2)).toList[k]? =some p->∃x e ue re,es[k]? =some e/\p.1=k/\x.2.length=ie.size/\aq F β N H w p.2 x/\om e=true/\bS H ie.kinds x.2=some (e,ue,re)/\∀q∈ue,q∈u:=by
        intro k p hk;have uD:k<es.length:=by grind
        obtain⟨x,ue,re,a1,a2,a3,a4,a5⟩:=q3 k es[k] br;obtain⟨b1,b2⟩:=hp k p _ hk a1;exact⟨x,es[k],ue,re,by grind,by omega,a2,b2 _ rfl,a3,a4,a5⟩
       obtain⟨arr',f1,f2,f3,f4⟩:=C7 (z:=ie.size) (parts:=(parts.map λ(p:Nat × Operand)=>(p.1,a.eval p.2)).toList) (n:=0) (arr:=xk) (λk p hk=>by
        obtain⟨x,e,ue,re,a1,a2,a3,a4,_⟩:=OY k p hk
        exact⟨by omega,by rw[a4.cells.1,a3]⟩) br
       refine⟨.slice (some ⟨w.heap.size,0,none⟩) len len,w.alloc (.cells arr' e),bC _ f1,?_⟩;have hg:ii C H u:=ii.kj q1;refine bh.new (b:=some w.heap.size) (hg.heap hR) hg.soft.tr hf (Below.og w _) (by simp) h (λH1 xA _ t2=>?_) (λH1 xA=>cI ⟨.inr rfl,rfl,λnL z' n' hb wx=>?_⟩)
       ·have iE: ∀i e,c.elem i=some e->e.length=ie.size:=by
         grind[iu]
        refine⟨⟨h1,c1,iE⟩,.inr ⟨w.heap.size,len,by simp[cR],gN.gG hR.below.size,arr',e,gO w _,by omega,h1,c1,by omega,iE,λi e j x he hx=>?_⟩⟩;have hei:=c3 i e he;have Ui:i< (parts.map λ(p:Nat × Operand)=>(p.1,a.eval p.2)).toList.length :=by grind
        obtain⟨x0,e0,ue,re,a1,a2,a3,a4,a5,a6,a7⟩:=OY i _ (nM Ui);rw[hei]at a1;cases a1;have hjz:j<ie.size:=by grind
        have:=f3 i _ j (nM Ui) hjz;rw[jZ]at this;rw[bL this];have il:=iy hR hg.soft (f:=λk=>((parts.map λ(p:Nat × Operand)=>(p.1,a.eval p.2)).toList[i]).2.cells.getD k undef) (λk d hk=>a4.cells.2 k d hk) a6 (λq hq=>hg.frozen (a7 q hq) (cJ a6 q hq)) j x hx;exact(il.flat (lO a5 j x hx)).mono t2.mv (Mem.le_refl _)
       ·exact aiu
      grind
     grind
    grind
   grind
  grind
 grind
end
section
variable {C:bQ}{F:gN}{β:Nat->Option Nat}{N:Nat->Prop}{H:HF}{fid:Nat}{K:j0}{w w':World}{P:Program}
def Yk {n:Int}(h0: -9223372036854775808<=n)(h1:n<=9223372036854775807):IntKind.i64.wrap n=n:=IntWalk.i64_in n ⟨h0,h1⟩
def wrap_small {n:Int}(h0:0<=n)(h1:n<=4294967296):IntKind.i64.wrap n=n:=Yk K0 K0
theorem PC (k:Bool):(AU k).flat =true:=by cases k<;>rfl
theorem pZ: ∀ {ks:List Bool} {zs:List Value} {cs:List SC},qM ks (zs.map BK)=some cs->cs.length=zs.length/\om cs=true/\∀(mv mr:Mem) (k:Nat) (c:SC),cs[k]? =some c->∃v,zs[k]? =some v/\dq mv mr v c
 |ks,[],cs,h=>by grind[qM,om]
 |ks,z::zs,cs,h=>by
  rw[ju]at h
  cases hz:BK z with
  |nil=>
   rw[hz]at h;simp only[qM]at h;split at h
   ·rename_i ds hds;simp at h;subst h;obtain⟨h1,h2,h3⟩:=pZ hds;have pV:z= .slice none 0 0:=by grind[BK]
    refine⟨by grind,(show(match(AU (ks.head?.getD false)).flat with|true=>om ds|false=>false)=true by grind[PC]),λmv mr k c hk=>?_⟩
    cases k with
    |zero=>
     simp only[Ux,lK]at hk;subst hk;refine⟨z,rfl,?_⟩;rw[pV];cases ks.head?.getD false<;>exact .empty _ _ rfl rfl
    |succ k=>simp_all
   grind
  |lit v=>
   rw[hz]at h;simp only[qM]at h;split at h
   ·rename_i hp;split at h
    ·rename_i ds hds;simp at h;subst h;obtain⟨h1,h2,h3⟩:=pZ hds
     have pV:z=v:=by
      unfold BK at hz
      grind
     refine⟨by grind,by grind[om,SC.flat],λmv mr k c hk=>?_⟩
     cases k with
     |zero=>simp at hk;subst hk;exact⟨z,rfl,by rw[pV];exact .lit hp⟩
     |succ k=>simp_all
    grind
   grind
theorem I6 (hC:C.Ok)(hR:ac F β N H w)(hf: ¬N fid){T:TypeId}{x y:DX}{v0 v1:Value}(hx:aq F β N H w v0 x)(hy:aq F β N H w v1 y)(h:lN C fid T x y K):
  ∃v w',(Instr.makeSlice T v0 v1).run C.P w= .ok v w'/\bh F β N H fid K w v w':=by
 unfold lN at h;split at h
 ·grind
 rename_i i hi;obtain⟨tf,d,z,hT⟩:=hC.get hi;split at h
 ·rename_i e k1 n k2 m bV;have hd:=di (hT.bY.trans bV);obtain⟨rfl,_⟩:=hx.am.bw;obtain⟨rfl,_⟩:=hy.am.bw;split at h
  ·grind
  rename_i ie lD;obtain⟨ef,ed,ez,GP⟩:=hC.get lD;split at h
  ·rename_i hb;obtain⟨hb,hz3⟩:=aG hb;obtain⟨h1,h2⟩:=aG hb;have h1:=fP h1;have h2:=fP h2;have hz3:=o8 hz3;obtain⟨⟨g0,g1,g2⟩,h⟩:=h;have g3:m<=4294967296:=g2;have hzl:ez.cells.size=ie.size:=by rw[<- hz3,<- GP.xF];simp
   have aoa: ¬((ie.bytes:Int)*m>2^48):=by
    have e:(2:Int)^48=281474976710656:=by decide
    rw[e];have:(ie.bytes:Int)*m<=4096*4294967296:=CV K0 g3 K0 K0;omega
   have ahu:ef.bytes=ie.bytes:=GP.bytes
   have bC: ∃arr:Array Value,arr.size=m.toNat*ie.size/\(∀o,o<arr.size->arr[o]? =ez.cells[o%ie.size]?)/\(Instr.makeSlice T (.int k1 n) (.int k2 m)).run C.P w= .ok (.slice (some ⟨w.heap.size,0,none⟩) n.toNat m.toNat) (w.alloc (.cells arr e)):=by
    refine⟨(Array.range (m.toNat*ie.size)).map (λx=>(if m.toNat*ie.size=0 then #[]else ez.cells)[x%(if m.toNat*ie.size=0 then #[]else ez.cells).size]!),by simp,λo ho=>?_,?_⟩
    ·simp at ho;have e8: ¬(m.toNat*ie.size=0):=by omega
     have OZ:o%ie.size<ie.size:=sZ _ K0
     grind
    ·have e1:IntKind.i64.wrap n=n:=wrap_small g0 K0;have e2:IntKind.i64.wrap m=m:=wrap_small K0 g3;have c1: ¬m<0:=by omega
     have c2: ¬n<0:=by omega
     have c3: ¬n>m:=by omega
     simp only[Instr.makeSlice,eJ,hT.cU,hd,mw,asInt,asIntOf,lL,GP.Xp,ahu,e1,e2,c1,c2,c3,aoa,decide_false,AP,LH,sU,kJ,run_askRoom,GP.iF];by_cases h0:m.toNat*ie.size=0
     ·simp[h0,newRow]
     ·simp[h0,GP.sR,newRow]
   obtain⟨arr,a1,a2,bC⟩:=bC
   have key: ∀(c:SC) (el:List SC),c.ao=true->c.len=n.toNat->(∀i e,c.elem i=some e->e=el)->el.length=ie.size->(∀(mv mr:Mem) (k:Nat) (x:SC),el[k]? =some x->∃v,ez.cells[k]? =some v/\dq mv mr v x)->
     K (bm (.own fid)) [(fid,some (.row true ie.size c))] []->bh F β N H fid K w (.slice (some ⟨w.heap.size,0,none⟩) n.toNat m.toNat) (w.alloc (.cells arr e)):=by
    intro c el cv cl ce cel cz hK;refine bh.new (u:=[]) (b:=some w.heap.size) hR Tr.refl hf (Below.og w _) (by simp) hK (λH1 xA _ t2=>?_) (λH1 xA=>cI ⟨.inr rfl,rfl,λnL z' n' hb wx=>?_⟩)
    ·have iE: ∀i e,c.elem i=some e->e.length=ie.size:=λi e he=>by grind
     refine⟨⟨h1,cv,iE⟩,.inr ⟨w.heap.size,m.toNat,by simp[cR],gN.gG hR.below.size,arr,e,gO w _,a1,h1,cv,by omega,iE,λi e' j x he hx=>?_⟩⟩;have:=ce i e' he;subst this;have hj:j<ie.size:=by grind
     obtain⟨v,v1,v2⟩:=cz (MV F (cR β fid (some w.heap.size)) H1 (w.alloc (.cells arr e))) eU j x hx;have kA:i<n.toNat:=by rw[<- cl];exact SC.ip he
     have ak:i*ie.size+j<arr.size:=by
      rw[a1];have:(i+1)*ie.size<=m.toNat*ie.size:=kC _ K0
      grind
     grind[Nat.mul_comm,Nat.mul_add_mod,Nat.mod_eq_of_lt,mh]
    ·subst xA;rw[an]at hb;cases hb;cases wx;exact .inr ⟨w.heap.size,m.toNat,arr,e,by simp[cR],by rw[cl],gO w _,a1⟩
   refine⟨_,_,bC,?_⟩;split at h
   ·split at h
    ·rename_i FK;have hzc:=GP.xF;rw[FK]at hzc
     have l8:ez.cells= #[.int .i64 0]:=by
      apply G4
      cases hl:ez.cells.toList with
      |nil=>grind
      |cons v t=>
       rw[hl]at hzc;simp at hzc;obtain⟨hv,rfl⟩:=hzc;unfold BK at hv
       grind
     refine key _ [.lit (.int .i64 0)] rfl X6 (λi e he=>?_) br (λmv mr k x hk=>?_) h
     grind[SC.elem]
     ·exact aiT
    grind
   ·split at h
    ·rename_i zs hzs;rw[<- GP.xF]at hzs;obtain⟨b1,b2,b3⟩:=pZ hzs
     refine key _ zs rfl X6 (λi e he=>?_) br (λmv mr k x hk=>by
      simp_all) h
     grind[SC.elem]
    grind
  grind
 grind
end
section
variable {C:bQ}{F:gN}{β:Nat->Option Nat}{N:Nat->Prop}{H:HF}{fid:Nat}{K:j0}{w w':World}{P:Program}
def xU (_hG:bE C F)(hR:ac F β N H w){b o:Nat}{v:Value}(h:MV F β H w b o=some v):rd w b o=some v:=by
 unfold MV at h;split at h
 grind
 ·exact(hR.sT b o v h).1
def Hb {mv:Mem}{c:SC}{z:Nat}{new:Array Value}(hz:0<z)(hs:new.size=c.len*z)(hl: ∀i e,c.elem i=some e->e.length=z)
  (hr: ∀(i:Nat) (e:List SC) (j:Nat) (x:SC),c.elem i=some e->e[j]? =some x->dq mv eU (new.getD (i*z+j) undef) x): ∀u∈new.toList,u.oneCell'=true:=by
 intro u hu;obtain⟨k,hk⟩:=Uy.1 hu;have qF:new[k]? =some u:=by grind
 have ak:k<new.size:=(FT.1 qF).1;have hi:k/z<c.len:=by rw[XB hz];omega
 obtain⟨e,he⟩:=SC.od hi;have hj:k%z<e.length:=by rw[hl _ e he];exact sZ _ hz
 have:=hr _ e (k%z) e[k%z] he br
 grind[Nat.div_add_mod,mh,SP]
theorem gg (hG:bE C F)(hR:ac F β N H w){d:DC}{v:Value}{k:Bool}{c:SC}{u:Hp}{r:List Nat}{z:Nat}(hd:cd F β N H w v d)(hs:bv H k d=some (c,u,r))(hv:c.ao=true)(hz:0<z)
  (hl: ∀i e,c.elem i=some e->e.length=z): ∃(a:Option Addr) (cap:Nat) (new:Array Value),v= .slice a c.len cap/\(Builtin.firstCells z c.len v).run P w= .ok new w/\new.size=c.len*z/\c.len<=cap/\
   ∀(i:Nat) (e:List SC) (j:Nat) (x:SC),c.elem i=some e->e[j]? =some x->dq (MV F β H w) eU (new.getD (i*z+j) undef) x:=by
 have ahw:c.len=0->∀(a:Option Addr) (cap:Nat),v= .slice a 0 cap->∃(a:Option Addr) (cap:Nat) (new:Array Value),v= .slice a c.len cap/\(Builtin.firstCells z c.len v).run P w= .ok new w/\new.size=c.len*z/\c.len<=cap/\
   ∀(i:Nat) (e:List SC) (j:Nat) (x:SC),c.elem i=some e->e[j]? =some x->dq (MV F β H w) eU (new.getD (i*z+j) undef) x:=by
  rintro h0 a cap rfl;refine⟨a,cap,#[],by rw[h0],?_,by grind,by omega,λi e j x he _=>?_⟩
  ·cases a<;>simp[Builtin.firstCells,h0,loadCells,loadCellsFrom]
  ·exact abV
 cases d with
 |st c'=>
  simp[bv]at hs;obtain⟨rfl,_,_⟩:=hs;have hd:dq _ _ _ _:=hd
  cases hd with
  |lit=>grind[SC.ao]
  |empty a cap _ h0=>grind
  |view b o cap z' f _ fO wx gc sr hc hr=>
   obtain⟨e0,RS⟩:=SC.od fO;have:z'=z:=by grind
   subst this;refine⟨_,cap,((List.range (c'.len*z')).map f).toArray,rfl,?_,by simp,gc,λi e j x he hx=>?_⟩
   ·exact SF w _ _ f (λj hj=>by rw[addr_add];exact xU hG hR (hc j hj))
   ·exact aib
  |ref=>grind[SC.ao]
  |err=>grind[SC.ao]
  |num=>grind[SC.ao]
  |raw=>grind[SC.ao]
  |any=>grind[SC.ao]
  |fn=>grind[SC.ao]
 |nil=>
  simp[bv]at hs;obtain⟨rfl,_,_⟩:=hs;have:v= .slice none 0 0:=hd;exact ahw X5 none 0 this
 |own id=>
  simp only[bv]at hs;split at hs
  ·rename_i m z' c' e;simp at hs;obtain⟨rfl,_,_⟩:=hs;obtain⟨_,⟨wx,_,sr⟩,hb⟩:=hR.rel id _ e
   rcases hd.2.2 _ z' c'.len e rfl with⟨_,h0,h1⟩|⟨b,cap,arr,T,h1,h2,h3,h4⟩
   grind
   ·by_cases h0:c'.len=0
    ·grind
    rcases hb with⟨q,_⟩|⟨b',jD,q1,q2,arr',T',q3,q4,q5,q6,q7,q8,q9⟩
    ·omega
    rw[h1]at q1;cases q1;rw[h3]at q3;cases q3;obtain⟨e0,RS⟩:=SC.od (show 0<c'.len by omega);have:z'=z:=by grind
    subst this;have eu:c'.len*z'<=arr.size:=by rw[q4];exact kC _ q7
    have gc:cap=jD:=Uu wx K0;subst gc;subst h2;refine⟨_,cap,((List.range (c'.len*z')).map λk=>arr.getD k undef).toArray,rfl,?_,by simp,q7,λi e j x he hx=>?_⟩
    ·exact SF w _ _ _ (λj hj=>by rw[addr_add,jZ];exact gd h3 K0)
    ·exact aib
  grind[SC.ao]
  grind
 |ptr id off=>grind[bv]
 |cF id z i off=>grind[bv]
 |sv g id=>grind[bv]
 |mp id=>grind[bv]
def SC.zL {c d r:SC}(h:c.cat d=some r):c.ao=true/\d.ao=true/\r.ao=true/\r.len=c.len+d.len/\∀i e,r.elem i=some e->(i<c.len->c.elem i=some e)/\(¬i<c.len->d.elem (i -c.len)=some e):=by
 unfold SC.cat at h;split at h
 ·exact aif
 ·exact aif
 grind
def gu {T T' ty e:TypeId}{tf:TypeInfo}{e':TypeId}{z bytes:Nat}{zv:Value}(hT:P.underlying T=some (.slice e))(fh:P.underlying T'=some (.slice e'))(hE:P.info? e=some tf)(hz:tf.size=z)(hb:tf.bytes=bytes)(hzv:tf.zero=some zv)
  {base a:Option Addr}{sLen sCap n O0:Nat}{new old:Array Value}(hby:bytes<=4096)(FB:sLen+n<=4294967296):
  (sLen+n<=sCap->(Builtin.firstCells z n (.slice a n O0)).run P w= .ok new w->∀w',(match base with|some a=>storeCells (a.add (sLen*z)) new.toList|none=>pure ()).run P w= .ok () w'->
   (Builtin.append_ #[T,T'] ty #[.slice base sLen sCap,.slice a n O0]).run P w= .ok (.slice base (sLen+n) sCap) w')/\
  (¬sLen+n<=sCap->(Builtin.firstCells z sLen (.slice base sLen sCap)).run P w.drew= .ok old w.drew->(Builtin.firstCells z n (.slice a n O0)).run P w.drew= .ok new w.drew->
   ∃dH rest,sLen+n<=dH/\rest.size=(dH -(sLen+n))*zv.cells.size/\(Builtin.append_ #[T,T'] ty #[.slice base sLen sCap,.slice a n O0]).run P w=
    .ok (.slice (some ⟨w.heap.size,0,none⟩) (sLen+n) dH) (w.drew.alloc (.cells (old++new++rest) e))):=by
 have Pa: ∀(h:sCap<sLen+n),¬(Builtin.nextslicecap (sLen+n) sCap*bytes>2^48):=by
  intro h;have e:(2:Nat)^48=281474976710656:=by decide
  have:(sLen+n)*bytes<=4294967296*4096:=XV FB hby;have:=growslice_fits h (bytes:=bytes) K0;omega
 have ahq: ¬(((sLen+n:Nat):Int)>IntKind.i64.max):=by grind[IntKind.max_i64]
 constructor
 ·intro np nh w' eG;simp only[Builtin.append_];simp only[Lt,Ux,Sa,eJ,sV hT,mw,sV fh,sizeOf,typeInfo,AO,hE,hz,lL,sU,kJ,Builtin.lenOf,np,if_true,Bool.not_false,nh];exact aj9
 ·intro np xp amn;obtain⟨k,hk⟩: ∃k,Question.cut (.appendCap (sLen+n) sCap e) (w.tape w.drawn (.appendCap (sLen+n) sCap e))=sLen+n+k:=⟨_,rfl⟩;refine⟨sLen+n+k,Builtin.zeroCells zv.cells (sLen+n+k -(sLen+n)),by omega,by simp[Builtin.zeroCells],?_⟩;have hq:(choose (.appendCap (sLen+n) sCap e)).run P w= .ok (sLen+n+k) w.drew:=ajk;have hzr:(zeroValue e).run P w.drew= .ok zv w.drew:=by simp[zeroValue,typeInfo,hE,hzv]
  simp only[Builtin.append_]
  simp only[Lt,Ux,Sa,eJ,sV hT,mw,sV fh,sizeOf,typeInfo,AO,hE,hz,lL,sU,kJ,Builtin.lenOf,np,
   ahq,false_and,hb,Pa K0,hq,run_askRoom,xp,amn,Bool.not_false,if_true,hzr]
  simp[newRow];first|done|rfl
def Tr.del (id:Nat):Tr F β N H w β N (bn H id none) w where
 below:=jv.refl _ _
 mem:=λb o v _ hs e=>⟨λiO bz e' hb=>by
  by_cases h:iO=id
  grind[an]
  ·rw[aH _ _ _ h]at e';exact hs iO bz e' hb,e⟩
 used:=λ_ h=>h
 kH:=λ_ _=>rfl
 keep:=λiO bz _ e=>by
  by_cases h:iO=id
  grind[an]
  ·rw[aH _ _ _ h]at e;exact⟨bz,e,bz.fV⟩
 size:=λ_ _ _ _ arr _ _ _ _ _ _ h=>⟨arr,h,rfl⟩
 ax:=λ_ _ h=>h
def ac.del (hR:ac F β N H w)(id:Nat):ac F β N (bn H id none) w:=by
 have live: ∀ {k:Nat} {b0:co},bn H id none k=some b0->H k=some b0:=by grind[an,aH]
 exact hR.step (Tr.del id) (λ_=>False) (λi bz _ e=>⟨live e,(hR.rel i bz (live e)).1,λ_ _=>rfl⟩) (λ_ _ h=>h.elim) (λi j b x y hi hj=>hR.inj i j b x y (live hi) (live hj))
structure C8 (mv:Mem) (z:Nat) (c:SC) (arr:Array Value):Prop where
 size:arr.size=c.len*z
 zK: ∀i e,c.elem i=some e->e.length=z
 rep: ∀(i:Nat) (e:List SC) (j:Nat) (x:SC),c.elem i=some e->e[j]? =some x->dq mv eU (arr.getD (i*z+j) undef) x
def C8.cat {mv:Mem}{z:Nat}{c d r:SC}{a b rest:Array Value}(hc:C8 mv z c a)(hd:C8 mv z d b)(h:c.cat d=some r):
  (∀i e,r.elem i=some e->e.length=z)/\∀(i:Nat) (e:List SC) (j:Nat) (x:SC),r.elem i=some e->e[j]? =some x->dq mv eU ((a++b++rest).getD (i*z+j) undef) x:=by
 obtain⟨_,_,_,bB,iE⟩:=SC.zL h
 have uG: ∀i e,r.elem i=some e->e.length=z:=by
  intro i e he;obtain⟨h1,h2⟩:=iE i e he;by_cases hi:i<c.len
  ·exact hc.zK i e (h1 hi)
  ·exact hd.zK _ e (h2 hi)
 refine⟨uG,λi e j x he hx=>?_⟩;obtain⟨h1,h2⟩:=iE i e he;have hj:j<z:=by grind
 by_cases hi:i<c.len
 ·have ak:i*z+j<a.size:=by
   rw[hc.size];have:(i+1)*z<=c.len*z:=kC _ hi
   grind
  rw[bL (b:=a) (l:=i*z+j) br];exact hc.rep i e j x (h1 hi) hx
 ·have hi2:=SC.ip (h2 hi);have e1:(i -c.len)*z+c.len*z=i*z:=by exact abZ
  have ak:(i -c.len)*z+j<b.size:=by
   rw[hd.size];have:(i -c.len+1)*z<=d.len*z:=kC _ hi2
   grind
  rw[bL (b:=b) (l:=(i -c.len)*z+j) (by
   rw[Xv akv,XA (by rw[hc.size];omega),hc.size]
   grind)]
  exact hd.rep _ e j x (h2 hi) hx
def zX (hR:ac F β N H w)(hf: ¬N fid){z:Nat}{c d r:SC}{a b rest:Array Value}{e:TypeId}{dH:Nat}{m:Bool}{H0:HF}{u:Hp}{R:List Nat}(hz:0<z)(hc:C8 (MV F β H w.drew) z c a)(hd:C8 (MV F β H w.drew) z d b)(h:c.cat d=some r)
  (gc:r.len<=dH)(OW:rest.size=(dH -r.len)*z)(h0: ∀H1,H1=u.on H->H1=bn H0 fid (some (.row m z r)))(ht:Tr F β N H w.drew β N H0 w.drew)(Ud:ac F β N H0 w.drew)
  (hK:K (bm (.own fid)) u R):bh F β N H fid K w (.slice (some ⟨w.heap.size,0,none⟩) r.len dH) (w.drew.alloc (.cells (a++b++rest) e)):=by
 obtain⟨_,_,hv,bB,_⟩:=SC.zL h;obtain⟨uG,il⟩:=C8.cat (rest:=rest) hc hd h;have Cz:Below w.heap.size w w.drew:=(Below.refl _ _).drew;have td:Tr F β N H w β N H w.drew:=Tr.grow hR Cz;have sQ:Below w.drew.heap.size w.drew (w.drew.alloc (.cells (a++b++rest) e)):=Below.og _ _;have jq: ∀x,some w.heap.size=some x->w.drew.heap.size<=x:=λx hx=>by simp_all
 have t2:=Tr.new (w':=w.drew.alloc (.cells (a++b++rest) e)) Ud sQ hf (some w.heap.size) jq (.row m z r)
 have ID:(a++b++rest).size =dH*z:=by
  have e1:dH*z=(dH -r.len)*z+r.len*z:=by exact abZ
  exact ajT
 have vK:(w.drew.alloc (.cells (a++b++rest) e)).heap[w.heap.size]? =some (.cells (a++b++rest) e):=gO w.drew _
 have abm:ir F (cR β fid (some w.heap.size)) (Fw.bf N fid) (bn H0 fid (some (.row m z r))) (w.drew.alloc (.cells (a++b++rest) e)) fid (.row m z r):=
  ⟨⟨hz,hv,uG⟩,.inr ⟨w.heap.size,dH,by simp[cR],gN.gG hR.below.size,_,e,vK,ID,hz,hv,gc,uG,λi e' j x he hx=>(il i e' j x he hx).mono (ht.trans t2).mv (Mem.le_refl _)⟩⟩
 have hH:=ac.new Ud sQ hf (some w.heap.size) jq (.row m z r) abm;exact K81
end
section
variable {C:bQ}{F:gN}{β:Nat->Option Nat}{N:Nat->Prop}{H:HF}{fid:Nat}{K:j0}{w w':World}{P:Program}
def Hc (hR:ac F β N H w)(hf: ¬N fid){z id b cap:Nat}{c d r:SC}{arr new:Array Value}{T:TypeId}{m:Bool}{R:List Nat}(hb:H id=some (.row m z c))(xm:β id=some b)(lB:w.heap[b]? =some (.cells arr T))
  (nn:arr.size=cap*z)(hd:C8 (MV F β H w) z d new)(h:c.cat d=some r)(eu:c.len+d.len<=cap)
  (hK:K (bm (.own fid)) [(fid,some (.row m z r)),(id,none)] R):bh F β N H fid K w (.slice (some ⟨b,0,none⟩) r.len cap) (w.setRow b (aO arr (c.len*z) new.toList)):=by
 obtain⟨_,_,hv,bB,_⟩:=SC.zL h;obtain⟨hn,⟨hz,hv0,sq⟩,gD⟩:=hR.rel id _ hb
 rcases gD with⟨q,_⟩|⟨b',jD,q1,q2,arr',T',q3,q4,q5,q6,q7,q8,q9⟩
 ·grind
 rw[xm]at q1;cases q1;rw[lB]at q3;cases q3;have gc:cap=jD:=Uu hz K0;subst gc;have zI:new.toList.length=d.len*z:=by simpa using hd.size
 have Pa:c.len*z+d.len*z<=arr.size:=ajX;have O5:(aO arr (c.len*z) new.toList).size =arr.size:=fj K0;have W8:id≠fid:=λe=>hf (e▸hn);have vK:(w.setRow b (aO arr (c.len*z) new.toList)).heap[b]? =some (.cells (aO arr (c.len*z) new.toList) T):=xK w b arr _ T (0,0) lB;have live: ∀ {k:Nat} {b0:co},k≠fid->bn (bn H id none) fid (some (.row m z r)) k=some b0->k≠id/\H k=some b0:=by grind[aH,an]
 have hT:Tr F β N H w (cR β fid (some b)) (Fw.bf N fid) (bn (bn H id none) fid (some (.row m z r))) (w.setRow b (aO arr (c.len*z) new.toList)):=by
  refine⟨jv.setRow (hR.gb hb xm).2 _,λb' o v _ hs e=>⟨λiO bz e' jS=>?_,?_⟩,λ_ h=>.inl h,λiO IE=>it _ _ _ λe=>hf (e▸IE),λiO blk' IE e=>?_,λ_ _ _ b' xk T0 _ _ _ _ _ e=>?_,mg ⟨_,_,lB⟩ _⟩
  ·by_cases hk:iO=fid
   ·subst hk;rw[an]at e';cases e';rw[jw]at jS;cases jS;obtain⟨h1,h2⟩:=hs id _ hb xm;have:c.len*z<=r.len*z:=kC _ K0;exact⟨h1,by omega⟩
   ·exact afP
  ·by_cases hk:b'=b
   ·subst hk;obtain⟨_,h2⟩:=hs id _ hb xm;have hg:=ge (arr:=arr) (off:=c.len*z) (vs:=new.toList) K0 o;rw[if_pos h2]at hg
    grind[rd,World.cell?]
   exact abY
  ·exact afD
  grind[setRow_other]
 have hc:C8 (MV F β H w) z c (arr.extract 0 (c.len*z)):=by
  refine⟨by grind,sq,λi e j x he hx=>?_⟩;have hj:j<z:=by grind
  have ak:i*z+j<c.len*z:=by
   have:(i+1)*z<=c.len*z:=kC _ (SC.ip he)
   grind
  grind[bL]
 obtain⟨uG,il⟩:=C8.cat (rest:=arr.extract (c.len*z+d.len*z) arr.size) hc hd h
 have anQ:aO arr (c.len*z) new.toList=arr.extract 0 (c.len*z)++new++arr.extract (c.len*z+d.len*z) arr.size:=by
  apply G4;have e1:arr.size=arr.toList.length:=by simp
  simp only[aO,Array.toList_append,Array.toList_extract,zI,e1]
  grind[List.take_of_length_le]
 have hH:ac F (cR β fid (some b)) (Fw.bf N fid) (bn (bn H id none) fid (some (.row m z r))) (w.setRow b (aO arr (c.len*z) new.toList)):=by
  refine hR.step hT (λi=>i=fid) (λi bz hi e=>?_) (λi bz hi e=>?_) (λi j x y y' hi hj bi bj=>?_)
  ·exact K73
  ·subst hi;rw[an]at e;cases e;refine⟨.inr rfl,⟨hz,hv,uG⟩,.inr ⟨b,cap,by simp[cR],q2,_,T,vK,by omega,hz,hv,by omega,uG,λi e' j x he hx=>?_⟩⟩;have:=(il i e' j x he hx).mono hT.mv (Mem.le_refl _)
   grind
  ·exact K21
 refine⟨_,_,_,R,hK,hT,hH,cI ⟨.inr rfl,rfl,λnL z' n' jS wx=>?_⟩⟩;have:bn (bn H id none) fid (some (.row m z r)) fid=some nL:=jS;exact afA
def C9 (hf: ¬N fid){z:Nat}{r:SC}{m:Bool}{H0:HF}{u:Hp}{R:List Nat}(hz:0<z)(hv:r.ao=true)(h0:r.len=0)(hu: ∀i e,r.elem i=some e->e.length=z)
  (hH0: ∀H1,H1=u.on H->H1=bn H0 fid (some (.row m z r)))(ht:Tr F β N H w β N H0 w)(Ud:ac F β N H0 w)(hK:K (bm (.own fid)) u R):bh F β N H fid K w (.slice none 0 0) w:=by
 have hw:Below w.heap.size w w:=Below.refl _ _;have t2:=Tr.new Ud hw hf none (by simp) (.row m z r);have hH:=ac.new Ud hw hf none (by simp) (.row m z r) ⟨⟨hz,hv,hu⟩,.inl ⟨by simp[cR],h0⟩⟩;have hu1:=hH0 _ rfl;refine⟨cR β fid none,_,u,R,hK,by rw[hu1];exact ht.trans t2,by grind,?_⟩;rw[hu1];refine cI ⟨.inr rfl,rfl,λnL z' n' hb wx=>?_⟩;exact aji
def UU (hC:C.Ok)(hG:bE C F)(hR:ac F β N H w)(hf: ¬N fid){T T' ty:TypeId}{i':TI}{e':TypeId}{x y:DX}{v0 v1:Value}(kA:C.ti T'=some i')(IC:i'.bY= .slice e')
  (hx:aq F β N H w v0 x)(hy:aq F β N H w v1 y)(h:qP C fid T x y H K):
  ∃v w',(Builtin.append_ #[T,T'] ty #[v0,v1]).run C.P w= .ok v w'/\bh F β N H fid K w v w':=by
 obtain⟨tf',d',zv',fh⟩:=hC.get kA;have xq:=di (fh.bY.trans IC);have OX:C.P.underlying T'=some (.slice e'):=by rw[fh.IN,xq]
 unfold qP at h;split at h
 ·grind
 rename_i i hi;obtain⟨tf,d,zv,hT⟩:=hC.get hi;split at h
 ·rename_i e yc bV;have hd:=di (hT.bY.trans bV);have hu:C.P.underlying T=some (.slice e):=by rw[hT.IN,hd]
  split at h
  ·grind
  rename_i ie lD;obtain⟨ef,ed,ez,hE⟩:=hC.get lD;split at h
  ·grind
  rename_i hb;obtain⟨hb,hzl⟩:=aG hb;obtain⟨h1,h2⟩:=aG hb;have hzl:=o8 hzl;have hzc:ez.cells.size=ie.size:=by exact af6
  have h1:=fP h1;have h2:=fP h2;split at h
  ·grind
  rename_i cy uy ry eG;have hyd:=hy.am;have Cz:Below w.heap.size w w.drew:=(Below.refl _ _).drew;have td:Tr F β N H w β N H w.drew:=Tr.grow hR Cz;have OS:ac F β N H w.drew:=hR.grow Cz;have abg:=td.jr hR hyd;split at h
  ·
   have B8:v0= .slice none 0 0:=hx.am;subst B8;split at h
   ·rename_i c' zw;obtain⟨hun,FB,h⟩:=h;obtain⟨_,hvy,Pf,bB,iE⟩:=SC.zL zw;have sq:(AU (C.kG e)).len =0:=by cases C.kG e<;>rfl
    have Pj: ∀i e,cy.elem i=some e->e.length=ie.size:=by
     intro i el he;refine xT hun i el ?_;unfold SC.cat at zw
     grind[SC.elem]
    by_cases GO:cy.len=0
    ·obtain⟨a,cap,new,rfl,nh,IF,Xc,il⟩:=gg hG hR (z:=ie.size) hyd eG hvy h1 Pj;have bC:=(gu (P:=C.P) (w:=w) (ty:=ty) (base:=none) (sLen:=0) (sCap:=0) (old:= #[]) hu OX hE.oc hE.size hE.bytes hE.zero h2 (show 0+cy.len<=4294967296 by omega)).1 K0 nh w rfl;rw[GO]at bC;refine⟨_,w,by rw[GO];exact bC,?_⟩;exact C9 (u:=[(fid,some (.row true ie.size c'))]) hf h1 Pf K0 (xT hun) (λ_ h=>h) Tr.refl hR h
    ·obtain⟨a,cap,new,rfl,nh,IF,Xc,il⟩:=gg hG OS (z:=ie.size) abg eG hvy h1 Pj
     obtain⟨dH,rest,g1,g2,bC⟩:=(gu (P:=C.P) (w:=w) (ty:=ty) (base:=none) (sLen:=0) (sCap:=0) (old:= #[]) hu OX hE.oc hE.size hE.bytes hE.zero h2 (show 0+cy.len<=4294967296 by
      have:c'.len<=4294967296:=FB
      omega)).2 K0 akw nh
     have anY:0+cy.len=c'.len:=by omega
     rw[anY]at bC g1 g2;refine⟨_,_,bC,?_⟩;refine zX (u:=[(fid,some (.row true ie.size c'))]) (c:=AU (C.kG e)) (d:=cy) (a:= #[]) (b:=new) hR hf h1 ⟨by grind,λi e he=>?_,λi e j x he _=>?_⟩ ⟨IF,Pj,il⟩ zw K0 ?_ (λ_ h=>h) Tr.refl OS h
     grind[SC.ip]
     grind[SC.ip]
     grind
   grind
  ·rename_i id;split at h
   ·rename_i m z c hbk;split at h
    ·rename_i c' pV zw;have pV:=o8 pV;subst pV;obtain⟨hun,FB,h⟩:=h;obtain⟨hvc,hvy,Pf,bB,iE⟩:=SC.zL zw;have Pj:=xT hun;obtain⟨hn,h1c,jo⟩:=hx.am;have hxd:cd F β N H w v0 (.own id):=hx.am;obtain⟨_,⟨hz,_,sq⟩,gD⟩:=hR.rel id _ hbk;obtain⟨us,ahg⟩: ∃us,bv H false (.own id)=some (c,us,[id]):=by simp[bv,hbk]
     have abv:(∀i e,c'.elem i=some e->e.length=ie.size):=by grind
     have OQ:c.len+cy.len<=4294967296:=by
      have:c'.len<=4294967296:=FB;omega
     have afj: ∀(base:Option Addr) (cap:Nat),v0= .slice base c.len cap->¬c.len+cy.len<=cap->∃v w',(Builtin.append_ #[T,T'] ty #[v0,v1]).run C.P w= .ok v w'/\bh F β N H fid K w v w':=by
      rintro base cap rfl hgt;obtain⟨a,O0,new,rfl,nh,IF,Xc,il⟩:=gg hG OS (z:=ie.size) abg eG hvy h1 Pj;obtain⟨a0,ahr,old,e0,xp,hos,amd,abh⟩:=gg hG OS (z:=ie.size) (td.jr hR hxd) ahg hvc h1 sq;cases e0;obtain⟨dH,rest,g1,g2,bC⟩:=(gu (P:=C.P) (w:=w) (ty:=ty) (base:=base) (sLen:=c.len) (sCap:=cap) hu OX hE.oc hE.size hE.bytes hE.zero h2 OQ).2 hgt xp nh;rw[<- bB]at bC g1 g2;refine⟨_,_,bC,?_⟩;refine zX (u:=[(fid,some (.row m ie.size c')),(id,none)]) (H0:=bn H id none) hR hf h1 ⟨hos,sq,abh⟩ ⟨IF,Pj,il⟩ zw g1 ?_ (λ_ h=>h) (Tr.del id) (OS.del id) h
      grind
     rcases jo _ ie.size c.len hbk rfl with⟨b1,b2,rfl⟩|⟨b,cap,arr,T0,b1,rfl,b3,b4⟩
     ·by_cases GO:cy.len=0
      ·obtain⟨a,cap,new,rfl,nh,IF,Xc,il⟩:=gg hG hR (z:=ie.size) hyd eG hvy h1 Pj;have bC:=(gu (P:=C.P) (w:=w) (ty:=ty) (base:=none) (sLen:=0) (sCap:=0) (old:= #[]) hu OX hE.oc hE.size hE.bytes hE.zero h2 (show 0+cy.len<=4294967296 by omega)).1 K0 nh w rfl;rw[GO]at bC;refine⟨_,w,by rw[GO];exact bC,?_⟩;exact C9 (u:=[(fid,some (.row m ie.size c')),(id,none)]) (H0:=bn H id none) hf h1 Pf K0 abv (λ_ h=>h) (Tr.del id) (hR.del id) h
      grind
     ·by_cases np:c.len+cy.len<=cap
      ·obtain⟨a,O0,new,rfl,nh,IF,Xc,il⟩:=gg hG hR (z:=ie.size) hyd eG hvy h1 Pj;have sP:=Hb h1 IF Pj il
       have Pa:c.len*ie.size+new.toList.length<=arr.size:=by
        have:new.toList.length=cy.len*ie.size:=by omega
        exact ajK
       have amy:=Sj C.P b (c.len*ie.size) T0 new.toList 0 arr w b3 K0 sP
       have bC:=(gu (P:=C.P) (w:=w) (ty:=ty) (base:=some ⟨b,0,none⟩) (sLen:=c.len) (sCap:=cap) (old:= #[]) hu OX hE.oc hE.size hE.bytes hE.zero h2 OQ).1 np nh (w.setRow b (aO arr (c.len*ie.size) new.toList)) (by
        simp only[addr_add,jZ]
        grind[aO])
       rw[<- bB]at bC;exact⟨_,_,bC,Hc hR hf hbk b1 b3 b4 ⟨IF,Pj,il⟩ zw np h⟩
      grind
    grind
   grind
  grind
 grind
def to {T T' ty e:TypeId}{tf:TypeInfo}{kq kn:IntKind}{z bytes:Nat}{zv:Value}(hT:P.underlying T=some (.slice e))(fh:P.underlying T'=some (.int kn))(hE:P.info? e=some tf)(hz:tf.size=z)(hb:tf.bytes=bytes)(hzv:tf.zero=some zv)
  {base:Option Addr}{sLen sCap n:Nat}{old:Array Value}(hby:bytes<=4096)(FB:sLen+n<=4294967296)(hz0:0<z):
  (sLen+n<=sCap->∀w',(match base with|some a=>storeCells (a.add (sLen*z)) (Builtin.zeroCells zv.cells n).toList |none=>pure ()).run P w= .ok () w'->
   (Builtin.append_ #[T,T'] ty #[.slice base sLen sCap,.int kq n]).run P w= .ok (.slice base (sLen+n) sCap) w')/\
  (¬sLen+n<=sCap->(Builtin.firstCells z sLen (.slice base sLen sCap)).run P w.drew= .ok old w.drew->
   ∃dH rest,sLen+n<=dH/\rest.size=(dH -(sLen+n))*zv.cells.size/\(Builtin.append_ #[T,T'] ty #[.slice base sLen sCap,.int kq n]).run P w=
    .ok (.slice (some ⟨w.heap.size,0,none⟩) (sLen+n) dH) (w.drew.alloc (.cells (old++Builtin.zeroCells zv.cells n++rest) e))):=by
 have Pa: ∀(h:sCap<sLen+n),¬(Builtin.nextslicecap (sLen+n) sCap*bytes>2^48):=by
  intro h;have e:(2:Nat)^48=281474976710656:=by decide
  have:(sLen+n)*bytes<=4294967296*4096:=XV FB hby;have:=growslice_fits h (bytes:=bytes) K0;omega
 have ahq: ¬(((sLen+n:Nat):Int)>IntKind.i64.max):=by grind[IntKind.max_i64]
 have hw:IntKind.i64.wrap (n:Int)=n:=wrap_small K0 K0;have KU: ¬((n:Int)<0):=by omega
 have h48: ¬((n:Int)*(bytes:Int)>2^48):=by
  have e:(2:Int)^48=281474976710656:=by decide
  rw[e];have:(n:Int)*(bytes:Int)<=4294967296*4096:=CV K0 K0 K0 K0;omega
 have hzr: ∀w,(zeroValue e).run P w= .ok zv w:=λw=>by simp[zeroValue,typeInfo,hE,hzv]
 have h0: ∀w:World,(if n*z=0 then pure #[]else(do pure (Builtin.zeroCells (<- zeroValue e).cells n):Sem (Array Value))).run P w= .ok (Builtin.zeroCells zv.cells n) w:=by
  intro w;by_cases h:n=0
  ·subst h;simp[Builtin.zeroCells]
  ·have: ¬n*z=0:=Nat.mul_ne_zero h K0;simp_all
 constructor
 ·intro np w' eG;simp only[Builtin.append_];simp only[Lt,Ux,Sa,eJ,sV hT,mw,sV fh,sizeOf,typeInfo,AO,hE,hz,hb,lL,if_true,asInt,asIntOf,hw,KU,kJ,h48,sB,np,Bool.not_true,sU];rw[show((if n*z=0 then pure #[]else zeroValue e>>= λx=>pure (Builtin.zeroCells x.cells n):Sem (Array Value)).run P w)= .ok (Builtin.zeroCells zv.cells n) w from h0 w];exact aj9
 ·intro np xp;obtain⟨k,hk⟩: ∃k,Question.cut (.appendCap (sLen+n) sCap e) (w.tape w.drawn (.appendCap (sLen+n) sCap e))=sLen+n+k:=⟨_,rfl⟩;refine⟨sLen+n+k,Builtin.zeroCells zv.cells (sLen+n+k -(sLen+n)),by omega,by simp[Builtin.zeroCells],?_⟩;have hq:(choose (.appendCap (sLen+n) sCap e)).run P w= .ok (sLen+n+k) w.drew:=ajk;simp only[Builtin.append_]
  simp only[Lt,Ux,Sa,eJ,sV hT,mw,sV fh,sizeOf,typeInfo,AO,hE,hz,hb,lL,if_true,asInt,asIntOf,hw,KU,kJ,h48,sB,np,Bool.not_true,sU,
   ahq,false_and,Pa K0,hq,run_askRoom,xp]
  rw[show((if n*z=0 then pure #[]else zeroValue e>>= λx=>pure (Builtin.zeroCells x.cells n):Sem (Array Value)).run P w.drew)= .ok (Builtin.zeroCells zv.cells n) w.drew from h0 w.drew];simp[hzr,newRow]
theorem Da (_hC:C.Ok){e:TypeId}{ie:TI}{ef:TypeInfo}{ed:TypeDesc}{ez:Value}(hE:LW C.P e ie ef ed ez){n:Nat}{cy:SC}(aoq:1<=ie.size)(hzc:ez.cells.size=ie.size)(h:IX C e ie n=some cy)(mv:Mem):
  cy.ao=true/\cy.len=n/\C8 mv ie.size cy (Builtin.zeroCells ez.cells n):=by
 have key: ∀(c:SC) (el:List SC),c.ao=true->c.len=n->(∀i e,c.elem i=some e->e=el)->el.length=ie.size->(∀(mv mr:Mem) (k:Nat) (x:SC),el[k]? =some x->∃v,ez.cells[k]? =some v/\dq mv mr v x)->
   c.ao=true/\c.len=n/\C8 mv ie.size c (Builtin.zeroCells ez.cells n):=by
  intro c el cv cl ce cel cz;refine⟨cv,cl,by grind[Builtin.zeroCells],λi e he=>by grind,λi e j x he hx=>?_⟩;have:=ce i e he;subst this;have hj:j<ie.size:=by grind
  obtain⟨v,v1,v2⟩:=cz mv eU j x hx;have kA:i<n:=by rw[<- cl];exact SC.ip he
  have ak:i*ie.size+j<n*ie.size:=by
   have:(i+1)*ie.size<=n*ie.size:=kC _ K0
   grind
  have hm:(i*ie.size+j)%ie.size=j:=by grind[Nat.mul_comm,Nat.mul_add_mod,Nat.mod_eq_of_lt]
  rw[mh (v:=v) (by
   simp only[Builtin.zeroCells,hzc,Array.getElem?_map,Array.getElem?_range,ak,if_true,xJ,hm]
   grind)]
  exact v2
 unfold IX at h;split at h
 ·split at h
  ·rename_i FK;simp at h;subst h;have aek:=hE.xF;rw[FK]at aek
   have l8:ez.cells= #[.int .i64 0]:=by
    apply G4
    cases hl:ez.cells.toList with
    |nil=>grind
    |cons v t=>
     rw[hl]at aek;simp at aek;obtain⟨hv,rfl⟩:=aek;unfold BK at hv
     grind
   refine key _ [.lit (.int .i64 0)] rfl X6 (λi e he=>?_) br (λmv mr k x hk=>?_)
   grind[SC.elem]
   ·exact aiT
  grind
 ·split at h
  ·rename_i zs hzs;simp at h;subst h;rw[<- hE.xF]at hzs;obtain⟨b1,b2,b3⟩:=pZ hzs
   refine key _ zs rfl X6 (λi e he=>?_) br (λmv mr k x hk=>by
    simp_all)
   grind[SC.elem]
  grind
def PD (hC:C.Ok)(hG:bE C F)(hR:ac F β N H w)(hf: ¬N fid){T T' ty:TypeId}{i':TI}{k':IntKind}{x y:DX}{v0 v1:Value}(kA:C.ti T'=some i')(IC:i'.bY= .int k')
  (hx:aq F β N H w v0 x)(hy:aq F β N H w v1 y)(h:pX C fid T x y H K):
  ∃v w',(Builtin.append_ #[T,T'] ty #[v0,v1]).run C.P w= .ok v w'/\bh F β N H fid K w v w':=by
 obtain⟨tf',d',zv',fh⟩:=hC.get kA;have xq:=qT (fh.bY.trans IC);have OX:C.P.underlying T'=some (.int k'):=by rw[fh.IN,xq]
 unfold pX at h;split at h
 ·grind
 rename_i i hi;obtain⟨tf,d,zv,hT⟩:=hC.get hi;split at h
 ·rename_i e kq n bV;have hd:=di (hT.bY.trans bV);have hu:C.P.underlying T=some (.slice e):=by rw[hT.IN,hd]
  obtain⟨rfl,_⟩:=hy.am.bw;split at h
  ·grind
  rename_i ie lD;obtain⟨ef,ed,ez,hE⟩:=hC.get lD;split at h
  ·grind
  rename_i hb;obtain⟨hb,hzl⟩:=aG hb;obtain⟨h1,h2⟩:=aG hb;have hzl:=o8 hzl;have hzc:ez.cells.size=ie.size:=by exact af6
  have h1:=fP h1;have h2:=fP h2;obtain⟨⟨GO,hn1⟩,h⟩:=h;split at h
  ·grind
  rename_i cy hzr;obtain⟨m0,rfl⟩: ∃m:Nat,n=m:=⟨n.toNat,by omega⟩;rw[sB]at hzr;have Cz:Below w.heap.size w w.drew:=(Below.refl _ _).drew;have td:Tr F β N H w β N H w.drew:=Tr.grow hR Cz;have OS:ac F β N H w.drew:=hR.grow Cz;obtain⟨hvy,hly,hcd⟩:=Da hC hE h1 hzc hzr (MV F β H w.drew);obtain⟨_,_,R0⟩:=Da hC hE h1 hzc hzr (MV F β H w);split at h
  ·rename_i id;split at h
   ·rename_i m z c hbk;split at h
    ·rename_i c' pV zw;have pV:=o8 pV;subst pV;obtain⟨FB,h⟩:=h;obtain⟨hvc,_,Pf,bB,iE⟩:=SC.zL zw;obtain⟨hn,h1c,jo⟩:=hx.am;have hxd:cd F β N H w v0 (.own id):=hx.am;obtain⟨_,⟨hz,_,sq⟩,gD⟩:=hR.rel id _ hbk;obtain⟨us,ahg⟩: ∃us,bv H false (.own id)=some (c,us,[id]):=by simp[bv,hbk]
     have OQ:c.len+m0<=4294967296:=by
      have:c'.len<=4294967296:=FB;omega
     have abv:(∀i e,c'.elem i=some e->e.length=ie.size):=by
      intro i e he;obtain⟨g1,g2⟩:=iE i e he;by_cases hi:i<c.len
      grind
      ·exact R0.zK _ e (g2 hi)
     have afj: ∀(base:Option Addr) (cap:Nat),v0= .slice base c.len cap->¬c.len+m0<=cap->∃v w',(Builtin.append_ #[T,T'] ty #[v0,.int kq m0]).run C.P w= .ok v w'/\bh F β N H fid K w v w':=by
      rintro base cap rfl hgt;obtain⟨a0,ahr,old,e0,xp,hos,amd,abh⟩:=gg hG OS (z:=ie.size) (td.jr hR hxd) ahg hvc h1 sq;cases e0;obtain⟨dH,rest,g1,g2,bC⟩:=(to (P:=C.P) (w:=w) (ty:=ty) (kq:=kq) (base:=base) (sLen:=c.len) (sCap:=cap) hu OX hE.oc hE.size hE.bytes hE.zero h2 OQ h1).2 hgt xp;have el:c.len+m0=c'.len:=by omega
      rw[el]at bC g1 g2;refine⟨_,_,bC,?_⟩;refine zX (u:=[(fid,some (.row m ie.size c')),(id,none)]) (H0:=bn H id none) hR hf h1 ⟨hos,sq,abh⟩ hcd zw g1 ?_ (λ_ h=>h) (Tr.del id) (OS.del id) h
      grind
     rcases jo _ ie.size c.len hbk rfl with⟨b1,b2,rfl⟩|⟨b,cap,arr,T0,b1,rfl,b3,b4⟩
     ·by_cases OR:m0=0
      ·subst OR;have bC:=(to (P:=C.P) (w:=w) (ty:=ty) (kq:=kq) (base:=none) (sLen:=0) (sCap:=0) (n:=0) (old:= #[]) hu OX hE.oc hE.size hE.bytes hE.zero h2 K0 h1).1 K0 w rfl;refine⟨_,w,bC,?_⟩;exact C9 (u:=[(fid,some (.row m ie.size c')),(id,none)]) (H0:=bn H id none) hf h1 Pf K0 abv (λ_ h=>h) (Tr.del id) (hR.del id) h
      grind
     ·by_cases np:c.len+m0<=cap
      ·have sP: ∀u∈(Builtin.zeroCells ez.cells m0).toList,u.oneCell'=true:=Hb h1 R0.size R0.zK R0.rep
       have Pa:c.len*ie.size+(Builtin.zeroCells ez.cells m0).toList.length <=arr.size:=by
        have:(Builtin.zeroCells ez.cells m0).toList.length =cy.len*ie.size:=by simpa using R0.size
        rw[this,b4,<- SL];exact kC _ K0
       have amy:=Sj C.P b (c.len*ie.size) T0 (Builtin.zeroCells ez.cells m0).toList 0 arr w b3 K0 sP
       have bC:=(to (P:=C.P) (w:=w) (ty:=ty) (kq:=kq) (base:=some ⟨b,0,none⟩) (sLen:=c.len) (sCap:=cap) (n:=m0) (old:= #[]) hu OX hE.oc hE.size hE.bytes hE.zero h2 OQ h1).1 np (w.setRow b (aO arr (c.len*ie.size) (Builtin.zeroCells ez.cells m0).toList)) (by
        simp only[addr_add,jZ]
        grind[aO])
       have el:c.len+m0=c'.len:=by omega
       rw[el]at bC;exact⟨_,_,bC,Hc hR hf hbk b1 b3 b4 R0 zw K0 h⟩
      grind
    grind
   grind
  grind
 grind
def Yl {mv mr:Mem}{v x:Value}(h:dq mv mr v (.lit x)):v=x:=ai6
theorem A0: ∀ {es:List (List SC)} {l:List UInt8},md es=some l->∀(i:Nat) (e:List SC),(SC.view es).elem i=some e->∃n,e= [.lit (.int .u8 n)]
 | [],_,_,i,e,he=>by grind[SC.elem]
 |x::es,l,h,i,e,he=>by
  unfold md at h;split at h
  grind
  ·rename_i n r vO;cases vO;split at h
   ·rename_i l' sr
    cases i with
    |zero=>grind[SC.elem]
    |succ i=>exact A0 sr i e abL
   grind
  grind
theorem xV: ∀ {es:List (List SC)} {l:List UInt8},md es=some l->∃ns:List Int,ns.length=es.length/\∀(k:Nat) (n:Int),ns[k]? =some n->(SC.view es).elem k=some [.lit (.int .u8 n)]
 | [],_,_=>⟨[],rfl,λk n h=>by grind⟩
 |x::es,l,h=>by
  unfold md at h;split at h
  grind
  ·rename_i n r vO;cases vO;split at h
   ·rename_i l' sr;obtain⟨ns,h1,h2⟩:=xV sr;refine⟨n::ns,by grind,λk m hk=>?_⟩
    grind[SC.elem]
   grind
  grind
theorem L0: ∀(ns:List Int) (acc:ByteArray),ns.foldl (λr n=>r.push (UInt8.ofNat n.toNat)) acc=⟨acc.data++(ns.map λn=>UInt8.ofNat n.toNat).toArray⟩
 | [],acc=>by simp
 |n::ns,acc=>by
  rw[XQ,L0 ns];simp_all
theorem Db: ∀ {es:List (List SC)} {l:List UInt8} {ns:List Int},md es=some l->ns.length=es.length->(∀(k:Nat) (n:Int),ns[k]? =some n->(SC.view es).elem k=some [.lit (.int .u8 n)])->ns.map (λn=>UInt8.ofNat n.toNat)=l
 | [],l,ns,h,hl,_=>by grind[md]
 |x::es,l,[],h,hl,_=>by grind
 |x::es,l,m::ns,h,hl,hn=>by
  unfold md at h;split at h
  grind
  ·rename_i n r vO;cases vO;split at h
   ·rename_i l' sr;simp at h;subst h;have h0:=hn 0 m rfl;simp[SC.elem]at h0;subst h0;rw[ju,Db sr br λk n hk=>by simpa [SC.elem]using hn (k+1) n br]
   grind
  grind
theorem Ym (hC:C.Ok)(hG:bE C F)(hR:ac F β N H w){S T:TypeId}{x:DX}{v0:Value}(hx:aq F β N H w v0 x)(h:xQ C S T x H K):
  ∃v,(convert S T v0).run C.P w= .ok v w/\bh F β N H fid K w v w:=by
 unfold xQ at h;split at h
 ·rename_i i j hi hj;obtain⟨tf,d,z,hT⟩:=hC.get hi;obtain⟨tf',d',z',fh⟩:=hC.get hj;split at h
  ·rename_i k1 h1;split at h;case h_2=>grind
   rename_i k2 k3 n h2;have hd:=qT (hT.bY.trans h1);have xq:=qT (fh.bY.trans h2);obtain⟨rfl,_⟩:=hx.am.bw;refine⟨_,?_,bh.pure hR h (fU rfl)⟩;simp[convert,hT.cU,fh.cU,hd,xq,Conv.intToInt]
  ·rename_i h1;split at h;case h_2=>grind
   rename_i s h2;have hd:=mf (hT.bY.trans h1);have xq:=mf (fh.bY.trans h2);obtain⟨rfl,_⟩:=hx.am.bw;refine⟨_,?_,bh.pure hR h (fU rfl)⟩;simp[convert,hT.cU,fh.cU,hd,xq]
  ·rename_i e h1;split at h;case h_2=>grind
   rename_i dd h2;have hd:=di (hT.bY.trans h1);have xq:=mf (fh.bY.trans h2);split at h
   ·rename_i es uu rr hby eG;split at h
    ·rename_i l hl;unfold zT at hby;split at hby
     ·rename_i ie lD;obtain⟨ef,ed,ez,hE⟩:=hC.get lD;split at hby
      ·rename_i jd;have hz1:=o8 hby;have hed:=qT (hE.bY.trans jd);have hes: ∀i e,(SC.view es).elem i=some e->e.length=1:=λi e he=>by grind[A0]
       obtain⟨a,cap,new,rfl,bC,nn,gc,il⟩:=gg hG hR (z:=1) hx.am eG rfl K9 hes;obtain⟨ns,IF,hbs⟩:=xV hl
       have nh:new.toList=ns.map (Value.int .u8):=by
        apply Ly;intro k;by_cases hk:k<es.length
        ·obtain⟨n,hn⟩: ∃n,ns[k]? =some n:=⟨ns[k]'K0,nM K0⟩;have he:=hbs k n hn;have:=il k _ 0 _ he rfl;simp only[AQ,CP]at this;have FR:k<new.size:=by grind[SC.len]
         have hr2:=Yl this;simp_all
        grind[SC.len]
       have e1:(SC.view es).len =ns.length:=by grind[SC.len]
       refine⟨_,?_,bh.pure hR h (fU rfl)⟩;simp only[convert,eJ,hT.cU,fh.cU,hd,xq,mw]
       cases a with
       |none=>
        have:new= #[]:=by simpa [Builtin.firstCells]using bC.symm
        rw[this]at nh;have anL:ns= []:=by grind
        subst anL;have sq:l= []:=by grind[md]
        subst sq;simp[hE.cU,hed,Conv.bytesToString];rfl
       |some a=>
        have afq:(loadCells a (SC.view es).len).run C.P w= .ok (ns.map (Value.int .u8)).toArray w:=by
         have:(ns.map (Value.int .u8)).toArray =new:=by grind
         rw[this];simpa [Builtin.firstCells]using bC
        have hb:=Db hl IF hbs;simp only[hE.cU,hed,mw];rw[e1]at afq ⊢;rw[run_bytesToString w a ns.length cap ns afq,L0,hb];simp
      grind
     grind
    grind
   grind
  grind
 grind
end
section
variable {C:bQ}{F:gN}{β:Nat->Option Nat}{N:Nat->Prop}{H:HF}{fid:Nat}{K:j0}{w w':World}{P:Program}
theorem Hd: ∀ {ds:List (Option DV)} {l:List SV} {u:Hp} {r:List Nat},cE.firsts H ds=some (l,u,r)->(∀p∈u,me H p)/\l.length=ds.length/\
  ∀(j:Nat) (g:Bool) (cs:List SC),l[j]? =some (g,cs)->∃x ue re,ds[j]? =some (some (.val x))/\x.1=g/\bS H [] x.2=some (cs,ue,re)/\∀q∈ue,q∈u
 | [],l,u,r,h=>by grind[cE.firsts]
 |d::ds,l,u,r,h=>by
  unfold cE.firsts at h;split at h
  grind
  ·rename_i x xs vO;cases vO;split at h
   ·rename_i c u1 r1 h1;split at h
    ·rename_i cs u2 r2 h2;simp at h;obtain⟨rfl,rfl,_⟩:=h;obtain⟨q1,q2,q3⟩:=Hd h2;refine⟨λp hp=>?_,by grind,λj g c' hj=>?_⟩
     grind[cJ]
     ·cases j with
      |zero=>
       grind
      |succ j=>
       obtain⟨x',ue,re,a1,a2,a3,a4⟩:=q3 j g c' br
       grind
    grind
   grind
  grind
def SW (C:bQ)(H:HF)(u:Hp)(d:Option DV)(cs:List SC):Prop:=
 (∃id,d=some (.val (false,[.ptr id 0]))/\(H id=some (.dV cs)\/((id,some (.dV cs))∈u/\∃t ds ue re,H id=some (.box t ds)/\bS H (C.kinds t) ds=some (cs,ue,re)/\∀q∈ue,q∈u)))\/
 d=some (.val (false,[.st (.ref cs)]))
def SW.mono {u v:Hp}(h: ∀q∈u,q∈v){d:Option DV}{cs:List SC}(hc:SW C H u d cs):SW C H v d cs:=by
 rcases hc with⟨id,h1,h2|⟨h2,t,ds,ue,re,h3,h4,h5⟩⟩|h1
 ·exact .inl ⟨id,h1,.inl h2⟩
 ·exact .inl ⟨id,h1,.inr ⟨h _ h2,t,ds,ue,re,h3,h4,λq hq=>h _ (h5 q hq)⟩⟩
 ·exact .inr h1
theorem xW: ∀ {ds:List (Option DV)} {l:List (List SC)} {u:Hp} {r:List Nat},cE.capts C H ds=some (l,u,r)->ii C H u/\l.length=ds.length/\∀(j:Nat) (cs:List SC),l[j]? =some cs->∃d,ds[j]? =some d/\SW C H u d cs
 | [],l,u,r,h=>by grind[cE.capts,ii]
 |d::ds,l,u,r,h=>by
  unfold cE.capts at h;split at h
  grind
  ·rename_i id xs vO;cases vO;split at h
   ·rename_i cs hb;split at h
    ·rename_i l2 u2 r2 h2;simp at h;obtain⟨rfl,rfl,_⟩:=h;obtain⟨q1,q2,q3⟩:=xW h2;refine⟨q1,by grind,λj c' hj=>?_⟩
     cases j with
     |zero=>simp at hj;subst hj;exact⟨_,rfl,.inl ⟨id,rfl,.inl hb⟩⟩
     |succ j=>grind
    grind
   ·rename_i t cs hb;split at h
    ·rename_i c u1 r1 h1;split at h
     ·rename_i l2 u2 r2 h2;simp at h;obtain⟨rfl,rfl,_⟩:=h;obtain⟨q1,q2,q3⟩:=xW h2
      have hg:ii C H ((id,some (.dV c))::(u1++u2)):=by
       intro p hp;rcases cQ.1 hp with rfl|hp
       ·exact .inr ⟨t,cs,c,u1,r1,hb,rfl,h1,λq hq=>i7 _ (gC.2 (.inl hq))⟩
       ·rcases gC.1 hp with hp|hp
        ·exact .inl (cJ h1 p hp)
        ·rcases q1 p hp with h|⟨t',xn,l',ul',rl',e1,e2,e3,e4⟩
         ·exact .inl h
         ·exact .inr ⟨t',xn,l',ul',rl',e1,e2,e3,λq hq=>i7 _ (gC.2 (.inr (e4 q hq)))⟩
      refine⟨hg,by grind,λj c' hj=>?_⟩
      cases j with
      |zero=>
       simp at hj;subst hj;exact⟨_,rfl,.inl ⟨id,rfl,.inr ⟨by simp,t,cs,u1,r1,hb,h1,λq hq=>i7 _ (gC.2 (.inl hq))⟩⟩⟩
      |succ j=>
       obtain⟨d',e1,e2⟩:=q3 j c' br;exact⟨d',by grind,e2.mono λq hq=>i7 _ (gC.2 (.inr hq))⟩
     grind
    grind
   grind
  ·rename_i cs xs vO;cases vO;split at h
   ·rename_i l2 u2 r2 h2;simp at h;obtain⟨rfl,rfl,_⟩:=h;obtain⟨q1,q2,q3⟩:=xW h2;refine⟨q1,by grind,λj c' hj=>?_⟩
    cases j with
    |zero=>simp at hj;subst hj;exact⟨_,rfl,.inr rfl⟩
    |succ j=>grind
   grind
  grind
def Yn (hR:ac F β N H w){id b:Nat}{cs:List SC}(hb:H id=some (.dV cs))(xm:β id=some b):dq (MV F β H w) (MR F β H w) (.pointer (some ⟨b,0,none⟩)) (.ref cs):=by
 obtain⟨_,b',arr,T,h1,h2,h3,h4,h5⟩:=hR.rel id _ hb;rw[xm]at h1;cases h1;refine .ref b 0 (λk=>arr.getD k undef) (λk hk=>?_) h5;rw[jZ];unfold MR;rw[if_pos h2,qR h2 (tg hR (o5.refl H) hb xm k)]
 grind[gd]
def L1 (hG:bE C F)(hR:ac F β N H w){E:EF}{a:Act}(hE:dD F β N H w E a){f:FuncId}{first bI:Array Operand}
  (h:cE C f (first.toList.map (C.ev E)) (bI.toList.map (C.ev E)) H K):
  ∃v,(Instr.makeFunc (.func f) (first.map a.eval) (bI.map a.eval)).run P w= .ok v w/\bh F β N H fid K w v w:=by
 unfold cE at h;split at h
 ·rename_i fs u1 r1 h1;split at h
  ·rename_i cs u2 r2 h2;obtain⟨p1,p2,p3⟩:=Hd h1;obtain⟨q1,q2,q3⟩:=xW h2;have hg:ii C H (u1++u2):=(ii.kj p1).append q1;have hH:=hg.heap hR
   have l7: ∀ {ue:Hp} {ks:List Bool} {ds:List DC} {l:List SC} {re:List Nat},bS H ks ds=some (l,ue,re)->(∀q∈ue,q∈u1++u2)->∀p∈ue,∃z c,p.2=some (.row false z c)/\(Hp.on (u1++u2) H) p.1=some (.row false z c):=
    λhs hq p hp=>hg.frozen (hq p hp) (cJ hs p hp)
   refine⟨_,rfl,bh.still hR hg h (b8.bf (cI ?_))⟩
   have uE: ∀(j:Nat) (g:Bool) (c:List SC),fs[j]? =some (g,c)->eo (MV F β (Hp.on (u1++u2) H) w) (MR F β (Hp.on (u1++u2) H) w) ((first.map a.eval).getD j undef) (g,c):=by
    intro j g c hj;obtain⟨x,ue,re,e1,e2,e3,e4⟩:=p3 j g c hj;simp at e1;obtain⟨o,ho,oX⟩:=e1;have hx:aq F β N H w (a.eval o) x:=mC hG hR hE oX;have iP:(first.map a.eval).getD j undef=a.eval o:=by simp_all
    rw[iP];have hq: ∀q∈ue,q∈u1++u2:=λq hq=>gC.2 (.inl (e4 q hq));obtain⟨xg,xc⟩:=x;simp at e2;subst e2;cases xg
    ·obtain⟨d,hd,IK⟩:=hx;simp at hd;subst hd;have hl:=iu e3;obtain⟨c0,rfl⟩: ∃c0,c= [c0]:=wA.1 K0;refine⟨c0,rfl,?_⟩
     exact iy hR hg.soft (f:=λ_=>a.eval o) (λk d' hk=>by
      grind) e3 (l7 e3 hq) 0 c0 rfl
    ·obtain⟨arr,h3,h4,h5⟩:=hx;refine⟨arr,h3,by grind[iu],?_⟩;exact iy hR hg.soft (f:=λk=>arr.getD k undef) h5 e3 (l7 e3 hq)
   refine .fn _ _ (λj=>match(first.map a.eval).getD j undef with| .agg arr=>arr|_=> #[]) br br (λj c hj=>?_) (λj c hj=>?_) (λj c hj=>?_) (λj c k x hj hk=>?_) (λj c hj=>?_)
   ·exact akr
   ·exact akr
   ·obtain⟨arr,h3,h4,_⟩:=uE j _ _ hj
    grind
   ·obtain⟨arr,h3,h4,h5⟩:=uE j _ _ hj
    grind
   ·obtain⟨d,e1,e2⟩:=q3 j c hj;simp at e1;obtain⟨o,ho,oX⟩:=e1;have iP:(bI.map a.eval).getD j undef=a.eval o:=by simp_all
    rw[iP];rcases e2 with⟨id,rfl,e2⟩|rfl
    ·have hx:aq F β N H w (a.eval o) _:=mC hG hR hE oX;obtain⟨hn,b,jq,hp⟩:=hx.am;rw[hp];refine Yn hH ?_ jq;rcases e2 with e2|⟨e2,t,ds,ue,re,e3,e4,e5⟩
     ·rcases hg.soft id with h|⟨_,_,_,h,_⟩|⟨_,_,_,h,_⟩
      grind
      grind
      grind
     ·exact hg.aft (gC.2 (.inr e2)) e3 e4
    ·have hx:aq F β N H w (a.eval o) _:=mC hG hR hE oX;exact dq.mono (o5.tr (N:=N) hg.soft).mv (o5.tr (N:=N) hg.soft).mr hx.am
  grind
 grind
end
section
variable {C:bQ}{F:gN}{β:Nat->Option Nat}{N:Nat->Prop}{H:HF}{fid:Nat}{K:j0}{w w':World}{P:Program}
def vT (hG:bE C F)(hR:ac F β N H w):(MR F β H w).le (rd w):=by grind[IZ]
theorem A1 {k:Bool}{d:DC}{c:SC}{u:Hp}{r:List Nat}(h:mZ C H k d=some (c,u,r)): ∀p∈u,me H p:=by
 cases d with
 |ptr id off=>
  grind[mZ,cJ]
 |st c'=>exact nv (d:=.st c') (k:=k) h
 |nil=>exact nv (d:=.nil) (k:=k) h
 |own id=>exact nv (d:=.own id) (k:=k) h
 |cF id z i off=>
  grind[mZ,cJ]
 |sv g id=>grind[mZ,bv]
 |mp id=>grind[mZ,bv]
def p8 {cs:List SC}{b off:Nat}{mv:Mem}{arr:Array Value}{T:TypeId}(h3:w.heap[b]? =some (.cells arr T))(h4:arr.size=cs.length)(h5: ∀(k:Nat) (x:SC),cs[k]? =some x->dq mv (rd w) (arr.getD k undef) x):
  dq mv (rd w) (.pointer (some ⟨b,off,none⟩)) (.ref (cs.drop off)):=by
 refine .ref b off (λk=>arr.getD (off+k) undef) (λk hk=>gd h3 br) (λk x hx=>?_)
 grind
def xX {cs:List SC}{b o off:Nat}{mv:Mem}{arr:Array Value}{T:TypeId}(h3:w.heap[b]? =some (.cells arr T))(h4:o+cs.length<=arr.size)(h5: ∀(k:Nat) (x:SC),cs[k]? =some x->dq mv (rd w) (arr.getD (o+k) undef) x):
  dq mv (rd w) (.pointer (some ⟨b,o+off,none⟩)) (.ref (cs.drop off)):=by
 refine .ref b (o+off) (λk=>arr.getD (o+off+k) undef) (λk hk=>gd h3 br) (λk x hx=>?_)
 grind
theorem L2 (hG:bE C F)(hR:ac F β N H w){u0:Hp}(hg:ii C H u0){v:Value}{k:Bool}{d:DC}{c:SC}{u:Hp}{r:List Nat}(hd:cd F β N H w v d)(h:mZ C H k d=some (c,u,r))(hu: ∀p∈u,p∈u0):
  dq (MV F β (u0.on H) w) (rd w) v c:=by
 have hH:=hg.heap hR;have l7: ∀p∈u,∃z c,p.2=some (.row false z c)/\(u0.on H) p.1=some (.row false z c):=λp hp=>hg.frozen (hu p hp) (A1 h p hp);have base:bv H k d=some (c,u,r)->dq (MV F β (u0.on H) w) (rd w) v c:=λh1=>(G8 hR hg.soft hd h1 l7).mono (Mem.le_refl _) (vT hG hH)
 cases d with
 |ptr id off=>
  obtain⟨hn,b,jq,rfl⟩:=hd;simp only[mZ]at h;split at h
  ·rename_i cs hb;simp at h;obtain⟨rfl,_,_⟩:=h;obtain⟨_,b',arr,T,h1,h2,h3,h4,h5⟩:=hR.rel id _ hb;rw[jq]at h1;cases h1;exact p8 h3 h4 λk x hx=>(h5 k x hx).mono (o5.tr (N:=N) hg.soft).mv (Mem.le_trans (vT hG hR) (Mem.le_refl _))
  ·rename_i t cs hb;split at h
   ·rename_i l u1 r1 hs;simp at h;obtain⟨rfl,rfl,_⟩:=h;obtain⟨_,b',arr,T,h1,h2,h3,h4,h5⟩:=hR.rel id _ hb;rw[jq]at h1;cases h1;have:=iy hR hg.soft (f:=λk=>arr.getD k undef) h5 hs l7;exact p8 h3 (by grind[iu]) λk x hx=>(this k x hx).mono (Mem.le_refl _) (vT hG hH)
   grind
  grind
 |st c'=>exact base h
 |nil=>exact base h
 |own id=>exact base h
 |sv g id=>exact base h
 |mp id=>exact base h
 |cF id z i off=>
  obtain⟨hn,b,jq,rfl⟩:=hd;simp only[mZ]at h;split at h
  ·rename_i z' l hb;split at h
   ·rename_i e pV iE;have pV:=o8 pV;subst pV;split at h
    ·rename_i cs u1 r1 hs;simp at h;obtain⟨rfl,rfl,_⟩:=h;obtain⟨_,⟨hz,hl⟩,q|⟨b',cap,arr,T,q1,q2,q3,q4,q5,q6⟩⟩:=hR.rel id _ hb
     grind
     ·rw[jq]at q1;cases q1;have bB:=hl i e iE;have hi:i<l.length:=(kl.1 iE).1;have:=iy hR hg.soft (f:=λk=>arr.getD (i*z+k) undef) (λk d hk=>q6 i e k d iE hk) hs l7;refine xX q3 ?_ λk x hx=>(this k x hx).mono (Mem.le_refl _) (vT hG hH);rw[iu hs,bB,q4];have:(i+1)*z<=cap*z:=kC _ K0
      grind
    grind
   grind
  ·rename_i m z' c0 hb;split at h
   ·rename_i e pV iE;have pV:=o8 pV;subst pV;simp at h;obtain⟨rfl,_,_⟩:=h;obtain⟨_,⟨hz,hv,hl⟩,q|⟨b',cap,q1,q2,arr,T,q3,q4,q5,q6,q7,q8,q9⟩⟩:=hR.rel id _ hb
    grind
    ·rw[jq]at q1;cases q1;have bB:=hl i e iE;have hi:=SC.ip iE;refine xX q3 ?_ λk x hx=>(q9 i e k x iE hx).mono (o5.tr (N:=N) hg.soft).mv (dX _);rw[bB,q4];have:(i+1)*z<=cap*z:=kC _ K0
     grind
   grind
  grind
theorem Dc: ∀ {ks:List Bool} {ds:List DC} {l:List SC} {u:Hp} {r:List Nat},oq C H ks ds=some (l,u,r)->(∀p∈u,me H p)/\l.length=ds.length/\
  ∀(k:Nat) (c:SC),l[k]? =some c->∃d kb ue re,ds[k]? =some d/\mZ C H kb d=some (c,ue,re)/\∀q∈ue,q∈u
 |ks,[],l,u,r,h=>by grind[oq]
 |ks,d::ds,l,u,r,h=>by
  simp only[oq]at h;split at h
  ·rename_i c u1 r1 h1;split at h
   ·rename_i cs u2 r2 h2;simp at h;obtain⟨rfl,rfl,_⟩:=h;obtain⟨q1,q2,q3⟩:=Dc h2
    grind[A1]
   grind
  grind
theorem xY: ∀ {ts:List TypeId} {xs:List DX} {l:List SV} {u:Hp} {r:List Nat},o9 C H ts xs=some (l,u,r)->(∀p∈u,me H p)/\l.length=xs.length/\
  ∀(k:Nat) (g:Bool) (cs:List SC),l[k]? =some (g,cs)->∃x ks ue re,xs[k]? =some x/\x.1=g/\oq C H ks x.2=some (cs,ue,re)/\∀q∈ue,q∈u
 |ts,[],l,u,r,h=>by grind[o9]
 |ts,x::xs,l,u,r,h=>by
  simp only[o9]at h;split at h
  ·rename_i c u1 r1 h1;split at h
   ·rename_i cs u2 r2 h2;simp at h;obtain⟨rfl,rfl,_⟩:=h;obtain⟨q1,q2,q3⟩:=xY h2;obtain⟨p1,_,_⟩:=Dc h1
    grind
   grind
  grind
theorem He (hG:bE C F)(hR:ac F β N H w){u0:Hp}(hg:ii C H u0){v:Value}{x:DX}{ks:List Bool}{cs:List SC}{u:Hp}{r:List Nat}(hx:aq F β N H w v x)(h:oq C H ks x.2=some (cs,u,r))(hu: ∀p∈u,p∈u0):
  eo (MV F β (u0.on H) w) (rd w) v (x.1,cs):=by
 obtain⟨q1,q2,q3⟩:=Dc h;obtain⟨g,ds⟩:=x;cases g
 ·obtain⟨d,hd,IK⟩:=hx;simp at hd;subst hd;obtain⟨c0,rfl⟩: ∃c0,cs= [c0]:=wA.1 K0;obtain⟨d',kb,ue,re,a1,a2,a3⟩:=q3 0 c0 rfl;simp at a1;subst a1;exact⟨c0,rfl,L2 hG hR hg IK a2 λq hq=>hu q (a3 q hq)⟩
 ·obtain⟨arr,h3,h4,h5⟩:=hx;refine⟨arr,h3,by grind,λk c hk=>?_⟩
  grind[L2]
theorem xZ: ∀ {ds:List (Option DV)} {xs:List DX},IY ds=some xs->xs.length=ds.length/\∀(k:Nat) (x:DX),xs[k]? =some x->ds[k]? =some (some (.val x))
 | [],xs,h=>by grind[IY]
 |d::ds,xs,h=>by
  unfold IY at h;split at h
  grind
  ·rename_i x r vO;cases vO;split at h
   ·rename_i l hl;simp at h;subst h;obtain⟨h1,h2⟩:=xZ hl
    grind
   grind
  grind
def o4.append {mv mr:Mem}{a b:Array Value}{x y:List SV}(h:o4 mv mr a x)(k:o4 mv mr b y):o4 mv mr (a++b) (x++y):=by
 refine⟨by simp[h.1,k.1],λj z hz=>?_⟩;by_cases hj:j<x.length
 ·rw[Uw hj]at hz;rw[bL (b:=a) (l:=j) (by rw[Xv (by rw[h.1];exact hj)])];exact h.2 j z hz
 ·rw[Xw K0]at hz;rw[bL (b:=b) (l:=j -x.length) (by rw[XA (by rw[h.1];omega),h.1])];exact k.2 _ z hz
def eP.later (hG:bE C F)(hR:ac F β N H w):eP C.gl (rd w):=by
 intro g cs hm;obtain⟨h0,h9⟩:=hG.ok g cs hm;refine⟨λk x hx=>?_,λfO=>?_⟩
 ·obtain⟨v,h1,h2⟩:=h0 k x hx;exact⟨v,hR.below.rd (th h1 (hG.Ut g cs hm (Nat.lt_of_le_of_lt (dC _) (kl.1 hx).1))) h1,h2⟩
 ·obtain⟨v,h1,_⟩:=h0 0 cs[0] br;have e:rd w g cs.length=rd F.w0 g cs.length:=Po (w:=F.w0) (a:=⟨g,cs.length,none⟩) (hR.below.block g (IS _ _ h1) (th h1 (hG.Ut g cs hm fO)))
  grind
def Yo (hR:ac F β N H w)(hw:Below w.heap.size w w'):(dT (MV F β H w) w.heap.size w').le (MV F β H w'):=by
 intro b o v h;unfold dT at h;split at h
 ·rename_i hb;have FA:F.dz b:=gN.gG (o3 hR.below.size hb);rw[qR FA];omega
  ·intro id bz e jq;have:=(hR.gb e jq).1;omega
 ·exact(Tr.grow hR hw).mv b o v h
theorem eo.dyn {x:SV}{v:Value}(h:eo (MV F β H w) (MR F β H w) v x):aq F β N H w v (dyn x):=by
 obtain⟨g,cs⟩:=x;cases g
 ·obtain⟨c,hc,hr⟩:=h;simp at hc;subst hc;exact⟨.st c,rfl,hr⟩
 ·obtain⟨arr,h1,h2,h3⟩:=h;refine⟨arr,h1,by grind[Fw.dyn],λk c hk=>?_⟩;simp only[Fw.dyn,gr]at hk
  cases hc:cs[k]? with
  |none=>grind
  |some x=>simp[hc]at hk;subst hk;exact h3 k x hc
theorem tp: ∀ {ks:List Bool} {ds:List DC} {l:List SC} {u:Hp},bS H ks ds=some (l,u,[])->u= []
 |_,[],_,_,h=>by grind[bS]
 |ks,d::ds,l,u,h=>by
  simp only[bS]at h;split at h
  ·rename_i c u1 r1 h1;split at h
   ·rename_i cs u2 r2 h2;simp only[lK,gt,List.append_eq_nil_iff]at h;obtain⟨_,rfl,rfl,rfl⟩:=h;rw[tp h2,zP]
    cases d with
    |own id=>
     grind[bv]
    |st=>grind[bv]
    |nil=>grind[bv]
    |ptr=>grind[bv]
    |cF=>grind[bv]
    |sv=>grind[bv]
    |mp=>grind[bv]
   grind
  grind
theorem Yp {k:Bool}{d:DC}{c c0:SC}{id iO z0:Nat}(h:mZ C H k d=some (c,[(id,some (.row false z0 c0))],[iO])):d= .own id/\H id=some (.row true z0 c0)/\c=c0:=by
 cases d with
 |st=>grind[mZ,bv]
 |nil=>grind[mZ,bv]
 |sv=>grind[mZ,bv]
 |mp=>grind[mZ,bv]
 |cF=>
  grind[mZ,tp]
 |own i=>
  simp only[mZ,bv]at h
  grind
 |ptr i off=>
  grind[mZ,tp]
theorem Yq (hG:bE C F)(hR:ac F β N H w)(hf: ¬N fid){E:EF}{a:Act}(hE:dD F β N H w E a){o:Oper}{c:Call}{fo:Operand}(ho:o.op= .call c)(hc:c.callee= .value fo){Q:Exit->Act->World->Prop}
  {f:FuncId}{first:List SV}{bI:List (List SC)}{xs:List DX}{l:List SV}{u:Hp}{rs:List Nat}{r:mb}{RQ:List TypeId}(KS:C.ev E fo=some (.val (false,[.st (.fn f first bI)])))(FO:IY (c.args.toList.map (C.ev E))=some xs)
  (eG:o9 C H RQ xs=some (l,u,rs))(iX:akB C.P f (first++l++bI.map λcs=>(false,[.ref cs])) r)(hK:jb fid u rs K r):
  o.wp C.P a w (λa' w'=>∃v,a'=a.put o.dst v/\bh F β N H fid K w v w') Q:=by
 cases r with
 |one=>exact iX.elim
 |aJ=>exact iX.elim
 |own=>exact iX.elim
 |mix=>exact iX.elim
 |uK z c'=>
 obtain⟨c0,dG,Xh,Pf,bB,uG,B8,gD⟩:=iX;simp only[jb]at hK;split at hK;case h_2=>grind
 rename_i id z0 c1 iO;split at hK;case h_2=>grind
 rename_i jq;obtain⟨xz,hb2⟩:=aG jq;have xz:=o8 xz;have hb2:=o8 hb2;subst xz hb2;obtain⟨q1,q2,q3⟩:=xY eG;obtain⟨v1,v2⟩:=xZ FO
 cases xs with
 |nil=>grind[o9]
 |cons x xs=>
 simp only[o9]at eG;split at eG;case h_2=>grind
 rename_i cc u1 r1 h1;split at eG;case h_2=>grind
 rename_i cs u2 r2 h2;simp only[lK,gt]at eG;obtain⟨rfl,hu,hr⟩:=eG;have hl:=aP List.length dG;simp only[xI,kD,ja,zQ]at hl;obtain rfl:first= []:=CG.1 K0
 obtain rfl:bI= []:=CG.1 K0;obtain rfl:cs= []:=CG.1 K0;obtain rfl:xs= []:=by grind
 simp[o9]at h2;obtain⟨rfl,rfl⟩:=h2;simp only[zP]at hu hr;subst hu hr;simp at dG;obtain⟨g,ds⟩:=x;simp only at dG h1;obtain⟨rfl,rfl⟩:=dG
 have hds: ∃d k,ds= [d]/\mZ C H k d=some (c0,[(id,some (.row false z c1))],[id]):=by
  cases ds with
  |nil=>grind[oq]
  |cons d ds=>
   simp only[oq]at h1;split at h1;case h_2=>cases h1
   rename_i ca ua ra ha;split at h1;case h_2=>cases h1
   rename_i cb ub rb hb;simp only[lK,gt,BI]at h1;obtain⟨⟨rfl,rfl⟩,e1,e2⟩:=h1
   cases ds with
   |nil=>
    grind[oq]
   |cons d' ds=>
    grind[oq]
 obtain⟨d,k,rfl,hs⟩:=hds;obtain⟨rfl,hid,rfl⟩:=Yp hs;have l7:aq F β N H w (a.eval fo) _:=mC hG hR hE KS;have GN:dq (MV F β H w) (MR F β H w) (a.eval fo) (.fn f [] []):=l7.am;have Fz:a.eval fo= .func (.func f) #[] #[]:=aim;have hd:=v2 0 _ rfl;simp at hd;obtain⟨oo,ho1,ho2⟩:=hd;have sP:c.args.map a.eval= #[a.eval oo]:=by grind
 have jo:cd F β N H w (a.eval oo) (.own id):=(mC hG hR hE ho2).am
 have bC:(execOp a.eval o).run C.P w= .ok (.enter f #[a.eval oo]) w:=by
  unfold iG at Xh;split at Xh
  ·rename_i fn GN;obtain⟨FN,mV⟩:=aG Xh;obtain⟨body,mV⟩:=qJ.1 mV;have xl:(fn.name=="runtime.NumGoroutine")=false:=by grind
   simp only[execOp,ho,resolve,hc,Fz,Deferred.ofValue,eJ,lL,mw,invoke,callFunc,AO,GN,xl,mV,Ss,sU,kJ,sP];simp
  grind
 unfold Oper.wp;rw[bC];obtain⟨hn,⟨hz,hv0,sq⟩,abm⟩:=hR.rel id _ hid;have W8:id≠fid:=λe=>hf (e▸hn)
 rcases jo.2.2 _ _ _ hid rfl with⟨b0,b1,b2⟩|⟨b,cap,arr,T,b0,b1,b2,b3⟩
 ·show Calls C.P f #[a.eval oo] w _;rw[b2];refine(B8 b1 w).mono λe w1 he=>?_;obtain⟨rfl,sQ⟩:=he;refine⟨_,rfl,?_⟩;have tG:=Tr.grow hR sQ;have xA:=hR.grow sQ;have live: ∀ {k:Nat} {b0:co},k≠id->bn H id (some (.row true z c')) k=some b0->H k=some b0:=λhk h=>by grind[aH]
  have t2:Tr F β N H w1 β N (bn H id (some (.row true z c'))) w1:=by
   refine⟨jv.refl _ _,λbb o v _ hs e=>⟨λiO bz e' hb=>?_,e⟩,λ_ h=>h,λ_ _=>rfl,λiO bz _ e=>?_,λ_ _ _ _ arr _ _ _ _ _ _ h=>⟨arr,h,rfl⟩,λ_ _ h=>h⟩
   ·by_cases h:iO=id
    grind
    ·exact hs iO bz (live h e') hb
   ·by_cases h:iO=id
    ·subst h;rw[an]at e;cases e;exact⟨_,hid,rfl,by omega⟩
    ·exact⟨bz,live h e,bz.fV⟩
  have hN:ac F β N (bn H id (some (.row true z c'))) w1:=by
   refine xA.step t2 (λi=>i=id) (λi bz hi e=>⟨live hi e,(xA.rel i bz (live hi e)).1,λ_ _=>rfl⟩) (λi bz hi e=>?_) (λi j bb x y hi hj bi bj=>?_)
   ·subst hi;rw[an]at e;cases e;exact⟨hn,⟨hz,Pf,uG⟩,.inl ⟨b0,by omega⟩⟩
   ·by_cases h1:i=id
    grind
    ·by_cases h2:j=id
     grind
     ·exact xA.inj i j bb x y (live h1 hi) (live h2 hj) bi bj
  exact ajd
 ·have hbl:=hR.rel id _ hid
  rcases abm with⟨h3,_⟩|⟨b',jD,p1,p2,arr',T',r1,r2,r3,r4,r5,r6,r7⟩
  ·grind
  rw[b0]at p1;cases p1;rw[b2]at r1;cases r1;have gc:cap=jD:=Uu hz K0;subst gc;show Calls C.P f #[a.eval oo] w _;rw[b1];refine(gD (MV F β H w) w b cap arr T b2 b3 r5 r7).mono λe w' he=>?_;obtain⟨rfl,w1,aef,sQ,rfl,hs2,amK⟩:=he;refine⟨_,rfl,?_⟩;have tG:=Tr.grow hR sQ;have xA:=hR.grow sQ
  have xz:w1.heap[b]? =some (.cells arr T):=by
   rw[<- b2];exact sQ.block _ (hR.gb hid b0).1
  have vt:(co.row true z c0).zM (.row true z c'):=⟨rfl,by omega⟩;have eG: ∀o,(co.row true z c0).sS o->(co.row true z c').sS o/\aef[o]? =arr[o]? :=λo h=>by cases h.1
  have t2:=Tr.write (N:=N) xA hid b0 xz hs2 vt eG;have hN:=ac.write (N:=N) xA hid b0 xz hs2 vt eG ⟨⟨hz,Pf,uG⟩,.inr ⟨b,cap,b0,p2,aef,T,xK w1 b arr aef T (0,0) xz,by omega,hz,Pf,by omega,uG,λi e j x he hx=>(amK i e j x he hx).mono (tG.trans t2).mv (Mem.le_refl _)⟩⟩;exact ajd
theorem L3 {mv mr mv' CB:Mem}{v:Value}{x:SV}(hl:xO x.2=true)(h:eo mv mr v x):eo mv' CB v x:=by
 have cell: ∀ {cs:List SC} {k:Nat} {c:SC} {v:Value},xO cs=true->cs[k]? =some c->dq mv mr v c->dq mv' CB v c:=by
  intro cs
  induction cs with
  |nil=>grind
  |cons d cs ih=>
   intro k c v hl hk hr
   cases d with
   |lit z=>
    cases k with
    |zero=>
     simp at hk;subst hk
     cases hr with
     |lit h=>exact .lit h
     |empty a cap hv=>grind[SC.ao]
     |view _ _ _ _ _ hv=>grind[SC.ao]
    |succ k=>grind[xO]
   |_=>grind[xO]
 unfold eo at*;split
 grind
 ·rename_i hx;rw[if_neg hx]at h;obtain⟨c,h1,h2⟩:=h;exact⟨c,h1,cell (k:=0) hl br h2⟩
theorem Hf: ∀ {l:List SV} {k:Nat} {x:SV},LV l=true->l[k]? =some x->xO x.2=true
 | [],k,x,_,hk=>by grind
 |y::l,k,x,h,hk=>by
  unfold LV at h;split at h
  ·cases k with
   |zero=>grind
   |succ k=>exact Hf h (by simpa using hk)
  grind
theorem Dd (hR:ac F β N H w)(hf: ¬N fid){u:Hp}{rs:List Nat}{r:mb}{v:Value}{w1:World}(hg:ii C H u)(sQ:Below w.heap.size w w1)(lC:qL (MV F β (u.on H) w) w.heap.size w1 v r)(hK:jb fid u rs K r):
  bh F β N H fid K w v w1:=by
 have hH:=hg.heap hR;have tS:Tr F β N H w β N (u.on H) w:=hg.soft.tr;have tG:=Tr.grow hH sQ;have xA:=hH.grow sQ;have eu:=Yo hH sQ
 cases r with
 |one x=>
  simp only[jb]at hK
  cases hl:xO x.2 with
  |true=>
   rw[hl]at hK;exact⟨β,_,_,_,hK,(Tr.grow hR sQ).bf,(hR.grow sQ).bf,b8.bf (eo.dyn (L3 hl lC))⟩
  |false=>
  rw[hl]at hK;refine⟨β,_,_,_,hK,(tS.trans tG).bf,xA.bf,b8.bf ?_⟩;exact eo.dyn (lC.mono eu (dX _))
 |aJ lr=>
  obtain⟨arr,rfl,h2,h3⟩:=lC;simp only[jb]at hK
  cases hl:LV lr with
  |true=>
   rw[hl]at hK;refine⟨β,_,_,_,hK,(Tr.grow hR sQ).bf,(hR.grow sQ).bf,b8.bf ⟨arr,rfl,by grind,λk x hx=>?_⟩⟩
   grind[eo.dyn,L3,Hf]
  |false=>
  rw[hl]at hK;refine⟨β,_,_,_,hK,(tS.trans tG).bf,xA.bf,b8.bf ⟨arr,rfl,by grind,λk x hx=>?_⟩⟩;rw[gr]at hx
  cases hy:lr[k]? with
  |none=>grind
  |some y=>
   rw[hy]at hx;cases hx;exact eo.dyn ((h3 k _ hy).mono eu (dX _))
 |own z c=>
  rcases lC with⟨rfl,h0,hv,hz,hl⟩|⟨b,cap,rfl,hb,arr,T,r1,r2,r3,r4,r5,r6,r7⟩
  ·have t2:=Tr.new xA (Below.refl _ _) hf none (by simp) (.row true z c);have hN:=ac.new xA (Below.refl _ _) hf none (by simp) (.row true z c) ⟨⟨hz,hv,hl⟩,.inl ⟨by simp[cR],h0⟩⟩;refine⟨_,_,_,_,hK,(tS.trans tG).trans t2,hN,cI ⟨.inr rfl,rfl,λnL z' n' hb wx=>?_⟩⟩;rw[Hp.on,an]at hb;cases hb;cases wx;exact .inl ⟨by simp[cR],h0,rfl⟩
  ·have jq: ∀x,some b=some x->w.heap.size<=x:=λx hx=>by grind
   have t2:=Tr.new hH sQ hf (some b) jq (.row true z c);have ael:((dT (MV F β (u.on H) w) w.heap.size w1).but b).le (MV F (cR β fid (some b)) (bn (u.on H) fid (some (.row true z c))) w1):=K56;have hN:=ac.new hH sQ hf (some b) jq (.row true z c) ⟨⟨r3,r4,r6⟩,.inr ⟨b,cap,by simp[cR],gN.gG (o3 hH.below.size hb),arr,T,r1,r2,r3,r4,r5,r6,λi e j x he hx=>(r7 i e j x he hx).mono ael (Mem.le_refl _)⟩⟩;refine⟨_,_,_,_,hK,tS.trans t2,hN,cI ⟨.inr rfl,rfl,λnL z' n' jS wx=>?_⟩⟩;rw[Hp.on,an]at jS;cases jS;cases wx;exact ajU
 |uK z c=>exact lC.elim
 |mix t lr z c=>
  obtain⟨vo,m,hvo,lC⟩:=lC
  have key: ∃cL,Tr F β N H w cL (bf N fid) (bn (u.on H) fid (some (.row true z c))) w1/\ac F cL (bf N fid) (bn (u.on H) fid (some (.row true z c))) w1/\
    cd F cL (bf N fid) (bn (u.on H) fid (some (.row true z c))) w1 vo (.own fid)/\m.le (MV F cL (bn (u.on H) fid (some (.row true z c))) w1):=by
   rcases hvo with⟨rfl,h0,hv,hz,hl,rfl⟩|⟨b,cap,rfl,hb,⟨arr,T,r1,r2,r3,r4,r5,r6,r7⟩,rfl⟩
   ·have t2:=Tr.new xA (Below.refl _ _) hf none (by simp) (.row true z c);have hN:=ac.new xA (Below.refl _ _) hf none (by simp) (.row true z c) ⟨⟨hz,hv,hl⟩,.inl ⟨by simp[cR],h0⟩⟩;refine⟨_,(tS.trans tG).trans t2,hN,⟨.inr rfl,rfl,λnL z' n' hb wx=>?_⟩,Mem.le_trans eu t2.mv⟩;exact aji
   ·have jq: ∀x,some b=some x->w.heap.size<=x:=λx hx=>by grind
    have t2:=Tr.new hH sQ hf (some b) jq (.row true z c);have ael:((dT (MV F β (u.on H) w) w.heap.size w1).but b).le (MV F (cR β fid (some b)) (bn (u.on H) fid (some (.row true z c))) w1):=K56;have hN:=ac.new hH sQ hf (some b) jq (.row true z c) ⟨⟨r3,r4,r6⟩,.inr ⟨b,cap,by simp[cR],gN.gG (o3 hH.below.size hb),arr,T,r1,r2,r3,r4,r5,r6,λi e j x he hx=>(r7 i e j x he hx).mono ael (Mem.le_refl _)⟩⟩;refine⟨_,tS.trans t2,hN,⟨.inr rfl,rfl,λnL z' n' jS wx=>?_⟩,ael⟩;rw[an]at jS;cases jS;cases wx;exact ajU
  obtain⟨cL,ht,hN,jo,hm⟩:=key
  have afo: ∀ {v:Value} {x:Bool × List (Option SC)},BJ m vo v x->aq F cL (bf N fid) (bn (u.on H) fid (some (.row true z c))) w1 v (LU fid x):=by
   rintro v ⟨g,cs⟩ hx
   have IJ: ∀ {v:Value} {o:Option SC},Py m vo v o->cd F cL (bf N fid) (bn (u.on H) fid (some (.row true z c))) w1 v (aez fid o):=by
    intro v o hc
    cases o with
    |none=>have hc:v=vo:=hc;rw[hc];exact jo
    |some c=>exact dq.mono hm (dX _) hc
   cases g
   ·obtain⟨c,hc,hr⟩:=hx;simp at hc;subst hc;exact⟨_,rfl,IJ hr⟩
   ·obtain⟨arr,h1,h2,h3⟩:=hx;refine⟨arr,h1,by grind[LU],λk c hk=>?_⟩
    grind[LU]
  cases t
  ·obtain⟨x,rfl,hx⟩:=lC;exact⟨cL,_,_,_,hK,ht,hN,afo hx⟩
  ·obtain⟨arr,rfl,h2,h3⟩:=lC;refine⟨cL,_,_,_,hK,ht,hN,⟨arr,rfl,by grind,λk x hx=>?_⟩⟩;rw[gr]at hx
   cases hy:lr[k]? with
   |none=>grind
   |some y=>rw[hy]at hx;cases hx;exact afo (h3 k _ hy)
theorem I7: ∀ {xs:List DX},okN xs=true->∀(k:Nat) (x:DX),xs[k]? =some x->(∃s,x=(false,[.st s]))\/x=(false,[.nil])
 | [],_,k,x,hk=>by grind
 |y::xs,h,k,x,hk=>by
  unfold okN at h;split at h
  grind
  ·rename_i s l hy;cases hy
   cases k with
   |zero=>grind
   |succ k=>exact I7 h k x br
  ·rename_i l hy;cases hy
   cases k with
   |zero=>grind
   |succ k=>exact I7 h k x br
  grind
theorem Yr (hG:bE C F)(hR:ac F β N H w)(hf: ¬N fid){E:EF}{a:Act}(hE:dD F β N H w E a){o:Oper}{c:Call}{fo:Operand}(ho:o.op= .call c)(hc:c.callee= .value fo){Q:Exit->Act->World->Prop}
  {f:FuncId}{first:List SV}{bI:List (List SC)}{xs:List DX}(KS:C.ev E fo=some (.val (false,[.st (.fn f first bI)])))(FO:IY (c.args.toList.map (C.ev E))=some xs)
  (h:wJ C fid f first bI xs K):
  o.wp C.P a w (λa' w'=>∃v,a'=a.put o.dst v/\bh F β N H fid K w v w') Q:=by
 unfold wJ at h;split at h;case h_2=>grind
 rename_i fB;obtain⟨r,iX,hK⟩:=h;have l7:aq F β N H w (a.eval fo) _:=mC hG hR hE KS;have GN:dq (MV F β H w) (MR F β H w) (a.eval fo) (.fn f [] []):=l7.am;have Fz:a.eval fo= .func (.func f) #[] #[]:=aim;obtain⟨v1,v2⟩:=xZ FO;have hg:ii C H []:=ii.kj (λp hp=>by cases hp);have wz:(MV F β H w).le (rd w):=λb o v h=>xU hG hR h
 have bC:(execOp a.eval o).run C.P w= .ok (.enter f (c.args.map a.eval)) w:=by
  have Xh:=iX.1;unfold iG at Xh;split at Xh
  ·rename_i fn GN;obtain⟨FN,mV⟩:=aG Xh;obtain⟨body,mV⟩:=qJ.1 mV;have xl:(fn.name=="runtime.NumGoroutine")=false:=by grind
   simp only[execOp,ho,resolve,hc,Fz,Deferred.ofValue,eJ,lL,mw,invoke,callFunc,AO,GN,xl,mV,Ss,sU,kJ];simp
  grind
 unfold Oper.wp;rw[bC]
 have dG: ∀k x,xs[k]? =some x->∃d,x=(false,[d])/\akD (MV F β H w) (rd w) ((c.args.map a.eval).getD k undef) d:=by
  intro k x hx;have hd:=v2 k x hx;simp at hd;obtain⟨oo,ho1,ho2⟩:=hd;have iP:(c.args.map a.eval).getD k undef=a.eval oo:=by simp_all
  have hX:aq F β N H w (a.eval oo) x:=mC hG hR hE ho2;rw[iP];rcases I7 fB k x hx with⟨s,rfl⟩|rfl
  ·exact⟨_,rfl,dq.mono (Mem.le_refl _) (vT hG hR) hX.am⟩
  ·exact⟨_,rfl,hX.am⟩
 refine(iX.2 _ w (c.args.map a.eval) wz (eP.later hG hR) br dG).mono λe w1 he=>?_;obtain⟨v,rfl,sQ,lC⟩:=he;exact⟨v,rfl,Dd (u:=[]) hR hf hg sQ lC hK⟩
theorem De {mv mr:Mem}{vf:Value}{f:FuncId}{first:List SV}{bI:List (List SC)}(GN:dq mv mr vf (.fn f first bI)):
  ∃fv cv,vf= .func (.func f) fv cv/\o4 mv mr fv first/\o4 mv mr cv (bI.map λcs=>(false,[.ref cs])):=by
 cases GN with
 |empty a cap hv=>grind[SC.ao]
 |view _ _ _ _ _ hv=>grind[SC.ao]
 |fn fv cv ga h1 h2 hf1 hf0 hf2 hf3 Xc=>
  refine⟨fv,cv,rfl,⟨h1,λk x hx=>?_⟩,⟨by grind,λk x hx=>?_⟩⟩
  ·obtain⟨g,cs⟩:=x;cases g
   ·obtain⟨c0,rfl⟩:=hf0 k cs hx;exact⟨c0,rfl,hf1 k c0 hx⟩
   ·obtain⟨e1,e2⟩:=hf2 k cs hx;exact⟨ga k,e1,e2,λj y hy=>hf3 k cs j y hx hy⟩
  ·simp at hx;obtain⟨cs,Uf,rfl⟩:=hx;exact⟨_,rfl,Xc k cs Uf⟩
def UV {P:Program}{g:FuncId}(h:iG P g=true)(args:Array Value)(w:World):(callFunc g args).run P w= .ok (.enter g args) w:=by
 unfold iG at h;split at h
 ·rename_i fn GN;obtain⟨FN,mV⟩:=aG h;obtain⟨body,mV⟩:=qJ.1 mV;have xl:(fn.name=="runtime.NumGoroutine")=false:=by grind
  simp only[callFunc,eJ,lL,mw,AO,GN,xl,mV,Ss,sU,kJ]
 grind
theorem ach (hG:bE C F)(hR:ac F β N H w)(hf: ¬N fid){E:EF}{a:Act}(hE:dD F β N H w E a){o:Oper}{c:Call}{fo:Operand}(ho:o.op= .call c)(hc:c.callee= .value fo){Q:Exit->Act->World->Prop}
  (h:jf C fid (C.ev E fo) (c.args.toList.map (C.ev E)) c.argTypes.toList H K):
  o.wp C.P a w (λa' w'=>∃v,a'=a.put o.dst v/\bh F β N H fid K w v w') Q:=by
 unfold jf at h;split at h
 ·rename_i f first bI xs KS FO
  split at h
  ·rename_i l u rs eG;obtain⟨r,iX,hK⟩:=h;rcases iX with iX|iX;case inr=>grind[Yq]
   have l7:aq F β N H w (a.eval fo) _:=mC hG hR hE KS;obtain⟨q1,q2,q3⟩:=xY eG;obtain⟨v1,v2⟩:=xZ FO;have hg:ii C H u:=ii.kj q1;have hH:=hg.heap hR;have wz:(MV F β (u.on H) w).le (rd w):=λb o v h=>xU hG hH h
   have dG:o4 (MV F β (u.on H) w) (rd w) (c.args.map a.eval) l:=by
    refine⟨by grind,λk x hx=>?_⟩;obtain⟨g,cs⟩:=x;obtain⟨x,ks,ue,re,a1,a2,a3,a4⟩:=q3 k g cs hx;have hd:=v2 k x a1;simp at hd;obtain⟨oo,ho1,ho2⟩:=hd;have iP:(c.args.map a.eval).getD k undef=a.eval oo:=by simp_all
    rw[iP,<- a2];exact He hG hR hg (mC hG hR hE ho2) a3 a4
   have GN:dq (MV F β H w) (MR F β H w) (a.eval fo) (.fn f first bI):=l7.am;obtain⟨fv,cv,Fz,uE,Ug⟩:=De GN;have tS:Tr F β N H w β N (u.on H) w:=hg.soft.tr
   have hall:o4 (MV F β (u.on H) w) (rd w) (fv++c.args.map a.eval++cv) (first++l++bI.map λcs=>(false,[.ref cs])):=
    ((uE.mono tS.mv (vT hG hR)).append dG).append (Ug.mono tS.mv (vT hG hR))
   have RM:=iX.2 _ w _ wz (eP.later hG hH) hall
   have bC:(execOp a.eval o).run C.P w= .ok (.enter f (fv++c.args.map a.eval++cv)) w:=by
    have Xh:=iX.1;exact K54
   unfold Oper.wp;rw[bC];refine RM.mono λe w1 he=>?_
   grind[Dd]
  grind
 grind
theorem UW (hG:bE C F)(hR:ac F β N H w)(hf: ¬N fid){E:EF}{a:Act}(hE:dD F β N H w E a){o:Oper}{c:Call}{fo:Operand}(ho:o.op= .call c)(hc:c.callee= .value fo){nx:Bool}{Q:Exit->Act->World->Prop}
  (h:qQ C fid nx (C.ev E fo) (c.args.toList.map (C.ev E)) c.argTypes.toList H K):
  o.wp C.P a w (λa' w'=>∃v,a'=a.put o.dst v/\bh F β N H fid K w v w') Q:=by
 unfold qQ at h
 grind[ach,Yr]
end
section
variable {C:bQ}{F:gN}{β:Nat->Option Nat}{N:Nat->Prop}{H:HF}{fid:Nat}{K:j0}{w w':World}{P:Program}
theorem bJ {o:Oper}{a:Act}{v:Value}{next:Act->World->Prop}{Q:Exit->Act->World->Prop}(h:(execOp a.eval o).run P w= .ok (.value v) w')(hn:next (a.put o.dst v) w'):o.wp P a w next Q:=by
 unfold Oper.wp;rw[h];exact hn
def Df {o:Oper}{a:Act}{next:Act->World->Prop}{Q:Exit->Act->World->Prop}(h:(execOp a.eval o).run P w= .ok .skip w')(hn:next (a.put o.dst undef) w'):o.wp P a w next Q:=by
 unfold Oper.wp;rw[h];exact hn
theorem L4 {ds:List (Option DV)}{xs:List DX}(h:(ds.mapM λd=>match d with|some (.val x)=>some x|_=>none)=some xs):xs.length=ds.length/\∀(k:Nat) (x:DX),xs[k]? =some x->ds[k]? =some (some (.val x)):=by
 induction ds generalizing xs with
 |nil=>grind
 |cons d ds ih=>
  simp only[List.mapM_cons,Option.bind_eq_bind,Option.bind_eq_some_iff]at h
  grind
theorem Ys (hC:C.Ok)(hG:bE C F)(hR:ac F β N H w)(hf: ¬N fid){E:EF}{a:Act}(hE:dD F β N H w E a){o:Oper}{Q:Exit->Act->World->Prop}(h:fu C fid o (C.ev E) H K):
  o.wp C.P a w (λa' w'=>∃v,a'=a.put o.dst v/\bh F β N H fid K w v w') Q:=by
 have ev: ∀ {x:Operand} {d:DV},C.ev E x=some d->b8 F β N H w (a.eval x) d:=λh=>mC hG hR hE h
 cases ho:o.op with
 |move x=>
  exact ail
 |assign x=>
  exact ail
 |pick c x y=>
  unfold fu at h;rw[ho]at h;simp only at h;split at h
  ·rename_i t hc;have hcv:=(aq.am (ev hc)).bw.1;cases t
   ·simp only at h;split at h
    ·rename_i d hd;exact bJ (v:=a.eval y) akf ⟨_,rfl,bh.pure hR h (ev hd)⟩
    grind
   ·simp only at h;split at h
    ·rename_i d hd;exact bJ (v:=a.eval x) akf ⟨_,rfl,bh.pure hR h (ev hd)⟩
    grind
  grind
 |alloc T=>
  unfold fu at h;rw[ho]at h;simp only at h;split at h
  ·rename_i i hi;split at h
   ·rename_i cs hz;obtain⟨v,w',hr,hp⟩:=Yf (v0:=.tuple #[]) hC hR hf hi hz h;exact bJ G6 ⟨_,rfl,hp⟩
   grind
  grind
 |box T x=>
  unfold fu at h;rw[ho]at h;simp only at h;split at h
  ·rename_i d hd;obtain⟨v,w',hr,hp⟩:=agc (C:=C) hR hf (ev hd) h;exact bJ G6 ⟨_,rfl,hp⟩
  grind
 |build T parts=>
  obtain⟨v,hr,hp⟩:=Yh hC hG hR hE ho h;exact bJ G6 ⟨_,rfl,hp⟩
 |buildSlice T len parts=>
  obtain⟨v,w',hr,hp⟩:=F3 hC hG hR hf hE ho h;exact bJ G6 ⟨_,rfl,hp⟩
 |load T x=>
  unfold fu at h;rw[ho]at h;simp only at h;split at h
  ·rename_i d hd;obtain⟨v,hr,hp⟩:=SQ hC hG hR (ev hd) h;exact bJ G6 ⟨_,rfl,hp⟩
  grind
 |store T x y=>
  unfold fu at h;rw[ho]at h;simp only at h;split at h
  ·rename_i d e hd he;obtain⟨w',hr,hp⟩:=Yb hC hR (ev hd) (ev he) h;exact Df G6 ⟨_,rfl,hp⟩
  grind
 |fieldAddr T x n=>
  unfold fu at h;rw[ho]at h;simp only at h;split at h
  ·rename_i d hd;obtain⟨v,hr,hp⟩:=I1 hC hR (ev hd) h;exact bJ G6 ⟨_,rfl,hp⟩
  grind
 |indexAddr T x y=>
  unfold fu at h;rw[ho]at h;simp only at h;split at h
  ·rename_i d e hd he;obtain⟨v,hr,hp⟩:=I3 hC hG hR (ev hd) (ev he) h;exact bJ G6 ⟨_,rfl,hp⟩
  grind
 |index T x y=>
  unfold fu at h;rw[ho]at h;simp only at h;split at h
  ·rename_i d e hd he;obtain⟨v,hr,hp⟩:=Yd hC hR (ev hd) (ev he) h;exact bJ G6 ⟨_,rfl,hp⟩
  grind
 |field T x n=>
  unfold fu at h;rw[ho]at h;simp only at h;split at h
  ·rename_i d hd;obtain⟨v,hr,hp⟩:=Ye hC hR (ev hd) h;exact bJ G6 ⟨_,rfl,hp⟩
  grind
 |slice T x lo hi mx=>
  unfold fu at h;rw[ho]at h;simp only at h;split at h
  ·rename_i d hd;obtain⟨v,hr,hp⟩:=Yi hC hG hR hE (ev hd) h;exact bJ aiV ⟨_,rfl,hp⟩
  grind
 |binOp op T x y yT=>
  unfold fu at h;rw[ho]at h;simp only at h;split at h
  ·rename_i d e hd he;obtain⟨v,hr,hp⟩:=acg (xo:=x) (yo:=y) hC hR (ev hd) (ev he) h;refine bJ (w':=w) (v:=v) ?_ ⟨_,rfl,hp⟩;simp only[execOp,ho];rw[eJ,hr];rfl
  grind
 |unOp op T x=>
  unfold fu at h;rw[ho]at h;simp only at h;split at h
  ·rename_i d hd;obtain⟨v,hr,hp⟩:=age (P:=C.P) hR (ev hd) h;exact bJ G6 ⟨_,rfl,hp⟩
  grind
 |convert s t x=>
  unfold fu at h;rw[ho]at h;simp only at h;split at h
  ·rename_i d hd;obtain⟨v,hr,hp⟩:=Ym hC hG hR (ev hd) h;exact bJ G6 ⟨_,rfl,hp⟩
  grind
 |extract t n=>
  unfold fu at h;rw[ho]at h;simp only at h;split at h
  ·rename_i l hl;split at h
   ·rename_i x hx;obtain⟨arr,h1,h2,h3⟩:=ev hl;have ak:n<arr.size:=by grind
    have hg:arr[n]? =some (arr.getD n undef):=by simp_all
    exact bJ (v:=arr.getD n undef) (by grind[execOp,Instr.extract,Sem.run_pure]) ⟨_,rfl,bh.pure hR h (h3 n x hx)⟩
   grind
  grind
 |makeFunc fn first bI=>
  cases fn with
  |func f=>
   unfold fu at h;rw[ho]at h;simp only at h;obtain⟨v,hr,hp⟩:=L1 (P:=C.P) hG hR hE h;exact bJ G6 ⟨_,rfl,hp⟩
  |_=>grind[fu]
 |makeSlice T x y=>
  unfold fu at h;rw[ho]at h;simp only at h;split at h
  ·rename_i d e hd he;obtain⟨v,w',hr,hp⟩:=I6 hC hR hf (ev hd) (ev he) h;exact bJ G6 ⟨_,rfl,hp⟩
  grind
 |call c=>
  cases hc:c.callee with
  |value fo=>
   grind[fu,UW]
  |invoke r m=>grind[fu]
  |builtin b=>
   unfold fu at h;rw[ho]at h;simp only[hc]at h
   have key: ∀ {v:Value} {w':World},(builtin b c.argTypes o.type (c.args.map λ| .const _=>true|_=>false) (c.args.map a.eval)).run C.P w= .ok (.value v) w'->bh F β N H fid K w v w'->
     o.wp C.P a w (λa' w'=>∃v,a'=a.put o.dst v/\bh F β N H fid K w v w') Q:=by
    grind[bJ,execOp,resolve,invoke]
   unfold eV at h;split at h
   ·
    rename_i t ts x vP dG;have h0:c.args.size=1:=by exact afX
    obtain⟨x0,RY⟩: ∃x0,c.args= #[x0]:=by
     have:c.args.toList.length=1:=by omega
     obtain⟨x0,h⟩:=wA.1 this
     grind
    have oX:C.ev E x0=some (.val x):=by grind
    have vK:c.argTypes[0]? =some t:=by
     have:=aP (·[0]?) vP
     grind
    split at h
    grind
    ·rename_i i hi;obtain⟨tf,d,z,hT⟩:=hC.get hi;have hx:=ev oX;split at h
     ·rename_i e c0 bV;have hd:=di (hT.bY.trans bV);split at h
      ·rename_i hv;obtain⟨a0,cap,oV,_⟩:=(aq.am hx).CE hv;exact K58
      grind
     ·rename_i e bV;have hd:=di (hT.bY.trans bV);have oV:a.eval x0= .slice none 0 0:=aq.am hx;exact K58
     ·rename_i e id bV;have hd:=di (hT.bY.trans bV);split at h
      ·rename_i m z' c0 hb;obtain⟨_,_,jo⟩:=aq.am hx
       have oV: ∃a0 cap,a.eval x0= .slice a0 c0.len cap:=by
        rcases jo _ z' c0.len hb rfl with⟨_,h2,h3⟩|⟨b,cap,arr,T,_,h2,_⟩
        grind
        grind
       obtain⟨a0,cap,oV⟩:=oV;exact K58
      ·rename_i z' l hb;obtain⟨_,_,jo⟩:=aq.am hx
       have oV: ∃a0 cap,a.eval x0= .slice a0 l.length cap:=by
        rcases jo _ z' l.length hb rfl with⟨_,h2,h3⟩|⟨b,cap,arr,T,_,h2,_⟩
        grind
        grind
       obtain⟨a0,cap,oV⟩:=oV;exact K58
      grind
     ·rename_i s bV;have hd:=mf (hT.bY.trans bV);have oV:=(aq.am hx).bw.1;exact K58
     ·rename_i n e bV;have hd:=km (hT.bY.trans bV);exact key (by simp[builtin,Builtin.len_,vK,RY,hT.cU,hd,goInt]) (bh.pure hR h (fU rfl))
     grind
   ·
    rename_i t t' x y vP dG;have h0:c.args.size=2:=by exact afX
    obtain⟨x0,x1,RY⟩: ∃x0 x1,c.args= #[x0,x1]:=aiW;have oX:C.ev E x0=some (.val x)/\C.ev E x1=some (.val y):=by grind
    have vK:c.argTypes= #[t,t']:=by grind
    split at h
    ·rename_i i' kA;split at h
     ·rename_i e' bV;obtain⟨v,w',hr,hp⟩:=UU (T:=t) (ty:=o.type) hC hG hR hf kA bV (ev oX.1) (ev oX.2) h;refine key (v:=v) (w':=w') ?_ hp;exact afw
     ·rename_i k' bV;obtain⟨v,w',hr,hp⟩:=PD (T:=t) (ty:=o.type) hC hG hR hf kA bV (ev oX.1) (ev oX.2) h;refine key (v:=v) (w':=w') ?_ hp;exact afw
     grind
    grind
   ·
    rename_i k n r dG;split at h
    ·rename_i xs B6;obtain⟨m1,m2⟩:=L4 B6;obtain⟨x0,rest,jd⟩: ∃x0 rest,c.args.toList=x0::rest:=ajG;rw[jd]at dG;simp at dG;obtain⟨RS,her⟩:=dG;have hv0:=(aq.am (ev RS)).bw.1;subst her
     obtain⟨v,hr,hp,hK⟩:=zW (P:=C.P) (w:=w) (H:=H) (β:=β) (N:=N) (F:=F) (vs:=rest.map a.eval) br (λj x v e1 e2=>by
      have:=m2 j x e1;simp at this e2;obtain⟨o1,h1,h2⟩:=this;obtain⟨o2,h3,rfl⟩:=e2;rw[h1]at h3;cases h3
      exact ev h2) h
     refine key (v:=v) (w':=w) ?_ (bh.pure hR hK (fU hp));simp only[if_true]at hr;simp only[builtin,Builtin.max_,Array.toList_map,jd,ju,hv0,eJ,hr,mw];rfl
    grind
   ·
    rename_i k n r dG;split at h
    ·rename_i xs B6;obtain⟨m1,m2⟩:=L4 B6;obtain⟨x0,rest,jd⟩: ∃x0 rest,c.args.toList=x0::rest:=ajG;rw[jd]at dG;simp at dG;obtain⟨RS,her⟩:=dG;have hv0:=(aq.am (ev RS)).bw.1;subst her
     obtain⟨v,hr,hp,hK⟩:=zW (P:=C.P) (w:=w) (H:=H) (β:=β) (N:=N) (F:=F) (vs:=rest.map a.eval) br (λj x v e1 e2=>by
      have:=m2 j x e1;simp at this e2;obtain⟨o1,h1,h2⟩:=this;obtain⟨o2,h3,rfl⟩:=e2;rw[h1]at h3;cases h3
      exact ev h2) h
     refine key (v:=v) (w':=w) ?_ (bh.pure hR hK (fU hp));simp only[sU,kJ]at hr;simp only[builtin,Builtin.min_,Array.toList_map,jd,ju,hv0,eJ,hr,mw];rfl
    grind
   grind
 |_=>grind[fu]
end
end Go.Fw
namespace Go.Fw
section
variable {C:bQ}{H H':HF}{fid:Nat}{K:j0}
theorem jg {k:Bool}{d:DC}{c:SC}{u:Hp}{r:List Nat}(h:bv H k d=some (c,u,r))(hH: ∀id∈r,H' id=H id):bv H' k d=some (c,u,r):=by
 cases d with
 |own id=>
  grind[bv]
 |sv g id=>grind[bv]
 |mp id=>grind[bv]
 |st c'=>grind[bv]
 |nil=>grind[bv]
 |ptr id off=>grind[bv]
 |cF id z i off=>grind[bv]
theorem fk: ∀ {ks:List Bool} {ds:List DC} {l:List SC} {u:Hp} {r:List Nat},bS H ks ds=some (l,u,r)->(∀id∈r,H' id=H id)->bS H' ks ds=some (l,u,r)
 |ks,[],l,u,r,h,_=>by grind[bS]
 |ks,d::ds,l,u,r,h,hH=>by
  simp only[bS]at h ⊢;split at h
  ·rename_i c u1 r1 h1;split at h
   ·rename_i cs u2 r2 h2;simp at h;obtain⟨rfl,rfl,rfl⟩:=h;rw[jg h1 λid hid=>hH id (gC.2 (.inl hid)),fk h2 λid hid=>hH id (gC.2 (.inr hid))]
   grind
  grind
theorem PE {k:Bool}{d:DC}{c:SC}{u:Hp}{r:List Nat}(h:mZ C H k d=some (c,u,r))(hH: ∀id∈r,H' id=H id):mZ C H' k d=some (c,u,r):=by
 cases d with
 |ptr id off=>
  grind[mZ,fk]
 |st c'=>exact jg (d:=.st c') (k:=k) h hH
 |nil=>exact jg (d:=.nil) (k:=k) h hH
 |own id=>exact jg (d:=.own id) (k:=k) h hH
 |sv g id=>grind[mZ,bv]
 |mp id=>grind[mZ,bv]
 |cF id z i off=>
  simp only[mZ]at h ⊢;split at h
  grind[fk]
  grind
  grind
theorem A4: ∀ {ks:List Bool} {ds:List DC} {l:List SC} {u:Hp} {r:List Nat},oq C H ks ds=some (l,u,r)->(∀id∈r,H' id=H id)->oq C H' ks ds=some (l,u,r)
 |ks,[],l,u,r,h,_=>by grind[oq]
 |ks,d::ds,l,u,r,h,hH=>by
  simp only[oq]at h ⊢;split at h
  ·rename_i c u1 r1 h1;split at h
   ·rename_i cs u2 r2 h2;simp at h;obtain⟨rfl,rfl,rfl⟩:=h;rw[PE h1 λid hid=>hH id (gC.2 (.inl hid)),A4 h2 λid hid=>hH id (gC.2 (.inr hid))]
   grind
  grind
theorem jh: ∀ {ts:List TypeId} {xs:List DX} {l:List SV} {u:Hp} {r:List Nat},o9 C H ts xs=some (l,u,r)->(∀id∈r,H' id=H id)->o9 C H' ts xs=some (l,u,r)
 |ks,[],l,u,r,h,_=>by grind[o9]
 |ks,d::ds,l,u,r,h,hH=>by
  simp only[o9]at h ⊢;split at h
  ·rename_i c u1 r1 h1;split at h
   ·rename_i cs u2 r2 h2;simp at h;obtain⟨rfl,rfl,rfl⟩:=h;rw[A4 h1 λid hid=>hH id (gC.2 (.inl hid)),jh h2 λid hid=>hH id (gC.2 (.inr hid))]
   grind
  grind
theorem tq {ks:List Bool}{z:Nat}: ∀ {ps:List (Nat × Option DV)} {n:Nat} {es:List (List SC)} {u:Hp} {r:List Nat},kL H ks z n ps=some (es,u,r)->(∀id∈r,H' id=H id)->kL H' ks z n ps=some (es,u,r)
 | [],n,es,u,r,h,_=>by grind[kL]
 |p::ps,n,es,u,r,h,hH=>by
  unfold kL at h ⊢;split at h;omega
  ·rename_i n0 i x rest vO;cases vO;split at h
   ·rename_i hb;split at h
    ·rename_i e u1 r1 eG;split at h
     ·rename_i WX u2 r2 hf abn;simp at h;obtain⟨rfl,rfl,rfl⟩:=h;rw[fk eG λid hid=>hH id (gC.2 (.inl hid))];simp only;rw[hf,tq abn λid hid=>hH id (gC.2 (.inr hid))]
     grind
    grind
   omega
  omega
theorem ya: ∀ {ds:List (Option DV)} {l:List SV} {u:Hp} {r:List Nat},cE.firsts H ds=some (l,u,r)->(∀id∈r,H' id=H id)->cE.firsts H' ds=some (l,u,r)
 | [],l,u,r,h,_=>by grind[cE.firsts]
 |d::ds,l,u,r,h,hH=>by
  unfold cE.firsts at h ⊢;split at h;omega
  ·rename_i x xs vO;cases vO;split at h
   ·rename_i c u1 r1 h1;split at h
    ·rename_i cs u2 r2 h2;simp at h;obtain⟨rfl,rfl,rfl⟩:=h;rw[fk h1 λid hid=>hH id (gC.2 (.inl hid))];simp only;rw[ya h2 λid hid=>hH id (gC.2 (.inr hid))]
    grind
   grind
  omega
theorem pc: ∀ {ds:List (Option DV)} {l:List (List SC)} {u:Hp} {r:List Nat},cE.capts C H ds=some (l,u,r)->(∀id∈r,H' id=H id)->cE.capts C H' ds=some (l,u,r)
 | [],l,u,r,h,_=>by grind[cE.capts]
 |d::ds,l,u,r,h,hH=>by
  unfold cE.capts at h ⊢;split at h;omega
  ·rename_i id xs vO;cases vO;split at h
   ·rename_i cs hb;split at h
    ·rename_i l2 u2 r2 h2;simp at h;obtain⟨rfl,rfl,rfl⟩:=h;rw[hH id (by simp),hb];simp only;rw[pc h2 λj hj=>hH j br]
    grind
   ·rename_i t cs hb;split at h
    ·rename_i c u1 r1 h1;split at h
     ·rename_i l2 u2 r2 h2;simp at h;obtain⟨rfl,rfl,rfl⟩:=h;rw[hH id (by simp),hb];simp only;rw[fk h1 λj hj=>hH j br];simp only;rw[pc h2 λj hj=>hH j br]
     grind
    grind
   grind
  ·rename_i cs xs vO;cases vO;split at h
   ·rename_i l2 u2 r2 h2;simp at h;obtain⟨rfl,rfl,rfl⟩:=h;rw[pc h2 hH]
   grind
  omega
def mD (f:HF->j0->Prop):Prop:=∀H K,f H K->∃r u R,K r u R/\∀(H':HF) (K':j0),(∀id∈R,H' id=H id)->K' r u R->f H' K'
def mD.const {f:j0->Prop}(h: ∀K,f K->∃r u R,K r u R/\∀K':j0,K' r u R->f K'):mD λ_ K=>f K:=λ_ K hK=>
 let⟨r,u,R,h1,h2⟩:=h K hK;⟨r,u,R,h1,λ_ K' _ h3=>h2 K' h3⟩
def PF (T:TypeId)(x:DX):mD (ot C T x):=by
 intro H K h;unfold ot at h;split at h
 ·grind
 rename_i i hi;split at h
 grind[ot]
 grind[ot]
 grind[ot]
 grind
def L5 (T:TypeId)(x y:DX):mD (qO C T x y):=by
 intro H K h;unfold qO at h;split at h
 ·grind
 rename_i i hi;split at h
 ·grind
 rename_i bB;split at h
 ·rename_i id off;split at h
  grind[qO]
  grind
 ·rename_i id z n off;split at h
  ·rename_i z' c hb;split at h
   ·rename_i eu;split at h
    ·rename_i l r eG;split at h
     ·rename_i hf;obtain⟨e,he,h⟩:=h;split at h
      ·rename_i c' lj;refine⟨_,_,_,h,λH' K' hH hK=>?_⟩;simp only[qO,hi,bB,hH id (by simp),hb,eu,fk eG λj hj=>hH j br,hf]
       grind
      grind
     grind
    grind
   grind
  grind[qO]
  grind
 grind
def BL (T:TypeId)(x:DX)(n:Nat):mD λ_ K=>ou C T x n K:=by
 refine mD.const λK h=>?_;unfold ou at h ⊢;split at h
 ·grind
 rename_i i hi;split at h
 ·rename_i fs bV;split at h
  ·rename_i o ft RZ;split at h
   grind
   grind
  grind
 grind
def BM (T:TypeId)(x y:DX):mD (eQ C T x y):=by
 intro H K h;unfold eQ at h;split at h
 ·grind
 rename_i i hi;split at h
 ·rename_i e k n bV;split at h
  ·grind
  rename_i ie lD;split at h
  ·rename_i id;split at h
   grind[eQ]
   grind[eQ]
   grind
  grind[eQ]
  grind
 ·rename_i len e k n bV;split at h
  ·grind
  grind[eQ]
 grind
theorem Dh {i:TI}{cs:List DC}{off:Nat}(h:C1 i cs off K): ∃r u R,K r u R/\∀K':j0,K' r u R->C1 i cs off K':=by grind[C1]
def L6 (T:TypeId)(x y:DX):mD λ_ K=>s8 C T x y K:=by
 refine mD.const λK h=>?_;unfold s8 at h;split at h
 ·grind
 rename_i i hi;split at h
 ·rename_i len e k n bV;split at h
  ·grind
  rename_i ie lD;split at h
  grind[Dh,s8]
  grind
 grind[s8]
 grind
def L7 (T:TypeId)(x:DX)(n:Nat):mD λ_ K=>zS C T x n K:=by
 refine mD.const λK h=>?_;unfold zS at h;split at h
 ·grind
 rename_i i hi;split at h
 ·rename_i fs bV;split at h
  ·rename_i o ft RZ;split at h
   ·rename_i fi kF;split at h
    grind[Dh,zS]
    grind
   grind
  grind
 grind
theorem zY {d:Option (Option DV)}{GM:Nat}{K':Nat->Prop}(h:FX d GM K'): ∃n,K' n/\∀K'':Nat->Prop,K'' n->FX d GM K'':=by
 unfold FX at h
 grind[FX]
def L8 (T:TypeId)(x:DX)(lo hi:Option (Option DV)):mD (gL C T x lo hi):=by
 intro H K h;unfold gL at h;split at h
 ·grind
 rename_i i kA;split at h
 ·rename_i e bV;split at h
  ·grind
  rename_i ie lD;split at h
  ·rename_i c u r eG;split at h
   ·rename_i GQ hv;obtain⟨l,h,hl⟩:=zY h;obtain⟨hh,h,hh'⟩:=zY h;obtain⟨h1,hu,h⟩:=h;refine⟨_,_,_,h,λH' K' hH hK=>?_⟩;simp only[gL,kA,bV,lD,fk eG hH]
    grind
   grind
  grind
 ·rename_i bV;split at h
  grind[zY,gL]
  grind
 ·rename_i n e bV;split at h
  ·grind
  rename_i ie lD;split at h
  ·rename_i _l1 id off;split at h
   ·rename_i t cs hb;split at h
    ·rename_i l u r eG;split at h
     ·rename_i O7 eu;split at h
      ·rename_i ns IF;refine⟨_,_,_,h,λH' K' hH hK=>?_⟩;simp only[gL,kA,bV,lD,hH id (by simp),hb,fk eG λj hj=>hH j br]
       grind
      grind
     grind
    grind
   ·rename_i l hb;split at h
    ·rename_i O7 eu;split at h
     grind[gL]
     grind
    grind
   grind
  grind
 grind
end
end Go.Fw
