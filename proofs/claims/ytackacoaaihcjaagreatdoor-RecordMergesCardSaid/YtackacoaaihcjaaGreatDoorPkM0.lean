import Derived.Below
import Derived.Deep.RegionLaw
import Derived.Ground.Names2Prog
import Derived.Ground.Names7Prog
import Derived.Ground.NamesProg
import Derived.IntWalk
import Derived.JoinedOf
import Derived.KernelRfl
import Derived.LaidLaws
import Derived.LaidMore
import Derived.LaidSub
import Derived.Laws.Append
import Derived.Laws.BytesString
import Derived.Laws.Cells
import Derived.Laws.CopyRow
import Derived.Laws.Entries
import Derived.Laws.IdiomCopy
import Derived.Laws.IdiomStrings
import Derived.Laws.StructEq
import Derived.Lay
import Derived.Lib.AppendIntMem
import Derived.Lib.AtoiAll
import Derived.Lib.AtoiAllCases
import Derived.Lib.ItoaNum
import Derived.Lib.Join
import Derived.Lib.SliceRun
import Derived.Lib.SmallJoins
import Derived.Lib.Split
import Derived.Lib.Strings
import Derived.Lib.Walk
import Derived.LoopIn
import Derived.LoopNIn
import Derived.MapKept
import Derived.OpenShut
import Derived.Orders
import Derived.OrdersIn
import Derived.OwnWalkIn
import Derived.ProofKit
import Derived.RangeFuncBound
import Derived.RangeFuncCalls
import Derived.RangeFuncFrom
import Derived.RangeFuncLeaves
import Derived.RangeFuncOwn
import Derived.Scope
import Derived.Shelf.LaysC
import Derived.Shelf.LaysM
import Derived.Shelf.Slices.Clone
import Derived.Shelf.Slices.Reverse
import Derived.Shelf.Sort.Plain
import Derived.Shelf.Spec.SlicesGrow
import Derived.Shelf.Strconv.AtoiAll
import Derived.Shelf.Strconv.Itoa3
import Derived.Shelf.Strings.Cut
import Derived.Shelf.Strings.OnBuilder
import Derived.Shelf.Strings.Prefix
import Derived.Shelf.Strings.Split
import Derived.Shelf.Vars
import Derived.Stop.Joined
import Derived.Tactics
import Derived.TacticsIn
import Derived.TacticsInMore
import Derived.WalkKit
import GoSem.ClaimGoes
set_option linter.all false
namespace Go
def eV:=@Nat.ne_of_beq_eq_false
def fO:=@Nat.le_of_ble_eq_true
def jN:=@List.getD_eq_getElem?_getD
def kJ:=@List.getElem?_eq_some_iff
def fj:=@decide_eq_false
def fL:=@decide_eq_true
def dD:=@Nat.zero_le
def pj:=@List.getElem?_eq_getElem
def my:=@Go.Result.andThen_ok
def pb:=@Nat.eq_of_beq_eq_true
def aQ:=@congrArg
def dl:=@List.mem_cons
def eL:=@Go.Sem.run_bind
def ji:=@List.mem_cons_of_mem
def gK:=@List.getElem?_map
def jI:=@List.mem_of_getElem?
def dT:=@List.mem_map
def kE:=@Nat.mul_le_mul_right
def jx:=@List.mem_cons_self
def dE:=@Nat.le_refl
def mZ:=@Option.map_eq_some_iff
def iz:=@List.mem_append
def sN:=@Array.getD_eq_getD_getElem?
def jj:=@List.length_map
def pc:=@List.take_of_length_le
def jP:=@List.length_cons
def ij:=@Prod.mk.injEq
def qW:=@Option.isSome_iff_exists
def lM:=@Option.some.injEq
def m6:=@List.mem_singleton
def jd:=@List.map_cons
def mA:=@List.take_length
def lN:=@Go.Sem.run_pure
def nE:=@List.not_mem_nil
def j7:=@Nat.zero_add
def sO:=@List.length_append
def xO:=@List.length_eq_one_iff
def qd:=@List.getElem_mem
def to:=@Bool.false_eq_true
def sP:=@Int.toNat_natCast
def qX:=@List.cons_append
def vJ:=@decide_eq_true_iff
def tp:=@Go.run_underlying
def sQ:=@Bool.and_eq_true
def IR:=@List.eq_nil_of_length_eq_zero
def FV:=@Array.getElem?_eq_some_iff
def CN:=@List.length_eq_zero_iff
def xP:=@Bool.false_ne_true
def vK:=@Option.getD_some
def IS:=@Go.World.block_lt_of_cell?
def pd:=@Nat.le_trans
def wL:=@List.all_eq_true
def vN:=@Bool.eq_iff_iff
def CO:=@List.mem_of_mem_take
def IT:=@List.getElem?_set_self
def xQ:=@List.nodup_cons
def xR:=@Option.map_some
def xS:=@List.append_nil
def xT:=@List.length_nil
def xU:=@Option.some.inj
def CP:=@Go.World.var?_cell
def zZ:=@List.map_append
def CQ:=@List.take_add_one
def Pz:=@Classical.byContradiction
def IU:=@List.mem_iff_getElem
def kK:=@if_false
def BR:=@List.cons.injEq
def FW:=@Function.comp_def
def PA:=@Go.World.cell?_of_block
def UK:=@Nat.eq_of_mul_eq_mul_right
def UL:=@Go.World.putObj_heap_other
def XM:=@Int.mul_le_mul_of_nonneg_right
def UM:=@List.drop_eq_getElem_cons
def UN:=@List.getElem?_append_left
def CR:=@Int.emod_nonneg
def XN:=@Int.mul_le_mul_of_nonneg_left
def Lt:=@List.map_congr_left
def Lu:=@List.length_pos_iff
def CS:=@Int.mul_nonneg
def nF:=@or_false
def FX:=@List.length_set
def UO:=@List.getElem?_cons_zero
def Lv:=@Int.emod_lt_of_pos
def PC:=@List.getElem?_set_ne
def PD:=@List.mem_of_mem_drop
def z6:=@List.map_map
def XO:=@Array.getElem?_append_left
def XP:=@List.getElem?_append_right
def Lw:=@List.nodup_append
def XQ:=@Int.natAbs_ediv_le_natAbs
def UP:=@List.mem_iff_getElem?
def UQ:=@Array.getElem?_toList
def US:=@List.set_getElem_self
def XR:=@Nat.lt_succ_iff_lt_or_eq
def PE:=@List.getElem?_take
def Lx:=@List.drop_length
def afD:=@List.exists_cons_of_length_eq_add_one
def FZ:=@not_not_intro
def CT:=@List.map_nil
def CU:=@Nat.add_zero
def xV:=@Go.setRow_heap
def xW:=@List.drop_zero
def CV:=@Go.DataW.trod_int
def CW:=@of_decide_eq_true
def Sg:=@Int.mul_lt_mul_of_pos_right
def Ly:=@List.drop_of_length_le
def G1:=@List.getElem?_drop
def Lz:=@List.length_singleton
def LA:=@List.getElem?_toArray
def LB:=@List.take_append_drop
def LC:=@List.length_filter_le
def G2:=@Go.DataW.agg.injEq
def AZ:=@Go.run_program
def Sh:=@Go.MapKept.run_getObj_map
def Si:=@Go.World.putObj_heap_same
def Sj:=@List.mem_or_eq_of_mem_set
def LD:=@Int.ediv_emod_unique
def CX:=@Int.natAbs_zero
def G3:=@List.append_assoc
def XS:=@Array.getElem?_setIfInBounds_ne
def Sk:=@List.getElem?_cons_succ
def LF:=@List.getD_cons_zero
def G4:=@List.any_eq_true
def CY:=@Int.mul_le_mul
def tq:=@Nat.mod_lt
def Sl:=@Go.MapKept.run_findKey
def G6:=@Int.natAbs_tmod
def XT:=@Array.getElem?_append_right
def Sm:=@Array.getElem?_append
def G7:=@UInt8.toNat_inj
def Sn:=@List.set_append_right
def Sq:=@Go.Lib.atoiAll_bounds
def Sr:=@Int.emod_add_mul_ediv
def XU:=@List.idxOf_lt_length_of_mem
def CZ:=@Int.sign_zero
def vZ:=@Nat.blt_eq
def LG:=@Classical.not_not
def Ss:=@List.getElem?_append
def Su:=@Go.run_storeCells_at
def Sv:=@Go.World.cells?_some
def Sw:=@Go.DataW.trod_struct
def Sx:=@Array.getElem_modify
def Sy:=@Classical.not_forall
def LH:=@List.length_take
def LI:=@Option.bind_some
def LJ:=@List.length_drop
def LK:=@Bool.not_eq_true
def A0:=@Nat.mul_one
def SA:=@Go.DataW.trod_array
def SD:=@List.getD_cons_succ
def SE:=@Option.isNone_some
def oz:=@Ne.symm
def sv:=@and_true
def LL:=@Int.ediv_nonneg
def SF:=@List.set_cons_zero
def LM:=@List.nil_append
def SG:=@List.filter_append
def SH:=@Go.DataW.lit.injEq
def C0:=@Int.one_mul
def SI:=@Array.size_append
def SJ:=@List.ext_getElem?
def SK:=@decide_eq_true_eq
def SL:=@Option.isSome_map
def SM:=@Int.lt_trichotomy
def SN:=@Nat.lt_trichotomy
def LN:=@List.nodup_nil
def LO:=@List.take_zero
def G8:=@Nat.sub_zero
def XV:=@Nat.div_lt_iff_lt_mul
def XW:=@Array.mem_of_getElem?
def G9:=@Nat.sub_self
def SO:=@Go.run_loadCells
def SP:=@Go.grownBy_keeps
def XX:=@List.mem_append_left
def XY:=@Nat.pow_le_pow_right
def aeA:=@Int.gcd_pos_of_ne_zero_right
def LP:=@Nat.add_assoc
def LQ:=@Bool.or_false
def LR:=@List.map_take
def LS:=@Int.mul_assoc
def SQ:=@Option.map_none
def A1:=@Array.ext
def XZ:=@List.drop_succ_cons
def X0:=@List.getElem_of_mem
def X3:=@List.take_succ_cons
def aeB:=@Int.sign_eq_neg_one_of_neg
def aeC:=@Int.lt_of_mul_lt_mul_right
def aeD:=@Array.getElem_append_right
def X4:=@Nat.lt_of_lt_of_le
def X5:=@Nat.add_sub_cancel
def X6:=@List.set_cons_succ
def X7:=@Option.isSome_some
def X8:=@Option.isSome_none
def aeE:=@Array.mapM_eq_mapM_toList
def aeF:=@List.pairwise_iff_getElem
def aeG:=@Array.getElem?_eq_getElem
def aeH:=@Array.getElem_append_left
def X9:=@List.flatten_cons
def Ha:=@Array.ext'
def Ya:=@List.any_eq_false
def SR:=@Bool.false_or
def LU:=@List.map_id
def Yb:=@Int.ediv_le_self
def SU:=@Nat.gcd_comm
def Yc:=@List.foldl_cons
def Yd:=@Bool.or_eq_true
def SW:=@List.map_set
def SX:=@Int.ne_of_gt
def Ye:=@List.findIdx_eq
def Yf:=@Bool.decide_and
def C1:=@true_and
def Yg:=@Nat.mul_le_mul
def Yh:=@Array.size_map
def Yi:=@List.drop_drop
def Yj:=@Int.natAbs_mul
def SY:=@Nat.add_mul
variable{p:Prop}
def K0 (h:p:=by omega):p:=h
def K1 (h:p:=by
 (try(refine tX 0 ?_;try exact Zt))
 (first|done|rfl|exact True.intro)):p:=h
def K2 (h:p:=by
 have XC:=(kJ.1 hi).1;have bG:(so s.units).length =s.units.length:=by grind
 have ak:i< (so s.units).length :=by omega
 have cu:=λH fid=>zK (H:=H) (fid:=fid) (s:=s) (n:=x) hi hl;rw[hx]at cu;have hm:=amc p log s u (w0::x::ws);refine gH f111 ?_;repeat' ((first|(refine kO 7 rfl ?_;first|refine im (λ_ z=>⟨_,_,_,(cu _ _ rfl rfl rfl rfl),z⟩) ?_)|refine tX 0 ?_|exact Zt|refine bR ?_ ?_<;>intro h)<;>(try conv=>whnf))
 all_goals try exact Ze
 repeat((first|(refine kO 7 rfl ?_;first|refine qU (λ_ z=>⟨_,_,_,(bX.Px (CC hU (uH rfl rfl rfl) hm) rfl (OI s p log u _)),z⟩) ?_)|refine tX 2 ?_|exact Zt);(try conv=>whnf))
 refine aS ?_;refine aM ?_;(refine aR ?_;conv=>whnf);(try(refine tX 2 ?_;try exact Zt));refine⟨_,bp.trans (Fq 9 i (e':=unY u) rfl (IT ak) rfl (OH u 11 13 15)) (vC (E':=[(3,some (.val (dyn (V1 (w0::x::ws))))),(6,pP 4),(8,pP 6),(12,vI i),(13,pP 94),(14,vI 0),(127,vBo (0 != 0))]) (X:=sX s i u u') (m:=mX) (ks:=[3,6,8,12,13,14,127]) (n':=1000) rfl ⟨⟨9,_,by simp,rfl,by rw[List.set_set];exact sn (kl rfl)⟩,⟨4,_,by simp,rfl,rfl⟩,⟨6,_,by simp,rfl,rfl⟩,⟨94,_,by simp,rfl,rfl⟩,⟨fz 43 11,_,by simp,rfl,rfl⟩,⟨fz 43 13,_,by simp,rfl,rfl⟩,⟨fz 43 15,_,by simp,rfl,rfl⟩,trivial⟩ rfl rfl),?_⟩;repeat' ((first|refine tX 0 ?_|exact Zt|refine bR ?_ ?_<;>intro h)<;>(try conv=>whnf))
 all_goals first|exact Zs|exact⟨[(9,9),(11,11),(13,13),(15,15)],nR rfl ⟨⟨9,_,by simp,rfl,anP s i u u' _⟩,⟨11,_,by simp,rfl,rfl⟩,⟨13,_,by simp,rfl,rfl⟩,⟨15,_,by simp,rfl,rfl⟩,trivial⟩,_,rfl,rfl⟩):p:=h
def K3 (h:p:=by
 obtain⟨volt,earth,opens,hall,lots,units⟩:=s
 rcases J4 log with⟨g1,g2⟩|⟨j,g1,g2,g3⟩
 ·rw[g2]at CD;refine gF f62 hl ?_;repeat' ((first|(refine kO 7 rfl ?_;first|refine Rh (kh _ _) ?_)|refine tX 0 ?_|exact Zt|refine bR ?_ ?_<;>intro h)<;>(try conv=>whnf))
  rw[hf];repeat' ((first|(refine kO 7 rfl ?_;first|refine Rq (iY _) ?_|refine rG (λ_ z=>⟨_,wF CD,z⟩) ?_)|refine tX 0 ?_|exact Zt|refine bR ?_ ?_<;>intro h)<;>(try conv=>whnf))
  all_goals first|exact Zo|exact Ew
 ·rw[g3]at CD;have hN:dU (((log.map be).length :Int) -1) j:=⟨by omega⟩;generalize log.getD j ⟨0,[],[]⟩=le at*;obtain⟨lt,lw,lx⟩:=le;refine gF f62 hl ?_;repeat' ((first|(refine kO 7 rfl ?_;first|refine Rh (kh _ _) ?_)|refine tX 0 ?_|exact Zt|refine bR ?_ ?_<;>intro h)<;>(try conv=>whnf))
  all_goals rw[hf]
  all_goals
   repeat' ((first|(refine kO 7 rfl ?_;first|refine Rq (iY _) ?_|refine rG (λ_ z=>⟨_,wF CD,z⟩) ?_)|refine tX 0 ?_|exact Zt|refine bR ?_ ?_<;>intro h)<;>(try conv=>whnf))
   all_goals first|exact Zo|exact Ew):p:=h
def K4 (h:p:=by
 repeat' ((first|refine tX 0 ?_|exact Zt|refine bR ?_ ?_<;>intro h)<;>(try conv=>whnf))
 all_goals first|exact Zs|exact⟨m0,dY rfl rfl,_,rfl,rfl⟩):p:=h
def K5 (h:p:=by
 repeat' ((first|refine tX 0 ?_|exact Zt|refine bR ?_ ?_<;>intro h)<;>(try conv=>whnf))
 all_goals first|exact Zo|(exact rfl)):p:=h
def K6 (h:p:=by
 repeat((first|(refine kO 7 rfl ?_;first|refine rG (λ_ z=>⟨_,HS (show(4:Int)≠0 by decide),z⟩) ?_)|refine tX 0 ?_|exact Zt);(try conv=>whnf))
 rw[vH];repeat((first|(refine kO 7 rfl ?_;first|refine rG (λ_ z=>⟨_,HS (show(4:Int)≠0 by decide),z⟩) ?_)|refine tX 0 ?_|exact Zt);(try conv=>whnf))
 (first|done|rfl|exact True.intro)):p:=h
def K7 (h:p:=by(first|done|rfl|exact True.intro)):p:=h
def K8 (h:p:=by
 repeat' ((first|refine tX 0 ?_|exact Zt|refine bR ?_ ?_<;>intro h)<;>(try conv=>whnf))
 all_goals first|exact Zs|exact⟨m3,dY rfl rfl,_,rfl,rfl⟩):p:=h
def K9 (h:p:=by decide):p:=h
def UT (h:p:=by
 repeat' ((first|refine tX 0 ?_|exact Zt|refine bR ?_ ?_<;>intro h)<;>(try conv=>whnf))
 all_goals first|exact Ze|exact⟨m3,dY rfl rfl,_,rfl,rfl⟩):p:=h
def K11 (h:p:=by
 repeat' ((first|(refine kO 7 rfl ?_;first|refine rG (λ_ z=>⟨_,aO (by simp only[ab,jj];omega) _,z⟩) ?_|refine rG (λ_ z=>⟨_,bK (by simp only[ab,jj];omega) _,z⟩) ?_|refine rG (λ_ z=>⟨_,wF rfl,z⟩) ?_)|refine tX 0 ?_|exact Zt|refine bR ?_ ?_<;>intro h)<;>(try conv=>whnf))
 all_goals exact Ew):p:=h
def cT (h:p:=by kernel_rfl):p:=h
def bv (h:p:=by grind):p:=h
def K15 (h:p:=by
 repeat' ((first|(refine kO 7 rfl ?_;first|refine im (λ_ z=>⟨_,_,_,(Aw hl (by grind[io,jp]) ⟨_,_,rfl,rfl⟩ rfl),z⟩) ?_)|refine tX 0 ?_|exact Zt|refine bR ?_ ?_<;>intro h)<;>(try conv=>whnf))
 all_goals exact Ew):p:=h
def K16 (h:p:=by
 repeat' ((first|(refine kO 7 rfl ?_;first|refine Rq (ep _ _ _) ?_)|refine tX 0 ?_|exact Zt|refine bR ?_ ?_<;>intro h)<;>(try conv=>whnf))
 all_goals exact Z0):p:=h
def K17 (h:p:=by
 (try(refine tX 0 ?_;try exact Zt))
 refine af (ι:=Nat) (λi=>1<=i/\i<=a.length) (λi=>a.length -i) (λi=>⟨[(0,vL a),(1,vL b),(5,pO 0),(6,vI (FU a b i)),(7,vI i)],[(0,some (.row true 1 (.ints (Xx a b i))))],1⟩) 1 (ai (by rw[g5,e1,e2];kernel_rfl)) ⟨dE _,by omega⟩ ?_;clear d0' d1 d2 h e1 e2;rintro i ⟨zO,hi⟩;have d0':=dig b i;have d1:=ha.get i;have d2:=hb.get i;have d3:=At a b i;have d4:=Ct a b i;have d5:=Nc a b i
 (try(refine tX 0 ?_;try exact Zt))
 (refine bR ?_ ?_<;>intro h<;>(try conv=>whnf))
 ·have ak:i<a.length:=by omega
  (try(refine tX 0 ?_;try exact Zt))
  (refine bR ?_ ?_<;>intro h<;>(try conv=>whnf))
  ·have f1:FU a b (i+1)=1:=if_pos h;have f2:sbD a b i=a.getD i 0 -b.getD i 0 -FU a b i+1000000000:=if_pos h
   (try(refine tX 0 ?_;try exact Zt))
   exact⟨i+1,⟨by omega,ak⟩,by omega,ai (by rw[d5,f1,f2];kernel_rfl)⟩
  ·have f1:FU a b (i+1)=0:=if_neg h;have f2:sbD a b i=a.getD i 0 -b.getD i 0 -FU a b i:=if_neg h
   (try(refine tX 0 ?_;try exact Zt))
   exact⟨i+1,⟨by omega,ak⟩,by omega,ai (by rw[d5,f1,f2];kernel_rfl)⟩
 ·obtain rfl:i=a.length:=by omega
  (try(refine tX 0 ?_;try exact Zt))
  rfl):p:=h
def K18 (h:p:=by
 repeat' ((first|(refine kO 7 rfl ?_;first|refine im (λ_ z=>⟨_,_,_,(c0 _ _ ⟨_,_,rfl,rfl⟩ rfl),z⟩) ?_|refine rG (λ_ z=>⟨_,aO (by(simp[ab];done)) _,z⟩) ?_|refine rG (λ_ z=>⟨_,bK (by(simp[ab];done)) _,z⟩) ?_|refine rG (λ_ z=>⟨_,aO (by simp only[ab,jd,jP];omega) _,z⟩) ?_|refine rG (λ_ z=>⟨_,bK (by simp only[ab,jd,jP];omega) _,z⟩) ?_|refine rG (λ_ z=>⟨_,wF rfl,z⟩) ?_)|refine tX 0 ?_|exact Zt|refine bR ?_ ?_<;>intro h)<;>(try conv=>whnf))
 all_goals exact Ei):p:=h
def Hb (h:p:=by simp only[execOp,ho,eL,hr,my];rfl):p:=h
def K20 (h:p:=by
 obtain rfl:i=e.text.length:=by omega
 have Xl:(lW.map Rf).length =19:=rfl;have hv:=aV (f:=Rf) (l:=lW) hj xF;rw[show vb j=(lW.getD j xF).2 from rfl]at hr;generalize lW.getD j xF=q at*;repeat' ((first|refine tX 0 ?_|exact Zt|refine bR ?_ ?_<;>intro h)<;>(try conv=>whnf))
 all_goals try(exfalso;omega)
 repeat((first|(refine kO 7 rfl ?_;first|refine qU (λ_ z=>⟨_,_,_,(Fv _ _ zO b1 b2 b3 b4),z⟩) ?_|refine qU (λ_ z=>⟨_,_,_,(RA (n:=1034) hS rfl rfl rfl rfl),z⟩) ?_)|refine tX 2 ?_|exact Zt);(try conv=>whnf))
 repeat' ((first|refine tX 0 ?_|exact Zt|refine bR ?_ ?_<;>intro h)<;>(try conv=>whnf))
 refine ame (R:=[fz 1036 9,fz 1036 11,fz 1036 13,fz 1036 15]) _ y hy ⟨rfl,rfl,al (.st _)<|al (.st _)<|al (.st _)<|al (.st _)<|al (.st _)<|al ?_ gv⟩;rw[hyu]
 exact W6 (a:=fz 1036 11) (b:=fz 1036 13) (c:=fz 1036 15) XC (aQ (λl=>some (cD.aD 17 l)) (ahg (aq 1036 0) s.units i0 u')) rfl rfl rfl ⟨.head _,.tail _ (.head _),.tail _ (.tail _ (.head _)),.tail _ (.tail _ (.tail _ (.head _)))⟩):p:=h
def K21 (h:p:=by
 by_cases h1:i=fid
 ·by_cases h2:j=fid;omega
  ·exfalso;subst h1;rw[jz]at bi;cases bi;rw[iC _ _ _ h2]at bj;obtain⟨h3,h4⟩:=live h2 hj;exact h3 (hR.inj j id b _ _ h4 hb bj xC)
 ·by_cases h2:j=fid
  ·exfalso;subst h2;rw[jz]at bj;cases bj;rw[iC _ _ _ h1]at bi;obtain⟨h3,h4⟩:=live h1 hi;exact h3 (hR.inj i id b _ _ h4 hb bi xC)
  ·rw[iC _ _ _ h1]at bi;rw[iC _ _ _ h2]at bj
   exact hR.inj i j x _ _ (live h1 hi).2 (live h2 hj).2 bi bj):p:=h
def K22 (h:p:=by
 repeat' ((first|refine tX 0 ?_|exact Zt|refine bR ?_ ?_<;>intro h)<;>(try conv=>whnf))
 all_goals first|exact Zo|exact⟨i+1,ak,by omega,ai (by rw[xG,lY];kernel_rfl)⟩):p:=h
def K23 (h:p:=by
 obtain rfl:i=e.text.length:=by omega
 have Xl:(lW.map Rf).length =19:=rfl;have hv:=aV (f:=Rf) (l:=lW) hj xF;rw[show vb j=(lW.getD j xF).2 from rfl]at hr;generalize lW.getD j xF=q at*;repeat' ((first|refine tX 0 ?_|exact Zt|refine bR ?_ ?_<;>intro h)<;>(try conv=>whnf))
 all_goals try(exfalso;omega)
 repeat((first|(refine kO 7 rfl ?_;first|refine qU (λ_ z=>⟨_,_,_,(Ry _ _ b1 b2 b3 b4),z⟩) ?_|refine qU (λ_ z=>⟨_,_,_,(Rz (n:=1034) hS rfl rfl rfl),z⟩) ?_)|refine tX 2 ?_|exact Zt);(try conv=>whnf))
 repeat' ((first|refine tX 0 ?_|exact Zt|refine bR ?_ ?_<;>intro h)<;>(try conv=>whnf))
 by_cases hy:y.2=0
 ·exact ame (R:=[fz 1036 5,fz 1036 7,fz 1036 9]) _ y hy ⟨rfl,rfl,al (.st _)<|al (.st _)<|al (.row (.head _) rfl)<|al (.st _)<|al (.row (.tail _ (.head _)) rfl)<|al (.row (.tail _ (.tail _ (.head _))) rfl) gv⟩
 ·exact amd _ y hy):p:=h
theorem K24 (h:p:=by
 repeat' ((first|refine tX 0 ?_|exact Zt|refine bR ?_ ?_<;>intro h)<;>(try conv=>whnf))
 all_goals first
  |(exfalso;omega)
  |rfl):p:=h
def K26 (h:p:=by
 rw[ba hx h2 h4 (show aU E p log ⟨volt,earth,opens,hall,lots,units⟩ _ 14 [x] n r=(_,_)from hq.trans ((if_neg xP).trans (if_pos hh)))];refine gI f128 h3 hl rfl ?_;repeat' ((first|(refine kO 7 rfl ?_;first|refine im (λ_ z=>⟨_,_,_,(c0 _ _ ⟨_,_,rfl,rfl⟩ rfl),z⟩) ?_|refine rG (λ_ z=>⟨_,bK (FZ hh) _,z⟩) ?_|refine rG (λ_ z=>⟨_,aO (by(simp[ab];done)) _,z⟩) ?_|refine rG (λ_ z=>⟨_,bK (by simp only[ab,jd,jP];omega) _,z⟩) ?_|refine rG (λ_ z=>⟨_,wF rfl,z⟩) ?_|refine im (λ_ z=>⟨_,_,_,(vq hM hp hr rfl rfl rfl (jS (by assumption)) rfl rfl rfl),z⟩) ?_)|refine tX 0 ?_|exact Zt|refine bR ?_ ?_<;>intro h)<;>(try conv=>whnf))
 all_goals exact Ei):p:=h
def K27 (h:p:=by
 refine gH f111 ?_;repeat' ((first|(refine kO 7 rfl ?_;first|refine im (λ_ z=>⟨_,_,_,(cu _ _ rfl rfl rfl),z⟩) ?_)|refine tX 0 ?_|exact Zt|refine bR ?_ ?_<;>intro h)<;>(try conv=>whnf))
 all_goals first|exact Zs|exact⟨m0,dY rfl rfl,_,rfl,rfl⟩):p:=h
def K28 (h:p:=by
 repeat' ((first|(refine kO 7 rfl ?_;first|refine Rq (gm _) ?_|refine Rq (ep _ _ _) ?_)|refine tX 0 ?_|exact Zt|refine bR ?_ ?_<;>intro h)<;>(try conv=>whnf))
 all_goals exact Z0):p:=h
def K29 (h:p:=by
 repeat' ((first|refine tX 0 ?_|exact Zt|refine bR ?_ ?_<;>intro h)<;>(try conv=>whnf))
 all_goals first|exact Ze|exact⟨n,⟨by omega,hg⟩,by omega,ai (by rw[show((n:Int) -1)=(((n+1:Nat):Int) -1 -1)by omega];kernel_rfl)⟩):p:=h
def K30 (h:p:=by
 repeat' ((first|refine tX 0 ?_|exact Zt|refine bR ?_ ?_<;>intro h)<;>(try conv=>whnf))
 all_goals first|exact Zo|exact⟨i+1,ak,by omega,ai (by rw[xG];kernel_rfl)⟩):p:=h
def K31 (h:p:=by
 refine gI f125 h3 hl rfl ?_;repeat' ((first|(refine kO 7 rfl ?_;first|refine im (λ_ z=>⟨_,_,_,(c0 _ _ ⟨_,_,rfl,rfl⟩ rfl),z⟩) ?_|refine rG (λ_ z=>⟨_,bK hh _,z⟩) ?_|refine rG (λ_ z=>⟨_,aO (by(simp[ab];done)) _,z⟩) ?_|refine rG (λ_ z=>⟨_,bK (by(simp[ab];done)) _,z⟩) ?_|refine rG (λ_ z=>⟨_,aO (by simp only[ab,jd,jP];omega) _,z⟩) ?_|refine rG (λ_ z=>⟨_,bK (by simp only[ab,jd,jP];omega) _,z⟩) ?_|refine rG (λ_ z=>⟨_,wF rfl,z⟩) ?_)|refine tX 0 ?_|exact Zt|refine bR ?_ ?_<;>intro h)<;>(try conv=>whnf))
 all_goals exact Ei):p:=h
def K32 (h:p:=by
 rw[h3]at hcc kG
 (try(refine tX 0 ?_;try exact Zt))
 rw[vH]
 (try(refine tX 0 ?_;try exact Zt))
 exact⟨i+1,⟨ak,it kG⟩,by omega,fB (ks:=[1,2,8,14,15,16]) (m:=[(0,0)]) (n:=1) (by rw[vX,<- hpk];kernel_rfl)⟩):p:=h
def K33 (h:p:=by
 obtain rfl:i=e.text.length:=by omega
 have Xl:(lW.map Rf).length =19:=rfl;have hv:=aV (f:=Rf) (l:=lW) hj xF;rw[show vb j=(lW.getD j xF).2 from rfl]at hr;generalize lW.getD j xF=q at*;repeat' ((first|refine tX 0 ?_|exact Zt|refine bR ?_ ?_<;>intro h)<;>(try conv=>whnf))
 all_goals try(exfalso;omega)
 repeat((first|(refine kO 7 rfl ?_;first|refine qU (λ_ z=>⟨_,_,_,(Fv _ _ zO b1 b2 b3 b4),z⟩) ?_|refine qU (λ_ z=>⟨_,_,_,(RC (n:=1034) hS rfl rfl rfl rfl),z⟩) ?_)|refine tX 2 ?_|exact Zt);(try conv=>whnf))
 repeat' ((first|refine tX 0 ?_|exact Zt|refine bR ?_ ?_<;>intro h)<;>(try conv=>whnf))
 exact amd _ y hy):p:=h
def K34 (h:p:=by
 have hn: ¬(len*ie.size>2^24):=by omega
 refine⟨(Array.range (len*ie.size)).map (λx=>(if len*ie.size=0 then #[]else ez.cells)[x%(if len*ie.size=0 then #[]else ez.cells).size]!),by simp,λcells ma=>?_⟩;simp only[Instr.buildSlice,eL,hT.cX,hd,my,GX.iM,hn,kK];by_cases h0:len*ie.size=0
 ·rw[if_pos h0]at ma;simp only[h0,if_true,eL,lN,my];rw[h0]at ma;rw[ma];simp[newRow]
 ·rw[if_neg h0]at ma;simp only[h0,kK,eL,GX.th,my,lN];rw[ma]
  simp[newRow]):p:=h
def K35 (h:p:=by
 refine gF f119 hl ?_;repeat' ((first|(refine kO 7 rfl ?_;first|refine rG (λ_ z=>⟨_,aO (by omega) _,z⟩) ?_|refine rG (λ_ z=>⟨_,bK (by omega) _,z⟩) ?_|refine rG (λ_ z=>⟨_,wF rfl,z⟩) ?_)|refine tX 0 ?_|exact Zt|refine bR ?_ ?_<;>intro h)<;>(try conv=>whnf))
 all_goals exact Ew):p:=h
def K36 (h:p:=by
 refine gI f128 h3 hl rfl ?_;repeat' ((first|(refine kO 7 rfl ?_;first|refine im (λ_ z=>⟨_,_,_,(c0 _ _ ⟨_,_,rfl,rfl⟩ rfl),z⟩) ?_|refine rG (λ_ z=>⟨_,aO hh _,z⟩) ?_|refine rG (λ_ z=>⟨_,aO (by(simp[ab];done)) _,z⟩) ?_|refine rG (λ_ z=>⟨_,bK (by simp only[ab,jd,jP];omega) _,z⟩) ?_|refine rG (λ_ z=>⟨_,wF rfl,z⟩) ?_|refine im (λ_ z=>⟨_,_,_,(vq hM hp hr rfl rfl rfl (jS (by assumption)) rfl rfl rfl),z⟩) ?_)|refine tX 0 ?_|exact Zt|refine bR ?_ ?_<;>intro h)<;>(try conv=>whnf))
 all_goals exact Ei):p:=h
def IV (h:p:=by
 (try(refine tX 0 ?_;try exact Zt))
 rfl):p:=h
def K38 (h:p:=by
 repeat' ((first|(refine kO 7 rfl ?_;first|refine rG (λ_ z=>⟨_,aO hk _,z⟩) ?_|refine rG (λ_ z=>⟨_,bK hk _,z⟩) ?_|refine rG (λ_ z=>⟨_,wF rfl,z⟩) ?_)|refine tX 0 ?_|exact Zt|refine bR ?_ ?_<;>intro h)<;>(try conv=>whnf))
 all_goals exact Ei):p:=h
def K39 (h:p:=by
 simp only[m9]at hr;split at hr
 ·rename_i n hn;simp at hr;subst hr;have hm:=Aj hn;obtain⟨_,b,h1,h2⟩:=hd;exact⟨⟨_,hm⟩,b,by rw[h.kH hm];exact h1,h2⟩
 grind):p:=h
def K40 (h:p:=by
 repeat' ((first|refine tX 0 ?_|exact Zt|refine bR ?_ ?_<;>intro h)<;>(try conv=>whnf))
 all_goals exact rfl):p:=h
def K41 (h:p:=by
 (try(refine tX 0 ?_;try exact Zt))
 exact⟨i -1,⟨by omega,by omega⟩,by omega,ai (by rw[show i -1+1=i by omega];unfold EN EP;rw[s1,s2];kernel_rfl)⟩):p:=h
def K42 (h:p:=by
 (try(refine tX 0 ?_;try exact Zt))
 exact⟨i -1,⟨by omega,by omega⟩,by omega,ai (by rw[show i -1+1=i by omega];unfold J7 J8;rw[s1,s2];kernel_rfl)⟩):p:=h
def K43 (h:p:=by
 rintro F nt a w ⟨N,⟨q1,q2,q0,β,q3,q4⟩,q5⟩
 have hg:il {P:=default,gl:=[],ty:=[]} Hh.get [(id,some (.row false z c))]:=il.ko λp hp=>by
  rw[m6]at hp;subst hp;exact⟨m,z,c,hb,rfl⟩
 have ht:Tr F β N Hh.get w β N (Hp.on [(id,some (.row false z c))] Hh.get) w:=hg.soft.tr;refine⟨N,⟨q1,q2,q0,β,?_,?_⟩,q5⟩
 ·have:=ht.env q4 q3;rwa [<- Hp.get_append]at this
 ·have:=hg.heap q4
  rwa [<- Hp.get_append]at this):p:=h
def K44 (h:p:=by
 refine sF f179 ?_;repeat((first|(refine kO 7 rfl ?_;first|refine rG (λ_ z=>⟨_,aO h1 _,z⟩) ?_)|refine tX 0 ?_|exact Zt);(try conv=>whnf))
 refine BZ hu rfl rfl rfl rfl rfl rfl (by simp;omega) ?_;conv=>whnf
 rw[xp]
 exact tL):p:=h
def K45 (h:p:=by
 rw[ba hx h2 h4 (show aU E p log ⟨volt,earth,opens,hall,lots,units⟩ _ 14 [x] n r=(_,_)from hq.trans (if_pos rfl))];refine gI f128 h3 hl rfl ?_
 exact tL):p:=h
def K46 (h:p:=by repeat first|exact ir.base _|refine ir.step rfl ?_):p:=h
def K47 (h:p:=by
 repeat' ((first|(refine kO 7 rfl ?_;first|refine Rq (ep _ _ _) ?_)|refine tX 0 ?_|exact Zt|refine bR ?_ ?_<;>intro h)<;>(try conv=>whnf))
 all_goals first|exact Zo|exact mH (by unfold Zx;split<;>(try split)<;>omega)):p:=h
def K48 (h:p:=by
 repeat' split at h
 all_goals(simp only[ij]at h;obtain⟨rfl,h⟩:=h)
 all_goals first|exact hm|exact⟨hm.units,hm.lots,hm.opens,hm.unit⟩):p:=h
def wa (h:p:=by simp;omega):p:=h
def K50 (h:p:=by
 repeat' ((first|refine tX 0 ?_|exact Zt|refine bR ?_ ?_<;>intro h)<;>(try conv=>whnf))
 all_goals first|exact Zo|(exact absurd h hx)|exact⟨i+1,⟨ak,λhm=>(FL.1 hm).elim dp λe=>hx e.symm⟩,by omega,Zc⟩):p:=h
def K51 (h:p:=by
 (refine bR ?_ ?_<;>intro h<;>(try conv=>whnf))
 ·(try(refine tX 0 ?_;try exact Zt))
  generalize (lo+hi+1)/2=mm at*;exact⟨(mm,hi),⟨⟨by omega,by omega,by omega⟩,by show y*mm<=_;omega,p5⟩,by omega,Zc⟩
 ·(try(refine tX 0 ?_;try exact Zt))
  generalize (lo+hi+1)/2=mm at*;refine⟨(lo,mm -1),⟨⟨by omega,by omega,by omega⟩,p4,?_⟩,by omega,Zc⟩;simp only
  rw[Int.sub_add_cancel];omega):p:=h
def K52 (h:p:=by
 by_cases hz:(ws.take (w+1)).getD k []= []
 ·have Ce: []∈ws.take (w+1):=CO (ahH.2 (.inr hz.symm));rw[if_pos Ce];rw[hz]at KS;exact tL
 ·generalize (ws.take (w+1)).getD k []=y at*;repeat' ((first|refine tX 0 ?_|exact Zt|refine bR ?_ ?_<;>intro h)<;>(try conv=>whnf))
  all_goals first|exact Ze|exact⟨k+1,⟨xw,λhm=>(ahH.1 hm).elim Li λe=>hz e.symm⟩,by omega,Zc⟩):p:=h
def K53 (h:p:=by
 unfold iN at XE;split at XE
 ·rename_i fn GP;obtain⟨FH,mV⟩:=aH XE;obtain⟨body,mV⟩:=qW.1 mV;have xu:(fn.name=="runtime.NumGoroutine")=false:=by grind
  simp only[execOp,ho,resolve,hc,FD,Deferred.ofValue,eL,lN,my,invoke,callFunc,AZ,GP,xu,mV,SE,to,kK]
 grind):p:=h
theorem K54 (h:p:=by
 obtain⟨_,hB⟩:=hR.rel id bC e
 cases bC with
 |map es=>obtain⟨b',arr,T,q1,q2,q3,_⟩:=hB;grind
 |box t cs=>obtain⟨b',arr,T,q1,q2,q3,_⟩:=hB;grind
 |ec cs=>obtain⟨b',arr,T,q1,q2,q3,_⟩:=hB;grind
 |row m z c=>
  obtain⟨_,q1|⟨b',cap,q1,q2,arr,T,q3,_⟩⟩:=hB
  grind
  grind
 |aD z l=>
  obtain⟨_,q1|⟨b',cap,arr,T,q1,q2,q3,_⟩⟩:=hB
  grind
  grind):p:=h
def K55 (h:p:=by
 intro b' o' v' h';unfold Mem.but at h';split at h'
 grind
 ·rename_i eU;unfold dX at h';split at h'
  ·rename_i hge;rw[ri (gN.gG (pd hH.below.size hge))];omega
   ·intro id bC e hid;by_cases Xm:id=fid
    grind[jz]
    ·rw[aG _ _ _ Xm]at e;rw[iC _ _ _ Xm]at hid;have:=(hH.fY e hid).1;omega
  ·exact t2.mv b' o' v' h'):p:=h
theorem K56 (h:p:=by
 obtain rfl:i=l.length:=by omega
 rw[Lx]at he;repeat' ((first|refine tX 0 ?_|exact Zt|refine bR ?_ ?_<;>intro h)<;>(try conv=>whnf))
 all_goals first
  |(exfalso;omega)
  |exact mH he):p:=h
def K57 (h:p:=by exact key (by simp[builtin,Builtin.len_,qc,Sd,hT.cX,hd,o7,goInt]) (bn.pure hR h (fT rfl))):p:=h
def K58 (h:p:=by
 refine aS ?_;(refine aR ?_;conv=>whnf);(try(refine tX 2 ?_;try exact Zt));refine aM ?_;(refine aR ?_;conv=>whnf);(try(refine tX 2 ?_;try exact Zt));refine⟨_,cL 6 rfl,?_⟩;repeat' ((first|refine tX 0 ?_|exact Zt|refine bR ?_ ?_<;>intro h)<;>(try conv=>whnf))
 all_goals first|(exact rfl)|(cases x<;>first|(exact rfl)|(exact absurd rfl h)|(cases h))|trace_state):p:=h
def K59 (h:p:=by
 have:(gh (aq (Fw.tag fid) 0) T' R).map Prod.fst=ah R++(ah T').map (aq (Fw.tag fid) 0):=by simp[gh,nL,FW]
 rw[this,Lw];refine⟨hR,?_,λa ha b hb Sb=>?_⟩
 ·have AV:=(nf.new eJ hi).ok.news;have:(nL (ah T') (aq (Fw.tag fid) 0)).map Prod.snd=(ah T').map (aq (Fw.tag fid) 0):=by simp[nL,FW]
  grind
 grind):p:=h
def K60 (h:p:=by
 show Int.gcd y (x.tmod y)=_;rw[<- hg];show Nat.gcd y.natAbs (x.tmod y).natAbs =Nat.gcd x.natAbs y.natAbs
 rw[G6,SU x.natAbs y.natAbs,Nat.gcd_rec y.natAbs x.natAbs,SU]):p:=h
def K61 (h:p:=by
 intro d hd;have:d= .st (.lit (.pointer none)):=by simpa using hd
 subst this
 trivial):p:=h
def K62 (h:p:=by
 simp only[dl,nE,nF]at AW
 grind[bD,uO]):p:=h
def K63 (h:p:=by
 repeat' ((first|refine tX 0 ?_|exact Zt|refine bR ?_ ?_<;>intro h)<;>(try conv=>whnf))
 all_goals first|exact Zo|exact⟨i+1,ak,by omega,Zc⟩|(exfalso;simp_all[ahh];done)):p:=h
def K64 (h:p:=by
 rw[if_neg h1]at c1 ⊢;refine gF f116 sJ ?_;repeat' ((first|(refine kO 7 rfl ?_;first|refine im (λ_ z=>⟨_,_,_,(c0 _ _ ⟨_,_,rfl,rfl⟩ rfl),z⟩) ?_|refine Rq (iY _) ?_|refine rG (λ_ z=>⟨_,wF (E:=4) rfl,z⟩) ?_)|refine tX 0 ?_|exact Zt|refine bR ?_ ?_<;>intro h)<;>(try conv=>whnf))
 all_goals first|exact Zo|exact Ew):p:=h
def K65 (h:p:=by
 repeat' ((first|(refine kO 7 rfl ?_;first|refine rG (λ_ z=>⟨_,wF rfl,z⟩) ?_)|refine tX 0 ?_|exact Zt|refine bR ?_ ?_<;>intro h)<;>(try conv=>whnf))
 all_goals exact Ew):p:=h
theorem K66 (h:p:=by
 repeat' ((first|refine tX 0 ?_|exact Zt|refine bR ?_ ?_<;>intro h)<;>(try conv=>whnf))
 all_goals first
  |(exfalso;omega)
  |exact⟨i+1,⟨ak,by omega⟩,by omega,Zc⟩):p:=h
def K67 (h:p:=by
 by_cases hb:A<=p.eK -used
 all_goals
  repeat' ((first|(refine kO 7 rfl ?_;first|refine Rq cA ?_|refine rG (λ_ z=>⟨_,aO hb _,z⟩) ?_|refine rG (λ_ z=>⟨_,bK hb _,z⟩) ?_|refine rG (λ_ z=>⟨_,wF rfl,z⟩) ?_)|refine tX 0 ?_|exact Zt|refine bR ?_ ?_<;>intro h)<;>(try conv=>whnf))
  all_goals exact Ei):p:=h
def PF (h:p:=by rw[<- hn];kernel_rfl):p:=h
def K69 (h:p:=by
 refine gH f243 ?_;repeat' ((first|(refine kO 7 rfl ?_;first|refine im (λ_ z=>⟨_,_,_,(cv _ _ _ _ _ rfl rfl rfl),z⟩) ?_|refine im (λ_ z=>⟨_,_,_,(cr _ _ _ _ _ rfl rfl rfl),z⟩) ?_)|refine tX 0 ?_|exact Zt|refine bR ?_ ?_<;>intro h)<;>(try conv=>whnf))
 all_goals first|exact Zs|exact⟨m3,dY rfl rfl,_,rfl,rfl⟩):p:=h
def K70 (h:p:=by
 refine sF f147 ?_;repeat((first|(refine kO 7 rfl ?_;first|refine Rq (du _ _ _) ?_)|refine tX 0 ?_|exact Zt);(try conv=>whnf))
 (first|done|rfl|exact True.intro)):p:=h
def K71 (h:p:=by
 rcases XR.1 hj with h'|rfl
 ·exact Le j h'
 ·exact h):p:=h
def K72 (h:p:=by
 repeat' ((first|refine tX 0 ?_|exact Zt|refine bR ?_ ?_<;>intro h)<;>(try conv=>whnf))
 all_goals first|exact Zo|exact gX (fj λh=>h0 h.1).symm):p:=h
def K73 (h:p:=by
 obtain⟨h1,h2⟩:=live hi e;refine⟨h2,(hR.rel i bC h2).1,λb1 xH=>setRow_other w b b1 _ λjv=>h1 ?_⟩;subst jv
 exact hR.inj i id b1 bC _ h2 hb xH xC):p:=h
def K76 (h:p:=by repeat first|refine qM.step rfl ?_|exact qM.base _):p:=h
def K77 (h:p:=by
 have hz:=hz n hd;have hap:(l++[n]).length =l.length+1:=by simp
 repeat' ((first|refine tX 0 ?_|exact Zt|refine bR ?_ ?_<;>intro h)<;>(try conv=>whnf))
 all_goals first|exact Zo|(exact absurd rfl h)|(exact⟨(i+1,st,l++[n]),⟨⟨ak,by dsimp only;omega⟩,hz⟩,by dsimp only;omega,Zc⟩)):p:=h
def K78 (h:p:=by
 repeat' split at h
 all_goals(simp only[ij]at h;obtain⟨rfl,h⟩:=h)
 all_goals first|exact hm|exact⟨hm.lots,hm.len,hm.gas,hm.used,hm.res⟩):p:=h
theorem K79 (h:p:=by
 cases d with
 |own k=>simp only[m9];rw[oL hT hm hme]
 |ptr k o=>simp only[m9];rw[oL hT hm hme]
 |cI k _ _ _=>simp only[m9];rw[oL hT hm hme]
 |mp k=>simp only[m9];rw[oL hT hm hme]
 |sL g k=>simp only[m9];rw[oL hT hm hme]
 |st c=>rfl
 |nil=>rfl):p:=h
def K80 (h:p:=by
 refine gB f287 ?_;repeat' ((first|(refine kO 7 rfl ?_;first|refine im (λ_ z=>⟨_,_,_,kV (c2 _) rfl,z⟩) ?_|refine im (λ_ z=>⟨_,_,_,kV (c3 _) rfl,z⟩) ?_)|refine tX 0 ?_|exact Zt|refine bR ?_ ?_<;>intro h)<;>(try conv=>whnf))
 all_goals exact⟨rfl,rfl,_,rfl,rfl⟩):p:=h
def K81 (h:p:=by
 have hu:=h0 _ rfl;refine⟨cV β fid (some w.heap.size),_,u,R,hK,by rw[hu];exact(td.trans ht).trans t2,by grind,?_⟩;rw[hu];refine cK ⟨.inr rfl,rfl,λnV z' n' hb wI=>?_⟩;rw[an]at hb;cases hb;cases wI
 exact .inr ⟨w.heap.size,dP,_,e,by simp[cV],rfl,qc,II⟩):p:=h
def F3 (h:p:=by assumption):p:=h
def K83 (h:p:=by
 refine sF f137 ?_;repeat' ((first|refine tX 0 ?_|exact Zt|refine bR ?_ ?_<;>intro h)<;>(try conv=>whnf))
 all_goals first|exact Zo|(exact rfl)|(exact absurd h hp)|(exact absurd rfl (by assumption))|(exact mJ (fL (by omega)))|(exact mJ (fj (by omega)))):p:=h
def K84 (h:p:=by
 (try(refine tX 0 ?_;try exact Zt))
 exact⟨(l++[(m:Int)%1000000000],m/1000000000),⟨g,by simp;omega,by simp;omega,by simp;omega,by simp;omega,by simp⟩,by simp only;omega,ai (by rw[show((m/1000000000:Nat):Int)=(m:Int)/1000000000 by omega];kernel_rfl)⟩):p:=h
def K85 (h:p:=by
 (try(refine tX 0 ?_;try exact Zt))
 exact⟨i+1,ak,by omega,ai (by rw[hs];kernel_rfl)⟩):p:=h
def K86 (h:p:=by
 refine gH f199 ?_;repeat' ((first|(refine kO 7 rfl ?_;first|refine im (λ_ z=>⟨_,_,_,(cm _ _ _ _ _ rfl rfl rfl),z⟩) ?_)|refine tX 0 ?_|exact Zt|refine bR ?_ ?_<;>intro h)<;>(try conv=>whnf))
 all_goals first|exact Zs|exact⟨m3,dY rfl rfl,_,rfl,rfl⟩):p:=h
def K87 (h:p:=by
 repeat' ((first|refine tX 0 ?_|exact Zt|refine bR ?_ ?_<;>intro h)<;>(try conv=>whnf))
 all_goals first|exact Z0|(exact absurd hx h)):p:=h
def K88 (h:p:=by
 rw[m6]at hy;subst hy;intro d hd;rw[m6]at hd;subst hd
 trivial):p:=h
def K89 (h:p:=by
 obtain⟨_,b,h1,h2⟩:=h
 exact⟨(fC id hm).2,b,by rw[(fC id hm).1];exact h1,h2⟩):p:=h
def K90 (h:p:=by
 repeat' ((first|refine tX 0 ?_|exact Zt|refine bR ?_ ?_<;>intro h)<;>(try conv=>whnf))
 all_goals first|exact Zo|exact Ew):p:=h
def K91 (h:p:=by
 obtain⟨hn,b,h1,h2⟩:=h
 exact⟨t.used _ hn,b,by rw[t.kH _ hn];exact h1,h2⟩):p:=h
def K92 (h:p:=by
 intro d hd;rw[m6]at hd;subst hd
 trivial):p:=h
def K93 (h:p:=by
 repeat' ((first|refine tX 0 ?_|exact Zt|refine bR ?_ ?_<;>intro h)<;>(try conv=>whnf))
 all_goals first|exact Zo|(exact absurd rfl h)|(exact⟨(i+1,n,[]),⟨⟨ak,by simp⟩,by rw[h0];exact hz⟩,by dsimp only;omega,Zc⟩)):p:=h
def K94 (h:p:=by
 rw[if_pos hn]at e;refine⟨aq (Fw.tag fid) 0 n,b'.rn (aq (Fw.tag fid) 0),?_,?_,mG UH (eJ.dJ n b' e)⟩
 grind[gh]
 ·rw[Hp.get_append,tV,if_pos (by show _∈ah _;grind[di]),jR hi n hn,e];rfl):p:=h
def K95 (h:p:=by
 repeat' ((first|refine tX 0 ?_|exact Zt|refine bR ?_ ?_<;>intro h)<;>(try conv=>whnf))
 all_goals first|exact Ze|exact⟨(k+1,log,s,out++[(k:Int)]),⟨ak,k2,dw.symm,by simp;omega,k5,k6⟩,by dsimp only;omega,Zc⟩):p:=h
def K96 (h:p:=by
 subst h1;rw[an]at e;cases e;intro d hd;simp only[dl,nE,nF]at hd
 rcases hd with rfl|rfl|rfl|rfl|rfl|rfl|rfl|rfl|rfl|rfl|rfl|rfl|rfl<;>first|trivial|(show _∈_::_;simp)):p:=h
def K97 (h:p:=by
 repeat' ((first|(refine kO 7 rfl ?_;first|refine im (λ_ z=>⟨_,_,_,(c3 _ _ ⟨_,_,rfl,rfl⟩ rfl),z⟩) ?_)|refine tX 0 ?_|exact Zt|refine bR ?_ ?_<;>intro h)<;>(try conv=>whnf))
 all_goals first|exact Zo|exact Ex):p:=h
def K98 (h:p:=by
 (try(refine tX 0 ?_;try exact Zt))
 grind):p:=h
def K99 (h:p:=by
 intro b2 o v' wJ;unfold Mem.but;split
 ·rename_i hb2;subst hb2;exfalso;unfold MV at wJ;rw[if_pos q2]at wJ;split at wJ
  ·rename_i hs;have:=hs id _ hb h1
   grind[cD.tm]
  grind
 ·exact yB FI b2 o v' wJ):p:=h
def afE (h:p:=by
 (try(refine tX 0 ?_;try exact Zt))
 refine aA ?_
 (try(refine tX 0 ?_;try exact Zt))
 refine aA ?_
 exact tL):p:=h
def afF (h:p:=by
 obtain⟨o,b0,h1,rfl,h3,rfl⟩:=(nf.new eJ hi).heap id b e
 exact JC (cD.dS mb (eJ.dJ o b0 h3))):p:=h
def ahY (h:p:=by
 simp only[cU,dl,nE,nF]at hd
 rcases hd with rfl|rfl|rfl|rfl|rfl|rfl|rfl|rfl|rfl|rfl|rfl|rfl|rfl|rfl|rfl|rfl|rfl<;>first|trivial|(show _∈ah _;simp[lC])):p:=h
def LV (h:p:=by have:=(e.text.getD i 0).toNat_lt;omega):p:=h
def xX (h:p:=by
 refine sF f280 ?_
 exact tL):p:=h
def ahZ (h:p:=by
 rw[wW]at qR;simp only[dl]at qR;rcases qR with rfl|rfl|rfl|rfl|rfl|rfl|rfl|rfl|h'
 ·omega
 ·omega
 ·omega
 ·omega
 ·omega
 ·omega
 ·omega
 ·omega
 ·have:=wV hi h';omega):p:=h
def ah0 (h:p:=by
 simp only[cU,dl,nE,nF]at hd
 rcases hd with rfl|rfl|rfl|rfl|rfl|rfl|rfl|rfl|rfl|rfl|rfl|rfl|rfl|rfl|rfl|rfl|rfl<;>first|trivial|(show _∈_::_;simp)):p:=h
def ah1 (h:p:=by
 repeat' ((first|(refine kO 7 rfl ?_;first|refine rG (λ_ z=>⟨_,HS (show(6:Int)≠0 by decide),z⟩) ?_)|refine tX 0 ?_|exact Zt|refine bR ?_ ?_<;>intro h)<;>(try conv=>whnf))
 all_goals exact Z0):p:=h
def afG (h:p:=by
 simp only[builtin,qc,Sd,List.map_toArray,jd,CT,eL,hr,my]
 rfl):p:=h
def afH (h:p:=by
 repeat' ((first|refine tX 0 ?_|exact Zt|refine bR ?_ ?_<;>intro h)<;>(try conv=>whnf))
 all_goals exact Ew):p:=h
def afI (h:p:=by rw[show ws.getD i []=ws[i]by simp[jN,ak]];exact qd ak):p:=h
def ah2 (h:p:=by
 (try(refine tX 0 ?_;try exact Zt))
 rw[e1];rw[f]
 (refine bR ?_ ?_<;>intro h<;>(try conv=>whnf))
 ·(try(refine tX 0 ?_;try exact Zt))
  rw[if_pos h]
 ·(try(refine tX 0 ?_;try exact Zt))
  rw[if_neg h]):p:=h
def afJ (h:p:=by rw[jN,pj ak,vK];exact qd ak):p:=h
def afK (h:p:=by
 obtain⟨z,hz,rfl⟩:=mZ.1 hp;obtain⟨h5,h6⟩:=oQ.2 z hz
 rw[k2 _ h5,k3 _ h6]):p:=h
def afL (h:p:=by
 repeat' ((first|refine tX 0 ?_|exact Zt|refine bR ?_ ?_<;>intro h)<;>(try conv=>whnf))
 all_goals rfl):p:=h
def afM (h:p:=by
 rw[an]at this;cases this;cases wI
 exact .inr ⟨b,cap,_,T,by simp[cV],rfl,qc,by omega⟩):p:=h
def ah3 (h:p:=by
 obtain rfl:i=l.length:=by omega
 repeat' ((first|refine tX 0 ?_|exact Zt|refine bR ?_ ?_<;>intro h)<;>(try conv=>whnf))
 all_goals first|exact Zo|exact gX (fL ⟨h0,hp⟩).symm):p:=h
def afN (h:p:=by rwa [show(if b=true then(0:Int)else e)=if p then 0 else e from by simp only[BP.iff (b:=b)]]at h):p:=h
def ah4 (h:p:=by
 unfold Go.Fw.IL at h;simp only[sQ]at h;have:=bY h.1.1;simp only[jd,CT,xQ,dl,nE,nF,not_or]at this
 grind):p:=h
def vO (h:p:=by grind[fw,Op.operands]):p:=h
def abW (h:p:=by
 obtain⟨d,e1,e2⟩:=Ju hE e
 exact fC.vY (q3 s d e1) e2):p:=h
def UU (h:p:=by
 show(if u.rel then _ else _)=_
 rw[hrel];rfl):p:=h
def ane (h:p:=by
 have:(gh (aq (Fw.tag fid) 0) T' R).map Prod.snd=ah R++ah T':=by simp[gh,nL,FW]
 rw[this,Lw]
 exact⟨hR,eJ.nd,λa ha b hb Sb=>by grind⟩):p:=h
def abX (h:p:=by
 rw[j7]
 grind[gb,Nat.lt_of_lt_of_le,Nat.mul_le_mul_right]):p:=h
def LW (h:p:=by rw[Hp.av,an]):p:=h
def ah5 (h:p:=by
 refine sF f281 ?_;repeat' ((first|(refine kO 7 rfl ?_;first|refine Rq (mT _ _ _) ?_)|refine tX 0 ?_|exact Zt|refine bR ?_ ?_<;>intro h)<;>(try conv=>whnf))
 all_goals exact Z0):p:=h
def ah6 (h:p:=by
 repeat' ((first|refine tX 0 ?_|exact Zt|refine bR ?_ ?_<;>intro h)<;>(try conv=>whnf))
 all_goals first|(exact rfl)|(cases x<;>first|(exact rfl)|(exact absurd rfl h)|(cases h))):p:=h
def ah7 (h:p:=by
 repeat' ((first|refine tX 0 ?_|exact Zt|refine bR ?_ ?_<;>intro h)<;>(try conv=>whnf))
 all_goals first|exact Zo|exact⟨i+1,hp,by omega,ai (by rw[xp];kernel_rfl)⟩):p:=h
def ah8 (h:p:=by
 have:bw 0 us=bw 0 (us.take i)++(lC u (17+6*i) (19+6*i) (21+6*i)++bw (i+1) (us.drop (i+1))):=by
  conv=>lhs;rw[h1]
  rw[yV,h2,j7];rfl
 grind):p:=h
def afO (h:p:=by
 generalize aJ 32 s=l at*;have hn:(ab l).length =l.length:=by simp
 refine sF f69 ?_
 exact tA):p:=h
def ah9 (h:p:=by
 repeat' ((first|(refine kO 7 rfl ?_;first|refine rG (λ_ z=>⟨_,wF rfl,z⟩) ?_)|refine tX 0 ?_|exact Zt|refine bR ?_ ?_<;>intro h)<;>(try conv=>whnf))
 all_goals exact Ei):p:=h
def aia (h:p:=by
 rcases Nat.lt_or_gt_of_ne hjn with Pf|hgt'
 ·have:(j+1)*z0<=n*z0:=kE _ Pf
  grind
 ·have:(n+1)*z0<=j*z0:=kE _ hgt'
  grind):p:=h
def aib (h:p:=by
 show if iW=id then Q .normal a w else Q (.exit iW) a w
 split at h
 ·rename_i e;rw[if_pos (pb e)];grind
 ·rename_i e
  rw[if_neg (λe'=>by simp_all)];grind):p:=h
def aic (h:p:=by
 obtain⟨o,n⟩:=q;obtain⟨h1,rfl⟩:=Tu.1 h;show tag n<n'
 rw[hT.tag h1];exact h0):p:=h
def aid (h:p:=by
 refine rG (r:=lit (.int .i64 (l.length:Nat))) (u:=[]) (R:=[]) (λK hK=>?_) h2;unfold fw;rw[ho];simp only[hc,ha,hx];unfold eZ;simp only[hi,hk,SC.ao]
 exact hK):p:=h
def afP (h:p:=by
 have hk:iW≠fid:=λe=>hf (e▸Lh)
 exact⟨blk',(live hk e).2,blk'.fV⟩):p:=h
def aie (h:p:=by rw[vN];simp only[vJ,sQ];unfold jK;constructor<;>(intro h;refine⟨?_,?_⟩<;>first|omega|exact hp)):p:=h
def afQ (h:p:=by simp[Instr.sliceAt,hT.cX,hd,Instr.sureAddr,Instr.sliceBounds,GX.iM,Addr.add]):p:=h
def aif (h:p:=by
 refine rG (r:=lit (.int .i64 (l.length:Nat))) (u:=[]) (R:=[id]) (λK hK=>?_) h2;unfold fw;rw[ho];simp only[hc,ha,hx];unfold eZ;simp only[hi,hk,hH]
 exact hK):p:=h
def C2 (h:p:=by
 refine sF f203 ?_
 exact tL):p:=h
def aig (h:p:=by
 intro p hp;rcases dl.1 hp with rfl|hp
 ·exact .inr ⟨t,cs,l,u,r,hb,rfl,dw,λq hq=>ji _ hq⟩
 ·exact .inl (cN dw p hp)):p:=h
def afR (h:p:=by
 intro d hd;rw[m6]at hd;subst hd
 exact hT.xJ):p:=h
theorem aih (h:p:=by
 match vs,hl with
 | [],_=>rfl
 | [v],hl=>
  exfalso;have:l.length=1:=by grind
  obtain⟨y,rfl⟩:=xO.1 this
  grind
 |_::_::_,_=>rfl):p:=h
def aii (h:p:=by
 refine⟨.inr rfl,by rw[Cg];rfl,λnV z' n' hb wI=>?_⟩;rw[aG _ _ _ (oz eU),it]at hb;cases hb;cases wI
 exact .inl ⟨by simp[cV],h0,Cg⟩):p:=h
def aij (h:p:=by
 repeat' ((first|refine tX 0 ?_|exact Zt|refine bR ?_ ?_<;>intro h)<;>(try conv=>whnf))
 all_goals first|exact Zo|(exact rfl)|(exact absurd (by assumption) hp)):p:=h
def afS (h:p:=by
 (try(refine tX 0 ?_;try exact Zt))
 rw[if_neg h];(first|done|rfl|exact True.intro)):p:=h
def abY (h:p:=by unfold lC;dsimp only;rw[<- nq];kernel_rfl):p:=h
theorem aik (h:p:=by
 have e1:lo.map a.eval=none:=by cases lo with|none=>rfl|some x=>grind
 have e2:hi.map a.eval=none:=by cases hi with|none=>rfl|some x=>grind
 grind):p:=h
def PG (h:p:=by
 refine gI f124 h3 hl rfl ?_
 exact tL):p:=h
def afT (h:p:=by
 obtain⟨rfl,_⟩:=hx.am.bB
 exact⟨_,rfl,bn.pure hR h (fT rfl)⟩):p:=h
def anf (h:p:=by
 simp only[A0,CU];rw[sN,hg]
 exact .lit rfl):p:=h
def ail (h:p:=by
 have hj:j<z':=by grind
 have ak:i*z'+j<c'.len*z':=by
  have:(i+1)*z'<=c'.len*z':=kE _ (SC.iu he)
  grind
 simp_all):p:=h
def abZ (h:p:=by have:scB 1000000000000 (i7 ch):=hS;omega):p:=h
def aim (h:p:=by
 obtain⟨is,hd⟩:=U5 (hT.b8.trans bW);unfold Op.equal Op.maxDepth Op.equalIn
 simp only[eL,hT.cX,hd,my,lN]):p:=h
def ain (h:p:=by
 have:k=9\/k=11\/k=13\/k=15:=by simpa [F1,ah]using hk
 rcases this with rfl|rfl|rfl|rfl
 ·exact h9
 ·exact ha
 ·exact hb
 ·exact hc):p:=h
def aio (h:p:=by
 rw[ba hx h2 h4 (show aU E p log ⟨volt,earth,opens,hall,lots,units⟩ _ 3 [x,y] n r=(_,_)from if_pos hm)];refine gI f117 h3 hl rfl ?_
 exact tL):p:=h
def aip (h:p:=by
 rename_i xs ys;simp at h;subst h;refine⟨rfl,rfl,rfl,by simp[SC.len],λi e he=>?_⟩;simp only[SC.elem,SC.len,Ss]at he ⊢
 grind):p:=h
def aiq (h:p:=by
 rw[gK,mZ]at hk;obtain⟨x0,Sd,rfl⟩:=hk
 exact fC.su (hv k x0 Sd) (oc (Cd x0 (jI Sd)))):p:=h
def air (h:p:=by
 subst h2;unfold wd;rw[ex];simp only[CZ,CX,dj,Int.add_zero];refine sF f396 ?_
 (try(refine tX 0 ?_;try exact Zt))
 rw[ex];rfl):p:=h
def ais (h:p:=by
 rw[UM hi];show(if l[i]≠0 then l[i]else fs (l.drop (i+1)))=_
 rw[show l.getD i 0=l[i]by simp[jN,hi]]):p:=h
def ait (h:p:=by
 have qR:=P1 e;have e3:a2.tmps.getD s undef=a.tmps.getD s undef:=(u3 s qR).trans ((p3 s qR).trans (amC s qR));have:=u1.env s dv e
 grind):p:=h
theorem aiu (h:p:=by
 clear hx
 induction x with
 |nil=>rfl
 |cons d x ih=>
  simp only[e8]
  rw[key d jx,ih λd hd=>key d (ji _ hd)]):p:=h
def aiv (h:p:=by
 unfold fw at h;rw[ho]at h;simp only at h;split at h
 ·rename_i d hd;exact bN (by simp[execOp,ho]) ⟨_,rfl,bn.pure hR h (ev hd)⟩
 grind):p:=h
theorem aiw (h:p:=by
 generalize a.eval fo=vf at GP
 cases GP with
 |empty a cap hv=>grind[SC.ao]
 |view _ _ _ _ _ hv=>grind[SC.ao]
 |fn fv cv ga h1 h2=>
  grind):p:=h
def aix (h:p:=by
 rw[ba hx h2 h4 (show aU E p log ⟨volt,earth,opens,hall,lots,units⟩ _ 16 [x] n r=(_,_)from rfl)];refine gI f130 h3 hl rfl ?_
 exact tL):p:=h
def aiy (h:p:=by
 obtain rfl:i=p.aa.length:=by omega
 rw[show(cS p.aa).take p.aa.length=cS p.aa from pc (by simp[cS])]
 exact tA):p:=h
def Yk (h:p:=by grind[Nat.eq_of_mul_eq_mul_right]):p:=h
def afU (h:p:=by rwa [if_neg (λhb=>hp ((BP.iff (b:=b)).1 hb))]at h):p:=h
def aiz (h:p:=by
 intro e he;rcases iz.1 he with he|he
 ·obtain⟨w,_,rfl⟩:=dT.1 he;rfl
 ·rw[m6]at he;subst he;rfl):p:=h
def aiA (h:p:=by
 rw[DR zO ak];intro b jW;rcases iz.1 jW with jW|jW
 ·exact xD b jW
 ·rw[m6]at jW;subst jW;exact hx):p:=h
def UV (h:p:=by rw[<- hrl];kernel_rfl):p:=h
def aiB (h:p:=by
 have hk:=Hp.dK e;have:k=11\/k=13\/k=15:=by simpa [lC,ah]using hk
 rcases this with rfl|rfl|rfl<;>(cases e;trivial)):p:=h
def afV (h:p:=by
 intro d hd;have:d= .st (.view (log.map be)):=by grind
 subst this;trivial):p:=h
def aiC (h:p:=by
 rw[ho]at h;simp only at h ⊢;rw[he m (by grind[Op.operands]),he k (by grind[Op.operands]),he v (by grind[Op.operands])];split at h
 grind
 omega):p:=h
def afW (h:p:=by
 rcases XR.1 hj with h'|rfl
 ·exact hp j h'
 ·exact h):p:=h
def aiD (h:p:=by
 obtain⟨o,n⟩:=q;obtain⟨h1,h2⟩:=gg.1 hq;show Fw.tag n<n';have h2:n=o:=h2;rw[h2,(hT.lt o h1).2]
 rwa [vZ]at h0):p:=h
theorem aiE (h:p:=by
 cases h with
 |empty _ _ hv=>grind[SC.ao]
 |view _ _ _ _ _ hv=>grind[SC.ao]
 |ref b o f hc hr=>exact .ref b o f (by simp) (by simp)):p:=h
def UW (h:p:=by cases d<;>simp[eD]at h;grind):p:=h
def aiF (h:p:=by
 subst xI;rw[an]at hb;cases hb;cases wI
 exact .inr ⟨w.heap.size,len,arr',e,by simp[cV],by grind,gO w _,by omega⟩):p:=h
def UX (h:p:=by have:=(s.getD i 0).toNat_lt;omega):p:=h
def ab0 (h:p:=by simp only[qX];grind[cE,mO]):p:=h
def UY (h:p:=by
 refine gI f126 h3 hl rfl ?_
 exact tL):p:=h
def aiG (h:p:=by
 have:k=11\/k=13\/k=15:=by simpa [lC,ah]using hk
 rcases this with rfl|rfl|rfl<;>exact⟨by decide,by decide,rfl⟩):p:=h
def aiH (h:p:=by
 obtain rfl:i=ch.length:=by omega
 (try(refine tX 0 ?_;try exact Zt))
 rw[he,Lx];(first|done|rfl|exact True.intro)):p:=h
def aiI (h:p:=by
 repeat' ((first|refine tX 0 ?_|exact Zt|refine bR ?_ ?_<;>intro h)<;>(try conv=>whnf))
 all_goals first|(exact rfl)|trace_state):p:=h
def afX (h:p:=by rw[vN];simp only[vJ];omega):p:=h
def afY (h:p:=by exact⟨β,_,_,_,h,eJ.bk,hH.bk,⟨#[],rfl,rfl,by simp⟩⟩):p:=h
def Yl (h:p:=by exact⟨q0,.inl ⟨by grind,q1.2⟩⟩):p:=h
def aiJ (h:p:=by
 have:=h4 (ws.getD 0 []) (by rw[show ws.getD 0 []=ws[0]by simp[jN,h6]];exact qd h6)
 omega):p:=h
def aiK (h:p:=by
 intro k n y c hn;have:0<=(n:Int)/\(n:Int)<=(y:Int):=⟨by omega,by omega⟩
 simp[Instr.sliceBound,asIntOf,this]):p:=h
def aiL (h:p:=by
 (try(refine tX 0 ?_;try exact Zt))
 exact⟨i+1,⟨⟨by omega,ak⟩,am5⟩,by omega,ai (by rw[hv];kernel_rfl)⟩):p:=h
def aiM (h:p:=by simp only[qX];rw[cE c1,cE c2,cE c3,cE c4,cE c5,cE c6,cE c7,mO]):p:=h
def aiN (h:p:=by
 have hk:=(kJ.1 hx).1;have qR:k<ds.length:=by omega
 have hd:ds[k]? =some ds[k]:=by grind
 grind):p:=h
def Ym (h:p:=by simp[nL,FW]):p:=h
def aiO (h:p:=by
 unfold gh
 exact iz.2 (.inl (gg.2 ⟨hk,rfl⟩))):p:=h
def aiP (h:p:=by
 have n1:(a.map be).length =a.length:=by simp
 have n2:(b.map be).length =b.length:=by simp
 refine sF f5 ?_
 exact tA):p:=h
def afZ (h:p:=by
 by_cases hjn:j=n
 ·rw[if_pos hjn]at hj;grind[iA]
 grind):p:=h
def ab1 (h:p:=by rw[vX,lY];kernel_rfl):p:=h
def af0 (h:p:=by rw[nv];exact zi (by rw[jt Cf];simp)):p:=h
theorem aiQ (h:p:=by
 match vs,hl,q2 with
 | [v],_,_=>exact⟨_,h,UG 0 y rfl⟩
 | [],hl,q2=>grind
 |_::_::_,hl,q2=>grind):p:=h
theorem aiR (h:p:=by
 cases h2 with
 |num h=>exact h
 |empty a cap hv=>simp[SC.ao]at hv
 |view _ _ _ _ _ hv=>simp[SC.ao]at hv):p:=h
def aiS (h:p:=by simp only[qX];rw[cE b1,cE b2,cE b3,cE b4,cE b5,cE b6,mO]):p:=h
def aiT (h:p:=by
 have:10*0+(b.toNat -48)<=fH 0 (b::r'):=Al (acc:=10*0+(b.toNat -48)) (l:=r')
 grind[dt]):p:=h
def af1 (h:p:=by
 rw[iC _ _ _ hk]at jW
 exact hs iW bC (live hk e').2 jW):p:=h
def UZ (h:p:=by exact .inl ⟨by decide,rfl⟩):p:=h
def ang (h:p:=by
 rw[this,z6];have e:(B ∘ λx:ByteArray=>x.data.toList)=id:=by funext x;exact acU x
 simp_all):p:=h
def aiU (h:p:=by
 rw[h2]at h5;unfold wN;rw[h5];show(if b=true\/0<=v then some v else none).isSome =true
 rw[if_pos h1];rfl):p:=h
def aiV (h:p:=by
 obtain⟨h0,h⟩:=h;have h1: ¬b<0:=by omega
 refine⟨_,?_,?_,h⟩
 ·simp[binOp,Op.shift,h1]
 ·rfl):p:=h
def ab2 (h:p:=by unfold B4 at hb0;rw[ea]at hb0;exact hb0):p:=h
def af2 (h:p:=by
 refine gI f117 h3 hl rfl ?_
 exact tL):p:=h
def aiW (h:p:=by
 have hm:(if false=true\/0<=n then some n else none)=some m:=hm;split at hm
 ·cases hm;rfl
 ·cases hm):p:=h
def ab3 (h:p:=by grind[SC.elem]):p:=h
def af3 (h:p:=by
 intro d hd;obtain⟨c,_,rfl⟩:=dT.1 hd
 trivial):p:=h
def aiX (h:p:=by
 cases x<;>cases y<;>cases z<;>first|(exact absurd ⟨⟨rfl,rfl⟩,rfl⟩ hall)|skip
 all_goals exact tA):p:=h
def aiY (h:p:=by
 have it:=vz dp eU
 (try(refine tX 0 ?_;try exact Zt))
 generalize (vS.getD k 0).toNat =x at*
 exact tL):p:=h
def aiZ (h:p:=by
 obtain⟨N,⟨_,_,_,β,hE,hR⟩,_⟩:=hr;have:=mB hG hR hE hb
 exact(au.am this).bB.1):p:=h
def ai0 (h:p:=by rw[show((l.length:Int) -1+1).toNat =l.length by omega,J5,J5];kernel_rfl):p:=h
theorem ai1 (h:p:=by
 match ps,hp2 with
 | [],_=>rfl
 | [_],_=>rfl
 |_::_::_::_,_=>rfl
 | [_,_],h=>exact absurd rfl h):p:=h
def ai2 (h:p:=by
 have:nxR (s',z)= .aI [(true,RD),I z]:=by show lO.aI _=_;rw[if_neg hz]
 rw[this]at c3;exact c3):p:=h
def ai3 (h:p:=by exact Zz (JS hn hg (Int.gcd_dvd_left ..)) (JS ⟨by omega,by omega⟩ hg (Int.gcd_dvd_right ..))):p:=h
def ai4 (h:p:=by rw[show ps.getD i []=ps[i]by simp[jN,ak]];exact qd ak):p:=h
def anh (h:p:=by rwa [show La (aq (tag fid) 1) (.val (dyn (I z)))= .val (dyn (I z))from aQ DV.val (JF _ _)]at g):p:=h
theorem ani (h:p:=by
 cases h2 with
 |num h=>exact h
 |empty a cap hv=>grind[SC.ao]
 |view _ _ _ _ _ hv=>grind[SC.ao]):p:=h
def af4 (h:p:=by rwa [if_pos ((BP.iff (b:=b)).2 hp)]at h):p:=h
def Yn (h:p:=by unfold maxLen;omega):p:=h
def LX (h:p:=by exact⟨q0,.inl q1⟩):p:=h
def ai5 (h:p:=by rw[Hp.av];exact λs dv e=>hs.vY (q3 s dv e)):p:=h
theorem ai6 (h:p:=by
 cases k with
 |zero=>simp at hk;subst hk;exact⟨.int .i64 0,by grind,.lit rfl⟩
 |succ k=>grind):p:=h
def ai7 (h:p:=by
 rintro⟨a,b,c,d⟩ h;obtain⟨e1,e2,e3,e4⟩:=J2 h
 rw[k1 _ e1,k2 _ e2,k3 _ e3,k4 _ e4]):p:=h
def ai8 (h:p:=by simp only[execOp,ho,eL,SQ,hr,my];rfl):p:=h
theorem ai9 (h:p:=by
 have:c.args.toList.length=2:=by omega
 match hl:c.args.toList,this with
 | [x0,x1],_=>grind):p:=h
theorem aja (h:p:=by
 cases h with
 |empty a cap hv h0=>exact .empty a cap hv h0
 |view _ _ _ _ _ hv fN=>grind[SC.len]):p:=h
def ab4 (h:p:=by rw[<- Ev];simp[*]):p:=h
def U0 (h:p:=by have:=hS.units;omega):p:=h
def ajb (h:p:=by exact cK (.fn #[] #[] (λ_=> #[]) rfl rfl (by simp) (by simp) (by simp) (by simp) (by simp))):p:=h
def ajc (h:p:=by
 unfold fw;rw[ho];simp only[hc,hx];show K (lit (.int .i64 (if b>a then b else a))) [] []
 grind):p:=h
def ajd (h:p:=by
 unfold Op.equal Op.maxDepth
 exact L7 (n:=9999) (c:=.bool) rfl hT.IP (hT.b8.trans bW)):p:=h
def aje (h:p:=by exact(PA (w:=w) (a:=⟨b,o,none⟩) (zU.below.block b (ak h1) h1)).symm):p:=h
def ajf (h:p:=by
 obtain rfl:i=p.aa.length:=by omega
 rw[pc (dE _)]
 exact tA):p:=h
def Yo (h:p:=by unfold gok;omega):p:=h
def ab5 (h:p:=by rw[<- hb];kernel_rfl):p:=h
def U1 (h:p:=by simpa using h):p:=h
def ajg (h:p:=by
 (try(refine tX 0 ?_;try exact Zt))
 rw[he,if_pos h];(first|done|rfl|exact True.intro)):p:=h
def ajh (h:p:=by
 obtain⟨c,_,rfl⟩:=dT.1 h;obtain⟨c',_,rfl⟩:=dT.1 hd
 trivial):p:=h
def U2 (h:p:=by
 refine sF f224 ?_
 exact tL):p:=h
theorem aji (h:p:=by
 cases h with
 |lit h=>rfl
 |empty a cap hv h0=>cases hv
 |view b o cap z f hv=>cases hv):p:=h
def ajj (h:p:=by
 simp only[jN,G1]
 rw[show 1+(i -1)=i by omega]):p:=h
def af5 (h:p:=by
 rw[fL hx]at hp1;rw[nX hx]
 exact tL):p:=h
def ajk (h:p:=by
 rw[G1]at hc;simp at e;subst e;have:=q5 _ _ hc
 simpa using this.flat rfl):p:=h
def ajl (h:p:=by
 simp only[jX,h1,h2,h3,h4,h5,h6,h7,fp,e8,m9,id1,id2,id3,id4]
 rfl):p:=h
def ajm (h:p:=by rw[CQ,pj ak];simp[jN,ak]):p:=h
def anj (h:p:=by
 intro d hd;have:d= .ptr 1 0:=by simpa using hd
 subst this
 exact(ci p l hu).xJ):p:=h
def ajn (h:p:=by simp[jN,h]):p:=h
def ab6 (h:p:=by have:=h n hn;omega):p:=h
def Yp (h:p:=by cases k<;>rfl):p:=h
def af6 (h:p:=by obtain⟨_,_,rfl⟩:=dT.1 hx;rfl):p:=h
def ajo (h:p:=by exact⟨β,_,_,_,hK,(tG.trans t2).bk,hN.bk,⟨#[],rfl,rfl,by simp⟩⟩):p:=h
def ank (h:p:=by
 intro hm;have hm:n∈ah (cP (aq (Fw.tag fid) 0) T'):=hm
 grind[di]):p:=h
def af7 (h:p:=by unfold io jp at hx;omega):p:=h
def ajp (h:p:=by
 intro d hd;have:d= .st (.view (l.map be)):=by simpa using hd
 subst this
 trivial):p:=h
def ab7 (h:p:=by simpa using hi):p:=h
def ajq (h:p:=by
 (try(refine tX 0 ?_;try exact Zt))
 generalize (s.getD 1 0).toNat =c at*
 exact tL):p:=h
def ab8 (h:p:=by
 refine sF f5 ?_
 exact tA):p:=h
def ajr (h:p:=by
 rw[hs];refine⟨by rw[nz.eq];omega,⟨by omega,by grind⟩,u,?_⟩
 simp_all):p:=h
def ajs (h:p:=by
 rw[hs];refine⟨by rw[nz.eq];omega,⟨by grind,by omega⟩,u,?_⟩
 simp_all):p:=h
def ajt (h:p:=by
 rw[an]at hb;cases hb;cases wI
 exact .inl ⟨by simp[cV],h0,rfl⟩):p:=h
def aju (h:p:=by
 rw[di]at hid;obtain⟨k,hk,rfl⟩:=dT.1 hid
 exact mb k hk):p:=h
def ajv (h:p:=by
 rw[run_choose];simp only[Question.forced,to,kK,hk]
 rfl):p:=h
def ajw (h:p:=by
 show -9223372036854775807<=x.tmod y/\x.tmod y<=9223372036854775807
 omega):p:=h
def ajx (h:p:=by have:=(kJ.1 ID).1;have h17:k+1<17:=this;omega):p:=h
def Yq (h:p:=by simp[SC.len]):p:=h
def af8 (h:p:=by grind[yG,tv,i64_in]):p:=h
def ajy (h:p:=by
 have hid:id∈ah (cP (aq (Fw.tag fid) 0) T'):=hid
 grind[di]):p:=h
def ab9 (h:p:=by rw[kG];exact h3):p:=h
def ajz (h:p:=by
 rcases this with rfl|rfl|rfl
 ·rw[h1];rfl
 ·rw[h2];rfl
 ·rw[h3];rfl):p:=h
def ajA (h:p:=by
 by_cases he:E.2=0
 ·rw[if_pos he];exact tL
 ·rw[if_neg he]
  exact tL):p:=h
def ajB (h:p:=by
 rcases XR.1 hj with h'|rfl
 ·exact i3 j h'
 ·exact x3):p:=h
def ajC (h:p:=by intro x hx;simp at hx;rcases hx with rfl|rfl<;>rfl):p:=h
def af9 (h:p:=by
 unfold dyn;simp only[z6]
 congr 1):p:=h
def aca (h:p:=by dsimp only;omega):p:=h
def Yr (h:p:=by
 refine sF f304 ?_
 exact tL):p:=h
def ajD (h:p:=by
 rw[aG _ _ _ hi]at e
 exact⟨e,(hN.rel i b0 e).1,λ_ _=>rfl⟩):p:=h
def ajE (h:p:=by rw[sO,Lz];omega):p:=h
def aga (h:p:=by have:=aQ List.length dQ;grind):p:=h
def ajF (h:p:=by
 have:k=b:=by simpa using hk
 subst this
 exact⟨h2,h1,hbf,hbn⟩):p:=h
def ajG (h:p:=by
 obtain rfl:k=3:=by omega
 exact absurd (hkk.symm.trans (hkn dp)) h3):p:=h
def ajH (h:p:=by simp[Instr.indexAt,asIntOf,hT.cX,hd,h2,hE.iM,addr_add]):p:=h
def ajI (h:p:=by rw[show(l++[r]).take (w+1)=l by rw[<- ak];simp];simp;omega):p:=h
def acb (h:p:=by rw[jj,aaE]):p:=h
def ajJ (h:p:=by
 rw[bQ e1]
 exact(q7 j e k x he hk).mono eJ.mv (Mem.le_refl _)):p:=h
def ajK (h:p:=by
 (try(refine tX 0 ?_;try exact Zt))
 rw[Int.neg_mul,C0];rfl):p:=h
def acd (h:p:=by rw[hgl];omega):p:=h
def U3 (h:p:=by simp[h]):p:=h
def agb (h:p:=by rw[e1,e2];kernel_rfl):p:=h
def ajL (h:p:=by
 rw[Za,Za,show(a==b)=decide (a=b)by grind]
 exact hK):p:=h
def ajM (h:p:=by have:=aeA n (show d≠0 by omega);omega):p:=h
def ajN (h:p:=by
 refine(LD hy).2 ⟨by omega,by omega,?_⟩
 grind):p:=h
def agc (h:p:=by
 rw[fj hx]at hp1
 exact tL):p:=h
def ajO (h:p:=by
 have:id=fid:=by simpa using hid
 rw[this]):p:=h
def ajP (h:p:=by
 rw[CU]at this;rw[<- this,<- Array.foldl_toList]
 simp):p:=h
theorem ajQ (h:p:=by
 cases hl:c.args.toList with
 |nil=>grind
 |cons x0 rest=>grind):p:=h
def ajR (h:p:=by
 refine⟨[.lit (.int .i64 (l.getD n 0))],?_,hK⟩
 grind[SC.elem]):p:=h
def ajS (h:p:=by first|exact lvM h1|exact uvM λ_=>rfl):p:=h
def ajT (h:p:=by first|exact lvM h4|exact uvM λ_=>rfl):p:=h
def ace (h:p:=by have:=SC.iu he;omega):p:=h
def ajU (h:p:=by rw[this,b4,<- SY];exact kE _ nB):p:=h
def ajV (h:p:=by
 rw[UN hkp]at hk;have:=hr.2 k c hk
 grind):p:=h
def ajW (h:p:=by simp only[ij]at h;obtain⟨rfl,h⟩:=h;exact hm):p:=h
def acf (h:p:=by grind[jJ]):p:=h
def agd (h:p:=by grind[lV]):p:=h
def anl (h:p:=by
 rcases h with h|h
 ·exact h.2 mv w vs hm hG ha
 ·exact h.elim):p:=h
def ajX (h:p:=by
 obtain rfl:i=ps.length:=by omega
 rw[gT dp]
 exact tA):p:=h
def acg (h:p:=by grind[maxLen]):p:=h
def ach (h:p:=by grind[rd,cell_setRow_other]):p:=h
def age (h:p:=by simp[Op.equalIn,tp hu]):p:=h
def aci (h:p:=by rw[<- SY];grind):p:=h
def anm (h:p:=by
 have:=mG (ρ:=λk=>k) jr g2
 grind[cD.GZ]):p:=h
def agf (h:p:=by
 refine gI f127 h3 hl rfl ?_
 exact tL):p:=h
def acj (h:p:=by rw[q1];rfl):p:=h
def ajY (h:p:=by
 obtain rfl:k=res.length:=by omega
 rw[Od]
 exact tL):p:=h
def ajZ (h:p:=by(conv=>rhs;rw[<- nq]);kernel_rfl):p:=h
def aj0 (h:p:=by
 rw[aG _ _ _ h]at e
 exact⟨blk',e,blk'.fV⟩):p:=h
def aj1 (h:p:=by
 show(if(index s [32]== -1)=true then _ else _)=_
 grind):p:=h
def aj2 (h:p:=by
 simp only[SI,hc.size,hd.size,Pa]
 grind):p:=h
def aj3 (h:p:=by exact .inr ⟨b,cap,arr,T,by simp[cV],rfl,r1,r2⟩):p:=h
theorem aj4 (h:p:=by
 cases r with
 |uV z c=>exact hm.elim
 |_=>exact hs.elim):p:=h
def ack (h:p:=by
 refine sF f213 ?_
 exact tL):p:=h
def acl (h:p:=by
 refine sF f310 ?_
 exact tL):p:=h
def acm (h:p:=by
 refine sF f370 ?_
 exact tL):p:=h
def acn (h:p:=by
 refine sF f252 ?_
 exact tA):p:=h
def aco (h:p:=by
 refine sF f110 ?_
 exact tL):p:=h
def aj5 (h:p:=by
 rw[hx]at hc;generalize t.bz.getD i []=y at*
 exact tL):p:=h
def acp (h:p:=by simpa [F0,ah]using hk):p:=h
def aj6 (h:p:=by rw[nC,<- SY];exact kE _ eC):p:=h
theorem aj7 (h:p:=by
 cases qs with
 |nil=>simp at ha;omega
 |cons a b=>simp):p:=h
def aj8 (h:p:=by have:=(Ks hP h).1.units;omega):p:=h
def agh (h:p:=by
 rw[hm];refine sF f229 ?_
 exact tA):p:=h
def aj9 (h:p:=by rw[hs];exact λt e=>(hd t e).1):p:=h
theorem aka (h:p:=by
 induction n with
 |zero=>rfl
 |succ n ih=>grind[cY]):p:=h
def ann (h:p:=by exact⟨_,rfl,Below.refl _ _,⟨_,rfl,.lit rfl⟩⟩):p:=h
theorem akb (h:p:=by
 cases qs with
 |nil=>simp at ha;omega
 |cons a b=>rfl):p:=h
def ano (h:p:=by
 have:=wL.1 hn q h
 rwa [vZ]at this):p:=h
def akc (h:p:=by
 obtain⟨rfl,rfl⟩:=gD e
 exact⟨hH,trivial⟩):p:=h
def agi (h:p:=by rw[LH];omega):p:=h
def akd (h:p:=by obtain⟨rfl,rfl,rfl⟩:=h;rfl):p:=h
def acq (h:p:=by exact O8 S a w' eM hr):p:=h
def ake (h:p:=by
 obtain⟨h5,h6⟩:=oQ.2 p hp
 rw[k2 _ h5,k3 _ h6]):p:=h
theorem akf (h:p:=by
 induction n with
 |zero=>rfl
 |succ n ih=>grind[aZ]):p:=h
def akg (h:p:=by dsimp only;rw[e1,e2];kernel_rfl):p:=h
def acr (h:p:=by
 rw[fq dp]
 exact tA):p:=h
def acs (h:p:=by
 refine sF f88 ?_
 exact tA):p:=h
def anp (h:p:=by cases h):p:=h
def agj (h:p:=by simp only;omega):p:=h
def agk (h:p:=by rw[kG];decide):p:=h
def akh (h:p:=by rw[<- e];exact(hT.lt id hid).2):p:=h
def aki (h:p:=by
 rcases FO h h' with⟨rfl,rfl⟩|rfl
 ·rfl
 ·simp):p:=h
def akj (h:p:=by
 rw[bQ e1]
 exact eJ.jw hR (q7 j e k x he hk)):p:=h
theorem akk (h:p:=by
 cases base with
 |none=>simp_all
 |some b=>simp_all):p:=h
def agl (h:p:=by rw[<- hzl,<- hE.xN];simp):p:=h
def agm (h:p:=by
 rw[this]
 exact .lit rfl):p:=h
def akl (h:p:=by rw[jj];kernel_rfl):p:=h
def akm (h:p:=by rw[bu,bu];omega):p:=h
def act (h:p:=by grind[cE,mO]):p:=h
def akn (h:p:=by rw[zZ];kernel_rfl):p:=h
def ako (h:p:=by
 rw[gK,ID]at hd;cases hd
 exact .st _):p:=h
def akp (h:p:=by rintro⟨a',w',h⟩;exact h):p:=h
def akq (h:p:=by rw[FT];exact dE _):p:=h
def acu (h:p:=by simp[F1]):p:=h
def akr (h:p:=by simp[execOp,ho,hcv,asBool]):p:=h
def agn (h:p:=by simpa using hl):p:=h
def aks (h:p:=by
 rcases h with h|h
 grind
 ·rw[h,jQ];grind):p:=h
def akt (h:p:=by
 rw[Hp.av,xI]
 exact t3.env hN (t2.env q4 q3)):p:=h
def ago (h:p:=by simpa using h5):p:=h
def aku (h:p:=by exact dw (es:=[]) (.empty _ _ rfl rfl) (by simp)):p:=h
def akv (h:p:=by
 obtain⟨h1,h2⟩:=aH h
 grind[Mv]):p:=h
def acv (h:p:=by simp[bw,lC,ah]):p:=h
def akw (h:p:=by have:=h4 b (by simp);omega):p:=h
def akx (h:p:=by have:=h4 a (by simp);omega):p:=h
def aky (h:p:=by grind[SC.len]):p:=h
def akz (h:p:=by grind[jH]):p:=h
def akA (h:p:=by
 rw[eS h6];generalize jL ru=e at*
 exact tL):p:=h
def akB (h:p:=by
 have ea:B0 s=0:=by unfold B0;grind
 grind):p:=h
def akC (h:p:=by cases hb;obtain⟨_,b,_,rfl⟩:=h1;grind):p:=h
def akD (h:p:=by
 obtain⟨c0,h3,h4⟩:=uU j _ _ hj
 grind):p:=h
def akE (h:p:=by
 rename_i aoy;split at h
 grind[lQ]
 grind):p:=h
def akF (h:p:=by obtain⟨m,z,c,rfl⟩:=um e;trivial):p:=h
def akG (h:p:=by
 rw[bQ e]
 exact eJ.jw hR (h5 k x hk)):p:=h
def akH (h:p:=by simp;rw[hc.size];omega):p:=h
def akI (h:p:=by simp[Builtin.firstCells]):p:=h
def akJ (h:p:=by subst h7;rw[an]at e;cases e;trivial):p:=h
def akK (h:p:=by subst h3;rw[an]at e;cases e;trivial):p:=h
def akL (h:p:=by subst h5;rw[an]at e;cases e;trivial):p:=h
end Go
namespace Go.Fw
open Go.RowKit (Below)
inductive SC where
 |lit (v:Value)
 |ints (xs:List Int)
 |view (es:List (List SC))
 |ref (cs:List SC)
 |fn (f:FuncId) (first:List (Bool × List SC)) (bM:List (List SC))
 |err
 |num (k:IntKind)
 |raw (v:Value)
 |any
 deriving Inhabited
abbrev SV:=Bool × List SC
namespace SC
def ao:SC->Bool
 | .ints _| .view _=>true
 |_=>false
def len:SC->Nat
 | .ints xs=>xs.length
 | .view es=>es.length
 |_=>0
def elem:SC->Nat->Option (List SC)
 | .ints xs,i=>(xs[i]?).map λn=>[.lit (.int .i64 n)]
 | .view es,i=>es[i]?
 |_,_=>none
end SC
theorem SC.iu {c:SC}{i:Nat}{e:List SC}(h:c.elem i=some e):i<c.len:=by
 cases c<;>simp[SC.elem,SC.len]at h ⊢
 grind
 grind
def SC.ov {c:SC}{i:Nat}(h:i<c.len): ∃e,c.elem i=some e:=by
 cases c<;>simp[SC.elem,SC.len]at h ⊢;simp_all;simp_all
def plain:Value->Bool
 | .bool _| .int _ _| .float _ _| .complex _ _ _| .string _| .nilFunc | .nilIface | .pointer none| .map none| .chan none=>true
 |_=>false
abbrev Mem:=Nat->Nat->Option Value
def Mem.le (m m':Mem):Prop:=∀b o v,m b o=some v->m' b o=some v
def eX:Mem:=λ_ _=>none
def rd (w:World):Mem:=λb o=>w.cell? ⟨b,o,none⟩
def Mem.le_refl (m:Mem):m.le m:=λ_ _ _ h=>h
def Mem.le_trans {a b c:Mem}(h:a.le b)(k:b.le c):a.le c:=λx y v e=>k x y v (h x y v e)
def ee (m:Mem):eX.le m:=λ_ _ _ h=>by grind[eX]
inductive dy (mv:Mem):Mem->Value->SC->Prop
 |lit {mr:Mem} {v:Value} (h:plain v=true):dy mv mr v (.lit v)
 |empty {mr:Mem} {c:SC} (a:Option Addr) (cap:Nat) (hv:c.ao=true) (h0:c.len=0):dy mv mr (.slice a 0 cap) c
 |view {mr:Mem} {c:SC} (b o cap z:Nat) (f:Nat->Value) (hv:c.ao=true) (fN:0<c.len) (hz:0<z) (fZ:c.len<=cap)
   (hl: ∀i e,c.elem i=some e->e.length=z) (hc: ∀k,k<c.len*z->mv b (o+k)=some (f k))
   (hr: ∀(i:Nat) (e:List SC) (j:Nat) (x:SC),c.elem i=some e->e[j]? =some x->dy mv eX (f (i*z+j)) x):dy mv mr (.slice (some ⟨b,o,none⟩) c.len cap) c
 |ref {mr:Mem} {cs:List SC} (b o:Nat) (f:Nat->Value) (hc: ∀k,k<cs.length->mr b (o+k)=some (f k))
   (hr: ∀(k:Nat) (x:SC),cs[k]? =some x->dy mv mr (f k) x):dy mv mr (.pointer (some ⟨b,o,none⟩)) (.ref cs)
 |err {mr:Mem} {v:Value} (h: ∃T x,v= .iface T x):dy mv mr v .err
 |num {mr:Mem} {v:Value} {k:IntKind} (h: ∃m,v= .int k m):dy mv mr v (.num k)
 |raw {mr:Mem} {v:Value} (h:v.oneCell'=true):dy mv mr v (.raw v)
 |any {mr:Mem} {v:Value} (h:v.oneCell'=true):dy mv mr v .any
 |fn {mr:Mem} {f:FuncId} {first:List (Bool × List SC)} {bM:List (List SC)} (fv cv:Array Value) (ga:Nat->Array Value) (h1:fv.size=first.length) (h2:cv.size=bM.length)
   (hf1: ∀(j:Nat) (c:SC),first[j]? =some (false,[c])->dy mv mr (fv.getD j undef) c) (hf0: ∀(j:Nat) (cs:List SC),first[j]? =some (false,cs)->∃c,cs= [c])
   (hf2: ∀(j:Nat) (cs:List SC),first[j]? =some (true,cs)->fv.getD j undef= .agg (ga j)/\(ga j).size =cs.length)
   (hf3: ∀(j:Nat) (cs:List SC) (k:Nat) (x:SC),first[j]? =some (true,cs)->cs[k]? =some x->dy mv mr ((ga j).getD k undef) x)
   (Xv: ∀(j:Nat) (cs:List SC),bM[j]? =some cs->dy mv mr (cv.getD j undef) (.ref cs)):dy mv mr (.func (.func f) fv cv) (.fn f first bM)
def dy.mono {mv mr mv' CF:Mem}(hv:mv.le mv')(hr:mr.le CF){v:Value}{c:SC}(h:dy mv mr v c):dy mv' CF v c:=by
 induction h generalizing CF with
 |lit h=>exact .lit h
 |empty a cap hv h0=>exact .empty a cap hv h0
 |view b o cap z f h1 h2 h3 h4 hl hc _ ih=>exact .view b o cap z f h1 h2 h3 h4 hl (λk hk=>hv _ _ _ (hc k hk)) λi e j x he hx=>ih i e j x he hx (Mem.le_refl _)
 |ref b o f hc _ ih=>exact .ref b o f (λk hk=>hr _ _ _ (hc k hk)) λk x hx=>ih k x hx hr
 |err h=>exact .err h
 |num h=>exact .num h
 |raw h=>exact .raw h
 |any h=>exact .any h
 |fn fv cv ga h1 h2 _ hf0 hf2 _ _ i1 i3 ic=>exact .fn fv cv ga h1 h2 (λj c hc=>i1 j c hc hr) hf0 hf2 (λj cs k x h1 h2=>i3 j cs k x h1 h2 hr) λj cs hc=>ic j cs hc hr
def SC.flat:SC->Bool
 | .ref _| .fn _ _ _=>false
 |_=>true
theorem dy.flat {mv mr CF:Mem}{v:Value}{c:SC}(h:dy mv mr v c)(hf:c.flat=true):dy mv CF v c:=by
 cases h with
 |lit h=>exact .lit h
 |empty a cap hv h0=>exact .empty a cap hv h0
 |view b o cap z f h1 h2 h3 h4 hl hc hr=>exact .view b o cap z f h1 h2 h3 h4 hl hc hr
 |ref b o f hc _=>grind[SC.flat]
 |err h=>exact .err h
 |num h=>exact .num h
 |raw h=>exact .raw h
 |any h=>exact .any h
 |fn=>grind[SC.flat]
def eu (mv mr:Mem)(v:Value)(x:SV):Prop:=
 if x.1 then ∃arr,v= .agg arr/\arr.size=x.2.length/\∀k c,x.2[k]? =some c->dy mv mr (arr.getD k undef) c
 else ∃c,x.2= [c]/\dy mv mr v c
def eu.mono {mv mr mv' CF:Mem}(hv:mv.le mv')(hr:mr.le CF){v:Value}{x:SV}(h:eu mv mr v x):eu mv' CF v x:=by
 unfold eu at*;split
 ·rename_i hx;rw[if_pos hx]at h;obtain⟨arr,h1,h2,h3⟩:=h;exact⟨arr,h1,h2,λk c hc=>(h3 k c hc).mono hv hr⟩
 ·rename_i hx;rw[if_neg hx]at h;obtain⟨c,h1,h2⟩:=h;exact⟨c,h1,h2.mono hv hr⟩
def pf (mv mr:Mem)(vs:Array Value)(l:List SV):Prop:=vs.size=l.length/\∀k x,l[k]? =some x->eu mv mr (vs.getD k undef) x
def pf.mono {mv mr mv' CF:Mem}(hv:mv.le mv')(hr:mr.le CF){vs:Array Value}{l:List SV}(h:pf mv mr vs l):pf mv' CF vs l:=
 ⟨h.1,λk x hx=>(h.2 k x hx).mono hv hr⟩
def LY (w:World)(mv:Mem)(b z:Nat)(c:SC)(cap:Nat):Prop:=
 ∃arr T,w.heap[b]? =some (.cells arr T)/\arr.size=cap*z/\0<z/\c.ao=true/\c.len<=cap/\(∀i e,c.elem i=some e->e.length=z)/\
  ∀i e j x,c.elem i=some e->e[j]? =some x->dy mv eX (arr.getD (i*z+j) undef) x
inductive lO where
 |one (x:SV)
 |aI (l:List SV)
 |own (z:Nat) (c:SC)
 |mix (t:Bool) (l:List (Bool × List (Option SC))) (z:Nat) (c:SC)
 |uV (z:Nat) (c:SC)
def PH (m:Mem)(vo v:Value):Option SC->Prop
 |some c=>dy m eX v c
 |none=>v=vo
def BS (m:Mem)(vo v:Value)(x:Bool × List (Option SC)):Prop:=
 if x.1 then ∃arr,v= .agg arr/\arr.size=x.2.length/\∀k c,x.2[k]? =some c->PH m vo (arr.getD k undef) c
 else ∃c,x.2= [c]/\PH m vo v c
def BS.mono {m m':Mem}(h:m.le m'){vo v:Value}{x:Bool × List (Option SC)}(hx:BS m vo v x):BS m' vo v x:=by
 have key: ∀ {v:Value} {c:Option SC},PH m vo v c->PH m' vo v c:=by
  intro v c hc
  cases c with
  |none=>exact hc
  |some c=>exact dy.mono h (Mem.le_refl _) hc
 unfold BS at*
 grind
def dX (mv:Mem)(n:Nat)(w':World):Mem:=λb o=>if n<=b then rd w' b o else mv b o
def Mem.but (m:Mem)(b:Nat):Mem:=λb' o=>if b'=b then none else m b' o
def qY (mv:Mem)(n:Nat)(w':World)(v:Value):lO->Prop
 | .one x=>eu (dX mv n w') eX v x
 | .aI l=>∃arr,v= .tuple arr/\pf (dX mv n w') eX arr l
 | .own z c=>(v= .slice none 0 0/\c.len=0/\c.ao=true/\0<z/\∀i e,c.elem i=some e->e.length=z)\/
   ∃b cap,v= .slice (some ⟨b,0,none⟩) c.len cap/\n<=b/\LY w' ((dX mv n w').but b) b z c cap
 | .mix t l z c=>∃vo m,((vo= .slice none 0 0/\c.len=0/\c.ao=true/\0<z/\(∀i e,c.elem i=some e->e.length=z)/\m=dX mv n w')\/
   ∃b cap,vo= .slice (some ⟨b,0,none⟩) c.len cap/\n<=b/\LY w' ((dX mv n w').but b) b z c cap/\m=(dX mv n w').but b)/\
   if t then ∃arr,v= .tuple arr/\arr.size=l.length/\∀k x,l[k]? =some x->BS m vo (arr.getD k undef) x else ∃x,l= [x]/\BS m vo v x
 | .uV _ _=>False
abbrev tu:=List (Nat × List SC)
def eQ (gl:tu)(m:Mem):Prop:=∀g cs,(g,cs)∈gl->(∀k x,cs[k]? =some x->∃v,m g k=some v/\dy eX eX v x)/\(0<cs.length->m g cs.length=none)
def iN (P:Program)(f:FuncId):Bool:=
 match P.funcs[f]? with
 |some fn=> !(fn.name=="runtime.NumGoroutine")&&fn.body.isSome
 |none=>false
def akM (P:Program)(gl:tu)(f:FuncId)(args:List SV)(r:lO):Prop:=
 iN P f=true/\∀(mv:Mem) (w:World) (vs:Array Value),mv.le (rd w)->eQ gl (rd w)->pf mv (rd w) vs args->
  Calls P f vs w λe w'=>∃v,e= .returned v/\Below w.heap.size w w'/\qY mv w.heap.size w' v r
def akN (P:Program)(f:FuncId)(args:List SV):lO->Prop
 | .uV z c'=>∃c,args= [(false,[c])]/\iN P f=true/\c'.ao=true/\c'.len=c.len/\(∀i e,c'.elem i=some e->e.length=z)/\
   (c.len=0->∀w,Calls P f #[.slice none 0 0] w λe w'=>e= .returned (.tuple #[])/\Below w.heap.size w w')/\
   ∀(mv:Mem) (w:World) (b cap:Nat) (arr:Array Value) (T:TypeId),w.heap[b]? =some (.cells arr T)->arr.size=cap*z->c.len<=cap->
    (∀i e j x,c.elem i=some e->e[j]? =some x->dy mv eX (arr.getD (i*z+j) undef) x)->
    Calls P f #[.slice (some ⟨b,0,none⟩) c.len cap] w λe w'=>e= .returned (.tuple #[])/\∃w1 arr',Below w.heap.size w w1/\w'=w1.setRow b arr'/\arr'.size=arr.size/\
     ∀i e j x,c'.elem i=some e->e[j]? =some x->dy mv eX (arr'.getD (i*z+j) undef) x
 |_=>False
def nY (P:Program)(gl:tu)(f:FuncId)(args:List SV)(r:lO):Prop:=akM P gl f args r\/akN P f args r
def nY.pure {P:Program}{gl:tu}{f:FuncId}{args:List SV}{x:SV}(h:nY P gl f args (.one x)):akM P gl f args (.one x):=h.elim id λh=>h.elim
end Go.Fw
namespace Go.Fw
inductive DC where
 |st (c:SC)
 |ptr (id off:Nat)
 |own (id:Nat)
 |cI (id z i off:Nat)
 |nil
 |mp (id:Nat)
 |sL (f:Nat) (id:Nat)
 deriving Inhabited
abbrev DX:=Bool × List DC
inductive DV where
 |val (x:DX)
 |aI (l:List DX)
 deriving Inhabited
inductive cD where
 |box (t:TypeId) (cs:List DC)
 |ec (cs:List SC)
 |row (m:Bool) (z:Nat) (c:SC)
 |aD (z:Nat) (l:List (List DC))
 |map (es:List (ByteArray × SV))
 deriving Inhabited
def cD.sz:cD->Option (Nat × Nat)
 | .row _ z c=>some (z,c.len)
 | .aD z l=>some (z,l.length)
 |_=>none
abbrev Hp:=List (Nat × Option cD)
def Hp.get:Hp->Nat->Option cD
 | [],_=>none
 |(j,b)::H,i=>match Nat.beq i j with
  |true=>b
  |false=>Hp.get H i
abbrev HF:=Nat->Option cD
abbrev EF:=Nat->Option DV
abbrev dG:=List (Nat × Option DV)
def dG.get:dG->Nat->Option DV
 | [],_=>none
 |(j,b)::H,i=>match Nat.beq i j with
  |true=>b
  |false=>dG.get H i
inductive A4 where
 |int (k:IntKind)|bool|str|slice (e:TypeId)|array (n:Nat) (e:TypeId)|struct (fs:List (Nat × TypeId))|ptr (e:TypeId)|func|iface|map (k e:TypeId)|other
 deriving Inhabited
def cJ:A4->Bool
 | .struct _=>true
 | .array _ _=>true
 |_=>false
inductive ZC where
 |lit (v:Value)
 |nil
 deriving Inhabited
structure TI where
 b8:A4
 size:Nat
 bytes:Nat
 zero:List ZC
 kinds:List Bool
 eqs:Option (List A4)
 deriving Inhabited
def eD:TypeDesc->A4
 | .int k=>.int k
 | .bool =>.bool
 | .string =>.str
 | .slice e=>.slice e
 | .array n e=>.array n e
 | .struct fs=>.struct (fs.toList.map λf=>(f.offset,f.type))
 | .pointer e=>.ptr e
 | .func _ _ _=>.func
 | .interface _=>.iface
 | .map k e=>.map k e
 |_=>.other
def BT:Value->ZC
 | .slice none 0 0=>.nil
 |v=>.lit v
def kL (P:Program):Nat->TypeId->Option (List A4)
 |0,_=>none
 |d+1,t=>match P.info? t,P.underlying t with
  |some i,some .bool =>if i.size=1 then some [.bool]else none
  |some i,some (.int k)=>if i.size=1 then some [.int k]else none
  |some i,some .string =>if i.size=1 then some [.str]else none
  |some i,some (.struct fs)=>match P.stoodInHeld t,fs.toList.foldl (λacc f=>match acc with
    |none=>none
    |some l=>match f.name != "_"&&f.offset==l.length,kL P d f.type with
     |true,some l'=>some (l++l')
     |_,_=>none) (some [])with
   |false,some l=>if l.length=i.size then some l else none
   |_,_=>none
  |some i,some (.array n e)=>match kL P d e with
   |some l=>if n*l.length=i.size then some (List.replicate n l).flatten else none
   |none=>none
  |_,_=>none
def akO (P:Program)(t:TypeId):Option (A4 × Nat × Nat × List ZC × Option (List A4)):=
 match P.info? t,P.underlying t with
 |some i,some d=>match i.zero,(match d with| .struct fs=>fs.toList.all λf=>(P.info? f.type).isSome |_=>true)with
  |some v,true=>some (eD d,i.size,i.bytes,v.cells.toList.map BT,if P.eqGuardType P.depth t then none else kL P 8 t)
  |_,_=>none
 |_,_=>none
structure bU where
 P:Program
 gl:tu
 ty:List (Nat × TI)
 nx:List Nat:=[]
 deep:List Nat:=[]
 mz:List (Nat × Bool):=[]
 hx:List Nat:=[]
 fx:List Nat:=[]
 sx:List (Nat × String):=[]
def Ys (P:Program)(t:TypeId):Option Bool:=match P.info? t with
 |some i=>match i.zero with
  |some (.agg _)=>some true
  |some v=>match v.oneCell' with
   |true=>some false
   |false=>none
  |none=>none
 |none=>none
def LZ:List (Nat × TI)->Nat->Option TI
 | [],_=>none
 |(j,b)::H,i=>match Nat.beq i j with
  |true=>some b
  |false=>LZ H i
def bU.ti (C:bU)(t:TypeId):Option TI:=LZ C.ty t
structure bU.Ok (C:bU):Prop where
 mixed:C.P.follows .mixedOrders =true
 ty:(C.ty.map λp=>akO C.P p.1)=C.ty.map λp=>some (p.2.b8,p.2.size,p.2.bytes,p.2.zero,p.2.eqs)
 mz:(C.mz.map λp=>Ys C.P p.1)=C.mz.map λp=>some p.2
def bU.kI (C:bU)(e:TypeId):Bool:=
 match C.ti e with
 |some i=>match i.b8 with
  | .int .i64 =>true
  |_=>false
 |none=>false
def bU.kinds (C:bU)(t:TypeId):List Bool:=
 match C.ti t with
 |some i=>i.kinds
 |none=>[]
def A5:Bool->SC
 |true=>.ints []
 |false=>.view []
def bA (H:HF)(k:Bool):DC->Option (SC × Hp × List Nat)
 | .st c=>some (c,[],[])
 | .nil =>some (A5 k,[],[])
 | .own id=>match H id with
  |some (.row m z c)=>some (c,(match m with|true=>[(id,some (.row false z c))]|false=>[]),[id])
  |some (.aD _ _)=>some (.any,[],[id])
  |_=>none
 |_=>none
def bV (H:HF):List Bool->List DC->Option (List SC × Hp × List Nat)
 |_,[]=>some ([],[],[])
 |ks,d::ds=>match bA H (ks.headD false) d with
  |some (c,u,r)=>match bV H ks.tail ds with
   |some (cs,u',r')=>some (c::cs,u++u',r++r')
   |none=>none
  |none=>none
def oA:List SC->Bool
 | []=>true
 |c::cs=>match c.flat with
  |true=>oA cs
  |false=>false
def m7 (C:bU)(H:HF)(k:Bool):DC->Option (SC × Hp × List Nat)
 | .ptr id off=>match H id with
  |some (.ec cs)=>some (.ref (cs.drop off),[],[id])
  |some (.box t cs)=>match bV H (C.kinds t) cs with
   |some (l,u,r)=>some (.ref (l.drop off),u,id::r)
   |none=>none
  |_=>none
 | .cI id z i off=>match H id with
  |some (.aD z' l)=>match Nat.beq z z',l[i]? with
   |true,some e=>match bV H [] e with
    |some (cs,u,r)=>some (.ref (cs.drop off),u,id::r)
    |none=>none
   |_,_=>none
  |some (.row _ z' c)=>match Nat.beq z z',c.elem i with
   |true,some e=>some (.ref (e.drop off),[],[id])
   |_,_=>none
  |_=>none
 |d=>bA H k d
def oB (C:bU)(H:HF):List Bool->List DC->Option (List SC × Hp × List Nat)
 |_,[]=>some ([],[],[])
 |ks,d::ds=>match m7 C H (ks.headD false) d with
  |some (c,u,r)=>match oB C H ks.tail ds with
   |some (cs,u',r')=>some (c::cs,u++u',r++r')
   |none=>none
  |none=>none
def pl (C:bU)(H:HF):List TypeId->List DX->Option (List SV × Hp × List Nat)
 |_,[]=>some ([],[],[])
 |ts,x::xs=>match oB C H (C.kinds (ts.headD 0)) x.2 with
  |some (c,u,r)=>match pl C H ts.tail xs with
   |some (cs,u',r')=>some ((x.1,c)::cs,u++u',r++r')
   |none=>none
  |none=>none
def dyn (x:SV):DX:=(x.1,x.2.map .st)
def bm (c:DC):DV:=.val (false,[c])
def lit (v:Value):DV:=.val (false,[.st (.lit v)])
def IW:Value->Option DV
 | .slice none 0 0=>some (bm .nil)
 | .func (.func f) a b=>match a.toList,b.toList with
  | [],[]=>some (bm (.st (.fn f [] [])))
  |_,_=>none
 |v=>match plain v with
  |true=>some (lit v)
  |false=>none
def xY:tu->Nat->Option (List SC)
 | [],_=>none
 |(j,b)::H,i=>match Nat.beq i j with
  |true=>some b
  |false=>xY H i
def bU.ev (C:bU)(E:EF):Operand->Option DV
 | .tmp t=>E t
 | .const v=>IW v
 | .global g=>match xY C.gl g with
  |some cs=>some (bm (.st (.ref cs)))
  |none=>none
 | .func f=>some (bm (.st (.fn f [] [])))
def iA {α:Type}(cs:List α)(off:Nat)(xs:List α):List α:=cs.take off++xs++cs.drop (off+xs.length)
def ZC.dyn:ZC->Option DC
 | .nil =>some .nil
 | .lit v=>match plain v with
  |true=>some (.st (.lit v))
  |false=>none
def C3:List ZC->Option (List DC)
 | []=>some []
 |z::zs=>match z.dyn with
  |some d=>match C3 zs with
   |some ds=>some (d::ds)
   |none=>none
  |none=>none
def qZ:List Bool->List ZC->Option (List SC)
 |_,[]=>some []
 |ks,.nil ::zs=>match qZ ks.tail zs with
  |some ds=>some (A5 (ks.headD false)::ds)
  |none=>none
 |ks,.lit v::zs=>match plain v with
  |true=>match qZ ks.tail zs with
   |some ds=>some (.lit v::ds)
   |none=>none
  |false=>none
def Hc (O0:Nat->Option (Nat × Nat))(cells:List DC):List (Nat × Option DV)->Option (List DC)
 | []=>some cells
 |(i,some (.val x))::rest=>match O0 i with
  |some (off,size)=>match Nat.beq x.2.length size&&Nat.ble (off+size) cells.length with
   |true=>Hc O0 (iA cells off x.2) rest
   |false=>none
  |none=>none
 |_=>none
def kM (H:HF)(ks:List Bool)(z:Nat):Nat->List (Nat × Option DV)->Option (List (List SC) × Hp × List Nat)
 |_,[]=>some ([],[],[])
 |n,(i,some (.val x))::rest=>match Nat.beq i n&&Nat.beq x.2.length z with
  |true=>match bV H ks x.2 with
   |some (e,u,r)=>match oA e,kM H ks z (n+1) rest with
    |true,some (es,u',r')=>some (e::es,u++u',r++r')
    |_,_=>none
   |none=>none
  |false=>none
 |_,_=>none
def wM:List (List SC)->Option (List Int)
 | []=>some []
 | [.lit (.int .i64 n)]::r=>match wM r with
  |some l=>some (n::l)
  |none=>none
 |_=>none
def Yt (k:Bool)(es:List (List SC)):Option SC:=
 match k with
 |true=>match wM es with
  |some l=>some (.ints l)
  |none=>none
 |false=>some (.view es)
def SC.cat:SC->SC->Option SC
 | .ints xs,.ints ys=>some (.ints (xs++ys))
 | .view xs,.view ys=>some (.view (xs++ys))
 |_,_=>none
def SC.zW:SC->Nat->Prop
 | .ints _,z=>z=1
 | .view es,z=>∀e,e∈es->e.length=z
 |_,_=>False
def SC.xM:SC->Nat->List SC->Option SC
 | .ints xs,i,[.lit (.int .i64 n)]=>some (.ints (xs.set i n))
 | .view es,i,e=>some (.view (es.set i e))
 |_,_,_=>none
def SC.sub:SC->Nat->Nat->SC
 | .ints xs,l,h=>.ints ((xs.take h).drop l)
 | .view es,l,h=>.view ((es.take h).drop l)
 |c,_,_=>c
def xE:Nat:=4294967296
def SZ:A4->Value->Value->Option Bool
 | .int _,.int k a,.int k' b=>match decide (k=k')with
  |true=>some (a==b)
  |false=>none
 | .bool,.bool a,.bool b=>some (a==b)
 | .str,.string a,.string b=>some (a==b)
 |_,_,_=>none
def mc:List A4->List DC->List DC->Option Bool
 | [],[],[]=>some true
 |c::cs,.st (.lit a)::xs,.st (.lit b)::ys=>match SZ c a b with
  |some p=>match mc cs xs ys with
   |some q=>some (p&&q)
   |none=>none
  |none=>none
 |_,_,_=>none
def tv (op:BinOp)(k:IntKind)(a b:Int)(K:Value->Prop):Prop:=
 match op with
 | .add =>K (.int k (k.wrap (a+b)))
 | .sub =>K (.int k (k.wrap (a -b)))
 | .mul =>K (.int k (k.wrap (a*b)))
 | .quo =>b≠0/\K (.int k (k.wrap (a.tdiv b)))
 | .rem =>b≠0/\K (.int k (a.tmod b))
 | .and =>K (.int k (k.wrap (BitVec.ofInt k.bits a &&& BitVec.ofInt k.bits b).toNat))
 | .or =>K (.int k (k.wrap (BitVec.ofInt k.bits a ||| BitVec.ofInt k.bits b).toNat))
 | .xor =>K (.int k (k.wrap (BitVec.ofInt k.bits a^^^BitVec.ofInt k.bits b).toNat))
 | .andNot =>K (.int k (k.wrap (BitVec.ofInt k.bits a &&& ~~~BitVec.ofInt k.bits b).toNat))
 | .eql =>K (.bool (a==b))
 | .neq =>K (.bool (a != b))
 | .lss =>K (.bool (decide (a<b)))
 | .leq =>K (.bool (decide (a<=b)))
 | .gtr =>K (.bool (decide (a>b)))
 | .geq =>K (.bool (decide (a>=b)))
 |_=>False
def wO (op:BinOp)(a b:ByteArray)(K:Value->Prop):Prop:=
 match op with
 | .add =>a.size+b.size<=2^40/\K (.string (a++b))
 | .eql =>K (.bool (a.toList==b.toList))
 | .neq =>K (.bool !(a.toList==b.toList))
 | .lss =>K (.bool (Op.bytesLess a.toList b.toList))
 | .leq =>K (.bool (Op.bytesLess a.toList b.toList || a.toList==b.toList))
 | .gtr =>K (.bool !(Op.bytesLess a.toList b.toList || a.toList==b.toList))
 | .geq =>K (.bool !(Op.bytesLess a.toList b.toList))
 |_=>False
def rc (op:BinOp):Value->Value->(Value->Prop)->Prop
 | .int k a,.int k' b,K=>match op with
  | .shl =>0<=b/\K (.int k (k.wrap (a*2^(min b.toNat k.bits))))
  | .shr =>0<=b/\K (.int k (a.fdiv (2^(min b.toNat k.bits))))
  |op=>match decide (k=k')with
   |true=>tv op k a b K
   |false=>False
 | .string a,.string b,K=>wO op a b K
 |_,_,_=>False
def lP:Operand->Bool
 | .const _=>true
 |_=>false
def L0:DC->Option Bool
 | .ptr _ _=>some true
 | .cI _ _ _ _=>some true
 | .st (.ref _)=>some true
 | .st (.lit (.pointer none))=>some false
 |_=>none
def L1 (C:bU)(nc:Bool)(op:BinOp)(T:TypeId)(x y:DX)(K:DV->Prop):Prop:=
 match x,y with
 |(false,[.st (.lit (.bool a))]),(false,[.st (.lit (.bool b))])=>match C.ti T with
  |some i=>match i.b8,op with
   | .bool,.eql =>K (lit (.bool (a==b)))
   | .bool,.neq =>K (lit (.bool !(a==b)))
   |_,_=>False
  |none=>False
 |(false,[.st (.lit .nilIface)]),(false,[.st (.lit .nilIface)])=>match C.ti T,nc with
  |some i,true=>match i.b8,op with
   | .iface,.eql =>K (lit (.bool true))
   | .iface,.neq =>K (lit (.bool false))
   |_,_=>False
  |_,_=>False
 |(false,[.st .err]),(false,[.st (.lit .nilIface)])=>match C.ti T with
  |some i=>match i.b8,op with
   | .iface,.eql =>K (lit (.bool false))
   | .iface,.neq =>K (lit (.bool true))
   |_,_=>False
  |none=>False
 |(false,[d]),(false,[.st (.lit (.pointer none))])=>match L0 d,C.ti T with
  |some b,some i=>match i.b8,op with
   | .ptr _,.eql =>K (lit (.bool !b))
   | .ptr _,.neq =>K (lit (.bool b))
   |_,_=>False
  |_,_=>False
 |(false,[.st (.lit a)]),(false,[.st (.lit b)])=>rc op a b λv=>K (lit v)
 |(true,xs),(true,ys)=>match C.ti T with
  |some i=>match cJ i.b8 with
   |true=>match i.eqs,op with
    |some l,.eql =>match mc l xs ys with
     |some b=>K (lit (.bool b))
     |none=>False
    |some l,.neq =>match mc l xs ys with
     |some b=>K (lit (.bool !b))
     |none=>False
    |_,_=>False
   |false=>False
  |none=>False
 |_,_=>False
def Pm (op:UnOp)(x:DX)(K:DV->Prop):Prop:=
 match op,x with
 | .neg,(false,[.st (.lit (.int k n))])=>K (lit (.int k (k.wrap (0 -n))))
 | .xor,(false,[.st (.lit (.int k n))])=>K (lit (.int k (k.wrap (BitVec.ofInt k.bits (if k.signed then -1 else k.max)^^^BitVec.ofInt k.bits n).toNat)))
 | .not,(false,[.st (.lit (.bool b))])=>K (lit (.bool !b))
 |_,_=>False
abbrev j8:=DV->Hp->List Nat->Prop
def oC (C:bU)(T:TypeId)(x:DX)(H:HF)(K:j8):Prop:=
 match C.ti T with
 |none=>False
 |some i=>
  match x with
  |(false,[.ptr id off])=>match H id with
   |some (.box _ cs)=>match Nat.ble (off+i.size) cs.length&&(cJ i.b8 || Nat.beq i.size 1)with
    |true=>K (.val (cJ i.b8,(cs.drop off).take i.size)) [] [id]
    |false=>False
   |some (.ec cs)=>match Nat.ble (off+i.size) cs.length&&(cJ i.b8 || Nat.beq i.size 1)with
    |true=>K (.val (cJ i.b8,((cs.drop off).take i.size).map .st)) [] [id]
    |false=>False
   |_=>False
  |(false,[.st (.ref cs)])=>match Nat.ble i.size cs.length&&(cJ i.b8 || Nat.beq i.size 1)with
   |true=>K (.val (cJ i.b8,(cs.take i.size).map .st)) [] []
   |false=>False
  |(false,[.cI id z n off])=>match H id with
   |some (.row _ z' c)=>match Nat.beq z z'&&Nat.ble (off+i.size) z&&(cJ i.b8 || Nat.beq i.size 1)with
    |true=>∃e,c.elem n=some e/\K (.val (cJ i.b8,((e.drop off).take i.size).map .st)) [] [id]
    |false=>False
   |some (.aD z' l)=>match Nat.beq z z'&&Nat.ble (off+i.size) z&&(cJ i.b8 || Nat.beq i.size 1)with
    |true=>∃e,l[n]? =some e/\K (.val (cJ i.b8,(e.drop off).take i.size)) [] [id]
    |false=>False
   |_=>False
  |_=>False
def rf (C:bU)(T:TypeId)(x v:DX)(H:HF)(K:j8):Prop:=
 match C.ti T with
 |none=>False
 |some i=>match Nat.beq v.2.length i.size with
  |false=>False
  |true=>match x with
   |(false,[.ptr id off])=>match H id with
    |some (.box t cs)=>match Nat.ble (off+i.size) cs.length with
     |true=>K (.aI []) [(id,some (.box t (iA cs off v.2)))] [id]
     |false=>False
    |_=>False
   |(false,[.cI id z n off])=>match H id with
    |some (.row true z' c)=>match Nat.beq z z'&&Nat.ble (off+i.size) z with
     |true=>match bV H i.kinds v.2 with
      |some (l,[],r)=>match oA l with
       |true=>∃e,c.elem n=some e/\match c.xM n (iA e off l)with
        |some c'=>K (.aI []) [(id,some (.row true z' c'))] (id::r)
        |none=>False
       |false=>False
      |_=>False
     |false=>False
    |some (.aD z' l)=>match Nat.beq z z'&&Nat.ble (off+i.size) z with
     |true=>∃e,l[n]? =some e/\K (.aI []) [(id,some (.aD z' (l.set n (iA e off v.2))))] [id]
     |false=>False
    |_=>False
   |_=>False
def oD (C:bU)(T:TypeId)(x:DX)(f:Nat)(K:j8):Prop:=
 match C.ti T with
 |none=>False
 |some i=>match i.b8 with
  | .struct fs=>match fs[f]? with
   |some (o,ft)=>match C.ti ft with
    |some fi=>match Nat.ble 1 fi.size with
     |true=>match x with
      |(false,[.ptr id off])=>K (bm (.ptr id (off+o))) [] []
      |(false,[.st (.ref cs)])=>K (bm (.st (.ref (cs.drop o)))) [] []
      |(false,[.cI id z n off])=>K (bm (.cI id z n (off+o))) [] []
      |_=>False
     |false=>False
    |none=>False
   |none=>False
  |_=>False
def eR (C:bU)(T:TypeId)(x ix:DX)(H:HF)(K:j8):Prop:=
 match C.ti T with
 |none=>False
 |some i=>match i.b8,ix with
  | .slice e,(false,[.st (.lit (.int _ n))])=>match C.ti e with
   |none=>False
   |some ie=>match x with
    |(false,[.own id])=>match H id with
     |some (.row _ z c)=>match Nat.beq z ie.size with
      |true=>(0<=n/\n<c.len)/\K (bm (.cI id z n.toNat 0)) [] [id]
      |false=>False
     |some (.aD z l)=>match Nat.beq z ie.size with
      |true=>(0<=n/\n<l.length)/\K (bm (.cI id z n.toNat 0)) [] [id]
      |false=>False
     |_=>False
    |(false,[.st c])=>match c.ao with
     |true=>0<=n/\∃el,c.elem n.toNat=some el/\el.length=ie.size/\K (bm (.st (.ref el))) [] []
     |false=>False
    |_=>False
  | .array len e,(false,[.st (.lit (.int _ n))])=>match C.ti e with
   |none=>False
   |some ie=>match x with
    |(false,[.ptr id off])=>(0<=n/\n<len)/\K (bm (.ptr id (off+n.toNat*ie.size))) [] []
    |(false,[.st (.ref cs)])=>(0<=n/\n<len)/\K (bm (.st (.ref (cs.drop (n.toNat*ie.size))))) [] []
    |_=>False
  |_,_=>False
def acw (i:TI):Bool:=cJ i.b8
def C4 (i:TI)(cs:List DC)(off:Nat)(K:j8):Prop:=
 match Nat.ble (off+i.size) cs.length&&(acw i || Nat.beq i.size 1)with
 |true=>K (.val (acw i,(cs.drop off).take i.size)) [] []
 |false=>False
def tw (C:bU)(T:TypeId)(x ix:DX)(K:j8):Prop:=
 match C.ti T with
 |none=>False
 |some i=>match i.b8,ix with
  | .array len e,(false,[.st (.lit (.int _ n))])=>match C.ti e with
   |none=>False
   |some ie=>match x with
    |(true,cs)=>(0<=n/\n<len)/\C4 ie cs (n.toNat*ie.size) K
    |_=>False
  | .str,(false,[.st (.lit (.int _ n))])=>match x with
   |(false,[.st (.lit (.string s))])=>0<=n/\∃b,s[n.toNat]? =some b/\K (lit (.int .u8 (b.toNat:Nat))) [] []
   |_=>False
  |_,_=>False
def z7 (C:bU)(T:TypeId)(x:DX)(f:Nat)(K:j8):Prop:=
 match C.ti T with
 |none=>False
 |some i=>match i.b8 with
  | .struct fs=>match fs[f]? with
   |some (o,ft)=>match C.ti ft with
    |some fi=>match x with
     |(true,cs)=>C4 fi cs o K
     |_=>False
    |none=>False
   |none=>False
  |_=>False
def F5 (d:Option (Option DV))(GW:Nat)(K:Nat->Prop):Prop:=
 match d with
 |none=>K GW
 |some (some (.val (false,[.st (.lit (.int _ n))])))=>0<=n/\K n.toNat
 |_=>False
def gL (C:bU)(T:TypeId)(x:DX)(lo hi:Option (Option DV))(H:HF)(K:j8):Prop:=
 match C.ti T with
 |none=>False
 |some i=>match i.b8 with
  | .slice e=>match C.ti e with
   |none=>False
   |some ie=>match bV H i.kinds x.2 with
    |some ([c],u,r)=>match x.1,c.ao with
     |false,true=>F5 lo 0 λl=>F5 hi c.len λh=>(l<=h/\h<=c.len)/\c.zW ie.size/\K (bm (.st (c.sub l h))) u r
     |_,_=>False
    |_=>False
  | .str =>match x with
   |(false,[.st (.lit (.string s))])=>F5 lo 0 λl=>F5 hi s.size λh=>(l<=h/\h<=s.size)/\K (lit (.string (s.extract l h))) [] []
   |_=>False
  | .array n e=>match C.ti e with
   |none=>False
   |some ie=>match x,lo,hi with
    |(false,[.ptr id off]),none,none=>match H id with
     |some (.box t cs)=>match bV H (C.kinds t) cs with
      |some (l,u,r)=>match C.kI e,Nat.beq ie.size 1&&Nat.ble (off+n) l.length&&Nat.ble 1 n with
       |true,true=>match wM (((l.drop off).take n).map λc=>[c])with
        |some ns=>K (bm (.st (.ints ns))) ((id,some (.ec l))::u) (id::r)
        |none=>False
       |_,_=>False
      |none=>False
     |some (.ec l)=>match C.kI e,Nat.beq ie.size 1&&Nat.ble (off+n) l.length&&Nat.ble 1 n with
       |true,true=>match wM (((l.drop off).take n).map λc=>[c])with
        |some ns=>K (bm (.st (.ints ns))) [] [id]
        |none=>False
       |_,_=>False
     |_=>False
    |_,_,_=>False
  |_=>False
def cH (C:bU)(f:FuncId)(first bM:List (Option DV))(H:HF)(K:j8):Prop:=
 let rec firsts:List (Option DV)->Option (List SV × Hp × List Nat)
  | []=>some ([],[],[])
  |some (.val x)::xs=>match bV H [] x.2 with
   |some (c,u,r)=>match firsts xs with
    |some (cs,u',r')=>some ((x.1,c)::cs,u++u',r++r')
    |none=>none
   |none=>none
  |_=>none
 let rec capts:List (Option DV)->Option (List (List SC) × Hp × List Nat)
  | []=>some ([],[],[])
  |some (.val (false,[.ptr id 0]))::xs=>match H id with
   |some (.ec cs)=>match capts xs with
    |some (l,u',r')=>some (cs::l,u',id::r')
    |none=>none
   |some (.box t cs)=>match bV H (C.kinds t) cs with
    |some (c,u,r)=>match capts xs with
     |some (l,u',r')=>some (c::l,(id,some (.ec c))::(u++u'),id::(r++r'))
     |none=>none
    |none=>none
   |_=>none
  |some (.val (false,[.st (.ref cs)]))::xs=>match capts xs with
    |some (l,u',r')=>some (cs::l,u',r')
    |none=>none
  |_=>none
 match firsts first with
 |some (a,u,r)=>match capts bM with
  |some (b,u',r')=>K (bm (.st (.fn f a b))) (u++u') (r++r')
  |none=>False
 |none=>False
def lQ (C:bU)(fid:Nat)(T:TypeId)(l c:DX)(K:j8):Prop:=
 match C.ti T with
 |none=>False
 |some i=>match i.b8,l,c with
  | .slice e,(false,[.st (.lit (.int _ n))]),(false,[.st (.lit (.int _ m))])=>match C.ti e with
   |none=>False
   |some ie=>match Nat.ble 1 ie.size&&Nat.ble ie.bytes 4096&&Nat.beq ie.zero.length ie.size with
    |true=>(0<=n/\n<=m/\m<=xE)/\match C.kI e with
     |true=>match ie.zero with
      | [.lit (.int .i64 0)]=>K (bm (.own fid)) [(fid,some (.row true ie.size (.ints (List.replicate n.toNat 0))))] []
      |_=>False
     |false=>match qZ ie.kinds ie.zero with
      |some z=>K (bm (.own fid)) [(fid,some (.row true ie.size (.view (List.replicate n.toNat z))))] []
      |none=>False
    |false=>False
  |_,_,_=>False
def rg (C:bU)(fid:Nat)(T:TypeId)(x y:DX)(H:HF)(K:j8):Prop:=
 match C.ti T with
 |none=>False
 |some i=>match i.b8,y with
  | .slice e,(false,[yc])=>match C.ti e with
   |none=>False
   |some ie=>match Nat.ble 1 ie.size&&Nat.ble ie.bytes 4096&&Nat.beq ie.zero.length ie.size with
    |false=>False
    |true=>match bA H (C.kI e) yc with
     |none=>False
     |some (cy,_,ry)=>match x with
      |(false,[.nil])=>match SC.cat (A5 (C.kI e)) cy with
       |some c'=>c'.zW ie.size/\c'.len<=xE/\K (bm (.own fid)) [(fid,some (.row true ie.size c'))] ry
       |none=>False
      |(false,[.own id])=>match H id with
       |some (.row m z c)=>match Nat.beq z ie.size,SC.cat c cy with
        |true,some c'=>cy.zW z/\c'.len<=xE/\K (bm (.own fid)) [(fid,some (.row m z c')),(id,none)] (id::ry)
        |_,_=>False
       |_=>False
      |_=>False
  |_,_=>False
def IX (C:bU)(e:TypeId)(ie:TI)(n:Nat):Option SC:=
 match C.kI e with
 |true=>match ie.zero with
  | [.lit (.int .i64 0)]=>some (.ints (List.replicate n 0))
  |_=>none
 |false=>match qZ ie.kinds ie.zero with
  |some z=>some (.view (List.replicate n z))
  |none=>none
def qe (C:bU)(fid:Nat)(T:TypeId)(x y:DX)(H:HF)(K:j8):Prop:=
 match C.ti T with
 |none=>False
 |some i=>match i.b8,y with
  | .slice e,(false,[.st (.lit (.int _ n))])=>match C.ti e with
   |none=>False
   |some ie=>match Nat.ble 1 ie.size&&Nat.ble ie.bytes 4096&&Nat.beq ie.zero.length ie.size with
    |false=>False
    |true=>(0<=n/\n<=xE)/\match IX C e ie n.toNat with
     |none=>False
     |some cy=>match x with
      |(false,[.own id])=>match H id with
       |some (.row m z c)=>match Nat.beq z ie.size,SC.cat c cy with
        |true,some c'=>c'.len<=xE/\K (bm (.own fid)) [(fid,some (.row m z c')),(id,none)] [id]
        |_,_=>False
       |_=>False
      |_=>False
  |_,_=>False
def tC (afB:Bool)(k:IntKind)(a:Int):List DX->(Value->Prop)->Prop
 | [],K=>K (.int k a)
 |(false,[.st (.lit (.int k' b))])::r,K=>match decide (k=k')with
  |true=>tC afB k (match afB with|true=>if b>a then b else a|false=>if b<a then b else a) r K
  |false=>False
 |_,_=>False
def eZ (C:bU)(fid:Nat)(b:Builtin)(Sa:List TypeId)(args:List (Option DV))(H:HF)(K:j8):Prop:=
 match b,Sa,args with
 | .len,t::_,[some (.val x)]=>match C.ti t with
  |none=>False
  |some i=>match i.b8,x with
   | .slice _,(false,[.st c])=>match c.ao with
    |true=>K (lit (.int .i64 (c.len:Nat))) [] []
    |false=>False
   | .slice _,(false,[.nil])=>K (lit (.int .i64 0)) [] []
   | .slice _,(false,[.own id])=>match H id with
    |some (.row _ _ c)=>K (lit (.int .i64 (c.len:Nat))) [] [id]
    |some (.aD _ l)=>K (lit (.int .i64 (l.length:Nat))) [] [id]
    |_=>False
   | .str,(false,[.st (.lit (.string s))])=>K (lit (.int .i64 (s.size:Nat))) [] []
   | .array n _,_=>K (lit (.int .i64 (n:Nat))) [] []
   |_,_=>False
 | .append,[t,t'],[some (.val x),some (.val y)]=>match C.ti t' with
  |some i'=>match i'.b8 with
   | .slice _=>rg C fid t x y H K
   | .int _=>qe C fid t x y H K
   |_=>False
  |none=>False
 | .max,_,some (.val (false,[.st (.lit (.int k a))]))::r=>match r.mapM λd=>match d with|some (.val x)=>some x|_=>none with
  |some xs=>tC true k a xs λv=>K (lit v) [] []
  |none=>False
 | .min,_,some (.val (false,[.st (.lit (.int k a))]))::r=>match r.mapM λd=>match d with|some (.val x)=>some x|_=>none with
  |some xs=>tC false k a xs λv=>K (lit v) [] []
  |none=>False
 |_,_,_=>False
def aeI (C:bU)(f:FuncId)(args:List SV)(K:lO->Prop):Prop:=∃r,nY C.P C.gl f args r/\K r
def IY:List (Option DV)->Option (List DX)
 | []=>some []
 |some (.val x)::r=>match IY r with
  |some l=>some (x::l)
  |none=>none
 |_=>none
def aeJ (fid:Nat):Option SC->DC
 |some c=>.st c
 |none=>.own fid
def L2 (fid:Nat)(x:Bool × List (Option SC)):DX:=(x.1,x.2.map (aeJ fid))
def xZ:List SC->Bool
 | []=>true
 | .lit _::cs=>xZ cs
 |_=>false
def L3:List SV->Bool
 | []=>true
 |x::l=>match xZ x.2 with
  |true=>L3 l
  |false=>false
def S3 (b:Bool)(u:Hp):Hp:=match b with
 |true=>[]
 |false=>u
def je (fid:Nat)(u:Hp)(rs:List Nat)(K:j8):lO->Prop
 | .one x=>K (.val (dyn x)) (S3 (xZ x.2) u) rs
 | .aI l=>K (.aI (l.map dyn)) (S3 (L3 l) u) rs
 | .own z c=>K (bm (.own fid)) ((fid,some (.row true z c))::u) rs
 | .mix true l z c=>K (.aI (l.map (L2 fid))) ((fid,some (.row true z c))::u) rs
 | .mix false [x] z c=>K (.val (L2 fid x)) ((fid,some (.row true z c))::u) rs
 | .mix false _ _ _=>False
 | .uV z c=>match u,rs with
  | [(id,some (.row false z' _))],[iW]=>match Nat.beq id iW&&Nat.beq z z' with
   |true=>K (.aI []) [(id,some (.row true z c))] [id]
   |false=>False
  |_,_=>False
def ya (n:Nat):List Nat->Bool
 | []=>false
 |m::l=>match Nat.beq n m with
  |true=>true
  |false=>ya n l
def akP (mv mr:Mem)(v:Value):DC->Prop
 | .st c=>dy mv mr v c
 | .nil =>v= .slice none 0 0
 |_=>False
def akQ (P:Program)(gl:tu)(f:FuncId)(args:List DX)(r:lO):Prop:=
 iN P f=true/\∀(mv:Mem) (w:World) (vs:Array Value),mv.le (rd w)->eQ gl (rd w)->vs.size=args.length->(∀k x,args[k]? =some x->∃d,x=(false,[d])/\akP mv (rd w) (vs.getD k undef) d)->
  Calls P f vs w λe w'=>∃v,e= .returned v/\Go.RowKit.Below w.heap.size w w'/\qY mv w.heap.size w' v r
def okN:List DX->Bool
 | []=>true
 |(false,[.st _])::xs=>okN xs
 |(false,[.nil])::xs=>okN xs
 |_=>false
def wP (C:bU)(fid:Nat)(f:FuncId)(first:List SV)(bM:List (List SC))(xs:List DX)(K:j8):Prop:=
 match first,bM,okN xs with
 | [],[],true=>∃r,akQ C.P C.gl f xs r/\je fid [] [] K r
 |_,_,_=>False
def jk (C:bU)(fid:Nat)(fv:Option DV)(args:List (Option DV))(Sa:List TypeId)(H:HF)(K:j8):Prop:=
 match fv,IY args with
 |some (.val (false,[.st (.fn f first bM)])),some xs=>match pl C H Sa xs with
  |some (l,u,rs)=>aeI C f (first++l++bM.map λcs=>(false,[.ref cs])) (je fid u rs K)
  |none=>False
 |_,_=>False
def anq (C:bU):Operand->Bool
 | .func f=>ya f C.nx
 | .const (.func (.func f) _ _)=>ya f C.nx
 |_=>false
def rh (C:bU)(fid:Nat)(nx:Bool)(fv:Option DV)(args:List (Option DV))(Sa:List TypeId)(H:HF)(K:j8):Prop:=
 match nx with
 |true=>match fv,IY args with
  |some (.val (false,[.st (.fn f first bM)])),some xs=>wP C fid f first bM xs K
  |_,_=>False
 |false=>jk C fid fv args Sa H K
def md:List (List SC)->Option (List UInt8)
 | []=>some []
 | [.lit (.int .u8 n)]::r=>match md r with
  |some l=>some (UInt8.ofNat n.toNat::l)
  |none=>none
 |_=>none
def z8 (C:bU)(e:TypeId):Bool:=match C.ti e with
 |some ie=>match ie.b8 with
  | .int .u8 =>Nat.beq ie.size 1
  |_=>false
 |none=>false
def yb (C:bU)(src dst:TypeId)(x:DX)(H:HF)(K:j8):Prop:=
 match C.ti src,C.ti dst with
 |some i,some j=>match i.b8 with
  | .int _=>match j.b8,x with
   | .int k,(false,[.st (.lit (.int _ n))])=>K (lit (.int k (k.wrap n))) [] []
   |_,_=>False
  | .str =>match j.b8,x with
   | .str,(false,[.st (.lit (.string s))])=>K (lit (.string s)) [] []
   |_,_=>False
  | .slice e=>match j.b8,x with
   | .str,(false,[d])=>match z8 C e,bA H false d with
    |true,some (.view es,_,r)=>match md es with
     |some l=>K (lit (.string ⟨l.toArray⟩)) [] r
     |none=>False
    |_,_=>False
   |_,_=>False
  |_=>False
 |_,_=>False
def fw (C:bU)(fid:Nat)(o:Oper)(ev:Operand->Option DV)(H:HF)(K:j8):Prop:=
 match o.op with
 | .move x=>match ev x with
  |some v=>K v [] []
  |none=>False
 | .assign x=>match ev x with
  |some v=>K v [] []
  |none=>False
 | .pick c a b=>match ev c with
  |some (.val (false,[.st (.lit (.bool t))]))=>match t with
   |true=>match ev a with
    |some v=>K v [] []
    |none=>False
   |false=>match ev b with
    |some v=>K v [] []
    |none=>False
  |_=>False
 | .alloc T=>match C.ti T with
  |some i=>match C3 i.zero with
   |some cs=>K (bm (.ptr fid 0)) [(fid,some (.box T cs))] []
   |none=>False
  |none=>False
 | .box T x=>match ev x with
  |some (.val x)=>K (bm (.ptr fid 0)) [(fid,some (.box T x.2))] []
  |_=>False
 | .build T parts=>match C.ti T with
  |some i=>match C3 i.zero with
   |some zs=>match i.b8 with
    | .struct fs=>match Hc (λn=>match fs[n]? with|some (o,ft)=>(match C.ti ft with|some fi=>some (o,fi.size)|none=>none)|none=>none) zs (parts.toList.map λp=>(p.1,ev p.2))with
     |some cs=>K (.val (true,cs)) [] []
     |none=>False
    | .array _ e=>match C.ti e with
     |some ie=>match Hc (λn=>some (n*ie.size,ie.size)) zs (parts.toList.map λp=>(p.1,ev p.2))with
      |some cs=>K (.val (true,cs)) [] []
      |none=>False
     |none=>False
    |_=>False
   |none=>False
  |none=>False
 | .buildSlice T len parts=>match C.ti T with
  |some i=>match i.b8 with
   | .slice e=>match C.ti e with
    |some ie=>match Nat.ble 1 ie.size&&Nat.ble (len*ie.size) 16777216&&Nat.beq parts.size len with
     |true=>match kM H ie.kinds ie.size 0 (parts.toList.map λp=>(p.1,ev p.2))with
      |some (es,u,r)=>match Yt (C.kI e) es with
       |some c=>K (bm (.own fid)) ((fid,some (.row true ie.size c))::u) r
       |none=>False
      |none=>False
     |false=>False
    |none=>False
   |_=>False
  |none=>False
 | .load T a=>match ev a with
  |some (.val x)=>oC C T x H K
  |_=>False
 | .store T a v=>match ev a,ev v with
  |some (.val x),some (.val y)=>rf C T x y H K
  |_,_=>False
 | .fieldAddr T a f=>match ev a with
  |some (.val x)=>oD C T x f K
  |_=>False
 | .indexAddr T a ix=>match ev a,ev ix with
  |some (.val x),some (.val y)=>eR C T x y H K
  |_,_=>False
 | .index T a ix=>match ev a,ev ix with
  |some (.val x),some (.val y)=>tw C T x y K
  |_,_=>False
 | .field T a f=>match ev a with
  |some (.val x)=>z7 C T x f K
  |_=>False
 | .slice T x lo hi mx=>match ev x,mx with
  |some (.val x),none=>gL C T x (lo.map ev) (hi.map ev) H K
  |_,_=>False
 | .binOp op T a b _=>match ev a,ev b with
  |some (.val x),some (.val y)=>L1 C (lP a || lP b) op T x y λv=>K v [] []
  |_,_=>False
 | .unOp op _ a=>match ev a with
  |some (.val x)=>Pm op x λv=>K v [] []
  |_=>False
 | .convert s d a=>match ev a with
  |some (.val x)=>yb C s d x H K
  |_=>False
 | .extract t ix=>match ev t with
  |some (.aI l)=>match l[ix]? with
   |some x=>K (.val x) [] []
   |none=>False
  |_=>False
 | .makeFunc (.func f) first bM=>cH C f (first.toList.map ev) (bM.toList.map ev) H K
 | .makeSlice T l c=>match ev l,ev c with
  |some (.val x),some (.val y)=>lQ C fid T x y K
  |_,_=>False
 | .call c=>match c.callee with
  | .value f=>rh C fid (anq C f) (ev f) (c.args.toList.map ev) c.argTypes.toList H K
  | .builtin b=>eZ C fid b c.argTypes.toList (c.args.toList.map ev) H K
  |_=>False
 |_=>False
open Go.RowKit (Below)
open Classical
def bt (H:HF)(f:Nat)(b:Option cD):HF:=λi=>if i=f then b else H i
def Hp.on:Hp->HF->HF
 | [],H=>H
 |(j,b)::u,H=>bt (Hp.on u H) j b
def cD.tm:cD->Nat->Prop
 | .box _ _,_=>False
 | .ec _,_=>True
 | .row m z c,o=>m=false/\o<c.len*z
 | .aD _ _,_=>False
 | .map _,_=>False
structure gN where
 w0:World
 Pk:Mem
 own:Nat->Prop
 fixed:List (Nat × Value):=[]
 db:Nat:=0
 mr0:Mem:=rd w0
abbrev gN.base (F:gN):Nat:=F.w0.heap.size
def gN.dL (F:gN)(b:Nat):Prop:=F.base<=b\/F.own b
def gN.gG {F:gN}{b:Nat}(h:F.base<=b):F.dL b:=.inl h
structure jy (m:Nat->Prop) (w w':World):Prop where
 os:w'.os=w.os
 tape:w'.tape=w.tape
 output:w'.output=w.output
 size:w.heap.size<=w'.heap.size
 block: ∀k,k<w.heap.size->¬m k->w'.heap[k]? =w.heap[k]?
theorem jy.refl (m:Nat->Prop)(w:World):jy m w w:=⟨rfl,rfl,rfl,dE _,λ_ _ _=>rfl⟩
def jy.trans {m:Nat->Prop}{a b c:World}(h:jy m a b)(k:jy m b c):jy m a c:=
 ⟨k.os.trans h.os,k.tape.trans h.tape,k.output.trans h.output,pd h.size k.size,λi hi hm=>(k.block i (X4 hi h.size) hm).trans (h.block i hi hm)⟩
def jy.Ll {m:Nat->Prop}{w w':World}(h:Below w.heap.size w w'):jy m w w':=⟨h.os,h.tape,h.output,h.size,λk hk _=>h.block k hk⟩
def jy.mono {m m':Nat->Prop}{w w':World}(h:jy m w w')(hm: ∀b,b<w.heap.size->m b->m' b):jy m' w w':=⟨h.os,h.tape,h.output,h.size,λk hk hn=>h.block k hk λe=>hn (hm k hk e)⟩
def jy.below {m:Nat->Prop}{w w':World}(h:jy m w w')(hm: ∀b,b<w.heap.size->¬m b):Below w.heap.size w w':=⟨h.os,h.tape,h.output,h.size,λk hk=>h.block k hk (hm k hk)⟩
def fS (β:Nat->Option Nat)(H:HF)(b o:Nat):Prop:=∀id bC,H id=some bC->β id=some b->bC.tm o
noncomputable def MV (F:gN)(β:Nat->Option Nat)(H:HF)(w:World):Mem:=λb o=>if F.dL b then(if fS β H b o then rd w b o else none)else F.Pk b o
noncomputable def MR (F:gN)(β:Nat->Option Nat)(H:HF)(w:World):Mem:=λb o=>if F.dL b then MV F β H w b o else F.mr0 b o
section
variable (F:gN)(β:Nat->Option Nat)(N:Nat->Prop)(H:HF)(w:World)
def U4 (v:Value)(id z n:Nat):Prop:=
 (β id=none/\n=0/\v= .slice none 0 0)\/
  ∃b cap arr T,β id=some b/\v= .slice (some ⟨b,0,none⟩) n cap/\w.heap[b]? =some (.cells arr T)/\arr.size=cap*z
def cw (v:Value):DC->Prop
 | .st c=>dy (MV F β H w) (MR F β H w) v c
 | .nil =>v= .slice none 0 0
 | .ptr id off=>N id/\∃b,β id=some b/\v= .pointer (some ⟨b,off,none⟩)
 | .own id=>N id/\v.oneCell'=true/\∀bC z n,H id=some bC->bC.sz=some (z,n)->U4 β w v id z n
 | .cI id z i off=>N id/\∃b,β id=some b/\v= .pointer (some ⟨b,i*z+off,none⟩)
 | .mp id=>N id/\∃b,β id=some b/\v= .map (some b)
 | .sL g id=>N id/\∃b,β id=some b/\v= .func (.func g) #[] #[.pointer (some ⟨b,0,none⟩)]
def au (v:Value)(x:DX):Prop:=
 if x.1 then ∃arr,v= .agg arr/\arr.size=x.2.length/\∀k c,x.2[k]? =some c->cw F β N H w (arr.getD k undef) c
 else ∃c,x.2= [c]/\cw F β N H w v c
def co (v:Value):DV->Prop
 | .val x=>au F β N H w v x
 | .aI l=>∃arr,v= .tuple arr/\arr.size=l.length/\∀k x,l[k]? =some x->au F β N H w (arr.getD k undef) x
def iB (id:Nat):cD->Prop
 | .box _ cs=>∃b arr T,β id=some b/\F.dL b/\w.heap[b]? =some (.cells arr T)/\arr.size=cs.length/\∀k x,cs[k]? =some x->cw F β N H w (arr.getD k undef) x
 | .ec cs=>∃b arr T,β id=some b/\F.dL b/\w.heap[b]? =some (.cells arr T)/\arr.size=cs.length/\∀k x,cs[k]? =some x->dy (MV F β H w) (MR F β H w) (arr.getD k undef) x
 | .row _ z c=>(0<z/\c.ao=true/\∀i e,c.elem i=some e->e.length=z)/\
   ((β id=none/\c.len=0)\/∃b cap,β id=some b/\F.dL b/\LY w (MV F β H w) b z c cap)
 | .aD z l=>(0<z/\∀(i:Nat) (e:List DC),l[i]? =some e->e.length=z)/\
   ((β id=none/\l.length=0)\/∃b cap arr T,β id=some b/\F.dL b/\w.heap[b]? =some (.cells arr T)/\arr.size=cap*z/\l.length<=cap/\
    ∀(i:Nat) (e:List DC) (k:Nat) (x:DC),l[i]? =some e->e[k]? =some x->cw F β N H w (arr.getD (i*z+k) undef) x)
 | .map es=>∃b arr ams,β id=some b/\F.dL b/\w.heap[b]? =some (.map arr ams)/\arr.size=es.length/\
   ∀(i:Nat) (k:ByteArray) (x:SV) (e:MapEntry),es[i]? =some (k,x)->arr[i]? =some e->e.key= .string k/\eu (MV F β H w) (MR F β H w) e.val x
structure ad:Prop where
 rel: ∀id bC,H id=some bC->N id/\iB F β N H w id bC
 inj: ∀i j b x y,H i=some x->H j=some y->β i=some b->β j=some b->i=j
 below:jy F.dL F.w0 w
 tg: ∀b o v,F.Pk b o=some v->rd w b o=some v/\(F.dL b->fS β H b o)
def dM (E:EF)(a:Act):Prop:=∀s dv,E s=some dv->co F β N H w (a.tmps.getD s undef) dv
end
def cD.zX:cD->cD->Prop
 | .box _ _,.box _ _=>True
 | .box _ _,.ec _=>True
 | .ec _,.ec _=>True
 | .row _ z c,.row _ z' c'=>z=z'/\c.len=c'.len
 | .aD z l,.aD z' l'=>z=z'/\l.length=l'.length
 | .map _,.map _=>True
 |_,_=>False
theorem cD.Sf {a b:cD}(h:a.zX b):b.sz=a.sz:=by cases a<;>cases b<;>simp[cD.zX,cD.sz]at h ⊢ <;>(grind)
def cD.fV (b:cD):b.zX b:=by cases b<;>simp[cD.zX]
structure Tr (F:gN) (β:Nat->Option Nat) (N:Nat->Prop) (H:HF) (w:World) (cQ:Nat->Option Nat) (N':Nat->Prop) (H':HF) (w':World):Prop where
 below:jy F.dL w w'
 mem: ∀b o v,F.dL b->fS β H b o->rd w b o=some v->fS cQ H' b o/\rd w' b o=some v
 used: ∀id,N id->N' id
 kH: ∀id,N id->cQ id=β id
 keep: ∀id blk',N id->H' id=some blk'->∃bC,H id=some bC/\bC.zX blk'
 size: ∀id blk' zn b arr T,N id->H' id=some blk'->blk'.sz=some zn->β id=some b->F.dL b->w.heap[b]? =some (.cells arr T)->∃arr',w'.heap[b]? =some (.cells arr' T)/\arr'.size=arr.size
 aw: ∀(k:Nat) (x:Option (List Deferred)),w.heap[k]? =some (.deferred x)->w'.heap[k]? =some (.deferred x)
section
variable {F:gN}{β cQ:Nat->Option Nat}{N N':Nat->Prop}{H H':HF}{w w':World}
theorem Tr.refl:Tr F β N H w β N H w:=
 ⟨jy.refl _ _,λ_ _ _ _ h e=>⟨h,e⟩,λ_ h=>h,λ_ _=>rfl,λ_ b _ e=>⟨b,e,b.fV⟩,λ_ _ _ _ arr _ _ _ _ _ _ h=>⟨arr,h,rfl⟩,λ_ _ h=>h⟩
def Below.ahX {B:Nat}(h:Below B w w'){b o:Nat}(hb:b<B):rd w' b o=rd w b o:=h.cell hb
theorem jy.rd {m:Nat->Prop}(h:jy m w w'){b o:Nat}{v:Value}(hb: ¬m b)(e:rd w b o=some v):rd w' b o=some v:=by
 have ak:=IS _ _ e;exact(PA (w:=w) (a:=⟨b,o,none⟩) (h.block b ak hb)).trans e
def Tr.mv (t:Tr F β N H w cQ N' H' w'):(MV F β H w).le (MV F cQ H' w'):=by
 intro b o v h;unfold MV at*;by_cases hb:F.dL b
 ·simp only[hb,if_true]at h ⊢;by_cases hs:fS β H b o
  ·simp only[hs,if_true]at h;obtain⟨h1,h2⟩:=t.mem b o v hb hs h
   grind
  grind
 grind
def Tr.mr (t:Tr F β N H w cQ N' H' w'):(MR F β H w).le (MR F cQ H' w'):=by
 intro b o v h;unfold MR at*;by_cases hb:F.dL b
 ·simp only[hb,if_true]at h ⊢;exact t.mv b o v h
 grind
def Tr.tg (t:Tr F β N H w cQ N' H' w')(h: ∀b o v,F.Pk b o=some v->rd w b o=some v/\(F.dL b->fS β H b o)): ∀b o v,F.Pk b o=some v->rd w' b o=some v/\(F.dL b->fS cQ H' b o):=by
 intro b o v e;obtain⟨h1,h2⟩:=h b o v e;by_cases hb:F.dL b
 ·obtain⟨h3,h4⟩:=t.mem b o v hb (h2 hb) h1
  grind
 ·exact⟨t.below.rd hb h1,λh=>absurd h hb⟩
theorem Tr.jw (t:Tr F β N H w cQ N' H' w')(hR:ad F β N H w){v:Value}{d:DC}(h:cw F β N H w v d):cw F cQ N' H' w' v d:=by
 cases d with
 |st c=>exact dy.mono t.mv t.mr h
 |nil=>exact h
 |ptr id off=>
  exact K91
 |own id=>
  obtain⟨hn,h1c,h⟩:=h;refine⟨t.used _ hn,h1c,λblk' z n hb hz=>?_⟩;obtain⟨bC,e,hl⟩:=t.keep id _ hn hb;have eb:=t.kH id hn;have hz0:=hz;rw[cD.Sf hl]at hz;have h:=h _ _ _ e hz;unfold U4 at*;rw[eb]
  rcases h with⟨h1,h2,h3⟩|⟨b,cap,arr,T,h1,h2,h3,h4⟩
  grind
  ·have FT:F.dL b:=by
    obtain⟨_,jW⟩:=hR.rel id _ e
    cases bC with
    |row m z c=>
     obtain⟨_,jW|⟨b',jE,q1,q2,q3⟩⟩:=jW
     grind
     grind
    |aD z l=>
     obtain⟨_,jW|⟨b',jE,arr',T',q1,q2,q3⟩⟩:=jW
     grind
     grind
    |box _ _=>grind[cD.sz]
    |ec _=>grind[cD.sz]
    |map _=>grind[cD.sz]
   obtain⟨arr',e',es⟩:=t.size id _ _ b arr T hn hb hz0 h1 FT h3
   grind
 |cI id z i off=>
  exact K91
 |sL g id=>
  exact K91
 |mp id=>
  exact K91
def Tr.su (t:Tr F β N H w cQ N' H' w')(hR:ad F β N H w){v:Value}{d:DX}(h:au F β N H w v d):au F cQ N' H' w' v d:=by
 unfold au at*;split
 ·rename_i hx;rw[if_pos hx]at h;obtain⟨arr,h1,h2,h3⟩:=h;exact⟨arr,h1,h2,λk c hc=>t.jw hR (h3 k c hc)⟩
 ·rename_i hx;rw[if_neg hx]at h;obtain⟨c,h1,h2⟩:=h;exact⟨c,h1,t.jw hR h2⟩
theorem Tr.vY (t:Tr F β N H w cQ N' H' w')(hR:ad F β N H w){v:Value}{d:DV}(h:co F β N H w v d):co F cQ N' H' w' v d:=by
 cases d with
 |val x=>exact t.su hR h
 |aI l=>
  obtain⟨arr,h1,h2,h3⟩:=h;exact⟨arr,h1,h2,λk c hc=>t.su hR (h3 k c hc)⟩
def Tr.env (t:Tr F β N H w cQ N' H' w')(hR:ad F β N H w){E:EF}{a:Act}(h:dM F β N H w E a):dM F cQ N' H' w' E a:=
 λs dv e=>t.vY hR (h s dv e)
theorem ad.step (hR:ad F β N H w)(t:Tr F β N H w cQ N' H' w')(T:Nat->Prop)
  (hu: ∀id bC,¬T id->H' id=some bC->H id=some bC/\N id/\∀b,β id=some b->w'.heap[b]? =w.heap[b]?)
  (ht: ∀id bC,T id->H' id=some bC->N' id/\iB F cQ N' H' w' id bC)
  (hi: ∀i j b x y,H' i=some x->H' j=some y->cQ i=some b->cQ j=some b->i=j):ad F cQ N' H' w':=by
 refine⟨λid bC e=>?_,hi,hR.below.trans t.below,t.tg hR.tg⟩;by_cases hT:T id
 grind
 ·obtain⟨e0,GV,hw⟩:=hu id bC hT e;have eb:=t.kH id GV;obtain⟨hn,hb⟩:=hR.rel id bC e0;refine⟨t.used _ hn,?_⟩
  cases bC with
  |box ty cs=>
   obtain⟨b,arr,T',h1,h2,h3,h4,h5⟩:=hb;exact⟨b,arr,T',by grind,h2,by grind,h4,λk x hx=>t.jw hR (h5 k x hx)⟩
  |ec cs=>
   obtain⟨b,arr,T',h1,h2,h3,h4,h5⟩:=hb;exact⟨b,arr,T',by grind,h2,by grind,h4,λk x hx=>(h5 k x hx).mono t.mv t.mr⟩
  |row m z c=>
   obtain⟨h0,h1|⟨b,cap,h1,h2,arr,T',q1,q2,q3,q4,q5,q6,q7⟩⟩:=hb
   ·exact⟨h0,.inl ⟨by grind,h1.2⟩⟩
   ·exact⟨h0,.inr ⟨b,cap,by grind,h2,arr,T',by grind,q2,q3,q4,q5,q6,λi e j x he hx=>(q7 i e j x he hx).mono t.mv (Mem.le_refl _)⟩⟩
  |aD z l=>
   obtain⟨h0,h1|⟨b,cap,arr,T',h1,h2,q1,q2,q3,q4⟩⟩:=hb
   ·exact⟨h0,.inl ⟨by grind,h1.2⟩⟩
   ·exact⟨h0,.inr ⟨b,cap,arr,T',by grind,h2,by grind,q2,q3,λi e j x he hx=>t.jw hR (q4 i e j x he hx)⟩⟩
  |map es=>
   obtain⟨b,arr,ck,h1,h2,h3,h4,h5⟩:=hb;exact⟨b,arr,ck,by grind,h2,by grind,h4,λi k x e hi he=>let⟨a1,a2⟩:=h5 i k x e hi he;⟨a1,a2.mono t.mv t.mr⟩⟩
def S4 (h:Below w.heap.size w w'){b o:Nat}{v:Value}(e:rd w b o=some v):rd w' b o=some v:=by rw[Below.ahX h (IS _ _ e)];exact e
def kN {b:Nat}{o:Obj}(e:w.heap[b]? =some o):b<w.heap.size:=(FV.1 e).1
def Tr.grow (_hR:ad F β N H w)(h:Below w.heap.size w w'):Tr F β N H w β N H w' where
 below:=.Ll h
 mem:=λ_ _ _ _ hs e=>⟨hs,S4 h e⟩
 used:=λ_ h=>h
 kH:=λ_ _=>rfl
 keep:=λ_ b _ e=>⟨b,e,b.fV⟩
 size:=λ_ _ _ b arr T _ _ _ _ _ e=>⟨arr,by rw[h.block b (kN e)];exact e,rfl⟩
 aw:=λk o e=>by rw[h.block k (kN e)];exact e
theorem ad.fY (hR:ad F β N H w){id b:Nat}{bC:cD}(e:H id=some bC)(hb:β id=some b):b<w.heap.size/\F.dL b:=by
 obtain⟨_,h⟩:=hR.rel id bC e
 cases bC with
 |box ty cs=>obtain⟨b',arr,T',h1,h2,h3,_⟩:=h;grind
 |ec cs=>obtain⟨b',arr,T',h1,h2,h3,_⟩:=h;grind
 |row m z c=>
  obtain⟨_,h1|⟨b',cap,h1,h2,arr,T',q1,_⟩⟩:=h
  grind
  grind
 |aD z l=>
  obtain⟨_,h1|⟨b',cap,arr,T',h1,h2,q1,_⟩⟩:=h
  grind
  grind
 |map es=>obtain⟨b',arr,T',h1,h2,h3,_⟩:=h;grind
def ad.grow (hR:ad F β N H w)(h:Below w.heap.size w w'):ad F β N H w':=
 hR.step (Tr.grow hR h) (λ_=>False) (λid bC _ e=>⟨e,(hR.rel id bC e).1,λb hb=>h.block b (hR.fY e hb).1⟩) (λ_ _ h=>h.elim) hR.inj
theorem an (H:HF)(f:Nat)(b:Option cD):bt H f b f=b:=by simp[bt]
theorem aG (H:HF)(f:Nat)(b:Option cD){i:Nat}(h:i≠f):bt H f b i=H i:=by simp[bt,h]
theorem Hp.av (j:Nat)(b:Option cD)(H:Hp):Hp.get ((j,b)::H)=bt H.get j b:=by
 funext i;by_cases h:i=j
 ·subst h;simp[Hp.get,bt]
 grind[Nat.eq_of_beq_eq_true,Hp.get,bt]
theorem Hp.get_append (u H:Hp):Hp.get (u++H)=u.on H.get:=by
 induction u with
 |nil=>rfl
 |cons p u ih=>rw[qX,Hp.av,ih];rfl
theorem Hp.UJ (u u':Hp)(H:HF):Hp.on (u++u') H=u.on (u'.on H):=by
 induction u with
 |nil=>rfl
 |cons p u ih=>rw[qX];show bt _ _ _=bt _ _ _;rw[ih]
def tag (id:Nat):Nat:=match Nat.beq (id%2) 0 with
 |true=>id/2
 |false=>id/8589934592
def jQ (n:Nat):tag (2*n)=n:=by
 have h:2*n%2=0:=by omega
 unfold tag;simp_all
theorem agp (id:Nat):tag id<=id:=by grind[tag]
def bk (N:Nat->Prop)(f:Nat):Nat->Prop:=λid=>N id\/tag id=tag f
def cV (β:Nat->Option Nat)(f:Nat)(b:Option Nat):Nat->Option Nat:=λid=>if id=f then b else β id
theorem jz (β:Nat->Option Nat)(f:Nat)(b:Option Nat):cV β f b f=b:=by simp[cV]
def iC (β:Nat->Option Nat)(f:Nat)(b:Option Nat){i:Nat}(h:i≠f):cV β f b i=β i:=by simp[cV,h]
def Tr.new (_hR:ad F β N H w)(h:Below w.heap.size w w'){f:Nat}(hf: ¬N f)(b:Option Nat)(hb: ∀x,b=some x->w.heap.size<=x)(bC:cD):
  Tr F β N H w (cV β f b) (bk N f) (bt H f (some bC)) w' where
 below:=.Ll h
 mem:=λb' o v _ hs e=>by
  refine⟨λid blk' e' jW=>?_,S4 h e⟩;by_cases hid:id=f
  ·subst hid;rw[jz]at jW;have:=hb _ jW;have:=IS _ _ e
   grind
  ·rw[aG _ _ _ hid]at e';rw[iC _ _ _ hid]at jW;exact hs id blk' e' jW
 used:=λ_ h=>.inl h
 kH:=λid hn=>iC _ _ _ λe=>hf (e▸hn)
 keep:=λid b' hn e=>by
  have hid:id≠f:=λe=>hf (e▸hn);rw[aG _ _ _ hid]at e;exact⟨b',e,b'.fV⟩
 size:=λ_ _ _ b arr T _ _ _ _ _ e=>⟨arr,by rw[h.block b (kN e)];exact e,rfl⟩
 aw:=λk o e=>by rw[h.block k (kN e)];exact e
def ad.new (hR:ad F β N H w)(h:Below w.heap.size w w'){f:Nat}(hf: ¬N f)(b:Option Nat)(hb: ∀x,b=some x->w.heap.size<=x)(bC:cD)
  (hrel:iB F (cV β f b) (bk N f) (bt H f (some bC)) w' f bC):ad F (cV β f b) (bk N f) (bt H f (some bC)) w':=by
 refine hR.step (Tr.new hR h hf b hb bC) (λid=>id=f) (λid blk' hid e=>?_) (λid blk' hid e=>?_) (λi j x y z hi hj bi bj=>?_)
 ·rw[aG _ _ _ hid]at e;exact⟨e,(hR.rel id blk' e).1,λb hb=>h.block b (hR.fY e hb).1⟩
 ·subst hid;rw[an]at e;cases e;exact⟨.inr rfl,hrel⟩
 ·by_cases h1:i=f
  ·by_cases h2:j=f
   grind
   ·exfalso;subst h1;rw[aG _ _ _ h2]at hj;rw[jz]at bi;rw[iC _ _ _ h2]at bj;have:=(hR.fY hj bj).1
    grind
  ·by_cases h2:j=f
   ·exfalso;subst h2;rw[aG _ _ _ h1]at hi;rw[jz]at bj;rw[iC _ _ _ h1]at bi;have:=(hR.fY hi bi).1
    grind
   ·rw[aG _ _ _ h1]at hi;rw[aG _ _ _ h2]at hj;rw[iC _ _ _ h1]at bi;rw[iC _ _ _ h2]at bj;exact hR.inj i j x y z hi hj bi bj
def Tr.trans {amq:Nat->Option Nat}{N'':Nat->Prop}{H'':HF}{w'':World}(t:Tr F β N H w cQ N' H' w')(u:Tr F cQ N' H' w' amq N'' H'' w''):Tr F β N H w amq N'' H'' w'' where
 below:=t.below.trans u.below
 mem:=λb o v hb hs e=>let⟨h1,h2⟩:=t.mem b o v hb hs e;u.mem b o v hb h1 h2
 used:=λid h=>u.used id (t.used id h)
 kH:=λid h=>(u.kH id (t.used id h)).trans (t.kH id h)
 keep:=λid Pb hn e=>by
  obtain⟨blk',e',sJ⟩:=u.keep id Pb (t.used id hn) e;obtain⟨bC,e0,hl⟩:=t.keep id blk' hn e';refine⟨bC,e0,?_⟩;cases bC<;>cases blk'<;>cases Pb<;>simp[cD.zX]at* <;>(grind)
 size:=λid Pb zn b arr T hn e0 ez eb hb e=>by
  obtain⟨blk',ek,hl⟩:=u.keep id Pb (t.used id hn) e0;obtain⟨arr',e',s'⟩:=t.size id blk' zn b arr T hn ek (by grind[cD.Sf]) eb hb e;obtain⟨aou,e'',s''⟩:=u.size id Pb zn b arr' T (t.used id hn) e0 ez ((t.kH id hn).trans eb) hb e'
  grind
 aw:=λk o e=>u.aw k o (t.aw k o e)
end
end Go.Fw
namespace Go.Fw
open Go.RowKit (Below)
section
variable {C:bU}{F:gN}{β cQ:Nat->Option Nat}{N N':Nat->Prop}{H H':HF}{w w':World}
def pg (H H':HF):Prop:=∀id,H' id=H id\/(∃m z c,H id=some (.row m z c)/\H' id=some (.row false z c))\/∃t cs l,H id=some (.box t cs)/\H' id=some (.ec l)
theorem pg.refl (H:HF):pg H H:=λ_=>.inl rfl
def pg.live (h:pg H H'){id:Nat}{x:cD}(e:H' id=some x): ∃y,H id=some y/\y.zX x:=by
 rcases h id with h|⟨m,z,c,h1,h2⟩|⟨t,cs,l,h1,h2⟩
 ·exact⟨x,by grind,x.fV⟩
 ·rw[h2]at e;cases e;exact⟨_,h1,rfl,rfl⟩
 ·rw[h2]at e;cases e;exact⟨_,h1,trivial⟩
def pg.tr (h:pg H H'):Tr F β N H w β N H' w where
 below:=jy.refl _ _
 mem:=λb o v _ hs e=>by
  refine⟨λid bC e' hb=>?_,e⟩;rcases h id with h|⟨m,z,c,h1,h2⟩|⟨t,cs,l,h1,h2⟩
  ·exact hs id bC bv hb
  ·have:=hs id _ h1 hb;rw[h2]at e';cases e';exact⟨rfl,this.2⟩
  ·rw[h2]at e';cases e';trivial
 used:=λ_ h=>h
 kH:=λ_ _=>rfl
 keep:=λid blk' _ e=>let⟨y,e1,hl⟩:=h.live e;⟨y,e1,hl⟩
 size:=λ_ _ _ _ arr _ _ _ _ _ _ h=>⟨arr,h,rfl⟩
 aw:=λ_ _ h=>h
def PJ (hR:ad F β N H w)(h:pg H H'){id b z:Nat}{c:SC}(e:H' id=some (.row false z c))(hb:β id=some b){o:Nat}(ho:o<c.len*z):fS β H' b o:=by
 intro iW bC e' jW;obtain⟨y,ey,_⟩:=h.live e;obtain⟨y',ey',_⟩:=h.live e';have:iW=id:=hR.inj iW id b y' y ey' ey jW hb;subst this;rw[e]at e';cases e';exact⟨rfl,ho⟩
def tD (hR:ad F β N H w)(h:pg H H'){id b:Nat}{cs:List SC}(e:H' id=some (.ec cs))(hb:β id=some b)(o:Nat):fS β H' b o:=by
 intro iW bC e' jW;obtain⟨y,ey,_⟩:=h.live e;obtain⟨y',ey',_⟩:=h.live e';have:iW=id:=hR.inj iW id b y' y ey' ey jW hb;subst this;rw[e]at e';cases e';trivial
def ri {b o:Nat}(hb:F.dL b)(hs:fS β H b o):MV F β H w b o=rd w b o:=by
 unfold MV
 grind
theorem gb {arr:Array Value}{T:TypeId}{b o:Nat}(h:w.heap[b]? =some (.cells arr T))(ho:o<arr.size):rd w b o=some (arr.getD o undef):=by simp[rd,World.cell?,h,Array.getD,ho]
def Yu (hR:ad F β N H w)(h:pg H H'){id z:Nat}{c:SC}{v:Value}(e:H' id=some (.row false z c))(hv:U4 β w v id z c.len)
  (gC:iB F β N H w id (.row false z c)):dy (MV F β H' w) (MR F β H' w) v c:=by
 obtain⟨⟨hz,aby,hl⟩,hr⟩:=gC;by_cases h0:c.len=0
 ·rcases hv with⟨_,_,rfl⟩|⟨b,cap,arr,T,h1,rfl,h3,h4⟩
  ·exact .empty _ _ aby h0
  ·rw[h0];exact .empty _ _ aby h0
 rcases hv with⟨_,h0',_⟩|⟨b,cap,arr,T,h1,rfl,h3,h4⟩
 ·omega
 rcases hr with⟨_,h0'⟩|⟨b',jE,q1,q2,arr',T',q3,q4,q5,q6,q7,q8,q9⟩
 ·omega
 rw[h1]at q1;cases q1;rw[h3]at q3;cases q3;have eC:c.len*z<=arr.size:=by rw[q4];exact kE _ q7
 have fZ:cap=jE:=UK hz K0;subst fZ;refine .view b 0 cap z (λk=>arr.getD k undef) aby K0 hz q7 hl (λk hk=>?_) (λi el j x he hx=>?_)
 ·rw[j7,ri q2 (PJ hR h e h1 hk)]
  grind[gb]
 ·exact(q9 i el j x he hx).mono (pg.tr (N:=N) h).mv (Mem.le_refl _)
def me (H:HF)(p:Nat × Option cD):Prop:=∃m z c,H p.1=some (.row m z c)/\p.2=some (.row false z c)
theorem nG {k:Bool}{d:DC}{c:SC}{u:Hp}{r:List Nat}(h:bA H k d=some (c,u,r)): ∀p∈u,me H p:=by
 cases d with
 |st c'=>grind[bA]
 |nil=>grind[bA]
 |own id=>
  simp only[bA]at h;split at h
  ·rename_i m z c' e;simp at h;obtain⟨rfl,rfl,rfl⟩:=h;cases m
   ·simp
   ·intro p hp;simp at hp;subst hp;exact⟨_,_,_,e,rfl⟩
  grind
  grind
 |ptr id off=>grind[bA]
 |cI id z i off=>grind[bA]
 |sL g id=>grind[bA]
 |mp id=>grind[bA]
theorem Hd (hR:ad F β N H w)(hS:pg H H'){v:Value}{k:Bool}{d:DC}{c:SC}{u:Hp}{r:List Nat}(hd:cw F β N H w v d)
  (h:bA H k d=some (c,u,r))(hu: ∀p∈u,∃z c,p.2=some (.row false z c)/\H' p.1=some (.row false z c)):dy (MV F β H' w) (MR F β H' w) v c:=by
 cases d with
 |st c'=>
  simp[bA]at h;obtain⟨rfl,_,_⟩:=h;exact dy.mono (pg.tr (N:=N) hS).mv (pg.tr (N:=N) hS).mr hd
 |nil=>
  simp[bA]at h;obtain⟨rfl,_,_⟩:=h;have:v= .slice none 0 0:=hd;subst this;cases k
  ·exact .empty _ _ rfl rfl
  ·exact .empty _ _ rfl rfl
 |own id=>
  simp only[bA]at h;split at h
  ·rename_i m z c' e;simp at h;obtain⟨rfl,O6,rfl⟩:=h;obtain⟨hn,_,hd⟩:=hd;have hv:=hd _ _ _ e rfl;have hb:=(hR.rel id _ e).2
   have e':H' id=some (.row false z c'):=by
    cases m
    ·rcases hS id with h|⟨m,z1,c1,h1,h2⟩|⟨t,cs,l,h1,h2⟩
     grind
     grind
     grind
    ·subst O6;obtain⟨z1,c1,h1,h2⟩:=hu (id,some (.row false z c')) (by simp)
     grind
   refine Yu hR hS e' hv ?_;exact hb
  ·simp at h;obtain⟨rfl,_,_⟩:=h;exact .any hd.2.1
  grind
 |ptr id off=>grind[bA]
 |cI id z i off=>grind[bA]
 |sL g id=>grind[bA]
 |mp id=>grind[bA]
theorem cN: ∀ {ks:List Bool} {ds:List DC} {l:List SC} {u:Hp} {r:List Nat},bV H ks ds=some (l,u,r)->∀p∈u,me H p
 |ks,[],l,u,r,h=>by grind[bV]
 |ks,d::ds,l,u,r,h=>by
  simp only[bV]at h;split at h
  ·rename_i c u1 r1 h1;split at h
   ·rename_i cs u2 r2 h2;simp at h;obtain⟨_,rfl,_⟩:=h;intro p hp;rcases iz.1 hp with hp|hp
    grind[nG]
    ·exact cN h2 p hp
   grind
  grind
theorem iD: ∀ {ks:List Bool} {ds:List DC} {l:List SC} {u:Hp} {r:List Nat},bV H ks ds=some (l,u,r)->l.length=ds.length
 |ks,[],l,u,r,h=>by grind[bV]
 |ks,d::ds,l,u,r,h=>by
  simp only[bV]at h;split at h
  ·split at h
   ·rename_i cs u2 r2 h2;simp at h;obtain⟨rfl,_,_⟩:=h;simp[iD h2]
   grind
  grind
theorem iE (hR:ad F β N H w)(hS:pg H H'): ∀ {ks:List Bool} {ds:List DC} {l:List SC} {u:Hp} {r:List Nat} {f:Nat->Value},(∀k d,ds[k]? =some d->cw F β N H w (f k) d)->
  bV H ks ds=some (l,u,r)->(∀p∈u,∃z c,p.2=some (.row false z c)/\H' p.1=some (.row false z c))->∀k c,l[k]? =some c->dy (MV F β H' w) (MR F β H' w) (f k) c
 |ks,[],l,u,r,f,_,h,_=>by grind[bV]
 |ks,d::ds,l,u,r,f,hf,h,hu=>by
  simp only[bV]at h;split at h
  ·rename_i c u1 r1 h1;split at h
   ·rename_i cs u2 r2 h2;simp at h;obtain⟨rfl,rfl,_⟩:=h;intro k x hx
    cases k with
    |zero=>
     simp at hx;subst hx;exact Hd hR hS (hf 0 d rfl) h1 λp hp=>hu p (iz.2 (.inl hp))
    |succ k=>
     simp at hx;exact iE hR hS (f:=λk=>f (k+1)) (λk d hd=>hf (k+1) d bv) h2 (λp hp=>hu p (iz.2 (.inr hp))) k x hx
   grind
  grind
def akR (C:bU)(H:HF)(u:Hp)(p:Nat × Option cD):Prop:=
 me H p\/∃t cs l ul rl,H p.1=some (.box t cs)/\p.2=some (.ec l)/\bV H (C.kinds t) cs=some (l,ul,rl)/\∀q∈ul,q∈u
def il (C:bU)(H:HF)(u:Hp):Prop:=∀p∈u,akR C H u p
theorem yd (u:Hp)(H:HF)(id:Nat):(u.on H id=H id/\∀p∈u,p.1≠id)\/∃p∈u,p.1=id/\u.on H id=p.2:=by
 induction u with
 |nil=>exact .inl ⟨rfl,by simp⟩
 |cons q u ih=>
  obtain⟨j,b⟩:=q;by_cases h:id=j
  ·exact .inr ⟨(j,b),by simp,h.symm,by simp[Hp.on,bt,h]⟩
  ·have he:Hp.on ((j,b)::u) H id=Hp.on u H id:=by show bt _ _ _ id=_;simp[bt,h]
   grind
def il.soft {u:Hp}(h:il C H u):pg H (u.on H):=by
 intro id
 rcases yd u H id with⟨h1,_⟩|⟨p,hp,rfl,h1⟩
 grind
 ·rcases h p hp with⟨m,z,c,e1,e2⟩|⟨t,cs,l,ul,rl,e1,e2,_⟩
  grind
  grind
def il.frozen {u:Hp}(h:il C H u){p:Nat × Option cD}(hp:p∈u)(hf:me H p): ∃z c,p.2=some (.row false z c)/\u.on H p.1=some (.row false z c):=by
 obtain⟨m,z,c,e1,e2⟩:=hf;refine⟨z,c,e2,?_⟩
 rcases yd u H p.1 with⟨_,h1⟩|⟨q,hq,hqp,h1⟩
 grind
 ·rcases h q hq with⟨m',z',c',q1,q2⟩|⟨t,cs,l,ul,rl,q1,_⟩
  grind
  grind
def il.heap {u:Hp}(hR:ad F β N H w)(h:il C H u):ad F β N (u.on H) w:=by
 have hS:=h.soft;have hT:Tr F β N H w β N (u.on H) w:=hS.tr;refine hR.step hT (λid=>u.on H id≠H id) (λid bC hid e=>?_) (λid bC hid e=>?_) (λi j b x y hi hj bi bj=>?_)
 ·have:u.on H id=H id:=Pz hid;have e':H id=some bC:=by grind
  exact⟨e',(hR.rel id bC e').1,λ_ _=>rfl⟩
 ·rcases yd u H id with⟨h1,_⟩|⟨p,hp,rfl,h1⟩
  grind
  ·rcases h p hp with⟨m,z,c,e1,e2⟩|⟨t,cs,l,ul,rl,e1,e2,e3,e4⟩
   ·rw[h1,e2]at e;cases e;obtain⟨hn,h0,hb⟩:=hR.rel _ _ e1;refine⟨hn,h0,?_⟩;rcases hb with hb|⟨b,cap,q1,q2,arr,T,q3,q4,q5,q6,q7,q8,q9⟩
    grind
    ·exact .inr ⟨b,cap,q1,q2,arr,T,q3,q4,q5,q6,q7,q8,λi e j x he hx=>(q9 i e j x he hx).mono hT.mv (Mem.le_refl _)⟩
   ·rw[h1,e2]at e;cases e;obtain⟨hn,b,arr,T,q1,q2,q3,q4,q5⟩:=hR.rel _ _ e1;refine⟨hn,b,arr,T,q1,q2,q3,by grind[iD],?_⟩;exact iE hR hS q5 e3 λq hq=>h.frozen (e4 q hq) (cN e3 q hq)
 ·obtain⟨x',AW,_⟩:=hS.live hi;obtain⟨y',hy',_⟩:=hS.live hj;exact hR.inj i j b x' y' AW hy' bi bj
def il.afC {u:Hp}(h:il C H u){id:Nat}{t:TypeId}{ds:List DC}{l:List SC}{ue:Hp}{re:List Nat}(hp:(id,some (.ec l))∈u)(hb:H id=some (.box t ds))
  (hs:bV H (C.kinds t) ds=some (l,ue,re)):u.on H id=some (.ec l):=by
 rcases yd u H id with⟨_,h1⟩|⟨q,hq,hqp,h1⟩
 grind
 ·rcases h q hq with⟨m',z',c',q1,q2⟩|⟨t',cs,l',ul,rl,q1,q2,q3,_⟩
  grind
  grind
def il.ko {u:Hp}(h: ∀p∈u,me H p):il C H u:=λp hp=>.inl (h p hp)
def il.append {u v:Hp}(h:il C H u)(k:il C H v):il C H (u++v):=by
 intro p hp;rcases iz.1 hp with hp|hp
 ·rcases h p hp with h|⟨t,cs,l,ul,rl,e1,e2,e3,e4⟩
  ·exact .inl h
  ·exact .inr ⟨t,cs,l,ul,rl,e1,e2,e3,λq hq=>iz.2 (.inl (e4 q hq))⟩
 ·rcases k p hp with h|⟨t,cs,l,ul,rl,e1,e2,e3,e4⟩
  ·exact .inl h
  ·exact .inr ⟨t,cs,l,ul,rl,e1,e2,e3,λq hq=>iz.2 (.inr (e4 q hq))⟩
end
def He: ∀ {l:List (Nat × TI)} {t:Nat} {i:TI},LZ l t=some i->(t,i)∈l
 | [],_,_,h=>by grind[LZ]
 |(j,b)::l,t,i,h=>by
  simp only[LZ]at h;split at h;simp_all
  ·exact ji _ (He h)
structure L4 (P:Program) (t:TypeId) (i:TI) (f:TypeInfo) (d:TypeDesc) (v:Value):Prop where
 ow:P.info? t=some f
 IP:P.underlying t=some d
 b8:eD d=i.b8
 size:f.size=i.size
 bytes:f.bytes=i.bytes
 zero:f.zero=some v
 xN:v.cells.toList.map BT=i.zero
 eqs:(if P.eqGuardType P.depth t then none else kL P 8 t)=i.eqs
 fields: ∀fs,d= .struct fs->∀g∈fs.toList,(P.info? g.type).isSome =true
theorem bU.Ok.get {C:bU}(h:C.Ok){t:TypeId}{i:TI}(e:C.ti t=some i): ∃f d v,L4 C.P t i f d v:=by
 have hm:=He e;obtain⟨k,hk⟩:=UP.1 hm;have hty:=aQ (·[k]?) h.ty;simp only[gK,hk,xR,lM]at hty;unfold akO at hty;split at hty
 ·rename_i f d hf hd;split at hty
  ·rename_i v hz hall;simp only[lM,ij]at hty;obtain⟨h1,h2,h3,h4,h5⟩:=hty;refine⟨f,d,v,hf,hd,h1,h2,h3,hz,h4,h5,?_⟩
   grind
  grind
 grind
section
variable {P:Program}{t:TypeId}{i:TI}{f:TypeInfo}{d:TypeDesc}{v:Value}
def L4.cX (h:L4 P t i f d v)(w:World):(underlying t).run P w= .ok d w:=tp h.IP w
def L4.iM (h:L4 P t i f d v)(w:World):(sizeOf t).run P w= .ok i.size w:=by simp[sizeOf,typeInfo,h.ow,h.size]
def L4.XK (h:L4 P t i f d v)(w:World):(typeInfo t).run P w= .ok f w:=by simp[typeInfo,h.ow]
def L4.th (h:L4 P t i f d v)(w:World):(zeroValue t).run P w= .ok v w:=by simp[zeroValue,typeInfo,h.ow,h.zero]
def L4.G0 (h:L4 P t i f d v)(w:World):(isAgg t).run P w= .ok (cJ i.b8) w:=by
 rw[<- h.b8];cases d<;>simp[isAgg,h.cX,eD,cJ]
def dq {e:TypeId}(h:eD d= .slice e):d= .slice e:=by exact UW
def kp {n:Nat}{e:TypeId}(h:eD d= .array n e):d= .array n e:=by exact UW
def rj {k:IntKind}(h:eD d= .int k):d= .int k:=by exact UW
def L5 (h:eD d= .bool):d= .bool :=by cases d<;>simp[eD]at h;rfl
def U5 (h:eD d= .iface): ∃m,d= .interface m:=by exact UW
def mf (h:eD d= .str):d= .string :=by cases d<;>simp[eD]at h;rfl
def rk {fs:List (Nat × TypeId)}(h:eD d= .struct fs): ∃gs,d= .struct gs/\gs.toList.map (λf=>(f.offset,f.type))=fs:=UW
end
theorem S5 {mv mr:Mem}{v:Value}{c:SC}(h:dy mv mr v c):v.oneCell'=true:=by
 cases h with
 |lit h=>cases ‹Value› <;>simp[plain]at h<;>rfl
 |empty=>rfl
 |view=>rfl
 |ref=>rfl
 |err h=>obtain⟨T,x,rfl⟩:=h;rfl
 |num h=>obtain⟨m,rfl⟩:=h;rfl
 |raw h=>exact h
 |any h=>exact h
 |fn=>rfl
def Hf {v:Value}(h:v.oneCell'=true):v.cells= #[v]:=by cases v<;>simp[Value.oneCell']at h<;>rfl
section
variable (C:bU)(F:gN)(β:Nat->Option Nat)(N:Nat->Prop)(H:HF)(fid:Nat)(K:j8)
def bn (w:World)(v:Value)(w':World):Prop:=
 ∃cQ r u R,K r u R/\Tr F β N H w cQ (bk N fid) (u.on H) w'/\ad F cQ (bk N fid) (u.on H) w'/\co F cQ (bk N fid) (u.on H) w' v r
end
section
variable {C:bU}{F:gN}{β:Nat->Option Nat}{N:Nat->Prop}{H:HF}{fid:Nat}{K:j8}{w w':World}
theorem cw.bk {f:Nat}{v:Value}{d:DC}(h:cw F β N H w v d):cw F β (bk N f) H w v d:=by
 cases d with
 |st c=>exact h
 |nil=>exact h
 |ptr id off=>exact⟨.inl h.1,h.2⟩
 |own id=>exact⟨.inl h.1,h.2⟩
 |cI id z i off=>exact⟨.inl h.1,h.2⟩
 |sL g id=>exact⟨.inl h.1,h.2⟩
 |mp id=>exact⟨.inl h.1,h.2⟩
def Tr.bk {cQ:Nat->Option Nat}{H':HF}{f:Nat}(t:Tr F β N H w cQ N H' w'):Tr F β N H w cQ (bk N f) H' w':=
 ⟨t.below,t.mem,λ_ h=>.inl h,t.kH,t.keep,t.size,t.aw⟩
theorem iB.bk {f id:Nat}{b:cD}(h:iB F β N H w id b):iB F β (bk N f) H w id b:=by
 cases b with
 |box t cs=>obtain⟨b,arr,T,h1,h2,h3,h4,h5⟩:=h;exact⟨b,arr,T,h1,h2,h3,h4,λk x hx=>(h5 k x hx).bk⟩
 |ec cs=>exact h
 |row m z c=>exact h
 |aD z l=>
  obtain⟨q0,q1|⟨b,cap,arr,T,q1,q2,q3,q4,q5,q6⟩⟩:=h
  ·exact LX
  ·exact⟨q0,.inr ⟨b,cap,arr,T,q1,q2,q3,q4,q5,λi e k x hi hx=>(q6 i e k x hi hx).bk⟩⟩
 |map es=>exact h
def ad.bk {f:Nat}(h:ad F β N H w):ad F β (bk N f) H w:=
 ⟨λid bC e=>let⟨a,b⟩:=h.rel id bC e;⟨.inl a,b.bk⟩,h.inj,h.below,h.tg⟩
def bn.still (hR:ad F β N H w){u:Hp}(hg:il C H u){R:List Nat}{r:DV}{v:Value}(hK:K r u R)
  (hv:co F β (Fw.bk N fid) (u.on H) w v r):bn F β N H fid K w v w:=
 ⟨β,r,u,R,hK,hg.soft.tr.bk,(hg.heap hR).bk,hv⟩
def au.bk {f:Nat}{v:Value}{d:DX}(h:au F β N H w v d):au F β (Fw.bk N f) H w v d:=by
 unfold au at*;split
 ·rename_i hx;rw[if_pos hx]at h;obtain⟨arr,h1,h2,h3⟩:=h;exact⟨arr,h1,h2,λk c hc=>(h3 k c hc).bk⟩
 ·rename_i hx;rw[if_neg hx]at h;obtain⟨c,h1,h2⟩:=h;exact⟨c,h1,h2.bk⟩
theorem co.bk {f:Nat}{v:Value}{d:DV}(h:co F β N H w v d):co F β (Fw.bk N f) H w v d:=by
 cases d with
 |val x=>exact au.bk h
 |aI l=>obtain⟨arr,h1,h2,h3⟩:=h;exact⟨arr,h1,h2,λk c hc=>(h3 k c hc).bk⟩
def bn.pure (hR:ad F β N H w){R:List Nat}{r:DV}{v:Value}(hK:K r [] R)(hv:co F β N H w v r):bn F β N H fid K w v w:=
 ⟨β,r,[],R,hK,(pg.refl H).tr.bk,hR.bk,hv.bk⟩
theorem fT {v:Value}(h:plain v=true):co F β N H w v (lit v):=⟨.st (.lit v),rfl,.lit h⟩
def cK {v:Value}{d:DC}(h:cw F β N H w v d):co F β N H w v (bm d):=⟨d,rfl,h⟩
def au.am {v:Value}{d:DC}(h:au F β N H w v (false,[d])):cw F β N H w v d:=by
 obtain⟨c,h1,h2⟩:=h
 grind
def au.Ci {v:Value}{cs:List DC}(h:au F β N H w v (true,cs)): ∃arr,v= .agg arr/\arr.size=cs.length/\∀k c,cs[k]? =some c->cw F β N H w (arr.getD k undef) c:=h
theorem cw.abS {v:Value}(h:cw F β N H w v (.st .err)): ∃T x,v= .iface T x:=by
 have h:dy _ _ v .err :=h
 cases h with
 |empty a cap hv=>grind[SC.ao]
 |view _ _ _ _ _ hv=>grind[SC.ao]
 |err h=>exact h
theorem cw.bB {v x:Value}(h:cw F β N H w v (.st (.lit x))):v=x/\plain x=true:=by
 cases h with
 |lit h=>grind
 |empty a cap hv=>grind[SC.ao]
 |view _ _ _ _ _ hv=>grind[SC.ao]
structure bJ (C:bU) (F:gN):Prop where
 ok:eQ C.gl (rd F.w0)
 mv:F.Pk.le (rd F.w0)
 UI: ∀g cs,(g,cs)∈C.gl->0<cs.length->¬F.own g
 rok:eQ C.gl F.mr0
 rle:F.mr0.le (rd F.w0)
 mvr:F.Pk.le F.mr0
theorem A6: ∀ {l:tu} {t:Nat} {i:List SC},xY l t=some i->(t,i)∈l
 | [],_,_,h=>by grind[xY]
 |(j,b)::l,t,i,h=>by
  simp only[xY]at h;split at h;simp_all
  ·exact ji _ (A6 h)
def tE {b o:Nat}{v:Value}(e:rd F.w0 b o=some v)(hn: ¬F.own b): ¬F.dL b:=by
 have hb:b<F.base:=IS _ _ e;rintro(h|h)
 ·omega
 grind
def agq {b o:Nat}{v:Value}(e:F.mr0 b o=some v)(hm: ¬F.dL b):MR F β H w b o=some v:=by
 unfold MR
 grind
theorem IZ {C:bU}(hG:bJ C F)(hR:ad F β N H w):(MR F β H w).le (rd w):=by
 intro b o v h;unfold MR at h;split at h
 ·unfold MV at h
  grind
 ·rename_i hb;exact hR.below.rd hb (hG.rle b o v h)
def eQ.mr {C:bU}(hG:bJ C F):eQ C.gl (MR F β H w):=by
 intro g cs hm;obtain⟨h0,h9⟩:=hG.rok g cs hm
 have hn:0<cs.length->¬F.dL g:=λfN=>by
  obtain⟨v,h1,_⟩:=h0 0 cs[0] bv;exact tE (hG.rle g 0 v h1) (hG.UI g cs hm fN)
 refine⟨λk x hx=>?_,λfN=>?_⟩
 ·obtain⟨v,h1,h2⟩:=h0 k x hx;exact⟨v,agq h1 (hn (Nat.lt_of_le_of_lt (dD _) (kJ.1 hx).1)),h2⟩
 ·unfold MR
  grind
def PK {v:Value}{d:DV}(h:IW v=some d):co F β N H w v d:=by
 unfold IW at h;split at h
 ·simp at h;subst h;exact cK rfl
 ·split at h
  ·rename_i a b _ _ ha hb;simp at h;subst h;have ha:a= #[]:=by grind
   have hb:b= #[]:=by grind
   subst ha;subst hb;exact ajb
  grind
 grind[fT]
theorem mB (hG:bJ C F)(_hR:ad F β N H w){E:EF}{a:Act}(hE:dM F β N H w E a){x:Operand}{d:DV}(h:C.ev E x=some d):co F β N H w (a.eval x) d:=by
 cases x with
 |tmp t=>exact hE t d h
 |const v=>exact PK h
 |global g=>
  simp only[bU.ev]at h;split at h
  ·rename_i cs hc;simp at h;subst h;have hm:=A6 hc;have fC:=(eQ.mr (β:=β) (H:=H) (w:=w) hG g cs hm).1;refine cK ?_;refine .ref g 0 (λk=>((MR F β H w g k).getD undef)) (λk hk=>?_) (λk x hx=>?_)
   ·obtain⟨v,h1,_⟩:=fC k cs[k] bv
    grind
   ·obtain⟨v,h1,h2⟩:=fC k x hx;rw[h1];exact h2.mono (ee _) (ee _)
  grind
 |func f=>
  simp[bU.ev]at h;subst h;exact ajb
end
section
variable {C:bU}{F:gN}{β:Nat->Option Nat}{N:Nat->Prop}{H:HF}{fid:Nat}{K:j8}{w w':World}{P:Program}
def addr_add (b o n:Nat):(⟨b,o,none⟩:Addr).add n=⟨b,o+n,none⟩:=Addr.add_lit b o n
def C5 (ag:Bool)(n:Nat)(f:Nat->Value):Value:=if ag then .agg ((List.range n).map f).toArray else f 0
theorem L6 {t:TypeId}{i:TI}{tf:TypeInfo}{d:TypeDesc}{z:Value}(hT:L4 P t i tf d z){b off:Nat}{f:Nat->Value}
  (hc: ∀k,k<i.size->rd w b (off+k)=some (f k))(hs:(cJ i.b8 || Nat.beq i.size 1)=true):(loadVar t ⟨b,off,none⟩).run P w= .ok (C5 (cJ i.b8) i.size f) w:=by
 unfold loadVar C5;simp only[eL,hT.G0,my];cases XH:cJ i.b8
 ·simp only[XH,SR]at hs;have h1:i.size=1:=pb hs;have:=hc 0 K0;simp only[rd,CU]at this;simp[this]
 ·simp only[if_true,eL,hT.iM,my];rw[SO w _ _ f (λj hj=>by rw[addr_add];exact hc j hj)];simp
def rm {f:Nat->Value}{cs:List DC}{off n:Nat}{ag:Bool}(UC: ∀k c,cs[k]? =some c->cw F β N H w (f k) c)(hl:off+n<=cs.length)
  (hs:(ag || Nat.beq n 1)=true):au F β N H w (C5 ag n λk=>f (off+k)) (ag,(cs.drop off).take n):=by
 cases ag
 ·simp only[SR]at hs;have h1:n=1:=pb hs;subst h1;refine⟨cs[off],?_,?_⟩
  grind[List.drop_eq_getElem_cons]
  ·exact UC off _ (by simp)
 ·refine⟨_,rfl,by grind,λk c hc=>?_⟩;rw[PE]at hc;simp_all
theorem C6 {f:Nat->Value}{cs:List SC}{off n:Nat}{ag:Bool}(UC: ∀k c,cs[k]? =some c->dy (MV F β H w) (MR F β H w) (f k) c)(hl:off+n<=cs.length)
  (hs:(ag || Nat.beq n 1)=true):au F β N H w (C5 ag n λk=>f (off+k)) (ag,((cs.drop off).take n).map .st):=by
 have:=rm (N:=N) (f:=f) (cs:=cs.map .st) (off:=off) (n:=n) (ag:=ag) (λk c hc=>by
  rw[gK]at hc
  cases hk:cs[k]? with
  |none=>simp[hk]at hc
  |some x=>simp[hk]at hc;subst hc;exact UC k x hk) bv hs
 simp_all
def aH {a b:Bool}(h:(a&&b)=true):a=true/\b=true:=by grind
theorem S6 (hC:C.Ok)(hG:bJ C F)(hR:ad F β N H w){T:TypeId}{x:DX}{v0:Value}(hx:au F β N H w v0 x)(h:oC C T x H K):
  ∃v,(Instr.loadAt T v0).run C.P w= .ok v w/\bn F β N H fid K w v w:=by
 unfold oC at h;split at h
 ·grind
 rename_i i hi;obtain⟨tf,d,z,hT⟩:=hC.get hi
 have bH: ∀ {b o:Nat} {f:Nat->Value},(∀k,k<i.size->rd w b (o+k)=some (f k))->(cJ i.b8 || Nat.beq i.size 1)=true->
   (Instr.loadAt T (.pointer (some ⟨b,o,none⟩))).run C.P w= .ok (C5 (cJ i.b8) i.size f) w:=by
  grind[Instr.loadAt,Instr.sureAddr,L6]
 split at h
 ·
  rename_i id off;obtain⟨hn,b,jv,rfl⟩:=hx.am;split at h
  ·rename_i t cs hb;obtain⟨_,b',arr,T',h1,h2,h3,h4,h5⟩:=hR.rel id _ hb;rw[jv]at h1;cases h1;split at h
   ·rename_i eC;obtain⟨eC,hs⟩:=aH eC;have eC:=fO eC
    exact⟨_,bH (f:=λk=>arr.getD (off+k) undef) (λk hk=>gb h3 K0) hs,
     bn.pure hR h (rm (f:=λk=>arr.getD k undef) (λk c hc=>h5 k c hc) eC hs)⟩
   grind
  ·rename_i cs hb;obtain⟨_,b',arr,T',h1,h2,h3,h4,h5⟩:=hR.rel id _ hb;rw[jv]at h1;cases h1;split at h
   ·rename_i eC;obtain⟨eC,hs⟩:=aH eC;have eC:=fO eC
    exact⟨_,bH (f:=λk=>arr.getD (off+k) undef) (λk hk=>gb h3 K0) hs,
     bn.pure hR h (C6 (f:=λk=>arr.getD k undef) (λk c hc=>h5 k c hc) eC hs)⟩
   grind
  grind
 ·
  rename_i cs;have hp:=hx.am;split at h
  ·rename_i eC;obtain⟨eC,hs⟩:=aH eC;have eC:=fO eC
   cases hp with
   |empty a cap hv=>grind[SC.ao]
   |view _ _ _ _ _ hv=>grind[SC.ao]
   |ref b o f hc hr=>
    have IF: ∀k,k<cs.length->rd w b (o+k)=some (f k):=by
     intro k hk;exact IZ hG hR _ _ _ (hc k hk)
    have:=C6 (N:=N) (f:=f) (off:=0) (n:=i.size) (cs:=cs) (ag:=cJ i.b8) hr K0 hs;refine⟨_,bH (f:=f) (λk hk=>IF k K0) hs,bn.pure hR h ?_⟩;show au _ _ _ _ _ _ _
    grind
  grind
 ·
  rename_i id z0 n off;obtain⟨hn,b,jv,rfl⟩:=hx.am;split at h
  ·rename_i m z' c hb;split at h
   ·rename_i eC;obtain⟨eC,hs⟩:=aH eC;obtain⟨qb,eC⟩:=aH eC;have eC:=fO eC;have qb:=pb qb;subst qb;obtain⟨e,he,h⟩:=h;obtain⟨_,⟨hz,hv,hl⟩,gC⟩:=hR.rel id _ hb
    rcases gC with⟨h1,_⟩|⟨b',cap,h1,h2,arr,T',q1,q2,q3,q4,q5,q6,q7⟩
    ·grind
    rw[jv]at h1;cases h1;have iL:=hl n e he;have ak:=SC.iu he
    have Ce:n*z0+z0<=arr.size:=by
     rw[q2];have:(n+1)*z0<=cap*z0:=kE _ K0
     grind
    exact⟨_,bH (f:=λk=>arr.getD (n*z0+(off+k)) undef) (λk hk=>by grind[gb]) hs,
     bn.pure hR h (C6 (f:=λk=>arr.getD (n*z0+k) undef) (λk c hc=>(q7 n e k c he hc).mono (Mem.le_refl _) (ee _)) K0 hs)⟩
   grind
  ·rename_i z' l hb;split at h
   ·rename_i eC;obtain⟨eC,hs⟩:=aH eC;obtain⟨qb,eC⟩:=aH eC;have eC:=fO eC;have qb:=pb qb;subst qb;obtain⟨e,he,h⟩:=h;obtain⟨_,⟨hz,hl⟩,gC⟩:=hR.rel id _ hb
    rcases gC with⟨h1,_⟩|⟨b',cap,arr,T',h1,h2,q1,q2,q3,q4⟩
    ·grind
    rw[jv]at h1;cases h1;have iL:=hl n e he;have ak:=(kJ.1 he).1
    have Ce:n*z0+z0<=arr.size:=by
     rw[q2];have:(n+1)*z0<=cap*z0:=kE _ K0
     grind
    exact⟨_,bH (f:=λk=>arr.getD (n*z0+(off+k)) undef) (λk hk=>by grind[gb]) hs,
     bn.pure hR h (rm (f:=λk=>arr.getD (n*z0+k) undef) (λk c hc=>q4 n e k c he hc) K0 hs)⟩
   grind
  grind
 grind
theorem C7 {mv mr:Mem}{cs:List SC}{b o:Nat}(h:dy mv mr (.pointer (some ⟨b,o,none⟩)) (.ref cs))(n:Nat):dy mv mr (.pointer (some ⟨b,o+n,none⟩)) (.ref (cs.drop n)):=by
 cases h with
 |ref _ _ f hc hr=>
  refine .ref b (o+n) (λk=>f (n+k)) (λk hk=>?_) (λk x hx=>?_)
  grind
  grind
theorem I0 {mv mr:Mem}{v:Value}{cs:List SC}(h:dy mv mr v (.ref cs)): ∃b o,v= .pointer (some ⟨b,o,none⟩):=by
 cases h with
 |ref b o f hc hr=>grind
 |empty a cap hv=>grind[SC.ao]
 |view _ _ _ _ _ hv=>grind[SC.ao]
theorem I1 (hC:C.Ok)(hR:ad F β N H w){T:TypeId}{x:DX}{v0:Value}{n:Nat}(hx:au F β N H w v0 x)(h:oD C T x n K):
  ∃v,(Instr.fieldAt T v0 n).run C.P w= .ok v w/\bn F β N H fid K w v w:=by
 unfold oD at h;split at h
 ·grind
 rename_i i hi;obtain⟨tf,d,z,hT⟩:=hC.get hi;split at h
 ·rename_i fs bW;obtain⟨gs,hd,hgs⟩:=rk (hT.b8.trans bW);split at h
  ·rename_i o ft RY;split at h
   ·rename_i fi kG;obtain⟨ff,fd,fz,hF⟩:=hC.get kG;split at h
    ·rename_i nC;have nC:=fO nC;rw[<- hgs,gK]at RY
     cases hg:gs.toList[n]? with
     |none=>grind
     |some g=>
      simp[hg]at RY;obtain⟨ho,hft⟩:=RY;have Ux:gs[n]? =some g:=by grind
      have bH: ∀b off,(Instr.fieldAt T (.pointer (some ⟨b,off,none⟩)) n).run C.P w= .ok (.pointer (some ⟨b,off+o,none⟩)) w:=by
       intro b off;have eU: ¬fi.size=0:=by omega
       simp[Instr.fieldAt,hT.cX,hd,Ux,Instr.sureAddr,fieldPlace,hft,hF.iM,eU,addr_add,ho]
      split at h
      ·rename_i id off;obtain⟨hn,b,jv,rfl⟩:=hx.am;exact⟨_,bH b off,bn.pure hR h (cK ⟨hn,b,jv,rfl⟩)⟩
      ·rename_i cs;obtain⟨b,off,rfl⟩:=I0 hx.am;exact⟨_,bH b off,bn.pure hR h (cK (C7 hx.am o))⟩
      ·rename_i id z0 m off;obtain⟨hn,b,jv,rfl⟩:=hx.am;exact⟨_,bH b _,bn.pure hR h (cK ⟨hn,b,jv,by grind⟩)⟩
      grind
    grind
   grind
  grind
 grind
def jy.setRow {m:Nat->Prop}{b:Nat}(hb:m b)(arr:Array Value):jy m w (w.setRow b arr):=
 ⟨rfl,rfl,rfl,by simp,λk _ hk=>setRow_other w b k arr (λe=>hk (e▸hb))⟩
def mh {b:Nat}(lF: ∃arr T,w.heap[b]? =some (.cells arr T))(arr':Array Value)(k:Nat)(x:Option (List Deferred))(e:w.heap[k]? =some (.deferred x)):(w.setRow b arr').heap[k]? =some (.deferred x):=by grind[setRow_other]
def Tr.write (hR:ad F β N H w){id b:Nat}{bC blk':cD}{arr arr':Array Value}{T:TypeId}(hb:H id=some bC)(xC:β id=some b)
  (lF:w.heap[b]? =some (.cells arr T))(nC:arr'.size=arr.size)(hl:bC.zX blk')(dw: ∀o,bC.tm o->blk'.tm o/\arr'[o]? =arr[o]?):
  Tr F β N H w β N (bt H id (some blk')) (w.setRow b arr') where
 aw:=mh ⟨_,_,lF⟩ arr'
 below:=jy.setRow (hR.fY hb xC).2 arr'
 mem:=λb' o v _ hs e=>by
  refine⟨λiW nV e' jW=>?_,?_⟩
  ·by_cases h:iW=id
   ·subst h;rw[an]at e';cases e';exact(dw o (hs iW bC hb jW)).1
   ·rw[aG _ _ _ h]at e';exact hs iW nV e' jW
  ·by_cases h:b'=b
   ·subst h;have:=(dw o (hs id bC hb xC)).2;simp only[rd,World.cell?,lF]at e;simp only[rd,World.cell?,xV w b' arr arr' T (0,0) lF]
    grind
   exact ach
 used:=λ_ h=>h
 kH:=λ_ _=>rfl
 keep:=λiW nV _ e=>by
  by_cases h:iW=id
  grind[an]
  ·rw[aG _ _ _ h]at e;exact⟨nV,e,nV.fV⟩
 size:=λ_ _ _ b' xq T0 _ _ _ _ _ e=>by grind[setRow_heap,setRow_other]
def ad.write (hR:ad F β N H w){id b:Nat}{bC blk':cD}{arr arr':Array Value}{T:TypeId}(hb:H id=some bC)(xC:β id=some b)
  (lF:w.heap[b]? =some (.cells arr T))(nC:arr'.size=arr.size)(hl:bC.zX blk')(dw: ∀o,bC.tm o->blk'.tm o/\arr'[o]? =arr[o]?)
  (hrel:iB F β N (bt H id (some blk')) (w.setRow b arr') id blk'):ad F β N (bt H id (some blk')) (w.setRow b arr'):=by
 refine hR.step (Tr.write hR hb xC lF nC hl dw) (λi=>i=id) (λi b0 hi e=>?_) (λi b0 hi e=>?_) (λi j x y z hi hj bi bj=>?_)
 ·rw[aG _ _ _ hi]at e;refine⟨e,(hR.rel i b0 e).1,λb1 h1=>setRow_other w b b1 arr' λh=>hi ?_⟩;subst h;exact hR.inj i id b1 b0 bC e hb h1 xC
 ·subst hi;rw[an]at e;cases e;exact⟨(hR.rel i bC hb).1,hrel⟩
 ·have live: ∀ {k:Nat} {b0:cD},bt H id (some blk') k=some b0->∃b1,H k=some b1:=by
   grind[aG]
  obtain⟨b1,h1⟩:=live hi;obtain⟨b2,h2⟩:=live hj;exact hR.inj i j x b1 b2 h1 h2 bi bj
theorem cw.one_cell {v:Value}{c:DC}(h:cw F β N H w v c):v.oneCell'=true:=by
 cases c with
 |st c=>exact S5 h
 |nil=>have:v= .slice none 0 0:=h;subst this;rfl
 |ptr id off=>obtain⟨_,b,_,rfl⟩:=h;rfl
 |cI id z i off=>obtain⟨_,b,_,rfl⟩:=h;rfl
 |sL g id=>obtain⟨_,b,_,rfl⟩:=h;rfl
 |mp id=>obtain⟨_,b,_,rfl⟩:=h;rfl
 |own id=>exact h.2.1
theorem au.cells {v:Value}{x:DX}(h:au F β N H w v x):v.cells.size=x.2.length/\∀k c,x.2[k]? =some c->cw F β N H w (v.cells.getD k undef) c:=by
 obtain⟨ag,cs⟩:=x;cases ag
 ·obtain⟨c,h0,hc⟩:=h;simp at h0;subst h0;rw[Hf hc.one_cell];refine⟨rfl,λk c' hk=>?_⟩
  cases k with
  |zero=>simp_all
  |succ k=>grind
 ·obtain⟨arr,rfl,h2,h3⟩:=h;exact⟨h2,h3⟩
def au.cells_one {v:Value}{x:DX}(h:au F β N H w v x): ∀u∈v.cells.toList,u.oneCell'=true:=by
 intro u hu;obtain⟨k,hk⟩:=UP.1 hu;have qR:v.cells[k]? =some u:=by grind
 obtain⟨h1,h2⟩:=h.cells;have ak:k<v.cells.size:=(FV.1 qR).1;have:=h2 k x.2[k] bv;have e:v.cells.getD k undef=u:=by simp_all
 rw[e]at this;exact this.one_cell
def aP (arr:Array Value)(off:Nat)(vs:List Value):Array Value:=(arr.toList.take off++vs++arr.toList.drop (off+vs.length)).toArray
theorem fk {arr:Array Value}{off:Nat}{vs:List Value}(h:off+vs.length<=arr.size):(aP arr off vs).size =arr.size:=by grind[aP]
def rp {α:Type}{l:List α}{off:Nat}{vs:List α}(h:off+vs.length<=l.length)(k:Nat):
  (iA l off vs)[k]? =if k<off then l[k]? else if k<off+vs.length then vs[k -off]? else l[k]? :=by
 unfold iA
 grind
def gc {arr:Array Value}{off:Nat}{vs:List Value}(h:off+vs.length<=arr.size)(k:Nat):
  (aP arr off vs)[k]? =if k<off then arr[k]? else if k<off+vs.length then vs[k -off]? else arr[k]? :=by
 grind[aP]
theorem mi {arr:Array Value}{k:Nat}{v:Value}(h:arr[k]? =some v):arr.getD k undef=v:=by simp_all
theorem bQ {a b:Array Value}{k l:Nat}(h:a[k]? =b[l]?):a.getD k undef=b.getD l undef:=by simp_all
theorem I2 {t:TypeId}{i:TI}{tf:TypeInfo}{d:TypeDesc}{z v:Value}(hT:L4 P t i tf d z){b off:Nat}{arr:Array Value}{T:TypeId}
  (lF:w.heap[b]? =some (.cells arr T))(hv:v.cells.size=i.size)(h1: ∀u∈v.cells.toList,u.oneCell'=true)(eC:off+i.size<=arr.size):
  (storeVar t ⟨b,off,none⟩ v).run P w= .ok () (w.setRow b (aP arr off v.cells.toList)):=by
 unfold storeVar;simp only[eL,hT.iM,my,hv,ne_eq,not_true_eq_false,kK]
 grind[run_storeCells_at,aP]
def SC.Lq {c c':SC}{n:Nat}{e:List SC}(h:c.xM n e=some c'):c'.len=c.len/\c'.ao=c.ao:=by
 unfold SC.xM at h
 grind[SC.len,SC.ao]
def SC.qV {c c':SC}{n:Nat}{e:List SC}(h:c.xM n e=some c')(hn:n<c.len)(j:Nat):c'.elem j=if j=n then some e else c.elem j:=by
 unfold SC.xM at h
 grind[SC.len,SC.elem]
theorem lR: ∀ {l:List SC},oA l=true->∀(k:Nat) (x:SC),l[k]? =some x->x.flat=true
 | [],_,k,x,h=>by grind
 |c::cs,hf,k,x,h=>by
  simp only[oA]at hf;split at hf
  ·rename_i hc
   cases k with
   |zero=>grind
   |succ k=>exact lR hf k x bv
  grind
def Yv (hC:C.Ok)(hR:ad F β N H w){T:TypeId}{x y:DX}{v0 v1:Value}(hx:au F β N H w v0 x)(hy:au F β N H w v1 y)(h:rf C T x y H K):
  ∃w',(Instr.storeAt T v0 v1).run C.P w= .ok () w'/\bn F β N H fid K w undef w':=by
 unfold rf at h;split at h
 ·grind
 rename_i i hi;obtain⟨tf,d,z,hT⟩:=hC.get hi;obtain⟨hc1,XG⟩:=hy.cells;have s8:=hy.cells_one;split at h
 ·grind
 rename_i bG;have bG:=pb bG
 have bH: ∀ {b off:Nat} {arr:Array Value} {T0:TypeId},w.heap[b]? =some (.cells arr T0)->off+i.size<=arr.size->
   (Instr.storeAt T (.pointer (some ⟨b,off,none⟩)) v1).run C.P w= .ok () (w.setRow b (aP arr off v1.cells.toList)):=by
  grind[Instr.storeAt,Instr.sureAddr,I2]
 have abz:v1.cells.toList.length=i.size:=by grind
 split at h
 ·rename_i id off;obtain⟨hn,b,jv,rfl⟩:=hx.am;split at h
  ·rename_i t cs hb;obtain⟨_,b',arr,T',h1,h2,h3,h4,h5⟩:=hR.rel id _ hb;rw[jv]at h1;cases h1;split at h
   ·rename_i eC;have eC:=fO eC;refine⟨_,bH h3 K0,?_⟩;have nC:(aP arr off v1.cells.toList).size =arr.size:=fk K0;have dw: ∀o,(cD.box t cs).tm o->(cD.box t (iA cs off y.2)).tm o/\(aP arr off v1.cells.toList)[o]? =arr[o]? :=λo h=>h.elim;have eJ:=Tr.write (N:=N) (blk':=.box t (iA cs off y.2)) hR hb jv h3 nC trivial dw;have hH:=ad.write (N:=N) (blk':=.box t (iA cs off y.2)) hR hb jv h3 nC trivial dw ⟨b,_,T',jv,h2,xV w b arr _ T' (0,0) h3,by grind[iA],λk x hk=>?_⟩
    ·exact afY
    ·rw[rp K0]at hk;have e:=gc (arr:=arr) (off:=off) (vs:=v1.cells.toList) K0 k;rw[abz]at e;by_cases k1:k<off
     ·simp only[k1,if_true]at hk e;exact akG
     ·by_cases k2:k<off+i.size
      ·have k2':k<off+y.2.length:=by omega
       simp only[k1,kK,k2,if_true,k2']at hk e;rw[bQ (b:=v1.cells) (l:=k -off) bv];exact eJ.jw hR (XG _ x hk)
      ·have k2': ¬k<off+y.2.length:=by omega
       simp only[k1,kK,k2,k2']at hk e;exact akG
   grind
  grind
 ·rename_i id z0 n off;obtain⟨hn,b,jv,rfl⟩:=hx.am;split at h
  ·rename_i z' c hb;split at h
   ·rename_i eC;obtain⟨qb,eC⟩:=aH eC;have eC:=fO eC;have qb:=pb qb;subst qb;split at h
    ·rename_i l r anU;split at h
     ·rename_i ox;obtain⟨e,he,h⟩:=h;split at h
      ·rename_i c' nq;obtain⟨_,⟨hz,hv,hl⟩,gC⟩:=hR.rel id _ hb
       rcases gC with⟨h1,_⟩|⟨b',cap,h1,h2,arr,T',q1,q2,q3,q4,q5,q6,q7⟩
       ·grind
       rw[jv]at h1;cases h1;have iL:=hl n e he;have ak:=SC.iu he
       have Ce:n*z0+z0<=arr.size:=by
        rw[q2];have:(n+1)*z0<=cap*z0:=kE _ K0
        grind
       refine⟨_,bH q1 K0,?_⟩;obtain⟨jg,hcv⟩:=SC.Lq nq;have nC:(aP arr (n*z0+off) v1.cells.toList).size =arr.size:=fk K0;have dw: ∀o,(cD.row true z0 c).tm o->(cD.row true z0 c').tm o/\(aP arr (n*z0+off) v1.cells.toList)[o]? =arr[o]? :=λo h=>by cases h.1
       have vH:(cD.row true z0 c).zX (.row true z0 c'):=⟨rfl,jg.symm⟩;have eJ:=Tr.write (N:=N) hR hb jv q1 nC vH dw;have vV:l.length=i.size:=by grind[iD]
       have hlr:=iE hR (pg.refl H) (f:=λk=>v1.cells.getD k undef) XG anU (λp hp=>by cases hp)
       have hbl:iB F β N (bt H id (some (.row true z0 c'))) (w.setRow b (aP arr (n*z0+off) v1.cells.toList)) id (.row true z0 c'):=by
        refine⟨⟨hz,by grind,λj e' hj=>?_⟩,.inr ⟨b,cap,jv,h2,_,T',xV w b arr _ T' (0,0) q1,by omega,q3,by grind,by omega,λj e' hj=>?_,λj e' k x hj hk=>?_⟩⟩
        ·rw[SC.qV nq ak]at hj;exact afZ
        ·rw[SC.qV nq ak]at hj;exact afZ
        ·have e1:=gc (arr:=arr) (off:=n*z0+off) (vs:=v1.cells.toList) K0 (j*z0+k);rw[abz]at e1;rw[SC.qV nq ak]at hj;by_cases hjn:j=n
         ·subst hjn;rw[if_pos rfl]at hj;cases hj;rw[rp K0,vV]at hk;by_cases k1:k<off
          ·rw[if_pos k1]at hk;rw[if_pos K0]at e1;exact ajJ
          ·by_cases k2:k<off+i.size
           ·rw[if_neg k1,if_pos k2]at hk;rw[if_neg K0,if_pos K0]at e1;rw[bQ (b:=v1.cells) (l:=k -off) bv];exact((hlr _ x hk).flat (lR ox _ x hk)).mono eJ.mv (Mem.le_refl _)
           ·rw[if_neg k1,if_neg k2]at hk;rw[if_neg K0,if_neg K0]at e1;exact ajJ
         ·rw[if_neg hjn]at hj;have hkz:k<z0:=by grind
          have e2:(aP arr (n*z0+off) v1.cells.toList)[j*z0+k]? =arr[j*z0+k]? :=aia;rw[bQ e2];exact(q7 j e' k x hj hk).mono eJ.mv (Mem.le_refl _)
       have hH:=ad.write (N:=N) hR hb jv q1 nC vH dw hbl;exact afY
      grind
     grind
    grind
   grind
  ·rename_i z' l hb;split at h
   ·rename_i eC;obtain⟨qb,eC⟩:=aH eC;have eC:=fO eC;have qb:=pb qb;subst qb;obtain⟨e,he,h⟩:=h;obtain⟨_,⟨hz,hl⟩,gC⟩:=hR.rel id _ hb
    rcases gC with⟨h1,_⟩|⟨b',cap,arr,T',h1,h2,q1,q2,q5,q7⟩
    ·grind
    rw[jv]at h1;cases h1;have iL:=hl n e he;have ak:=(kJ.1 he).1
    have Ce:n*z0+z0<=arr.size:=by
     rw[q2];have:(n+1)*z0<=cap*z0:=kE _ K0
     grind
    refine⟨_,bH q1 K0,?_⟩;have nC:(aP arr (n*z0+off) v1.cells.toList).size =arr.size:=fk K0;have dw: ∀o,(cD.aD z0 l).tm o->(cD.aD z0 (l.set n (iA e off y.2))).tm o/\(aP arr (n*z0+off) v1.cells.toList)[o]? =arr[o]? :=λo h=>h.elim;have vH:(cD.aD z0 l).zX (.aD z0 (l.set n (iA e off y.2))):=⟨rfl,(FX ..).symm⟩;have eJ:=Tr.write (N:=N) hR hb jv q1 nC vH dw;have nq: ∀j,(l.set n (iA e off y.2))[j]? =if j=n then some (iA e off y.2)else l[j]? :=by grind
    have hbl:iB F β N (bt H id (some (.aD z0 (l.set n (iA e off y.2))))) (w.setRow b (aP arr (n*z0+off) v1.cells.toList)) id (.aD z0 (l.set n (iA e off y.2))):=by
     refine⟨⟨hz,λj e' hj=>?_⟩,.inr ⟨b,cap,_,T',jv,h2,xV w b arr _ T' (0,0) q1,by omega,by grind,λj e' k x hj hk=>?_⟩⟩
     ·rw[nq]at hj;exact afZ
     ·have e1:=gc (arr:=arr) (off:=n*z0+off) (vs:=v1.cells.toList) K0 (j*z0+k);rw[abz]at e1;rw[nq]at hj;by_cases hjn:j=n
      ·subst hjn;rw[if_pos rfl]at hj;cases hj;rw[rp K0,bG]at hk;by_cases k1:k<off
       ·rw[if_pos k1]at hk;rw[if_pos K0]at e1;exact akj
       ·by_cases k2:k<off+i.size
        ·rw[if_neg k1,if_pos k2]at hk;rw[if_neg K0,if_pos K0]at e1;rw[bQ (b:=v1.cells) (l:=k -off) bv];exact eJ.jw hR (XG _ x hk)
        ·rw[if_neg k1,if_neg k2]at hk;rw[if_neg K0,if_neg K0]at e1;exact akj
      ·rw[if_neg hjn]at hj;have hkz:k<z0:=by grind
       have e2:(aP arr (n*z0+off) v1.cells.toList)[j*z0+k]? =arr[j*z0+k]? :=aia;rw[bQ e2];exact eJ.jw hR (q7 j e' k x hj hk)
    have hH:=ad.write (N:=N) hR hb jv q1 nC vH dw hbl;exact afY
   grind
  grind
 grind
end
section
variable {C:bU}{F:gN}{β:Nat->Option Nat}{N:Nat->Prop}{H:HF}{fid:Nat}{K:j8}{w w':World}{P:Program}
def tH (hG:bJ C F)(_hR:ad F β N H w):(MV F β H w).le (MR F β H w):=by
 intro b o v h;unfold MR;by_cases hb:F.dL b
 grind
 ·rw[if_neg hb];unfold MV at h;rw[if_neg hb]at h;exact hG.mvr b o v h
theorem dy.CK {mv mr:Mem}{v:Value}{c:SC}(h:dy mv mr v c)(hv:c.ao=true): ∃a cap,v= .slice a c.len cap/\c.len<=cap:=by
 cases h with
 |lit=>grind[SC.ao]
 |empty a cap _ h0=>simp_all
 |view b o cap z f _ _ _ fZ=>grind
 |ref=>grind[SC.ao]
 |err=>grind[SC.ao]
 |num=>grind[SC.ao]
 |raw=>grind[SC.ao]
 |any=>grind[SC.ao]
 |fn=>grind[SC.ao]
theorem dy.XL {mv mr:Mem}(eC:mv.le mr){v:Value}{c:SC}(h:dy mv mr v c)(hv:c.ao=true){n:Nat}{el:List SC}(he:c.elem n=some el):
  ∃b o cap,v= .slice (some ⟨b,o,none⟩) c.len cap/\dy mv mr (.pointer (some ⟨b,o+n*el.length,none⟩)) (.ref el):=by
 cases h with
 |lit=>grind[SC.ao]
 |empty a cap _ h0=>have:=SC.iu he;omega
 |view b o cap z f _ fN hz fZ hl hc hr=>
  have wI:=hl n el he;subst wI;refine⟨b,o,cap,rfl,.ref b _ (λk=>f (n*el.length+k)) (λk hk=>?_) λk x hx=>(hr n el k x he hx).mono (Mem.le_refl _) (ee _)⟩;have ak:=SC.iu he;rw[LP];refine eC _ _ _ (hc _ ?_);have:(n+1)*el.length<=c.len*el.length:=kE _ ak
  grind
 |ref=>grind[SC.ao]
 |err=>grind[SC.ao]
 |num=>grind[SC.ao]
 |raw=>grind[SC.ao]
 |any=>grind[SC.ao]
 |fn=>grind[SC.ao]
def I3 (hC:C.Ok)(hG:bJ C F)(hR:ad F β N H w){T:TypeId}{x y:DX}{v0 v1:Value}(hx:au F β N H w v0 x)(hy:au F β N H w v1 y)(h:eR C T x y H K):
  ∃v,(Instr.indexAt T v0 v1).run C.P w= .ok v w/\bn F β N H fid K w v w:=by
 unfold eR at h;split at h
 ·grind
 rename_i i hi;obtain⟨tf,d,z,hT⟩:=hC.get hi;split at h
 ·rename_i e k n bW;have hd:=dq (hT.b8.trans bW);obtain⟨rfl,_⟩:=hy.am.bB;split at h
  ·grind
  rename_i ie l7;obtain⟨ef,ed,ez,hE⟩:=hC.get l7
  have bH: ∀(b o len cap:Nat),0<=n->n.toNat<len->(Instr.indexAt T (.slice (some ⟨b,o,none⟩) len cap) (.int k n)).run C.P w= .ok (.pointer (some ⟨b,o+n.toNat*ie.size,none⟩)) w:=by
   intro b o len cap h0 h1;have h2:0<=n/\n< (len:Int):=⟨h0,by omega⟩;exact ajH
  split at h
  ·rename_i id;obtain⟨hn,_,hp⟩:=hx.am;split at h
   ·rename_i m z0 c hb;split at h
    ·rename_i hz;have hz:=pb hz;obtain⟨⟨h0,h1⟩,h⟩:=h
     rcases hp _ z0 c.len hb rfl with⟨_,h2,_⟩|⟨b,cap,arr,T',jv,rfl,_,_⟩
     ·omega
     ·refine⟨_,bH b 0 c.len cap h0 K0,bn.pure hR h (cK ⟨hn,b,jv,?_⟩)⟩
      grind
    grind
   ·rename_i z0 l hb;split at h
    ·rename_i hz;have hz:=pb hz;obtain⟨⟨h0,h1⟩,h⟩:=h
     rcases hp _ z0 l.length hb rfl with⟨_,h2,_⟩|⟨b,cap,arr,T',jv,rfl,_,_⟩
     ·omega
     ·refine⟨_,bH b 0 l.length cap h0 K0,bn.pure hR h (cK ⟨hn,b,jv,?_⟩)⟩
      grind
    grind
   grind
  ·rename_i c;split at h
   ·rename_i hv;obtain⟨h0,el,he,bG,h⟩:=h;obtain⟨b,o,cap,rfl,hr⟩:=dy.XL (tH hG hR) hx.am hv he;refine⟨_,bH b o c.len cap h0 (SC.iu he),bn.pure hR h (cK ?_)⟩;rw[<- bG];exact hr
   grind
  grind
 ·rename_i len e k n bW;have hd:=kp (hT.b8.trans bW);obtain⟨rfl,_⟩:=hy.am.bB;split at h
  ·grind
  rename_i ie l7;obtain⟨ef,ed,ez,hE⟩:=hC.get l7
  have bH: ∀(b o:Nat),0<=n->n< (len:Int)->(Instr.indexAt T (.pointer (some ⟨b,o,none⟩)) (.int k n)).run C.P w= .ok (.pointer (some ⟨b,o+n.toNat*ie.size,none⟩)) w:=by
   intro b o h0 h1;have h2:0<=n/\n< (len:Int):=⟨h0,h1⟩;simp[Instr.indexAt,asIntOf,hT.cX,hd,h2,hE.iM,addr_add,Instr.sureAddr]
  split at h
  ·rename_i id off;obtain⟨hn,b,jv,rfl⟩:=hx.am;obtain⟨⟨h0,h1⟩,h⟩:=h;exact⟨_,bH b off h0 h1,bn.pure hR h (cK ⟨hn,b,jv,rfl⟩)⟩
  ·rename_i cs;obtain⟨b,o,rfl⟩:=I0 hx.am;obtain⟨⟨h0,h1⟩,h⟩:=h;exact⟨_,bH b o h0 h1,bn.pure hR h (cK (C7 hx.am _))⟩
  grind
 grind
def Yw {t:TypeId}{i:TI}{tf:TypeInfo}{d:TypeDesc}{z:Value}(hT:L4 P t i tf d z){arr:Array Value}{off:Nat}(eC:off+i.size<=arr.size)(hs:(cJ i.b8 || Nat.beq i.size 1)=true):
  (part t arr off).run P w= .ok (C5 (cJ i.b8) i.size λk=>arr.getD (off+k) undef) w:=by
 unfold part C5;simp only[eL,hT.G0,my];cases XH:cJ i.b8
 ·simp only[XH,SR]at hs;have h1:i.size=1:=pb hs;have ak:off<arr.size:=by omega
  simp_all
 ·simp only[if_true,eL,hT.iM,my,lN];congr 2;apply A1
  grind
  ·intro k h1 h2;have:off+k<arr.size:=by grind
   simp_all
def S7 (hR:ad F β N H w){t:TypeId}{i:TI}{tf:TypeInfo}{d:TypeDesc}{z:Value}(hT:L4 P t i tf d z){arr:Array Value}{cs:List DC}{off:Nat}
  (nC:arr.size=cs.length)(UC: ∀k c,cs[k]? =some c->cw F β N H w (arr.getD k undef) c)(h:C4 i cs off K):
  ∃v,(part t arr off).run P w= .ok v w/\bn F β N H fid K w v w:=by
 unfold C4 at h;split at h
 ·rename_i eC;obtain⟨eC,hs⟩:=aH eC;have eC:=fO eC;exact⟨_,Yw hT K0 hs,bn.pure hR h (rm (f:=λk=>arr.getD k undef) UC eC hs)⟩
 grind
def Yx (hC:C.Ok)(hR:ad F β N H w){T:TypeId}{x y:DX}{v0 v1:Value}(hx:au F β N H w v0 x)(hy:au F β N H w v1 y)(h:tw C T x y K):
  ∃v,(Instr.index T v0 v1).run C.P w= .ok v w/\bn F β N H fid K w v w:=by
 unfold tw at h;split at h
 ·grind
 rename_i i hi;obtain⟨tf,d,z,hT⟩:=hC.get hi;split at h
 ·rename_i len e k n bW;have hd:=kp (hT.b8.trans bW);obtain⟨rfl,_⟩:=hy.am.bB;split at h
  ·grind
  rename_i ie l7;obtain⟨ef,ed,ez,hE⟩:=hC.get l7;split at h
  ·rename_i cs;obtain⟨arr,rfl,h2,h3⟩:=hx.Ci;obtain⟨h0,h⟩:=h;obtain⟨v,hr,hp⟩:=S7 (fid:=fid) hR hE h2 h3 h;refine⟨v,?_,hp⟩;simp[Instr.index,asIntOf,hT.cX,hd,h0,hE.iM,hr]
  grind
 ·rename_i k n bW;have hd:=mf (hT.b8.trans bW);obtain⟨rfl,_⟩:=hy.am.bB;split at h
  ·rename_i s;obtain⟨rfl,_⟩:=hx.am.bB;obtain⟨h0,b,hb,h⟩:=h;refine⟨_,?_,bn.pure hR h (fT rfl)⟩;simp[Instr.index,asIntOf,hT.cX,hd,h0,hb]
  grind
 grind
theorem Yy (hC:C.Ok)(hR:ad F β N H w){T:TypeId}{x:DX}{v0:Value}{n:Nat}(hx:au F β N H w v0 x)(h:z7 C T x n K):
  ∃v,(Instr.field T v0 n).run C.P w= .ok v w/\bn F β N H fid K w v w:=by
 unfold z7 at h;split at h
 ·grind
 rename_i i hi;obtain⟨tf,d,z,hT⟩:=hC.get hi;split at h
 ·rename_i fs bW;obtain⟨gs,hd,hgs⟩:=rk (hT.b8.trans bW);split at h
  ·rename_i o ft RY;split at h
   ·rename_i fi kG;obtain⟨ff,fd,fz,hF⟩:=hC.get kG;rw[<- hgs,gK]at RY
    cases hg:gs.toList[n]? with
    |none=>grind
    |some g=>
     simp[hg]at RY;obtain⟨ho,hft⟩:=RY;have Ux:gs[n]? =some g:=by grind
     split at h
     ·rename_i cs;obtain⟨arr,rfl,h2,h3⟩:=hx.Ci;obtain⟨v,hr,hp⟩:=S7 (fid:=fid) hR hF h2 h3 h;refine⟨v,?_,hp⟩;simp[Instr.field,hT.cX,hd,Ux,asAgg,hft,ho,hr]
     grind
   grind
  grind
 grind
def Below.oy (w:World)(o:Obj):Below w.heap.size w (w.alloc o):=(Below.refl _ _).alloc (dE _) o
def gO (w:World)(o:Obj):(w.alloc o).heap[w.heap.size]? =some o:=by
 show(w.heap.push o)[w.heap.size]? =some o;simp
def bn.new {u:Hp}(Xr:ad F β N (u.on H) w)(t1:Tr F β N H w β N (u.on H) w)(hf: ¬N fid){bC:cD}{R:List Nat}{r:DV}{v:Value}{b:Option Nat}(hw:Below w.heap.size w w')(hb: ∀x,b=some x->w.heap.size<=x)
  (hK:K r ((fid,some bC)::u) R)
  (hrel: ∀(H1:HF),H1=bt (u.on H) fid (some bC)->Tr F β N H w (cV β fid b) (bk N fid) H1 w'->Tr F β N (u.on H) w (cV β fid b) (bk N fid) H1 w'->iB F (cV β fid b) (bk N fid) H1 w' fid bC)
  (hv: ∀(H1:HF),H1=bt (u.on H) fid (some bC)->co F (cV β fid b) (bk N fid) H1 w' v r):bn F β N H fid K w v w':=by
 have t2:=Tr.new Xr hw hf b hb bC;have t:=t1.trans t2;exact⟨_,r,_,R,hK,t,ad.new Xr hw hf b hb bC (hrel _ rfl t t2),hv _ rfl⟩
theorem aeK {v:Value}{d:DC}(h:(BT v).dyn =some d):cw F β N H w v d:=by
 unfold BT at h;split at h
 ·simp[ZC.dyn]at h;subst h;rfl
 ·simp only[ZC.dyn]at h;split at h
  ·rename_i hp;simp at h;subst h;exact .lit hp
  grind
theorem C8: ∀ {zs:List Value} {cs:List DC},C3 (zs.map BT)=some cs->cs.length=zs.length/\∀(k:Nat) (c:DC),cs[k]? =some c->∃v,zs[k]? =some v/\(BT v).dyn =some c
 | [],cs,h=>by grind[C3]
 |z::zs,cs,h=>by
  simp only[jd,C3]at h;split at h
  ·rename_i d hd;split at h
   ·rename_i ds hds;simp at h;subst h;obtain⟨h1,h2⟩:=C8 hds
    grind
   grind
  grind
def Yz (hC:C.Ok)(hR:ad F β N H w)(hf: ¬N fid){T:TypeId}{i:TI}{cs:List DC}{v0:Value}(hi:C.ti T=some i)(hz:C3 i.zero=some cs)(h:K (bm (.ptr fid 0)) [(fid,some (.box T cs))] []):
  ∃v w',(Instr.alloc T true v0).run C.P w= .ok v w'/\bn F β N H fid K w v w':=by
 obtain⟨tf,d,z,hT⟩:=hC.get hi;rw[<- hT.xN]at hz;obtain⟨hl,hc⟩:=C8 hz;refine⟨.pointer (some ⟨w.heap.size,0,none⟩),w.alloc (.cells z.cells T),by simp[Instr.alloc,hT.th,newVar,newRow],?_⟩;refine bn.new (u:=[]) (b:=some w.heap.size) hR Tr.refl hf (Below.oy w _) (by simp) h (λH1 _ t _=>?_) (λH1 _=>cK ⟨.inr rfl,w.heap.size,by simp[cV],rfl⟩);refine⟨w.heap.size,z.cells,T,by simp[cV],gN.gG hR.below.size,gO w _,by grind,λk c hk=>?_⟩
 grind[mi,aeK]
def agr (hR:ad F β N H w)(hf: ¬N fid){T:TypeId}{x:DX}{v0:Value}(hx:au F β N H w v0 x)(h:K (bm (.ptr fid 0)) [(fid,some (.box T x.2))] []):
  ∃v w',(Instr.box T v0).run C.P w= .ok v w'/\bn F β N H fid K w v w':=by
 obtain⟨h1,h2⟩:=hx.cells;refine⟨.pointer (some ⟨w.heap.size,0,none⟩),w.alloc (.cells v0.cells T),by simp[Instr.box,newVar,newRow],?_⟩;refine bn.new (u:=[]) (b:=some w.heap.size) hR Tr.refl hf (Below.oy w _) (by simp) h (λH1 _ t _=>?_) (λH1 _=>cK ⟨.inr rfl,w.heap.size,by simp[cV],rfl⟩);exact⟨w.heap.size,v0.cells,T,by simp[cV],gN.gG hR.below.size,gO w _,h1,λk c hk=>t.jw hR (h2 k c hk)⟩
theorem Aa (off:Nat): ∀(l:List Value) (j:Nat) (cs:Array Value),off+j+l.length<=cs.size->
  (l.zipIdx j).foldl (λcs (p:Value × Nat)=>cs.setIfInBounds (off+p.2) p.1) cs=aP cs (off+j) l
 | [],j,cs,_=>by simp[aP]
 |v::l,j,cs,h=>by
  simp only[List.zipIdx_cons,Yc];rw[Aa off l (j+1) _ bv];unfold aP;congr 1;have e:=list_seg_step cs.toList (off+j) v l K0;simpa [Array.toList_setIfInBounds,LP]using e
theorem I4 {O0 place':Nat->Option (Nat × Nat)}(hpp: ∀n x,O0 n=some x->place' n=some x): ∀ {parts:List (Nat × Value)} {ps:List (Nat × Option DV)} {arr:Array Value} {cells:List DC} {cs:List DC},parts.length=ps.length->
  (∀(k:Nat) (p:Nat × Value) (q:Nat × Option DV),parts[k]? =some p->ps[k]? =some q->p.1=q.1/\∀d,q.2=some d->co F β N H w p.2 d)->arr.size=cells.length->(∀(k:Nat) (c:DC),cells[k]? =some c->cw F β N H w (arr.getD k undef) c)->
  Hc O0 cells ps=some cs->∃arr',Instr.fill place' arr parts=some arr'/\arr'.size=cs.length/\∀(k:Nat) (c:DC),cs[k]? =some c->cw F β N H w (arr'.getD k undef) c
 | [],[],arr,cells,cs,_,_,hs,hc,h=>by
  simp[Hc]at h;subst h;exact⟨arr,rfl,hs,hc⟩
 | [],_::_,_,_,_,h,_,_,_,_=>by grind
 |_::_,[],_,_,_,h,_,_,_,_=>by grind
 |(i,v)::parts,(j,d)::ps,arr,cells,cs,hl,hp,hs,hc,h=>by
  obtain⟨Pv,hd⟩:=hp 0 _ _ rfl rfl;simp at Pv;subst Pv;unfold Hc at h;split at h
  grind
  ·rename_i n x rest vU;cases vU;have hx:au F β N H w v x:=hd _ rfl;obtain⟨c1,c2⟩:=hx.cells;split at h
   ·rename_i off size pL;split at h
    ·rename_i eC;obtain⟨hl1,eC⟩:=aH eC;have hl1:=pb hl1;have eC:=fO eC;have hlc:v.cells.toList.length=x.2.length:=by omega
     have O2:v.cells.zipIdx.foldl (λcs (p:Value × Nat)=>cs.setIfInBounds (off+p.2) p.1) arr=aP arr off v.cells.toList:=by
      have:=Aa off v.cells.toList 0 arr K0;exact ajP
     have abH:=I4 hpp (parts:=parts) (ps:=ps) (arr:=aP arr off v.cells.toList) (cells:=iA cells off x.2) (cs:=cs) bv
      (λk p q h1 h2=>hp (k+1) p q bv bv) (by grind[fk,iA]) (λk c hk=>?_) h
     ·obtain⟨arr',e1,e2,e3⟩:=abH;refine⟨arr',?_,e2,e3⟩;have g1: ¬(v.cells.size≠size):=by omega
      have g2: ¬(off+v.cells.size>arr.size):=by omega
      simp only[Instr.fill,hpp _ _ pL,g1,g2,decide_false,LQ,to,kK]
      grind
     ·have e:=gc (arr:=arr) (off:=off) (vs:=v.cells.toList) K0 k;rw[hlc]at e;rw[rp K0]at hk;by_cases k1:k<off
      ·simp only[k1,if_true]at hk e
       grind[bQ]
      ·by_cases k2:k<off+x.2.length
       ·simp only[k1,kK,k2,if_true]at hk e
        grind[bQ]
       ·simp only[k1,kK,k2]at hk e
        grind[bQ]
    grind
   grind
  grind
end
section
variable {C:bU}{F:gN}{β:Nat->Option Nat}{N:Nat->Prop}{H:HF}{fid:Nat}{K:j8}{w w':World}{P:Program}
theorem wb {α γ:Type}{g:α->Sem γ}{h:α->γ}: ∀ {l:List α},(∀x∈l,(g x).run P w= .ok (h x) w)->(l.mapM g).run P w= .ok (l.map h) w
 | [],_=>by simp
 |x::l,hl=>by
  have h1:=hl x (by simp);have h2:=wb (l:=l) λy hy=>hl y bv;simp_all
def YA {α γ:Type}{g:α->Sem γ}{h:α->γ}{l:Array α}(hl: ∀x∈l.toList,(g x).run P w= .ok (h x) w):(l.mapM g).run P w= .ok (l.map h) w:=by
 rw[aeE,Sem.run_map,wb hl];simp
 grind
def C9 (hG:bJ C F)(hR:ad F β N H w){E:EF}{a:Act}(hE:dM F β N H w E a)(parts:Array (Nat × Operand)):
  ((parts.map λp=>(p.1,a.eval p.2)).toList.length =(parts.toList.map λp=>(p.1,C.ev E p.2)).length)/\
  ∀(k:Nat) (p:Nat × Value) (q:Nat × Option DV),(parts.map λp=>(p.1,a.eval p.2)).toList[k]? =some p->(parts.toList.map λp=>(p.1,C.ev E p.2))[k]? =some q->
   p.1=q.1/\∀d,q.2=some d->co F β N H w p.2 d:=by
 grind[mB]
theorem YB (hC:C.Ok)(hG:bJ C F)(hR:ad F β N H w){E:EF}{a:Act}(hE:dM F β N H w E a){o:Oper}{T:TypeId}{parts:Array (Nat × Operand)}(ho:o.op= .build T parts)
  (h:fw C fid o (C.ev E) H K): ∃v,(Instr.build T (parts.map λp=>(p.1,a.eval p.2))).run C.P w= .ok v w/\bn F β N H fid K w v w:=by
 unfold fw at h;rw[ho]at h;simp only at h;obtain⟨hl,hp⟩:=C9 hG hR hE parts;split at h
 ·rename_i i hi;obtain⟨tf,d,z,hT⟩:=hC.get hi;split at h
  ·rename_i zs hz;rw[<- hT.xN]at hz;obtain⟨z1,z2⟩:=C8 hz;have hz3: ∀(k:Nat) (c:DC),zs[k]? =some c->cw F β N H w (z.cells.getD k undef) c:=by grind[mi,aeK]
   have hz4:z.cells.size=zs.length:=by grind
   split at h
   ·rename_i fs bW;obtain⟨gs,hd,hgs⟩:=rk (hT.b8.trans bW);split at h
    ·rename_i cs OZ
     have aex:(gs.mapM λf=>do pure (f.offset,<- sizeOf f.type):Sem _).run C.P w= .ok (gs.map λf=>(f.offset,C.P.cellsOf f.type)) w:=by
      refine YA λf hf=>?_;have:=hT.fields gs hd f hf;obtain⟨fi,kG⟩:=qW.1 this;simp[sizeOf,typeInfo,kG,Program.cellsOf]
     obtain⟨arr',e1,e2,e3⟩:=I4 (place':=((gs.map λf=>(f.offset,C.P.cellsOf f.type))[·]?)) (by
      intro n x hx;split at hx
      ·rename_i o ft RY;rw[<- hgs,gK]at RY
       cases hg:gs.toList[n]? with
       |none=>grind
       |some g=>
        simp[hg]at RY;obtain⟨h1,h2⟩:=RY;split at hx
        ·rename_i fi kG;simp at hx;subst hx;obtain⟨ff,fd,fz,hF⟩:=hC.get kG;have Ux:gs[n]? =some g:=by grind
         simp[Ux,Program.cellsOf,h2,h1,hF.ow,hF.size]
        grind
      grind) hl hp hz4 hz3 OZ
     refine⟨.agg arr',?_,bn.pure hR h ⟨arr',rfl,e2,e3⟩⟩;simp only[Instr.build,eL,hT.th,my,hT.cX,hd,aex];simp_all
    grind
   ·rename_i n e bW;have hd:=kp (hT.b8.trans bW);split at h
    ·rename_i ie l7;obtain⟨ef,ed,ez,GX⟩:=hC.get l7;split at h
     ·rename_i cs OZ;obtain⟨arr',e1,e2,e3⟩:=I4 (λ_ _ h=>h) hl hp hz4 hz3 OZ;refine⟨.agg arr',?_,bn.pure hR h ⟨arr',rfl,e2,e3⟩⟩;simp only[Instr.build,eL,hT.th,my,hT.cX,hd,GX.iM];simp_all
     grind
    grind
   grind
  grind
 grind
theorem U6 {op:BinOp}{k:IntKind}{a b:Int}{K':Value->Prop}(h:tv op k a b K')(hs:op≠ .shl)(hs':op≠ .shr)(T:TypeId):
  ∃v,(binOp op T (.int k a) (.int k b)).run P w= .ok v w/\plain v=true/\K' v:=by
 cases op<;>simp only[tv]at h<;>first
  |exact(hs rfl).elim
  |exact(hs' rfl).elim
  |exact h.elim
  |(refine⟨_,?_,?_,h⟩<;>simp[binOp,Op.intArith,Op.intBits,Op.intCmp,plain];done)
  |(obtain⟨h0,h⟩:=h;refine⟨_,?_,?_,h⟩<;>simp[binOp,Op.intDiv,h0,plain];done)
  |skip
theorem U7 {op:BinOp}{a b:ByteArray}{K':Value->Prop}(h:wO op a b K')(T:TypeId):
  ∃v,(binOp op T (.string a) (.string b)).run P w= .ok v w/\plain v=true/\K' v:=by
 cases op<;>simp only[wO]at h<;>first
  |exact h.elim
  |(refine⟨_,?_,?_,h⟩<;>simp[binOp,Op.stringOp,plain];done)
  |(obtain⟨h0,h⟩:=h
    refine⟨_,?_,?_,h⟩
    ·have h1: ¬(((a.size+b.size:Nat):Int)>IntKind.i64.max):=by
      grind[IntKind.max_i64]
     simp only[binOp,Op.stringOp,h1,kK];rfl
    ·rfl)
  |skip
def U8 {op:BinOp}{x y:Value}{K':Value->Prop}(h:rc op x y K')(T:TypeId):
  ∃v,(binOp op T x y).run P w= .ok v w/\plain v=true/\K' v:=by
 unfold rc at h;split at h
 ·rename_i k a k' b;split at h
  ·exact aiV
  ·exact aiV
  ·rename_i hs hs';split at h
   ·rename_i hk;simp at hk;subst hk;exact U6 h K0 K0 T
   grind
 ·exact U7 h T
 grind
theorem L7 {t:TypeId}{c:A4}{a b:Value}{p:Bool}{d:TypeDesc}{n:Nat}(h:SZ c a b=some p)(hu:P.underlying t=some d)(hd:eD d=c):(Op.equalIn (n+1) t a b).run P w= .ok p w:=by
 unfold SZ at h;split at h
 ·split at h
  ·rename_i k1 a k2 b hk;simp at hk;subst hk;simp at h;subst h;have:=rj hd;subst this;exact age
  grind
 ·simp at h;subst h;have:=L5 hd;subst this;exact age
 ·simp at h;subst h;have:=mf hd;subst this;exact age
 grind
def gP:List A4->List Value->List Value->Option Bool
 | [],[],[]=>some true
 |c::cs,a::xs,b::ys=>match SZ c a b with
  |some p=>match gP cs xs ys with
   |some q=>some (p&&q)
   |none=>none
  |none=>none
 |_,_,_=>none
theorem pM: ∀ {l1 l2:List A4} {x1 y1 x2 y2:List Value} {p:Bool},x1.length=l1.length->y1.length=l1.length->gP (l1++l2) (x1++x2) (y1++y2)=some p->
  ∃a b,gP l1 x1 y1=some a/\gP l2 x2 y2=some b/\p=(a&&b)
 | [],l2,x1,y1,x2,y2,p,h1,h2,h=>by
  have:x1= []:=CN.1 h1;have:y1= []:=CN.1 h2;subst x1;subst y1;exact⟨true,p,rfl,h,by simp⟩
 |c::l1,l2,x::x1,y::y1,x2,y2,p,h1,h2,h=>by
  simp only[qX,gP]at h;split at h
  ·rename_i p0 FI;split at h
   ·rename_i q0 hq0;simp at h;subst h;obtain⟨a,b,e1,e2,rfl⟩:=pM bv bv hq0
    grind[gP]
   grind
  grind
 |c::l1,l2,[],y1,x2,y2,p,h1,h2,h=>by grind
 |c::l1,l2,x::x1,[],x2,y2,p,h1,h2,h=>by grind
def cut (arr:Array Value)(off n:Nat):List Value:=(arr.toList.drop off).take n
def rq (arr:Array Value)(off m n:Nat):cut arr off (m+n)=cut arr off m++cut arr (off+m) n:=by grind[cut,List.drop_drop]
def Cj {arr:Array Value}{off n:Nat}(h:off+n<=arr.size):(cut arr off n).length =n:=by grind[cut]
def acx (P:Program)(w:World)(m:Nat)(t:TypeId)(l:List A4):Prop:=
 ∀(xs ys:Array Value) (off:Nat) (p:Bool),off+l.length<=xs.size->off+l.length<=ys.size->gP l (cut xs off l.length) (cut ys off l.length)=some p->
  ∃a b,(part t xs off).run P w= .ok a w/\(part t ys off).run P w= .ok b w/\(Op.equalIn m t a b).run P w= .ok p w
def qf (P:Program)(n:Nat)(acc:Option (List A4))(f:Field):Option (List A4):=
 match acc with
 |none=>none
 |some l=>match f.name != "_"&&f.offset==l.length,kL P n f.type with
  |true,some l'=>some (l++l')
  |_,_=>none
theorem F6 (P:Program)(n:Nat)(fs:List Field):fs.foldl (qf P n) none=none:=by
 induction fs with
 |nil=>rfl
 |cons f fs ih=>grind[qf]
theorem A7 {n m:Nat}(ih: ∀t l,kL P n t=some l->acx P w m t l): ∀(fs:List Field) (l0 l:List A4),fs.foldl (qf P n) (some l0)=some l->
  ∃l1,l=l0++l1/\∀(xs ys:Array Value) (p:Bool),l.length<=xs.size->l.length<=ys.size->gP l1 (cut xs l0.length l1.length) (cut ys l0.length l1.length)=some p->
   (Op.eqFields m xs ys fs).run P w= .ok p w
 | [],l0,l,h=>by
  simp at h;subst h;refine⟨[],by simp,λxs ys p _ _ hp=>?_⟩;simp[cut,gP]at hp;subst hp;rfl
 |f::fs,l0,l,h=>by
  simp only[Yc]at h
  cases dw:qf P n (some l0) f with
  |none=>grind[F6]
  |some l2=>
   rw[dw]at h;obtain⟨l1,rfl,hl⟩:=A7 ih fs l2 l h;simp only[qf]at dw;split at dw
   ·rename_i l' FH hlv;simp at dw FH;subst dw;refine⟨l'++l1,by simp,λxs ys p hx hy hp=>?_⟩;have AW:l0.length+l'.length<=xs.size:=by grind
    have hy':l0.length+l'.length<=ys.size:=by grind
    rw[sO,rq,rq]at hp;obtain⟨a,b,e1,e2,rfl⟩:=pM (Cj AW) (Cj hy') hp;obtain⟨u,v,r1,r2,r3⟩:=ih f.type l' hlv xs ys l0.length a AW hy' e1;have Pa:=hl xs ys b hx hy bv;have hn:f.name≠"_":=FH.1;have ho:f.offset=l0.length:=FH.2;simp only[Op.eqFields];rw[if_pos hn,ho];simp only[eL,r1,my,r2,r3];cases a
    ·simp
    grind
   grind
theorem wQ {n:Nat}{t:TypeId}{l:List A4}(h:kL P n t=some l): ∃i d,P.info? t=some i/\P.underlying t=some d/\i.size=l.length/\(cJ (eD d)=false->l= [eD d]):=by
 cases n with
 |zero=>grind[kL]
 |succ n=>
  unfold kL at h;split at h
  grind[eD]
  grind[eD]
  grind[eD]
  grind[eD,cJ]
  ·refine⟨_,_,by assumption,by assumption,?_,by simp[eD,cJ]⟩;split at h
   ·split at h
    ·simp at h;subst h;simp_all
    grind
   grind
  grind
def nZ {t:TypeId}{i:TypeInfo}{d:TypeDesc}(hi:P.info? t=some i)(hd:P.underlying t=some d)(arr:Array Value){off:Nat}(ak:cJ (eD d)=false->off<arr.size):
  (part t arr off).run P w= .ok (if cJ (eD d)then .agg (arr.extract off (off+i.size))else arr.getD off undef) w:=by
 have XH:(isAgg t).run P w= .ok (cJ (eD d)) w:=by cases d<;>simp[isAgg,tp hd,eD,cJ]
 unfold part;simp only[eL,XH,my];cases h:cJ (eD d);simp_all
 ·simp[sizeOf,typeInfo,hi]
theorem tJ (arr:Array Value)(off n o k:Nat)(h:o+k<=n):cut (arr.extract off (off+n)) o k=cut arr (off+o) k:=by
 unfold cut;apply SJ
 grind
theorem wc {m e:Nat}{l:List A4}{xs ys:Array Value}(hs:(sizeOf e).run P w= .ok l.length w)(ih:acx P w m e l): ∀(n j:Nat) (p:Bool),(j+n)*l.length<=xs.size->(j+n)*l.length<=ys.size->
  gP (List.replicate n l).flatten (cut xs (j*l.length) (n*l.length)) (cut ys (j*l.length) (n*l.length))=some p->
  ∃r,(forIn (List.range' j n) (none,()) (λi (__s:Option Bool × Unit)=>(do
       let __do_lift <- part e xs (i*l.length);let __do_lift_1 <- part e ys (i*l.length);let __do_lift <- Op.equalIn m e __do_lift __do_lift_1
       if(!__do_lift)=true then pure (ForInStep.done (some false,()))else pure (ForInStep.yield (none,())):Sem (ForInStep (Option Bool × Unit))))).run P w= .ok r w/\
   (match r.1 with|some r=>r|none=>true)=p
 |0,j,p,_,_,hp=>by
  simp[cut,gP]at hp;simp_all
 |n+1,j,p,hx,hy,hp=>by
  have e1:(n+1)*l.length=l.length+n*l.length:=by grind
  have e2:(j+(n+1))*l.length=j*l.length+(l.length+n*l.length):=by grind
  rw[List.replicate_succ,X9,e1,rq,rq]at hp;obtain⟨a,b,g1,g2,rfl⟩:=pM (Cj K0) (Cj K0) hp;obtain⟨u,v,r1,r2,r3⟩:=ih xs ys (j*l.length) a K0 K0 g1;have e3:j*l.length+l.length=(j+1)*l.length:=by grind
  rw[e3]at g2;obtain⟨r,q1,q2⟩:=wc hs ih n (j+1) b bv bv g2;rw[List.range'_succ,List.forIn_cons];simp only[eL,r1,my,r2,r3];cases a;simp_all;simp_all
theorem S8: ∀(n:Nat) (t:TypeId) (l:List A4),kL P n t=some l->∀m,n<=m->acx P w m t l
 |0,t,l,h,m,_=>by grind[kL]
 |n+1,t,l,h,0,hm=>by omega
 |n+1,t,l,h,m+1,hm=>by
  intro xs ys off p hx hy hp;obtain⟨i,d,hi,hd,XH,an7⟩:=wQ h;have ih: ∀t l,kL P n t=some l->acx P w m t l:=λt l hl=>S8 n t l hl m K0
  have an3:cJ (eD d)=false->∃a b,(part t xs off).run P w= .ok a w/\(part t ys off).run P w= .ok b w/\(Op.equalIn (m+1) t a b).run P w= .ok p w:=by
   intro hc;have hl:=an7 hc;subst hl;simp at hx hy;refine⟨_,_,nZ hi hd xs (λ_=>by omega),nZ hi hd ys (λ_=>by omega),?_⟩
   have c1:cut xs off 1= [xs.getD off undef]:=by
    unfold cut;rw[UM bv];simp[Array.getD,show off<xs.size by omega]
   have c2:cut ys off 1= [ys.getD off undef]:=by
    unfold cut;rw[UM bv];simp[Array.getD,show off<ys.size by omega]
   simp only[Lz,c1,c2,gP]at hp;split at hp
   ·rename_i q hq;simp at hp;subst hp;simp only[hc,to,kK]
    grind[L7]
   grind
  cases jg:cJ (eD d)with
  |false=>grind
  |true=>
   have nC:=XH;refine⟨_,_,nZ hi hd xs bv,nZ hi hd ys bv,?_⟩;simp only[jg,if_true];have sx:(xs.extract off (off+i.size)).size =l.length:=by grind
   have sy:(ys.extract off (off+i.size)).size =l.length:=by grind
   unfold kL at h;rw[hi,hd]at h
   cases d with
   |struct fs=>
    simp only at h;split at h
    ·rename_i l' dw O2;split at h
     ·simp at h;subst h;have ahF:fs.toList.foldl (qf P n) (some [])=some l':=O2;obtain⟨l1,e1,hl1⟩:=A7 ih fs.toList [] l' ahF
      grind[Program.fieldsOf,run_equalIn_struct,tJ]
     grind
    grind
   |array k e=>
    simp only at h;split at h
    ·rename_i l' hlv;split at h
     ·rename_i xw;simp at h;subst h;obtain⟨ie,de,l7,hde,am2,FT⟩:=wQ hlv;have hse:(sizeOf e).run P w= .ok ie.size w:=by simp[sizeOf,typeInfo,l7]
      rw[am2]at hse;simp only[Op.equalIn,eL,tp hd,my,hse];have vV:(List.replicate k l').flatten.length =k*l'.length:=by omega
      rw[vV]at sx sy hp;have hx2:off+k*l'.length<=xs.size:=by grind
      have hy2:off+k*l'.length<=ys.size:=by omega
      obtain⟨r,q1,q2⟩:=wc (xs:=xs.extract off (off+i.size)) (ys:=ys.extract off (off+i.size)) hse (ih e l' hlv) k 0 p bv bv
       (by rw[Nat.zero_mul,tJ _ _ _ _ _ K0,tJ _ _ _ _ _ K0];omega)
      rw[Std.Legacy.Range.forIn_eq_forIn_range'];simp only[Std.Legacy.Range.size,G8,X5,Nat.div_one,q1,my];rw[<- q2]
      cases r with
      |mk r1 r2=>cases r1<;>rfl
     grind
    grind
   |_=>simp[eD,cJ]at jg
end
section
variable {C:bU}{F:gN}{β:Nat->Option Nat}{N:Nat->Prop}{H:HF}{fid:Nat}{K:j8}{w w':World}{P:Program}
theorem yf: ∀ {l:List A4} {xs ys:List DC} {a b:List Value} {p:Bool},a.length=xs.length->b.length=ys.length->
  (∀(k:Nat) (c:DC) (v:Value),xs[k]? =some c->a[k]? =some v->cw F β N H w v c)->(∀(k:Nat) (c:DC) (v:Value),ys[k]? =some c->b[k]? =some v->cw F β N H w v c)->
  mc l xs ys=some p->gP l a b=some p
 | [],[],[],a,b,p,ha,hb,_,_,h=>by
  have:a= []:=CN.1 ha;have:b= []:=CN.1 hb;subst a;subst b;exact h
 |c::l,x::xs,y::ys,a,b,p,ha,hb,h1,h2,h=>by
  obtain⟨u,a,rfl⟩:=afD ha;obtain⟨v,b,rfl⟩:=afD hb;unfold mc at h;split at h
  grind
  ·rename_i l1 l2 l3 e1 e2 e3;cases e1;cases e2;cases e3;obtain⟨rfl,_⟩:=(h1 0 _ u rfl rfl).bB;obtain⟨rfl,_⟩:=(h2 0 _ v rfl rfl).bB;split at h
   ·rename_i p0 FI;split at h
    ·rename_i q0 hq0;have:=yf (a:=a) (b:=b) bv bv (λk c v e1 e2=>h1 (k+1) c v bv bv) (λk c v e1 e2=>h2 (k+1) c v bv bv) hq0
     grind[gP]
    grind
   grind
  grind
 | [],_::_,_,_,_,_,_,_,_,_,h=>by grind[mc]
 | [],[],_::_,_,_,_,_,_,_,_,h=>by grind[mc]
 |_::_,[],_,_,_,_,_,_,_,_,h=>by grind[mc]
 |_::_,_::_,[],_,_,_,_,_,_,_,h=>by grind[mc]
theorem pm {op:BinOp}{T:TypeId}{x y:Operand}{a b:Value}(h: ∃f:Bool,f=true/\(match a with| .nilIface =>false| .agg _=>false|_=>true)=f):eqGuard op T x y a b=pure ():=by
 obtain⟨f,rfl,h⟩:=h;cases a<;>simp at h<;>cases op<;>cases b<;>rfl
def A8 {op:BinOp}{T:TypeId}{x y:Operand}(h:(lP x || lP y)=true):eqGuard op T x y .nilIface .nilIface =pure ():=by cases x<;>cases y<;>simp[lP]at h<;>cases op<;>rfl
def A9 {op:BinOp}{T U:TypeId}{x y:Operand}{u:Value}:eqGuard op T x y (.iface U u) .nilIface =pure ():=by cases op<;>rfl
def ags {T:TypeId}(hT: ∃i d,P.info? T=some i/\P.underlying T=some d/\cJ (eD d)=true){l:List A4}(hl:kL P 8 T=some l){a b:Array Value}{p:Bool}(ha:a.size=l.length)(hb:b.size=l.length)
  (h:gP l a.toList b.toList=some p):(Op.equal T (.agg a) (.agg b)).run P w= .ok p w:=by
 obtain⟨i,d,hi,hd,XH⟩:=hT;obtain⟨i',d',lA,xn,nC,_⟩:=wQ hl;rw[hi]at lA;cases lA;rw[hd]at xn;cases xn;have c1:cut a 0 l.length=a.toList:=by grind[cut,List.take_of_length_le]
 have c2:cut b 0 l.length=b.toList:=by grind[cut,List.take_of_length_le]
 obtain⟨u,v,h1,h2,h3⟩:=S8 (w:=w) 8 T l hl Op.maxDepth K9 a b 0 p K0 K0 bv;rw[nZ hi hd a bv]at h1;rw[nZ hi hd b bv]at h2;simp only[XH,if_true,Result.ok.injEq,sv]at h1 h2;have ea:a.extract 0 (0+i.size)=a:=by grind
 have eb:b.extract 0 (0+i.size)=b:=by grind
 rw[ea]at h1;rw[eb]at h2;subst h1;subst h2;exact h3
theorem acy (hC:C.Ok)(hR:ad F β N H w){op:BinOp}{T:TypeId}{x y:DX}{xo yo:Operand}{v0 v1:Value}(hx:au F β N H w v0 x)(hy:au F β N H w v1 y)(h:L1 C (lP xo || lP yo) op T x y λv=>K v [] []):
  ∃v,(do eqGuard op T xo yo v0 v1;binOp op T v0 v1:Sem Value).run C.P w= .ok v w/\bn F β N H fid K w v w:=by
 unfold L1 at h;split at h
 ·rename_i a b;obtain⟨rfl,_⟩:=hx.am.bB;obtain⟨rfl,_⟩:=hy.am.bB;split at h
  ·rename_i i hi;obtain⟨tf,d,z,hT⟩:=hC.get hi;split at h
   ·rename_i bW;refine⟨_,?_,bn.pure hR h (fT rfl)⟩;rw[pm ⟨true,rfl,rfl⟩];have e:(Op.equal T (.bool a) (.bool b)).run C.P w= .ok (a==b) w:=ajd;simp only[eL,lN,my];show(do pure (.bool (<- Op.equal T (.bool a) (.bool b))):Sem Value).run C.P w=_;simp_all
   ·rename_i bW;refine⟨_,?_,bn.pure hR h (fT rfl)⟩;rw[pm ⟨true,rfl,rfl⟩];have e:(Op.equal T (.bool a) (.bool b)).run C.P w= .ok (a==b) w:=ajd;simp only[eL,lN,my];show(do pure (.bool (!(<- Op.equal T (.bool a) (.bool b)))):Sem Value).run C.P w=_;simp_all
   grind
  grind
 ·obtain⟨rfl,_⟩:=hx.am.bB;obtain⟨rfl,_⟩:=hy.am.bB;split at h
  ·rename_i i hi am6;obtain⟨tf,d,z,hT⟩:=hC.get hi;have key:i.b8= .iface ->(Op.equal T .nilIface .nilIface).run C.P w= .ok true w:=λbW=>by exact aim
   split at h
   ·rename_i bW;refine⟨_,?_,bn.pure hR h (fT rfl)⟩;rw[A8 am6];simp only[eL,lN,my];show(do pure (.bool (<- Op.equal T .nilIface .nilIface)):Sem Value).run C.P w=_;simp_all
   ·rename_i bW;refine⟨_,?_,bn.pure hR h (fT rfl)⟩;rw[A8 am6];simp only[eL,lN,my];show(do pure (.bool (!(<- Op.equal T .nilIface .nilIface))):Sem Value).run C.P w=_;simp_all
   grind
  grind
 ·obtain⟨U,u,rfl⟩:=hx.am.abS;obtain⟨rfl,_⟩:=hy.am.bB;split at h
  ·rename_i i hi;obtain⟨tf,d,z,hT⟩:=hC.get hi;have key:i.b8= .iface ->(Op.equal T (.iface U u) .nilIface).run C.P w= .ok false w:=λbW=>by exact aim
   split at h
   ·rename_i bW;refine⟨_,?_,bn.pure hR h (fT rfl)⟩;rw[A9];simp only[eL,lN,my];show(do pure (.bool (<- Op.equal T (.iface U u) .nilIface)):Sem Value).run C.P w=_;simp_all
   ·rename_i bW;refine⟨_,?_,bn.pure hR h (fT rfl)⟩;rw[A9];simp only[eL,lN,my];show(do pure (.bool (!(<- Op.equal T (.iface U u) .nilIface))):Sem Value).run C.P w=_;simp_all
   grind
  grind
 ·rename_i dd;obtain⟨rfl,_⟩:=hy.am.bB;split at h
  ·rename_i b i hb hi;obtain⟨tf,d,z,hT⟩:=hC.get hi
   obtain⟨p,rfl,hp⟩: ∃p:Option Addr,v0= .pointer p/\p.isSome=b:=by
    have h1:=hx.am;unfold L0 at hb;split at hb
    ·exact akC
    ·exact akC
    ·cases hb
     cases h1 with
     |empty a cap hv=>grind[SC.ao]
     |view _ _ _ _ _ hv=>grind[SC.ao]
     |ref b o f hc hr=>grind
    ·cases hb;obtain⟨rfl,_⟩:=h1.bB;grind
    grind
   have key: ∀e,i.b8= .ptr e->(Op.equal T (.pointer p) (.pointer none)).run C.P w= .ok (!b) w:=λe bW=>by
    obtain⟨d',hd⟩: ∃e',d= .pointer e':=by
     have:=hT.b8.trans bW;cases d<;>simp[eD]at this
     grind
    unfold Op.equal Op.maxDepth Op.equalIn;subst hp;cases p<;>simp[eL,hT.cX,hd,my,lN]
   have hg: ∀op,eqGuard op T xo yo (.pointer p) (.pointer none)=pure ():=λop=>pm ⟨true,rfl,rfl⟩;split at h
   ·rename_i bW;refine⟨_,?_,bn.pure hR h (fT rfl)⟩;rw[hg];simp only[eL,lN,my];show(do pure (.bool (<- Op.equal T (.pointer p) (.pointer none))):Sem Value).run C.P w=_;simp_all
   ·rename_i bW;refine⟨_,?_,bn.pure hR h (fT rfl)⟩;rw[hg];simp only[eL,lN,my];show(do pure (.bool (!(<- Op.equal T (.pointer p) (.pointer none)))):Sem Value).run C.P w=_;simp_all
   grind
  grind
 ·rename_i a b hnb hnc hnp;obtain⟨rfl,_⟩:=hx.am.bB;obtain⟨rfl,_⟩:=hy.am.bB;obtain⟨v,hr,hp,hk⟩:=U8 (P:=C.P) (w:=w) h T;refine⟨v,?_,bn.pure hR hk (fT hp)⟩;have hg:eqGuard op T xo yo v0 v1=pure ():=by grind[pm,rc]
  grind
 ·rename_i xs ys;obtain⟨a,rfl,a1,a2⟩:=hx.Ci;obtain⟨b,rfl,b1,b2⟩:=hy.Ci;split at h
  ·rename_i i hi;obtain⟨tf,d,z,hT⟩:=hC.get hi;split at h;rotate_left
   ·grind
   rename_i aoJ
   have key: ∀ {l:List A4} {p:Bool},i.eqs=some l->mc l xs ys=some p->C.P.eqGuardType C.P.depth T=false/\(Op.equal T (.agg a) (.agg b)).run C.P w= .ok p w:=by
    intro l p he hp;have hq:=hT.eqs;rw[he]at hq;split at hq
    grind
    ·rename_i hg;refine⟨by grind,?_⟩
     have o9:=yf (a:=a.toList) (b:=b.toList) K0 K0 (λk c v e1 e2=>by
      have:=a2 k c e1;rwa [mi (by simpa using e2)]at this) (λk c v e1 e2=>by
      grind[mi]) hp
     have bG: ∀ {l:List A4} {a b:List Value} {p:Bool},gP l a b=some p->a.length=l.length/\b.length=l.length:=by
      intro l
      induction l with
      |nil=>grind[gP]
      |cons c l ih=>
       intro a b p h
       cases a with
       |nil=>grind[gP]
       |cons x a=>cases b with
        |nil=>grind[gP]
        |cons y b=>
         grind[gP]
     obtain⟨l1,l2⟩:=bG o9;exact ags ⟨_,_,hT.ow,hT.IP,by rw[hT.b8];omega⟩ hq K0 K0 o9
   split at h
   ·rename_i l he;split at h
    ·rename_i p hp;obtain⟨hg,hr⟩:=key he hp;refine⟨_,?_,bn.pure hR h (fT rfl)⟩;have e:(eqGuard .eql T xo yo (.agg a) (.agg b)).run C.P w= .ok () w:=by simp[eqGuard,hg]
     simp only[eL,e,my];show(do pure (.bool (<- Op.equal T (.agg a) (.agg b))):Sem Value).run C.P w=_;simp_all
    grind
   ·rename_i l he;split at h
    ·rename_i p hp;obtain⟨hg,hr⟩:=key he hp;refine⟨_,?_,bn.pure hR h (fT rfl)⟩;have e:(eqGuard .neq T xo yo (.agg a) (.agg b)).run C.P w= .ok () w:=by simp[eqGuard,hg]
     simp only[eL,e,my];show(do pure (.bool (!(<- Op.equal T (.agg a) (.agg b)))):Sem Value).run C.P w=_;simp_all
    grind
   grind
  grind
 grind
end
section
variable {C:bU}{F:gN}{β:Nat->Option Nat}{N:Nat->Prop}{H:HF}{fid:Nat}{K:j8}{w w':World}{P:Program}
def agt (hR:ad F β N H w){op:UnOp}{x:DX}{v0:Value}(hx:au F β N H w v0 x)(h:Pm op x λv=>K v [] []):
  ∃v,(Op.unary op v0).run P w= .ok v w/\bn F β N H fid K w v w:=by
 unfold Pm at h;split at h
 ·exact afT
 ·exact afT
 ·exact afT
 grind
theorem Ab {mx:Bool}{k:IntKind}: ∀ {xs:List DX} {vs:List Value} {a:Int} {K':Value->Prop},vs.length=xs.length->(∀(j:Nat) (x:DX) (v:Value),xs[j]? =some x->vs[j]? =some v->au F β N H w v x)->
  tC mx k a xs K'->∃v,(vs.foldlM (if mx then Builtin.max2 else Builtin.min2) (.int k a)).run P w= .ok v w/\plain v=true/\K' v
 | [],vs,a,K',hl,_,h=>by
  have:vs= []:=CN.1 hl;subst this;exact⟨_,rfl,rfl,h⟩
 |x::xs,vs,a,K',hl,hv,h=>by
  obtain⟨v,vs,rfl⟩:=afD hl;unfold tC at h;split at h
  grind
  ·rename_i k' b r vU;cases vU;split at h
   ·rename_i hk;simp at hk;subst hk;obtain⟨rfl,_⟩:=(hv 0 _ v rfl rfl).am.bB;obtain⟨u,h1,h2,h3⟩:=Ab (vs:=vs) bv (λj x v e1 e2=>hv (j+1) x v bv bv) h
    grind[Builtin.min2,Builtin.max2]
   grind
  grind
theorem U9 {T e:TypeId}(hu:P.underlying T=some (.slice e)){z:Nat}(hs:(sizeOf e).run P w= .ok z w){a:Option Addr}{len cap l h:Nat}{lo hi:Option Value}
  (hlo:(match lo with|none=>l=0|some v=>∃k,v= .int k (l:Int)))(Xn:(match hi with|none=>h=len|some v=>∃k,v= .int k (h:Int)))(h1:l<=h)(h2:h<=len)(h3:len<=cap):
  (Instr.sliceAt T (.slice a len cap) lo hi none).run P w= .ok (.slice (if cap=l then a else a.map (·.add (l*z))) (h -l) (cap -l)) w:=by
 have e1:(Instr.sliceBounds true len cap lo hi none).run P w= .ok (l,h,cap) w:=by
  have hb: ∀(k:IntKind) (n y:Nat) (c:BoundsCode),n<=y->(Instr.sliceBound (.int k (n:Int)) y c).run P w= .ok n w:=aiK
  cases lo with
  |none=>
   simp at hlo;subst hlo
   cases hi with
   |none=>simp at Xn;subst Xn;simp[Instr.sliceBounds]
   |some v=>obtain⟨k,rfl⟩:=Xn;simp[Instr.sliceBounds,hb _ _ _ _ (show h<=cap by omega)]
  |some u=>
   obtain⟨k,rfl⟩:=hlo
   cases hi with
   |none=>simp at Xn;subst Xn;simp[Instr.sliceBounds,hb _ _ _ _ h1]
   |some v=>obtain⟨k',rfl⟩:=Xn;simp[Instr.sliceBounds,hb _ _ _ _ (show h<=cap by omega),hb _ _ _ _ h1]
 have e2:(underlying T).run P w= .ok (.slice e) w:=tp hu w;simp only[Instr.sliceAt,eL,e2,my,Instr.slice,e1,hs];simp
def SC.abP {c:SC}(hv:c.ao=true){l h:Nat}(h2:h<=c.len):(c.sub l h).len =h -l/\(c.sub l h).ao =true:=by cases c<;>simp[SC.ao]at hv<;>simp[SC.sub,SC.len,SC.ao]at* <;>omega
theorem SC.Lr {c:SC}(hv:c.ao=true){l h i:Nat}{e:List SC}(he:(c.sub l h).elem i=some e):c.elem (l+i)=some e/\l+i<h:=by
 cases c with
 |ints xs=>
  grind[SC.sub,SC.elem]
 |view es=>
  grind[SC.sub,SC.elem]
 |_=>grind[SC.ao]
theorem dy.sub {mv mr:Mem}{a:Option Addr}{len cap:Nat}{c:SC}(h:dy mv mr (.slice a len cap) c)(hv:c.ao=true){l r z:Nat}(h1:l<=r)(h2:r<=c.len)(hz: ∀i e,c.elem i=some e->e.length=z):
  len=c.len/\dy mv mr (.slice (if cap=l then a else a.map (·.add (l*z))) (r -l) (cap -l)) (c.sub l r):=by
 obtain⟨s1,s2⟩:=SC.abP (l:=l) hv h2;by_cases h0:r -l=0
 ·refine⟨?_,by rw[h0];exact .empty _ _ s2 K0⟩;obtain⟨a',jE,e,_⟩:=h.CK hv
  grind
 ·cases h with
  |lit hp=>grind[SC.ao]
  |err=>grind
  |num=>grind
  |raw=>grind[SC.ao]
  |any=>grind[SC.ao]
  |empty a cap _ h0'=>omega
  |view b o cap z' f _ fN wI fZ hl hc hr=>
   obtain⟨e0,R2⟩:=SC.ov fN;have:z'=z:=by grind
   subst this;refine⟨rfl,?_⟩;rw[if_neg K0];have s1':(c.sub l r).len =r -l:=s1;rw[<- s1',xR,addr_add];refine .view b (o+l*z') (cap -l) z' (λk=>f (l*z'+k)) s2 K0 wI K0 (λi e he=>hl _ e (SC.Lr hv he).1) (λk hk=>?_) (λi e j x he hx=>?_)
   ·rw[LP];refine hc _ ?_;rw[s1']at hk;have:(l+(r -l))*z'<=c.len*z':=kE _ K0
    grind
   ·have:=hr (l+i) e j x (SC.Lr hv he).1 hx
    grind
theorem uW: ∀ {es:List (List SC)} {ns:List Int},wM es=some ns->ns.length=es.length/\∀(i:Nat) (m:Int),ns[i]? =some m->es[i]? =some [.lit (.int .i64 m)]
 | [],ns,h=>by grind[wM]
 |e::es,ns,h=>by
  unfold wM at h;split at h
  grind
  ·rename_i n r vU;cases vU;split at h
   ·rename_i l hl;simp at h;subst h;obtain⟨h1,h2⟩:=uW hl
    grind
   grind
  grind
def I5 {d:Option (Option DV)}{GW:Nat}{K':Nat->Prop}(h:F5 d GW K'): ∃n,K' n/\((d=none/\n=GW)\/∃k,d=some (some (lit (.int k (n:Int))))):=by
 unfold F5 at h;split at h
 grind
 ·rename_i k n;obtain⟨h0,h⟩:=h;exact⟨_,h,.inr ⟨k,by rw[Int.toNat_of_nonneg h0];rfl⟩⟩
 grind
theorem yg {c:SC}{z:Nat}(h:c.zW z): ∀i e,c.elem i=some e->e.length=z:=by
 intro i e he
 cases c with
 |ints xs=>grind[SC.zW,SC.elem]
 |view es=>exact h e (jI he)
 |_=>grind[SC.elem]
theorem Ck (hG:bJ C F)(hR:ad F β N H w){E:EF}{a:Act}(hE:dM F β N H w E a){lo:Option Operand}{n GW:Nat}
  (h:(lo.map (C.ev E)=none/\n=GW)\/∃k,lo.map (C.ev E)=some (some (lit (.int k (n:Int))))):
  (match lo.map a.eval with|none=>n=GW|some v=>∃k,v= .int k (n:Int)):=by
 cases lo with
 |none=>
  grind
 |some x=>
  rcases h with⟨h,_⟩|⟨k,h⟩
  grind
  ·simp at h;have:=mB hG hR hE h;exact⟨k,(au.am this).bB.1⟩
theorem YC (hC:C.Ok)(hG:bJ C F)(hR:ad F β N H w){E:EF}{a:Act}(hE:dM F β N H w E a){T:TypeId}{x:DX}{v0:Value}{lo hi:Option Operand}(hx:au F β N H w v0 x)
  (h:gL C T x (lo.map (C.ev E)) (hi.map (C.ev E)) H K):
  ∃v,(Instr.sliceAt T v0 (lo.map a.eval) (hi.map a.eval) none).run C.P w= .ok v w/\bn F β N H fid K w v w:=by
 unfold gL at h;split at h
 ·grind
 rename_i i lA;obtain⟨tf,d,z,hT⟩:=hC.get lA;split at h
 ·rename_i e bW;have hd:=dq (hT.b8.trans bW);split at h
  ·grind
  rename_i ie l7;obtain⟨ef,ed,ez,GX⟩:=hC.get l7;split at h
  ·rename_i c u r dw;split at h
   ·rename_i GY hv;obtain⟨l,h,hl⟩:=I5 h;obtain⟨hh,h,hh'⟩:=I5 h;obtain⟨⟨h1,h2⟩,hu,h⟩:=h;have bG:=iD dw;obtain⟨ag,cs⟩:=x;simp at GY;subst GY;obtain⟨dc,UC,hd0⟩:=hx;simp at UC;subst UC;have hg:il C H u:=il.ko (cN dw)
    have ip:=iE hR hg.soft (f:=λ_=>v0) (λk d hk=>by
     grind) dw (λp hp=>hg.frozen hp (cN dw p hp)) 0 c rfl
    obtain⟨a0,ahD,rfl,fZ⟩:=ip.CK hv;obtain⟨_,R1⟩:=ip.sub hv h1 h2 (yg hu);refine⟨_,U9 (by rw[hT.IP,hd]) (GX.iM w) (Ck hG hR hE hl) (Ck hG hR hE hh') h1 h2 fZ,bn.still hR hg h (co.bk (cK R1))⟩
   grind
  grind
 ·rename_i bW;have hd:=mf (hT.b8.trans bW);split at h
  ·rename_i s;obtain⟨rfl,_⟩:=hx.am.bB;obtain⟨l,h,hl⟩:=I5 h;obtain⟨hh,h,hh'⟩:=I5 h;obtain⟨⟨h1,h2⟩,h⟩:=h;have o1:=Ck hG hR hE hl;have o2:=Ck hG hR hE hh';refine⟨.string (s.extract l hh),?_,bn.pure hR h (fT rfl)⟩;have hb: ∀(k:IntKind) (n y:Nat) (c:BoundsCode),n<=y->(Instr.sliceBound (.int k (n:Int)) y c).run C.P w= .ok n w:=aiK
   have e1:(Instr.sliceBounds false s.size s.size (lo.map a.eval) (hi.map a.eval) none).run C.P w= .ok (l,hh,s.size) w:=by
    cases hlo:lo.map a.eval with
    |none=>
     rw[hlo]at o1;simp at o1;subst o1
     cases Xn:hi.map a.eval with
     |none=>rw[Xn]at o2;simp at o2;subst o2;simp[Instr.sliceBounds]
     |some v=>rw[Xn]at o2;obtain⟨k,rfl⟩:=o2;simp[Instr.sliceBounds,hb _ _ _ _ h2]
    |some u=>
     rw[hlo]at o1;obtain⟨k,rfl⟩:=o1
     cases Xn:hi.map a.eval with
     |none=>rw[Xn]at o2;simp at o2;subst o2;simp[Instr.sliceBounds,hb _ _ _ _ h1]
     |some v=>rw[Xn]at o2;obtain⟨k',rfl⟩:=o2;simp[Instr.sliceBounds,hb _ _ _ _ h2,hb _ _ _ _ h1]
   simp only[Instr.sliceAt,eL,hT.cX,hd,my,Instr.slice];simp[e1]
  grind
 ·rename_i n e bW;have hd:=kp (hT.b8.trans bW);split at h
  ·grind
  rename_i ie l7;obtain⟨ef,ed,ez,GX⟩:=hC.get l7;split at h
  ·rename_i id off hlo Xn;obtain⟨hn,b,jv,rfl⟩:=hx.am;split at h
   ·rename_i t cs hb;split at h
    ·rename_i l u r dw;split at h
     ·rename_i O4 eC;obtain⟨eC,h1n⟩:=aH eC;obtain⟨hs1,AX⟩:=aH eC;have hs1:=pb hs1;have AX:=fO AX;have h1n:=fO h1n;split at h
      ·rename_i ns IE;have hg:il C H ((id,some (.ec l))::u):=aig;obtain⟨ahR,hnv⟩:=uW IE;simp at ahR;have hH:=hg.heap hR;have hid:(Hp.on ((id,some (.ec l))::u) H) id=some (.ec l):=by simp[Hp.on,bt]
       obtain⟨_,b',arr,T',q1,q2,q3,q4,q5⟩:=hH.rel id _ hid;rw[jv]at q1;cases q1;have hnn:n=ns.length:=by omega
       have bH:(Instr.sliceAt T (.pointer (some ⟨b,off,none⟩)) none none none).run C.P w= .ok (.slice (some ⟨b,off,none⟩) n n) w:=by
        have GV: ¬n=0:=by omega
        exact afQ
       refine⟨.slice (some ⟨b,off,none⟩) n n,?_,bn.still hR hg h (co.bk (cK ?_))⟩
       ·exact aik
       ·show dy _ _ _ _;have amp:(SC.ints ns).len =n:=by grind[SC.len]
        have:= @dy.view (MV F β (Hp.on ((id,some (.ec l))::u) H) w) (MR F β (Hp.on ((id,some (.ec l))::u) H) w) (.ints ns) b off n 1 (λk=>arr.getD (off+k) undef) rfl K0 K0 K0 (λi e he=>by
         grind[SC.elem]) (λk hk=>by
         rw[ri q2 (tD hR hg.soft hid jv (off+k))]
         grind[gb]) (λi e j x he hx=>by
         simp[SC.elem]at he;obtain⟨m,hm,rfl⟩:=he;have hj:j=0:=by grind
         subst hj;simp at hx;subst hx;have hli:=hnv i m hm;simp only[gK,mZ]at hli;obtain⟨c,hc,e⟩:=hli;rw[PE]at hc;split at hc
         ·exact ajk
         grind)
        grind
      grind
     grind
    grind
   ·rename_i l hb;split at h
    ·rename_i O4 eC;obtain⟨eC,h1n⟩:=aH eC;obtain⟨hs1,AX⟩:=aH eC;have hs1:=pb hs1;have AX:=fO AX;have h1n:=fO h1n;split at h
     ·rename_i ns IE
      have hg:il C H ([]:Hp):=by
       intro p hp
       grind
      obtain⟨ahR,hnv⟩:=uW IE;simp at ahR;have hH:=hg.heap hR;have hid:(Hp.on ([]:Hp) H) id=some (.ec l):=by simpa [Hp.on]using hb
      obtain⟨_,b',arr,T',q1,q2,q3,q4,q5⟩:=hH.rel id _ hid;rw[jv]at q1;cases q1;have hnn:n=ns.length:=by omega
      have bH:(Instr.sliceAt T (.pointer (some ⟨b,off,none⟩)) none none none).run C.P w= .ok (.slice (some ⟨b,off,none⟩) n n) w:=by
       have GV: ¬n=0:=by omega
       exact afQ
      refine⟨.slice (some ⟨b,off,none⟩) n n,?_,bn.still hR hg h (co.bk (cK ?_))⟩
      ·exact aik
      ·show dy _ _ _ _;have amp:(SC.ints ns).len =n:=by grind[SC.len]
       have:= @dy.view (MV F β (Hp.on ([]:Hp) H) w) (MR F β (Hp.on ([]:Hp) H) w) (.ints ns) b off n 1 (λk=>arr.getD (off+k) undef) rfl K0 K0 K0 (λi e he=>by
        grind[SC.elem]) (λk hk=>by
        rw[ri q2 (tD hR hg.soft hid jv (off+k))]
        grind[gb]) (λi e j x he hx=>by
        simp[SC.elem]at he;obtain⟨m,hm,rfl⟩:=he;have hj:j=0:=by grind
        subst hj;simp at hx;subst hx;have hli:=hnv i m hm;simp only[gK,mZ]at hli;obtain⟨c,hc,e⟩:=hli;rw[PE]at hc;split at hc
        ·exact ajk
        grind)
       grind
     grind
    grind
   grind
  grind
 grind
end
section
variable {C:bU}{F:gN}{β:Nat->Option Nat}{N:Nat->Prop}{H:HF}{fid:Nat}{K:j8}{w w':World}{P:Program}
theorem Da {z:Nat}: ∀ {parts:List (Nat × Value)} {n:Nat} {arr:Array Value},(∀(k:Nat) (p:Nat × Value),parts[k]? =some p->p.1=n+k/\p.2.cells.size=z)->(n+parts.length)*z<=arr.size->
  ∃arr',Instr.fill (λi=>some (i*z,z)) arr parts=some arr'/\arr'.size=arr.size/\(∀(k:Nat) (p:Nat × Value) (j:Nat),parts[k]? =some p->j<z->arr'[(n+k)*z+j]? =p.2.cells[j]?)/\(∀o,o<n*z->arr'[o]? =arr[o]?)
 | [],n,arr,_,_=>⟨arr,rfl,rfl,by simp,λ_ _=>rfl⟩
 |(i,v)::parts,n,arr,hp,hs=>by
  obtain⟨hi,hv⟩:=hp 0 _ rfl;simp at hi hv;subst hi;have e1:(i+(parts.length+1))*z=i*z+z+parts.length*z:=by grind
  simp only[jP]at hs;rw[e1]at hs;have hlc:v.cells.toList.length=z:=by omega
  have nC:(aP arr (i*z) v.cells.toList).size =arr.size:=fk K0;have e2:(i+1+parts.length)*z=i*z+z+parts.length*z:=by grind
  obtain⟨arr',f1,f2,f3,f4⟩:=Da (parts:=parts) (n:=i+1) (arr:=aP arr (i*z) v.cells.toList) (λk p hk=>by
   obtain⟨h1,h2⟩:=hp (k+1) p bv
   exact⟨by omega,h2⟩) K0
  have O2:v.cells.zipIdx.foldl (λcs (p:Value × Nat)=>cs.setIfInBounds (i*z+p.2) p.1) arr=aP arr (i*z) v.cells.toList:=by
   have:=Aa (i*z) v.cells.toList 0 arr K0;exact ajP
  refine⟨arr',?_,by omega,λk p j hk hj=>?_,λo ho=>?_⟩
  ·have g1: ¬(v.cells.size≠z):=by omega
   have g2: ¬(i*z+v.cells.size>arr.size):=by omega
   simp only[Instr.fill,g1,g2,decide_false,LQ,to,kK]
   grind
  ·cases k with
   |zero=>
    simp at hk;subst hk;have:(i+1)*z=i*z+z:=by grind
    rw[CU,f4 _ K0,gc K0,if_neg K0,if_pos K0];simp
   |succ k=>
    grind
  ·have:(i+1)*z=i*z+z:=by grind
   rw[f4 o K0,gc K0,if_pos ho]
theorem Ba {ks:List Bool}{z:Nat}: ∀ {ps:List (Nat × Option DV)} {n:Nat} {es:List (List SC)} {u:Hp} {r:List Nat},kM H ks z n ps=some (es,u,r)->
  (∀p∈u,me H p)/\es.length=ps.length/\∀(k:Nat) (e:List SC),es[k]? =some e->∃x ue re,ps[k]? =some (n+k,some (.val x))/\x.2.length=z/\oA e=true/\bV H ks x.2=some (e,ue,re)/\∀q∈ue,q∈u
 | [],n,es,u,r,h=>by grind[kM]
 |p::ps,n,es,u,r,h=>by
  unfold kM at h;split at h
  grind
  ·rename_i n0 i x rest vU;cases vU;split at h
   ·rename_i hb;obtain⟨h1,h2⟩:=aH hb;have h1:=pb h1;have h2:=pb h2;subst h1;split at h
    ·rename_i e u1 r1 dw;split at h
     ·rename_i Xs u2 r2 hf abH;simp at h;obtain⟨rfl,rfl,_⟩:=h;obtain⟨q1,q2,q3⟩:=Ba abH
      grind[cN]
     grind
    grind
   grind
  grind
def YD {k:Bool}{es:List (List SC)}{c:SC}(h:Yt k es=some c):c.ao=true/\c.len=es.length/\∀i e,c.elem i=some e->es[i]? =some e:=by
 unfold Yt at h;split at h
 ·split at h
  ·rename_i l hl;simp at h;subst h;obtain⟨h1,h2⟩:=uW hl;refine⟨rfl,h1,λi e he=>?_⟩
   grind[SC.elem]
  grind
 ·simp at h;subst h;exact⟨rfl,rfl,λi e he=>he⟩
def F7 (hC:C.Ok)(hG:bJ C F)(hR:ad F β N H w)(hf: ¬N fid){E:EF}{a:Act}(hE:dM F β N H w E a){o:Oper}{T:TypeId}{len:Nat}{parts:Array (Nat × Operand)}(ho:o.op= .buildSlice T len parts)
  (h:fw C fid o (C.ev E) H K): ∃v w',(Instr.buildSlice T len (parts.map λp=>(p.1,a.eval p.2))).run C.P w= .ok v w'/\bn F β N H fid K w v w':=by
 unfold fw at h;rw[ho]at h;simp only at h;obtain⟨hl,hp⟩:=C9 hG hR hE parts;split at h
 ·rename_i i hi;obtain⟨tf,d,z,hT⟩:=hC.get hi;split at h
  ·rename_i e bW;have hd:=dq (hT.b8.trans bW);split at h
   ·rename_i ie l7;obtain⟨ef,ed,ez,GX⟩:=hC.get l7;split at h
    ·rename_i hb;obtain⟨hb,h3⟩:=aH hb;obtain⟨h1,h2⟩:=aH hb;have h1:=fO h1;have h2:=fO h2;have h3:=pb h3;split at h
     ·rename_i es u r hes;split at h
      ·rename_i c hc;obtain⟨q1,q2,q3⟩:=Ba hes;obtain⟨c1,c2,c3⟩:=YD hc;have bG:es.length=len:=by grind
       have FK: ∃xq:Array Value,xq.size=len*ie.size/\∀cells,Instr.fill (λi=>some (i*ie.size,ie.size)) xq (parts.map λ(p:Nat × Operand)=>(p.1,a.eval p.2)).toList =some cells->
         (Instr.buildSlice T len (parts.map λ(p:Nat × Operand)=>(p.1,a.eval p.2))).run C.P w= .ok (.slice (some ⟨w.heap.size,0,none⟩) len len) (w.alloc (.cells cells e)):=by
        exact K34
       obtain⟨xq,hs0,bH⟩:=FK;have pL:(parts.map λ(p:Nat × Operand)=>(p.1,a.eval p.2)).toList.length =len:=by omega
       have Pc: ∀(k:Nat) (p:Nat × Value),(parts.map λ(p:Nat × Operand)=>(p.1,a.eval p.2)).toList[k]? =some p->∃x e ue re,es[k]? =some e/\p.1=k/\x.2.length=ie.size/\au F β N H w p.2 x/\oA e=true/\bV H ie.kinds x.2=some (e,ue,re)/\∀q∈ue,q∈u:=by
        intro k p hk;have xw:k<es.length:=by grind
        obtain⟨x,ue,re,a1,a2,a3,a4,a5⟩:=q3 k es[k] bv;obtain⟨b1,b2⟩:=hp k p _ hk a1;exact⟨x,es[k],ue,re,by grind,by omega,a2,b2 _ rfl,a3,a4,a5⟩
       obtain⟨arr',f1,f2,f3,f4⟩:=Da (z:=ie.size) (parts:=(parts.map λ(p:Nat × Operand)=>(p.1,a.eval p.2)).toList) (n:=0) (arr:=xq) (λk p hk=>by
        obtain⟨x,e,ue,re,a1,a2,a3,a4,_⟩:=Pc k p hk
        exact⟨by omega,by rw[a4.cells.1,a3]⟩) bv
       refine⟨.slice (some ⟨w.heap.size,0,none⟩) len len,w.alloc (.cells arr' e),bH _ f1,?_⟩;have hg:il C H u:=il.ko q1;refine bn.new (b:=some w.heap.size) (hg.heap hR) hg.soft.tr hf (Below.oy w _) (by simp) h (λH1 xI _ t2=>?_) (λH1 xI=>cK ⟨.inr rfl,rfl,λnV z' n' hb wI=>?_⟩)
       ·have iL: ∀i e,c.elem i=some e->e.length=ie.size:=by
         grind[iD]
        refine⟨⟨h1,c1,iL⟩,.inr ⟨w.heap.size,len,by simp[cV],gN.gG hR.below.size,arr',e,gO w _,by omega,h1,c1,by omega,iL,λi e j x he hx=>?_⟩⟩;have hei:=c3 i e he;have XC:i< (parts.map λ(p:Nat × Operand)=>(p.1,a.eval p.2)).toList.length :=by grind
        obtain⟨x0,e0,ue,re,a1,a2,a3,a4,a5,a6,a7⟩:=Pc i _ (pj XC);rw[hei]at a1;cases a1;have hjz:j<ie.size:=by grind
        have:=f3 i _ j (pj XC) hjz;rw[j7]at this;rw[bQ this];have ip:=iE hR hg.soft (f:=λk=>((parts.map λ(p:Nat × Operand)=>(p.1,a.eval p.2)).toList[i]).2.cells.getD k undef) (λk d hk=>a4.cells.2 k d hk) a6 (λq hq=>hg.frozen (a7 q hq) (cN a6 q hq)) j x hx;exact(ip.flat (lR a5 j x hx)).mono t2.mv (Mem.le_refl _)
       ·exact aiF
      grind
     grind
    grind
   grind
  grind
 grind
end
section
variable {C:bU}{F:gN}{β:Nat->Option Nat}{N:Nat->Prop}{H:HF}{fid:Nat}{K:j8}{w w':World}{P:Program}
def YE {n:Int}(h0: -9223372036854775808<=n)(h1:n<=9223372036854775807):IntKind.i64.wrap n=n:=IntWalk.i64_in n ⟨h0,h1⟩
def wrap_small {n:Int}(h0:0<=n)(h1:n<=4294967296):IntKind.i64.wrap n=n:=YE K0 K0
theorem PL (k:Bool):(A5 k).flat =true:=by cases k<;>rfl
theorem qg: ∀ {ks:List Bool} {zs:List Value} {cs:List SC},qZ ks (zs.map BT)=some cs->cs.length=zs.length/\oA cs=true/\∀(mv mr:Mem) (k:Nat) (c:SC),cs[k]? =some c->∃v,zs[k]? =some v/\dy mv mr v c
 |ks,[],cs,h=>by grind[qZ,oA]
 |ks,z::zs,cs,h=>by
  rw[jd]at h
  cases hz:BT z with
  |nil=>
   rw[hz]at h;simp only[qZ]at h;split at h
   ·rename_i ds hds;simp at h;subst h;obtain⟨h1,h2,h3⟩:=qg hds;have qb:z= .slice none 0 0:=by grind[BT]
    refine⟨by grind,(show(match(A5 (ks.head?.getD false)).flat with|true=>oA ds|false=>false)=true by grind[PL]),λmv mr k c hk=>?_⟩
    cases k with
    |zero=>
     simp only[UO,lM]at hk;subst hk;refine⟨z,rfl,?_⟩;rw[qb];cases ks.head?.getD false<;>exact .empty _ _ rfl rfl
    |succ k=>simp_all
   grind
  |lit v=>
   rw[hz]at h;simp only[qZ]at h;split at h
   ·rename_i hp;split at h
    ·rename_i ds hds;simp at h;subst h;obtain⟨h1,h2,h3⟩:=qg hds
     have qb:z=v:=by
      unfold BT at hz
      grind
     refine⟨by grind,by grind[oA,SC.flat],λmv mr k c hk=>?_⟩
     cases k with
     |zero=>simp at hk;subst hk;exact⟨z,rfl,by rw[qb];exact .lit hp⟩
     |succ k=>simp_all
    grind
   grind
theorem I6 (hC:C.Ok)(hR:ad F β N H w)(hf: ¬N fid){T:TypeId}{x y:DX}{v0 v1:Value}(hx:au F β N H w v0 x)(hy:au F β N H w v1 y)(h:lQ C fid T x y K):
  ∃v w',(Instr.makeSlice T v0 v1).run C.P w= .ok v w'/\bn F β N H fid K w v w':=by
 unfold lQ at h;split at h
 ·grind
 rename_i i hi;obtain⟨tf,d,z,hT⟩:=hC.get hi;split at h
 ·rename_i e k1 n k2 m bW;have hd:=dq (hT.b8.trans bW);obtain⟨rfl,_⟩:=hx.am.bB;obtain⟨rfl,_⟩:=hy.am.bB;split at h
  ·grind
  rename_i ie l7;obtain⟨ef,ed,ez,GX⟩:=hC.get l7;split at h
  ·rename_i hb;obtain⟨hb,hz3⟩:=aH hb;obtain⟨h1,h2⟩:=aH hb;have h1:=fO h1;have h2:=fO h2;have hz3:=pb hz3;obtain⟨⟨g0,g1,g2⟩,h⟩:=h;have g3:m<=4294967296:=g2;have hzl:ez.cells.size=ie.size:=by rw[<- hz3,<- GX.xN];simp
   have anY: ¬((ie.bytes:Int)*m>2^48):=by
    have e:(2:Int)^48=281474976710656:=by decide
    rw[e];have:(ie.bytes:Int)*m<=4096*4294967296:=CY K0 g3 K0 K0;omega
   have ahz:ef.bytes=ie.bytes:=GX.bytes
   have bH: ∃arr:Array Value,arr.size=m.toNat*ie.size/\(∀o,o<arr.size->arr[o]? =ez.cells[o%ie.size]?)/\(Instr.makeSlice T (.int k1 n) (.int k2 m)).run C.P w= .ok (.slice (some ⟨w.heap.size,0,none⟩) n.toNat m.toNat) (w.alloc (.cells arr e)):=by
    refine⟨(Array.range (m.toNat*ie.size)).map (λx=>(if m.toNat*ie.size=0 then #[]else ez.cells)[x%(if m.toNat*ie.size=0 then #[]else ez.cells).size]!),by simp,λo ho=>?_,?_⟩
    ·simp at ho;have eU: ¬(m.toNat*ie.size=0):=by omega
     have Pf:o%ie.size<ie.size:=tq _ K0
     grind
    ·have e1:IntKind.i64.wrap n=n:=wrap_small g0 K0;have e2:IntKind.i64.wrap m=m:=wrap_small K0 g3;have c1: ¬m<0:=by omega
     have c2: ¬n<0:=by omega
     have c3: ¬n>m:=by omega
     simp only[Instr.makeSlice,eL,hT.cX,hd,my,asInt,asIntOf,lN,GX.XK,ahz,e1,e2,c1,c2,c3,anY,decide_false,LQ,SR,to,kK,run_askRoom,GX.iM];by_cases h0:m.toNat*ie.size=0
     ·simp[h0,newRow]
     ·simp[h0,GX.th,newRow]
   obtain⟨arr,a1,a2,bH⟩:=bH
   have key: ∀(c:SC) (el:List SC),c.ao=true->c.len=n.toNat->(∀i e,c.elem i=some e->e=el)->el.length=ie.size->(∀(mv mr:Mem) (k:Nat) (x:SC),el[k]? =some x->∃v,ez.cells[k]? =some v/\dy mv mr v x)->
     K (bm (.own fid)) [(fid,some (.row true ie.size c))] []->bn F β N H fid K w (.slice (some ⟨w.heap.size,0,none⟩) n.toNat m.toNat) (w.alloc (.cells arr e)):=by
    intro c el cv cl ce cel cz hK;refine bn.new (u:=[]) (b:=some w.heap.size) hR Tr.refl hf (Below.oy w _) (by simp) hK (λH1 xI _ t2=>?_) (λH1 xI=>cK ⟨.inr rfl,rfl,λnV z' n' hb wI=>?_⟩)
    ·have iL: ∀i e,c.elem i=some e->e.length=ie.size:=λi e he=>by grind
     refine⟨⟨h1,cv,iL⟩,.inr ⟨w.heap.size,m.toNat,by simp[cV],gN.gG hR.below.size,arr,e,gO w _,a1,h1,cv,by omega,iL,λi e' j x he hx=>?_⟩⟩;have:=ce i e' he;subst this;have hj:j<ie.size:=by grind
     obtain⟨v,v1,v2⟩:=cz (MV F (cV β fid (some w.heap.size)) H1 (w.alloc (.cells arr e))) eX j x hx;have lA:i<n.toNat:=by rw[<- cl];exact SC.iu he
     have ak:i*ie.size+j<arr.size:=by
      rw[a1];have:(i+1)*ie.size<=m.toNat*ie.size:=kE _ K0
      grind
     grind[Nat.mul_comm,Nat.mul_add_mod,Nat.mod_eq_of_lt,mi]
    ·subst xI;rw[an]at hb;cases hb;cases wI;exact .inr ⟨w.heap.size,m.toNat,arr,e,by simp[cV],by rw[cl],gO w _,a1⟩
   refine⟨_,_,bH,?_⟩;split at h
   ·split at h
    ·rename_i FK;have hzc:=GX.xN;rw[FK]at hzc
     have ma:ez.cells= #[.int .i64 0]:=by
      apply Ha
      cases hl:ez.cells.toList with
      |nil=>grind
      |cons v t=>
       rw[hl]at hzc;simp at hzc;obtain⟨hv,rfl⟩:=hzc;unfold BT at hv
       grind
     refine key _ [.lit (.int .i64 0)] rfl Yq (λi e he=>?_) bv (λmv mr k x hk=>?_) h
     grind[SC.elem]
     ·exact ai6
    grind
   ·split at h
    ·rename_i zs hzs;rw[<- GX.xN]at hzs;obtain⟨b1,b2,b3⟩:=qg hzs
     refine key _ zs rfl Yq (λi e he=>?_) bv (λmv mr k x hk=>by
      simp_all) h
     grind[SC.elem]
    grind
  grind
 grind
end
section
variable {C:bU}{F:gN}{β:Nat->Option Nat}{N:Nat->Prop}{H:HF}{fid:Nat}{K:j8}{w w':World}{P:Program}
def yh (_hG:bJ C F)(hR:ad F β N H w){b o:Nat}{v:Value}(h:MV F β H w b o=some v):rd w b o=some v:=by
 unfold MV at h;split at h
 grind
 ·exact(hR.tg b o v h).1
def Hg {mv:Mem}{c:SC}{z:Nat}{new:Array Value}(hz:0<z)(hs:new.size=c.len*z)(hl: ∀i e,c.elem i=some e->e.length=z)
  (hr: ∀(i:Nat) (e:List SC) (j:Nat) (x:SC),c.elem i=some e->e[j]? =some x->dy mv eX (new.getD (i*z+j) undef) x): ∀u∈new.toList,u.oneCell'=true:=by
 intro u hu;obtain⟨k,hk⟩:=UP.1 hu;have qR:new[k]? =some u:=by grind
 have ak:k<new.size:=(FV.1 qR).1;have hi:k/z<c.len:=by rw[XV hz];omega
 obtain⟨e,he⟩:=SC.ov hi;have hj:k%z<e.length:=by rw[hl _ e he];exact tq _ hz
 have:=hr _ e (k%z) e[k%z] he bv
 grind[Nat.div_add_mod,mi,S5]
theorem gd (hG:bJ C F)(hR:ad F β N H w){d:DC}{v:Value}{k:Bool}{c:SC}{u:Hp}{r:List Nat}{z:Nat}(hd:cw F β N H w v d)(hs:bA H k d=some (c,u,r))(hv:c.ao=true)(hz:0<z)
  (hl: ∀i e,c.elem i=some e->e.length=z): ∃(a:Option Addr) (cap:Nat) (new:Array Value),v= .slice a c.len cap/\(Builtin.firstCells z c.len v).run P w= .ok new w/\new.size=c.len*z/\c.len<=cap/\
   ∀(i:Nat) (e:List SC) (j:Nat) (x:SC),c.elem i=some e->e[j]? =some x->dy (MV F β H w) eX (new.getD (i*z+j) undef) x:=by
 have ahC:c.len=0->∀(a:Option Addr) (cap:Nat),v= .slice a 0 cap->∃(a:Option Addr) (cap:Nat) (new:Array Value),v= .slice a c.len cap/\(Builtin.firstCells z c.len v).run P w= .ok new w/\new.size=c.len*z/\c.len<=cap/\
   ∀(i:Nat) (e:List SC) (j:Nat) (x:SC),c.elem i=some e->e[j]? =some x->dy (MV F β H w) eX (new.getD (i*z+j) undef) x:=by
  rintro h0 a cap rfl;refine⟨a,cap,#[],by rw[h0],?_,by grind,by omega,λi e j x he _=>?_⟩
  ·cases a<;>simp[Builtin.firstCells,h0,loadCells,loadCellsFrom]
  ·exact ace
 cases d with
 |st c'=>
  simp[bA]at hs;obtain⟨rfl,_,_⟩:=hs;have hd:dy _ _ _ _:=hd
  cases hd with
  |lit=>grind[SC.ao]
  |empty a cap _ h0=>grind
  |view b o cap z' f _ fN wI fZ sJ hc hr=>
   obtain⟨e0,R2⟩:=SC.ov fN;have:z'=z:=by grind
   subst this;refine⟨_,cap,((List.range (c'.len*z')).map f).toArray,rfl,?_,by simp,fZ,λi e j x he hx=>?_⟩
   ·exact SO w _ _ f (λj hj=>by rw[addr_add];exact yh hG hR (hc j hj))
   ·exact ail
  |ref=>grind[SC.ao]
  |err=>grind[SC.ao]
  |num=>grind[SC.ao]
  |raw=>grind[SC.ao]
  |any=>grind[SC.ao]
  |fn=>grind[SC.ao]
 |nil=>
  simp[bA]at hs;obtain⟨rfl,_,_⟩:=hs;have:v= .slice none 0 0:=hd;exact ahC Yp none 0 this
 |own id=>
  simp only[bA]at hs;split at hs
  ·rename_i m z' c' e;simp at hs;obtain⟨rfl,_,_⟩:=hs;obtain⟨_,⟨wI,_,sJ⟩,hb⟩:=hR.rel id _ e
   rcases hd.2.2 _ z' c'.len e rfl with⟨_,h0,h1⟩|⟨b,cap,arr,T,h1,h2,h3,h4⟩
   grind
   ·by_cases h0:c'.len=0
    ·grind
    rcases hb with⟨q,_⟩|⟨b',jE,q1,q2,arr',T',q3,q4,q5,q6,q7,q8,q9⟩
    ·omega
    rw[h1]at q1;cases q1;rw[h3]at q3;cases q3;obtain⟨e0,R2⟩:=SC.ov (show 0<c'.len by omega);have:z'=z:=by grind
    subst this;have eC:c'.len*z'<=arr.size:=by rw[q4];exact kE _ q7
    have fZ:cap=jE:=UK wI K0;subst fZ;subst h2;refine⟨_,cap,((List.range (c'.len*z')).map λk=>arr.getD k undef).toArray,rfl,?_,by simp,q7,λi e j x he hx=>?_⟩
    ·exact SO w _ _ _ (λj hj=>by rw[addr_add,j7];exact gb h3 K0)
    ·exact ail
  grind[SC.ao]
  grind
 |ptr id off=>grind[bA]
 |cI id z i off=>grind[bA]
 |sL g id=>grind[bA]
 |mp id=>grind[bA]
def SC.zY {c d r:SC}(h:c.cat d=some r):c.ao=true/\d.ao=true/\r.ao=true/\r.len=c.len+d.len/\∀i e,r.elem i=some e->(i<c.len->c.elem i=some e)/\(¬i<c.len->d.elem (i -c.len)=some e):=by
 unfold SC.cat at h;split at h
 ·exact aip
 ·exact aip
 grind
def gq {T T' ty e:TypeId}{tf:TypeInfo}{e':TypeId}{z bytes:Nat}{zv:Value}(hT:P.underlying T=some (.slice e))(eJ:P.underlying T'=some (.slice e'))(hE:P.info? e=some tf)(hz:tf.size=z)(hb:tf.bytes=bytes)(hzv:tf.zero=some zv)
  {base a:Option Addr}{sLen sCap n Pg:Nat}{new old:Array Value}(hby:bytes<=4096)(FN:sLen+n<=4294967296):
  (sLen+n<=sCap->(Builtin.firstCells z n (.slice a n Pg)).run P w= .ok new w->∀w',(match base with|some a=>storeCells (a.add (sLen*z)) new.toList|none=>pure ()).run P w= .ok () w'->
   (Builtin.append_ #[T,T'] ty #[.slice base sLen sCap,.slice a n Pg]).run P w= .ok (.slice base (sLen+n) sCap) w')/\
  (¬sLen+n<=sCap->(Builtin.firstCells z sLen (.slice base sLen sCap)).run P w.drew= .ok old w.drew->(Builtin.firstCells z n (.slice a n Pg)).run P w.drew= .ok new w.drew->
   ∃dP rest,sLen+n<=dP/\rest.size=(dP -(sLen+n))*zv.cells.size/\(Builtin.append_ #[T,T'] ty #[.slice base sLen sCap,.slice a n Pg]).run P w=
    .ok (.slice (some ⟨w.heap.size,0,none⟩) (sLen+n) dP) (w.drew.alloc (.cells (old++new++rest) e))):=by
 have Pd: ∀(h:sCap<sLen+n),¬(Builtin.nextslicecap (sLen+n) sCap*bytes>2^48):=by
  intro h;have e:(2:Nat)^48=281474976710656:=by decide
  have:(sLen+n)*bytes<=4294967296*4096:=Yg FN hby;have:=growslice_fits h (bytes:=bytes) K0;omega
 have ahx: ¬(((sLen+n:Nat):Int)>IntKind.i64.max):=by grind[IntKind.max_i64]
 constructor
 ·intro nB np w' dw;simp only[Builtin.append_];simp only[LA,UO,Sk,eL,tp hT,my,tp eJ,sizeOf,typeInfo,AZ,hE,hz,lN,to,kK,Builtin.lenOf,nB,if_true,Bool.not_false,np];exact akk
 ·intro nB xA amu;obtain⟨k,hk⟩: ∃k,Question.cut (.appendCap (sLen+n) sCap e) (w.tape w.drawn (.appendCap (sLen+n) sCap e))=sLen+n+k:=⟨_,rfl⟩;refine⟨sLen+n+k,Builtin.zeroCells zv.cells (sLen+n+k -(sLen+n)),by omega,by simp[Builtin.zeroCells],?_⟩;have hq:(choose (.appendCap (sLen+n) sCap e)).run P w= .ok (sLen+n+k) w.drew:=ajv;have hzr:(zeroValue e).run P w.drew= .ok zv w.drew:=by simp[zeroValue,typeInfo,hE,hzv]
  simp only[Builtin.append_]
  simp only[LA,UO,Sk,eL,tp hT,my,tp eJ,sizeOf,typeInfo,AZ,hE,hz,lN,to,kK,Builtin.lenOf,nB,
   ahx,false_and,hb,Pd K0,hq,run_askRoom,xA,amu,Bool.not_false,if_true,hzr]
  simp[newRow];first|done|rfl
def Tr.del (id:Nat):Tr F β N H w β N (bt H id none) w where
 below:=jy.refl _ _
 mem:=λb o v _ hs e=>⟨λiW bC e' hb=>by
  by_cases h:iW=id
  grind[an]
  ·rw[aG _ _ _ h]at e';exact hs iW bC e' hb,e⟩
 used:=λ_ h=>h
 kH:=λ_ _=>rfl
 keep:=λiW bC _ e=>by
  by_cases h:iW=id
  grind[an]
  ·rw[aG _ _ _ h]at e;exact⟨bC,e,bC.fV⟩
 size:=λ_ _ _ _ arr _ _ _ _ _ _ h=>⟨arr,h,rfl⟩
 aw:=λ_ _ h=>h
def ad.del (hR:ad F β N H w)(id:Nat):ad F β N (bt H id none) w:=by
 have live: ∀ {k:Nat} {b0:cD},bt H id none k=some b0->H k=some b0:=by grind[an,aG]
 exact hR.step (Tr.del id) (λ_=>False) (λi bC _ e=>⟨live e,(hR.rel i bC (live e)).1,λ_ _=>rfl⟩) (λ_ _ h=>h.elim) (λi j b x y hi hj=>hR.inj i j b x y (live hi) (live hj))
structure Db (mv:Mem) (z:Nat) (c:SC) (arr:Array Value):Prop where
 size:arr.size=c.len*z
 zW: ∀i e,c.elem i=some e->e.length=z
 rep: ∀(i:Nat) (e:List SC) (j:Nat) (x:SC),c.elem i=some e->e[j]? =some x->dy mv eX (arr.getD (i*z+j) undef) x
def Db.cat {mv:Mem}{z:Nat}{c d r:SC}{a b rest:Array Value}(hc:Db mv z c a)(hd:Db mv z d b)(h:c.cat d=some r):
  (∀i e,r.elem i=some e->e.length=z)/\∀(i:Nat) (e:List SC) (j:Nat) (x:SC),r.elem i=some e->e[j]? =some x->dy mv eX ((a++b++rest).getD (i*z+j) undef) x:=by
 obtain⟨_,_,_,bG,iL⟩:=SC.zY h
 have uR: ∀i e,r.elem i=some e->e.length=z:=by
  intro i e he;obtain⟨h1,h2⟩:=iL i e he;by_cases hi:i<c.len
  ·exact hc.zW i e (h1 hi)
  ·exact hd.zW _ e (h2 hi)
 refine⟨uR,λi e j x he hx=>?_⟩;obtain⟨h1,h2⟩:=iL i e he;have hj:j<z:=by grind
 by_cases hi:i<c.len
 ·have ak:i*z+j<a.size:=by
   rw[hc.size];have:(i+1)*z<=c.len*z:=kE _ hi
   grind
  rw[bQ (b:=a) (l:=i*z+j) bv];exact hc.rep i e j x (h1 hi) hx
 ·have hi2:=SC.iu (h2 hi);have e1:(i -c.len)*z+c.len*z=i*z:=by exact aci
  have ak:(i -c.len)*z+j<b.size:=by
   rw[hd.size];have:(i -c.len+1)*z<=d.len*z:=kE _ hi2
   grind
  rw[bQ (b:=b) (l:=(i -c.len)*z+j) (by
   rw[XO akH,XT (by rw[hc.size];omega),hc.size]
   grind)]
  exact hd.rep _ e j x (h2 hi) hx
def Ac (hR:ad F β N H w)(hf: ¬N fid){z:Nat}{c d r:SC}{a b rest:Array Value}{e:TypeId}{dP:Nat}{m:Bool}{H0:HF}{u:Hp}{R:List Nat}(hz:0<z)(hc:Db (MV F β H w.drew) z c a)(hd:Db (MV F β H w.drew) z d b)(h:c.cat d=some r)
  (fZ:r.len<=dP)(Pa:rest.size=(dP -r.len)*z)(h0: ∀H1,H1=u.on H->H1=bt H0 fid (some (.row m z r)))(ht:Tr F β N H w.drew β N H0 w.drew)(UA:ad F β N H0 w.drew)
  (hK:K (bm (.own fid)) u R):bn F β N H fid K w (.slice (some ⟨w.heap.size,0,none⟩) r.len dP) (w.drew.alloc (.cells (a++b++rest) e)):=by
 obtain⟨_,_,hv,bG,_⟩:=SC.zY h;obtain⟨uR,ip⟩:=Db.cat (rest:=rest) hc hd h;have CE:Below w.heap.size w w.drew:=(Below.refl _ _).drew;have td:Tr F β N H w β N H w.drew:=Tr.grow hR CE;have s9:Below w.drew.heap.size w.drew (w.drew.alloc (.cells (a++b++rest) e)):=Below.oy _ _;have jv: ∀x,some w.heap.size=some x->w.drew.heap.size<=x:=λx hx=>by simp_all
 have t2:=Tr.new (w':=w.drew.alloc (.cells (a++b++rest) e)) UA s9 hf (some w.heap.size) jv (.row m z r)
 have II:(a++b++rest).size =dP*z:=by
  have e1:dP*z=(dP -r.len)*z+r.len*z:=by exact aci
  exact aj2
 have qc:(w.drew.alloc (.cells (a++b++rest) e)).heap[w.heap.size]? =some (.cells (a++b++rest) e):=gO w.drew _
 have abO:iB F (cV β fid (some w.heap.size)) (Fw.bk N fid) (bt H0 fid (some (.row m z r))) (w.drew.alloc (.cells (a++b++rest) e)) fid (.row m z r):=
  ⟨⟨hz,hv,uR⟩,.inr ⟨w.heap.size,dP,by simp[cV],gN.gG hR.below.size,_,e,qc,II,hz,hv,fZ,uR,λi e' j x he hx=>(ip i e' j x he hx).mono (ht.trans t2).mv (Mem.le_refl _)⟩⟩
 have hH:=ad.new UA s9 hf (some w.heap.size) jv (.row m z r) abO;exact K81
end
section
variable {C:bU}{F:gN}{β:Nat->Option Nat}{N:Nat->Prop}{H:HF}{fid:Nat}{K:j8}{w w':World}{P:Program}
def Hi (hR:ad F β N H w)(hf: ¬N fid){z id b cap:Nat}{c d r:SC}{arr new:Array Value}{T:TypeId}{m:Bool}{R:List Nat}(hb:H id=some (.row m z c))(xC:β id=some b)(lF:w.heap[b]? =some (.cells arr T))
  (nC:arr.size=cap*z)(hd:Db (MV F β H w) z d new)(h:c.cat d=some r)(eC:c.len+d.len<=cap)
  (hK:K (bm (.own fid)) [(fid,some (.row m z r)),(id,none)] R):bn F β N H fid K w (.slice (some ⟨b,0,none⟩) r.len cap) (w.setRow b (aP arr (c.len*z) new.toList)):=by
 obtain⟨_,_,hv,bG,_⟩:=SC.zY h;obtain⟨hn,⟨hz,hv0,sI⟩,gC⟩:=hR.rel id _ hb
 rcases gC with⟨q,_⟩|⟨b',jE,q1,q2,arr',T',q3,q4,q5,q6,q7,q8,q9⟩
 ·grind
 rw[xC]at q1;cases q1;rw[lF]at q3;cases q3;have fZ:cap=jE:=UK hz K0;subst fZ;have AX:new.toList.length=d.len*z:=by simpa using hd.size
 have Pd:c.len*z+d.len*z<=arr.size:=aj6;have O3:(aP arr (c.len*z) new.toList).size =arr.size:=fk K0;have Xm:id≠fid:=λe=>hf (e▸hn);have qc:(w.setRow b (aP arr (c.len*z) new.toList)).heap[b]? =some (.cells (aP arr (c.len*z) new.toList) T):=xV w b arr _ T (0,0) lF;have live: ∀ {k:Nat} {b0:cD},k≠fid->bt (bt H id none) fid (some (.row m z r)) k=some b0->k≠id/\H k=some b0:=by grind[aG,an]
 have hT:Tr F β N H w (cV β fid (some b)) (Fw.bk N fid) (bt (bt H id none) fid (some (.row m z r))) (w.setRow b (aP arr (c.len*z) new.toList)):=by
  refine⟨jy.setRow (hR.fY hb xC).2 _,λb' o v _ hs e=>⟨λiW bC e' jW=>?_,?_⟩,λ_ h=>.inl h,λiW Lh=>iC _ _ _ λe=>hf (e▸Lh),λiW blk' Lh e=>?_,λ_ _ _ b' xq T0 _ _ _ _ _ e=>?_,mh ⟨_,_,lF⟩ _⟩
  ·by_cases hk:iW=fid
   ·subst hk;rw[an]at e';cases e';rw[jz]at jW;cases jW;obtain⟨h1,h2⟩:=hs id _ hb xC;have:c.len*z<=r.len*z:=kE _ K0;exact⟨h1,by omega⟩
   ·exact af1
  ·by_cases hk:b'=b
   ·subst hk;obtain⟨_,h2⟩:=hs id _ hb xC;have hg:=gc (arr:=arr) (off:=c.len*z) (vs:=new.toList) K0 o;rw[if_pos h2]at hg
    grind[rd,World.cell?]
   exact ach
  ·exact afP
  grind[setRow_other]
 have hc:Db (MV F β H w) z c (arr.extract 0 (c.len*z)):=by
  refine⟨by grind,sI,λi e j x he hx=>?_⟩;have hj:j<z:=by grind
  have ak:i*z+j<c.len*z:=by
   have:(i+1)*z<=c.len*z:=kE _ (SC.iu he)
   grind
  grind[bQ]
 obtain⟨uR,ip⟩:=Db.cat (rest:=arr.extract (c.len*z+d.len*z) arr.size) hc hd h
 have anV:aP arr (c.len*z) new.toList=arr.extract 0 (c.len*z)++new++arr.extract (c.len*z+d.len*z) arr.size:=by
  apply Ha;have e1:arr.size=arr.toList.length:=by simp
  simp only[aP,Array.toList_append,Array.toList_extract,AX,e1]
  grind[List.take_of_length_le]
 have hH:ad F (cV β fid (some b)) (Fw.bk N fid) (bt (bt H id none) fid (some (.row m z r))) (w.setRow b (aP arr (c.len*z) new.toList)):=by
  refine hR.step hT (λi=>i=fid) (λi bC hi e=>?_) (λi bC hi e=>?_) (λi j x y y' hi hj bi bj=>?_)
  ·exact K73
  ·subst hi;rw[an]at e;cases e;refine⟨.inr rfl,⟨hz,hv,uR⟩,.inr ⟨b,cap,by simp[cV],q2,_,T,qc,by omega,hz,hv,by omega,uR,λi e' j x he hx=>?_⟩⟩;have:=(ip i e' j x he hx).mono hT.mv (Mem.le_refl _)
   grind
  ·exact K21
 refine⟨_,_,_,R,hK,hT,hH,cK ⟨.inr rfl,rfl,λnV z' n' jW wI=>?_⟩⟩;have:bt (bt H id none) fid (some (.row m z r)) fid=some nV:=jW;exact afM
def Dc (hf: ¬N fid){z:Nat}{r:SC}{m:Bool}{H0:HF}{u:Hp}{R:List Nat}(hz:0<z)(hv:r.ao=true)(h0:r.len=0)(hu: ∀i e,r.elem i=some e->e.length=z)
  (hH0: ∀H1,H1=u.on H->H1=bt H0 fid (some (.row m z r)))(ht:Tr F β N H w β N H0 w)(UA:ad F β N H0 w)(hK:K (bm (.own fid)) u R):bn F β N H fid K w (.slice none 0 0) w:=by
 have hw:Below w.heap.size w w:=Below.refl _ _;have t2:=Tr.new UA hw hf none (by simp) (.row m z r);have hH:=ad.new UA hw hf none (by simp) (.row m z r) ⟨⟨hz,hv,hu⟩,.inl ⟨by simp[cV],h0⟩⟩;have hu1:=hH0 _ rfl;refine⟨cV β fid none,_,u,R,hK,by rw[hu1];exact ht.trans t2,by grind,?_⟩;rw[hu1];refine cK ⟨.inr rfl,rfl,λnV z' n' hb wI=>?_⟩;exact ajt
def Va (hC:C.Ok)(hG:bJ C F)(hR:ad F β N H w)(hf: ¬N fid){T T' ty:TypeId}{i':TI}{e':TypeId}{x y:DX}{v0 v1:Value}(lA:C.ti T'=some i')(ID:i'.b8= .slice e')
  (hx:au F β N H w v0 x)(hy:au F β N H w v1 y)(h:rg C fid T x y H K):
  ∃v w',(Builtin.append_ #[T,T'] ty #[v0,v1]).run C.P w= .ok v w'/\bn F β N H fid K w v w':=by
 obtain⟨tf',d',zv',eJ⟩:=hC.get lA;have xn:=dq (eJ.b8.trans ID);have O6:C.P.underlying T'=some (.slice e'):=by rw[eJ.IP,xn]
 unfold rg at h;split at h
 ·grind
 rename_i i hi;obtain⟨tf,d,zv,hT⟩:=hC.get hi;split at h
 ·rename_i e yc bW;have hd:=dq (hT.b8.trans bW);have hu:C.P.underlying T=some (.slice e):=by rw[hT.IP,hd]
  split at h
  ·grind
  rename_i ie l7;obtain⟨ef,ed,ez,hE⟩:=hC.get l7;split at h
  ·grind
  rename_i hb;obtain⟨hb,hzl⟩:=aH hb;obtain⟨h1,h2⟩:=aH hb;have hzl:=pb hzl;have hzc:ez.cells.size=ie.size:=by exact agl
  have h1:=fO h1;have h2:=fO h2;split at h
  ·grind
  rename_i cy uy ry dw;have hyd:=hy.am;have CE:Below w.heap.size w w.drew:=(Below.refl _ _).drew;have td:Tr F β N H w β N H w.drew:=Tr.grow hR CE;have Pe:ad F β N H w.drew:=hR.grow CE;have abF:=td.jw hR hyd;split at h
  ·
   have Cg:v0= .slice none 0 0:=hx.am;subst Cg;split at h
   ·rename_i c' zN;obtain⟨hun,FN,h⟩:=h;obtain⟨_,hvy,Ps,bG,iL⟩:=SC.zY zN;have sI:(A5 (C.kI e)).len =0:=by cases C.kI e<;>rfl
    have Pw: ∀i e,cy.elem i=some e->e.length=ie.size:=by
     intro i el he;refine yg hun i el ?_;unfold SC.cat at zN
     grind[SC.elem]
    by_cases GV:cy.len=0
    ·obtain⟨a,cap,new,rfl,np,IE,Xv,ip⟩:=gd hG hR (z:=ie.size) hyd dw hvy h1 Pw;have bH:=(gq (P:=C.P) (w:=w) (ty:=ty) (base:=none) (sLen:=0) (sCap:=0) (old:= #[]) hu O6 hE.ow hE.size hE.bytes hE.zero h2 (show 0+cy.len<=4294967296 by omega)).1 K0 np w rfl;rw[GV]at bH;refine⟨_,w,by rw[GV];exact bH,?_⟩;exact Dc (u:=[(fid,some (.row true ie.size c'))]) hf h1 Ps K0 (yg hun) (λ_ h=>h) Tr.refl hR h
    ·obtain⟨a,cap,new,rfl,np,IE,Xv,ip⟩:=gd hG Pe (z:=ie.size) abF dw hvy h1 Pw
     obtain⟨dP,rest,g1,g2,bH⟩:=(gq (P:=C.P) (w:=w) (ty:=ty) (base:=none) (sLen:=0) (sCap:=0) (old:= #[]) hu O6 hE.ow hE.size hE.bytes hE.zero h2 (show 0+cy.len<=4294967296 by
      have:c'.len<=4294967296:=FN
      omega)).2 K0 akI np
     have aoj:0+cy.len=c'.len:=by omega
     rw[aoj]at bH g1 g2;refine⟨_,_,bH,?_⟩;refine Ac (u:=[(fid,some (.row true ie.size c'))]) (c:=A5 (C.kI e)) (d:=cy) (a:= #[]) (b:=new) hR hf h1 ⟨by grind,λi e he=>?_,λi e j x he _=>?_⟩ ⟨IE,Pw,ip⟩ zN K0 ?_ (λ_ h=>h) Tr.refl Pe h
     grind[SC.iu]
     grind[SC.iu]
     grind
   grind
  ·rename_i id;split at h
   ·rename_i m z c hbk;split at h
    ·rename_i c' qb zN;have qb:=pb qb;subst qb;obtain⟨hun,FN,h⟩:=h;obtain⟨hvc,hvy,Ps,bG,iL⟩:=SC.zY zN;have Pw:=yg hun;obtain⟨hn,h1c,jr⟩:=hx.am;have hxd:cw F β N H w v0 (.own id):=hx.am;obtain⟨_,⟨hz,_,sI⟩,gC⟩:=hR.rel id _ hbk;obtain⟨us,ahM⟩: ∃us,bA H false (.own id)=some (c,us,[id]):=by simp[bA,hbk]
     have abC:(∀i e,c'.elem i=some e->e.length=ie.size):=by grind
     have OX:c.len+cy.len<=4294967296:=by
      have:c'.len<=4294967296:=FN;omega
     have afu: ∀(base:Option Addr) (cap:Nat),v0= .slice base c.len cap->¬c.len+cy.len<=cap->∃v w',(Builtin.append_ #[T,T'] ty #[v0,v1]).run C.P w= .ok v w'/\bn F β N H fid K w v w':=by
      rintro base cap rfl hgt;obtain⟨a,Pg,new,rfl,np,IE,Xv,ip⟩:=gd hG Pe (z:=ie.size) abF dw hvy h1 Pw;obtain⟨a0,ahD,old,e0,xA,hos,amP,abE⟩:=gd hG Pe (z:=ie.size) (td.jw hR hxd) ahM hvc h1 sI;cases e0;obtain⟨dP,rest,g1,g2,bH⟩:=(gq (P:=C.P) (w:=w) (ty:=ty) (base:=base) (sLen:=c.len) (sCap:=cap) hu O6 hE.ow hE.size hE.bytes hE.zero h2 OX).2 hgt xA np;rw[<- bG]at bH g1 g2;refine⟨_,_,bH,?_⟩;refine Ac (u:=[(fid,some (.row m ie.size c')),(id,none)]) (H0:=bt H id none) hR hf h1 ⟨hos,sI,abE⟩ ⟨IE,Pw,ip⟩ zN g1 ?_ (λ_ h=>h) (Tr.del id) (Pe.del id) h
      grind
     rcases jr _ ie.size c.len hbk rfl with⟨b1,b2,rfl⟩|⟨b,cap,arr,T0,b1,rfl,b3,b4⟩
     ·by_cases GV:cy.len=0
      ·obtain⟨a,cap,new,rfl,np,IE,Xv,ip⟩:=gd hG hR (z:=ie.size) hyd dw hvy h1 Pw;have bH:=(gq (P:=C.P) (w:=w) (ty:=ty) (base:=none) (sLen:=0) (sCap:=0) (old:= #[]) hu O6 hE.ow hE.size hE.bytes hE.zero h2 (show 0+cy.len<=4294967296 by omega)).1 K0 np w rfl;rw[GV]at bH;refine⟨_,w,by rw[GV];exact bH,?_⟩;exact Dc (u:=[(fid,some (.row m ie.size c')),(id,none)]) (H0:=bt H id none) hf h1 Ps K0 abC (λ_ h=>h) (Tr.del id) (hR.del id) h
      grind
     ·by_cases nB:c.len+cy.len<=cap
      ·obtain⟨a,Pg,new,rfl,np,IE,Xv,ip⟩:=gd hG hR (z:=ie.size) hyd dw hvy h1 Pw;have s8:=Hg h1 IE Pw ip
       have Pd:c.len*ie.size+new.toList.length<=arr.size:=by
        have:new.toList.length=cy.len*ie.size:=by omega
        exact ajU
       have am4:=Su C.P b (c.len*ie.size) T0 new.toList 0 arr w b3 K0 s8
       have bH:=(gq (P:=C.P) (w:=w) (ty:=ty) (base:=some ⟨b,0,none⟩) (sLen:=c.len) (sCap:=cap) (old:= #[]) hu O6 hE.ow hE.size hE.bytes hE.zero h2 OX).1 nB np (w.setRow b (aP arr (c.len*ie.size) new.toList)) (by
        simp only[addr_add,j7]
        grind[aP])
       rw[<- bG]at bH;exact⟨_,_,bH,Hi hR hf hbk b1 b3 b4 ⟨IE,Pw,ip⟩ zN nB h⟩
      grind
    grind
   grind
  grind
 grind
def tK {T T' ty e:TypeId}{tf:TypeInfo}{kq kn:IntKind}{z bytes:Nat}{zv:Value}(hT:P.underlying T=some (.slice e))(eJ:P.underlying T'=some (.int kn))(hE:P.info? e=some tf)(hz:tf.size=z)(hb:tf.bytes=bytes)(hzv:tf.zero=some zv)
  {base:Option Addr}{sLen sCap n:Nat}{old:Array Value}(hby:bytes<=4096)(FN:sLen+n<=4294967296)(hz0:0<z):
  (sLen+n<=sCap->∀w',(match base with|some a=>storeCells (a.add (sLen*z)) (Builtin.zeroCells zv.cells n).toList |none=>pure ()).run P w= .ok () w'->
   (Builtin.append_ #[T,T'] ty #[.slice base sLen sCap,.int kq n]).run P w= .ok (.slice base (sLen+n) sCap) w')/\
  (¬sLen+n<=sCap->(Builtin.firstCells z sLen (.slice base sLen sCap)).run P w.drew= .ok old w.drew->
   ∃dP rest,sLen+n<=dP/\rest.size=(dP -(sLen+n))*zv.cells.size/\(Builtin.append_ #[T,T'] ty #[.slice base sLen sCap,.int kq n]).run P w=
    .ok (.slice (some ⟨w.heap.size,0,none⟩) (sLen+n) dP) (w.drew.alloc (.cells (old++Builtin.zeroCells zv.cells n++rest) e))):=by
 have Pd: ∀(h:sCap<sLen+n),¬(Builtin.nextslicecap (sLen+n) sCap*bytes>2^48):=by
  intro h;have e:(2:Nat)^48=281474976710656:=by decide
  have:(sLen+n)*bytes<=4294967296*4096:=Yg FN hby;have:=growslice_fits h (bytes:=bytes) K0;omega
 have ahx: ¬(((sLen+n:Nat):Int)>IntKind.i64.max):=by grind[IntKind.max_i64]
 have hw:IntKind.i64.wrap (n:Int)=n:=wrap_small K0 K0;have KR: ¬((n:Int)<0):=by omega
 have h48: ¬((n:Int)*(bytes:Int)>2^48):=by
  have e:(2:Int)^48=281474976710656:=by decide
  rw[e];have:(n:Int)*(bytes:Int)<=4294967296*4096:=CY K0 K0 K0 K0;omega
 have hzr: ∀w,(zeroValue e).run P w= .ok zv w:=λw=>by simp[zeroValue,typeInfo,hE,hzv]
 have h0: ∀w:World,(if n*z=0 then pure #[]else(do pure (Builtin.zeroCells (<- zeroValue e).cells n):Sem (Array Value))).run P w= .ok (Builtin.zeroCells zv.cells n) w:=by
  intro w;by_cases h:n=0
  ·subst h;simp[Builtin.zeroCells]
  ·have: ¬n*z=0:=Nat.mul_ne_zero h K0;simp_all
 constructor
 ·intro nB w' dw;simp only[Builtin.append_];simp only[LA,UO,Sk,eL,tp hT,my,tp eJ,sizeOf,typeInfo,AZ,hE,hz,hb,lN,if_true,asInt,asIntOf,hw,KR,kK,h48,sP,nB,Bool.not_true,to];rw[show((if n*z=0 then pure #[]else zeroValue e>>= λx=>pure (Builtin.zeroCells x.cells n):Sem (Array Value)).run P w)= .ok (Builtin.zeroCells zv.cells n) w from h0 w];exact akk
 ·intro nB xA;obtain⟨k,hk⟩: ∃k,Question.cut (.appendCap (sLen+n) sCap e) (w.tape w.drawn (.appendCap (sLen+n) sCap e))=sLen+n+k:=⟨_,rfl⟩;refine⟨sLen+n+k,Builtin.zeroCells zv.cells (sLen+n+k -(sLen+n)),by omega,by simp[Builtin.zeroCells],?_⟩;have hq:(choose (.appendCap (sLen+n) sCap e)).run P w= .ok (sLen+n+k) w.drew:=ajv;simp only[Builtin.append_]
  simp only[LA,UO,Sk,eL,tp hT,my,tp eJ,sizeOf,typeInfo,AZ,hE,hz,hb,lN,if_true,asInt,asIntOf,hw,KR,kK,h48,sP,nB,Bool.not_true,to,
   ahx,false_and,Pd K0,hq,run_askRoom,xA]
  rw[show((if n*z=0 then pure #[]else zeroValue e>>= λx=>pure (Builtin.zeroCells x.cells n):Sem (Array Value)).run P w.drew)= .ok (Builtin.zeroCells zv.cells n) w.drew from h0 w.drew];simp[hzr,newRow]
theorem Dd (_hC:C.Ok){e:TypeId}{ie:TI}{ef:TypeInfo}{ed:TypeDesc}{ez:Value}(hE:L4 C.P e ie ef ed ez){n:Nat}{cy:SC}(aoM:1<=ie.size)(hzc:ez.cells.size=ie.size)(h:IX C e ie n=some cy)(mv:Mem):
  cy.ao=true/\cy.len=n/\Db mv ie.size cy (Builtin.zeroCells ez.cells n):=by
 have key: ∀(c:SC) (el:List SC),c.ao=true->c.len=n->(∀i e,c.elem i=some e->e=el)->el.length=ie.size->(∀(mv mr:Mem) (k:Nat) (x:SC),el[k]? =some x->∃v,ez.cells[k]? =some v/\dy mv mr v x)->
   c.ao=true/\c.len=n/\Db mv ie.size c (Builtin.zeroCells ez.cells n):=by
  intro c el cv cl ce cel cz;refine⟨cv,cl,by grind[Builtin.zeroCells],λi e he=>by grind,λi e j x he hx=>?_⟩;have:=ce i e he;subst this;have hj:j<ie.size:=by grind
  obtain⟨v,v1,v2⟩:=cz mv eX j x hx;have lA:i<n:=by rw[<- cl];exact SC.iu he
  have ak:i*ie.size+j<n*ie.size:=by
   have:(i+1)*ie.size<=n*ie.size:=kE _ K0
   grind
  have hm:(i*ie.size+j)%ie.size=j:=by grind[Nat.mul_comm,Nat.mul_add_mod,Nat.mod_eq_of_lt]
  rw[mi (v:=v) (by
   simp only[Builtin.zeroCells,hzc,Array.getElem?_map,Array.getElem?_range,ak,if_true,xR,hm]
   grind)]
  exact v2
 unfold IX at h;split at h
 ·split at h
  ·rename_i FK;simp at h;subst h;have aet:=hE.xN;rw[FK]at aet
   have ma:ez.cells= #[.int .i64 0]:=by
    apply Ha
    cases hl:ez.cells.toList with
    |nil=>grind
    |cons v t=>
     rw[hl]at aet;simp at aet;obtain⟨hv,rfl⟩:=aet;unfold BT at hv
     grind
   refine key _ [.lit (.int .i64 0)] rfl Yq (λi e he=>?_) bv (λmv mr k x hk=>?_)
   grind[SC.elem]
   ·exact ai6
  grind
 ·split at h
  ·rename_i zs hzs;simp at h;subst h;rw[<- hE.xN]at hzs;obtain⟨b1,b2,b3⟩:=qg hzs
   refine key _ zs rfl Yq (λi e he=>?_) bv (λmv mr k x hk=>by
    simp_all)
   grind[SC.elem]
  grind
def PM (hC:C.Ok)(hG:bJ C F)(hR:ad F β N H w)(hf: ¬N fid){T T' ty:TypeId}{i':TI}{k':IntKind}{x y:DX}{v0 v1:Value}(lA:C.ti T'=some i')(ID:i'.b8= .int k')
  (hx:au F β N H w v0 x)(hy:au F β N H w v1 y)(h:qe C fid T x y H K):
  ∃v w',(Builtin.append_ #[T,T'] ty #[v0,v1]).run C.P w= .ok v w'/\bn F β N H fid K w v w':=by
 obtain⟨tf',d',zv',eJ⟩:=hC.get lA;have xn:=rj (eJ.b8.trans ID);have O6:C.P.underlying T'=some (.int k'):=by rw[eJ.IP,xn]
 unfold qe at h;split at h
 ·grind
 rename_i i hi;obtain⟨tf,d,zv,hT⟩:=hC.get hi;split at h
 ·rename_i e kq n bW;have hd:=dq (hT.b8.trans bW);have hu:C.P.underlying T=some (.slice e):=by rw[hT.IP,hd]
  obtain⟨rfl,_⟩:=hy.am.bB;split at h
  ·grind
  rename_i ie l7;obtain⟨ef,ed,ez,hE⟩:=hC.get l7;split at h
  ·grind
  rename_i hb;obtain⟨hb,hzl⟩:=aH hb;obtain⟨h1,h2⟩:=aH hb;have hzl:=pb hzl;have hzc:ez.cells.size=ie.size:=by exact agl
  have h1:=fO h1;have h2:=fO h2;obtain⟨⟨GV,hn1⟩,h⟩:=h;split at h
  ·grind
  rename_i cy hzr;obtain⟨m0,rfl⟩: ∃m:Nat,n=m:=⟨n.toNat,by omega⟩;rw[sP]at hzr;have CE:Below w.heap.size w w.drew:=(Below.refl _ _).drew;have td:Tr F β N H w β N H w.drew:=Tr.grow hR CE;have Pe:ad F β N H w.drew:=hR.grow CE;obtain⟨hvy,hly,hcd⟩:=Dd hC hE h1 hzc hzr (MV F β H w.drew);obtain⟨_,_,R6⟩:=Dd hC hE h1 hzc hzr (MV F β H w);split at h
  ·rename_i id;split at h
   ·rename_i m z c hbk;split at h
    ·rename_i c' qb zN;have qb:=pb qb;subst qb;obtain⟨FN,h⟩:=h;obtain⟨hvc,_,Ps,bG,iL⟩:=SC.zY zN;obtain⟨hn,h1c,jr⟩:=hx.am;have hxd:cw F β N H w v0 (.own id):=hx.am;obtain⟨_,⟨hz,_,sI⟩,gC⟩:=hR.rel id _ hbk;obtain⟨us,ahM⟩: ∃us,bA H false (.own id)=some (c,us,[id]):=by simp[bA,hbk]
     have OX:c.len+m0<=4294967296:=by
      have:c'.len<=4294967296:=FN;omega
     have abC:(∀i e,c'.elem i=some e->e.length=ie.size):=by
      intro i e he;obtain⟨g1,g2⟩:=iL i e he;by_cases hi:i<c.len
      grind
      ·exact R6.zW _ e (g2 hi)
     have afu: ∀(base:Option Addr) (cap:Nat),v0= .slice base c.len cap->¬c.len+m0<=cap->∃v w',(Builtin.append_ #[T,T'] ty #[v0,.int kq m0]).run C.P w= .ok v w'/\bn F β N H fid K w v w':=by
      rintro base cap rfl hgt;obtain⟨a0,ahD,old,e0,xA,hos,amP,abE⟩:=gd hG Pe (z:=ie.size) (td.jw hR hxd) ahM hvc h1 sI;cases e0;obtain⟨dP,rest,g1,g2,bH⟩:=(tK (P:=C.P) (w:=w) (ty:=ty) (kq:=kq) (base:=base) (sLen:=c.len) (sCap:=cap) hu O6 hE.ow hE.size hE.bytes hE.zero h2 OX h1).2 hgt xA;have el:c.len+m0=c'.len:=by omega
      rw[el]at bH g1 g2;refine⟨_,_,bH,?_⟩;refine Ac (u:=[(fid,some (.row m ie.size c')),(id,none)]) (H0:=bt H id none) hR hf h1 ⟨hos,sI,abE⟩ hcd zN g1 ?_ (λ_ h=>h) (Tr.del id) (Pe.del id) h
      grind
     rcases jr _ ie.size c.len hbk rfl with⟨b1,b2,rfl⟩|⟨b,cap,arr,T0,b1,rfl,b3,b4⟩
     ·by_cases hm0:m0=0
      ·subst hm0;have bH:=(tK (P:=C.P) (w:=w) (ty:=ty) (kq:=kq) (base:=none) (sLen:=0) (sCap:=0) (n:=0) (old:= #[]) hu O6 hE.ow hE.size hE.bytes hE.zero h2 K0 h1).1 K0 w rfl;refine⟨_,w,bH,?_⟩;exact Dc (u:=[(fid,some (.row m ie.size c')),(id,none)]) (H0:=bt H id none) hf h1 Ps K0 abC (λ_ h=>h) (Tr.del id) (hR.del id) h
      grind
     ·by_cases nB:c.len+m0<=cap
      ·have s8: ∀u∈(Builtin.zeroCells ez.cells m0).toList,u.oneCell'=true:=Hg h1 R6.size R6.zW R6.rep
       have Pd:c.len*ie.size+(Builtin.zeroCells ez.cells m0).toList.length <=arr.size:=by
        have:(Builtin.zeroCells ez.cells m0).toList.length =cy.len*ie.size:=by simpa using R6.size
        rw[this,b4,<- SY];exact kE _ K0
       have am4:=Su C.P b (c.len*ie.size) T0 (Builtin.zeroCells ez.cells m0).toList 0 arr w b3 K0 s8
       have bH:=(tK (P:=C.P) (w:=w) (ty:=ty) (kq:=kq) (base:=some ⟨b,0,none⟩) (sLen:=c.len) (sCap:=cap) (n:=m0) (old:= #[]) hu O6 hE.ow hE.size hE.bytes hE.zero h2 OX h1).1 nB (w.setRow b (aP arr (c.len*ie.size) (Builtin.zeroCells ez.cells m0).toList)) (by
        simp only[addr_add,j7]
        grind[aP])
       have el:c.len+m0=c'.len:=by omega
       rw[el]at bH;exact⟨_,_,bH,Hi hR hf hbk b1 b3 b4 R6 zN K0 h⟩
      grind
    grind
   grind
  grind
 grind
def YF {mv mr:Mem}{v x:Value}(h:dy mv mr v (.lit x)):v=x:=aji
theorem Bb: ∀ {es:List (List SC)} {l:List UInt8},md es=some l->∀(i:Nat) (e:List SC),(SC.view es).elem i=some e->∃n,e= [.lit (.int .u8 n)]
 | [],_,_,i,e,he=>by grind[SC.elem]
 |x::es,l,h,i,e,he=>by
  unfold md at h;split at h
  grind
  ·rename_i n r vU;cases vU;split at h
   ·rename_i l' sJ
    cases i with
    |zero=>grind[SC.elem]
    |succ i=>exact Bb sJ i e ab3
   grind
  grind
theorem yi: ∀ {es:List (List SC)} {l:List UInt8},md es=some l->∃ns:List Int,ns.length=es.length/\∀(k:Nat) (n:Int),ns[k]? =some n->(SC.view es).elem k=some [.lit (.int .u8 n)]
 | [],_,_=>⟨[],rfl,λk n h=>by grind⟩
 |x::es,l,h=>by
  unfold md at h;split at h
  grind
  ·rename_i n r vU;cases vU;split at h
   ·rename_i l' sJ;obtain⟨ns,h1,h2⟩:=yi sJ;refine⟨n::ns,by grind,λk m hk=>?_⟩
    grind[SC.elem]
   grind
  grind
theorem L8: ∀(ns:List Int) (acc:ByteArray),ns.foldl (λr n=>r.push (UInt8.ofNat n.toNat)) acc=⟨acc.data++(ns.map λn=>UInt8.ofNat n.toNat).toArray⟩
 | [],acc=>by simp
 |n::ns,acc=>by
  rw[Yc,L8 ns];simp_all
theorem De: ∀ {es:List (List SC)} {l:List UInt8} {ns:List Int},md es=some l->ns.length=es.length->(∀(k:Nat) (n:Int),ns[k]? =some n->(SC.view es).elem k=some [.lit (.int .u8 n)])->ns.map (λn=>UInt8.ofNat n.toNat)=l
 | [],l,ns,h,hl,_=>by grind[md]
 |x::es,l,[],h,hl,_=>by grind
 |x::es,l,m::ns,h,hl,hn=>by
  unfold md at h;split at h
  grind
  ·rename_i n r vU;cases vU;split at h
   ·rename_i l' sJ;simp at h;subst h;have h0:=hn 0 m rfl;simp[SC.elem]at h0;subst h0;rw[jd,De sJ bv λk n hk=>by simpa [SC.elem]using hn (k+1) n bv]
   grind
  grind
theorem YG (hC:C.Ok)(hG:bJ C F)(hR:ad F β N H w){S T:TypeId}{x:DX}{v0:Value}(hx:au F β N H w v0 x)(h:yb C S T x H K):
  ∃v,(convert S T v0).run C.P w= .ok v w/\bn F β N H fid K w v w:=by
 unfold yb at h;split at h
 ·rename_i i j hi hj;obtain⟨tf,d,z,hT⟩:=hC.get hi;obtain⟨tf',d',z',eJ⟩:=hC.get hj;split at h
  ·rename_i k1 h1;split at h;case h_2=>grind
   rename_i k2 k3 n h2;have hd:=rj (hT.b8.trans h1);have xn:=rj (eJ.b8.trans h2);obtain⟨rfl,_⟩:=hx.am.bB;refine⟨_,?_,bn.pure hR h (fT rfl)⟩;simp[convert,hT.cX,eJ.cX,hd,xn,Conv.intToInt]
  ·rename_i h1;split at h;case h_2=>grind
   rename_i s h2;have hd:=mf (hT.b8.trans h1);have xn:=mf (eJ.b8.trans h2);obtain⟨rfl,_⟩:=hx.am.bB;refine⟨_,?_,bn.pure hR h (fT rfl)⟩;simp[convert,hT.cX,eJ.cX,hd,xn]
  ·rename_i e h1;split at h;case h_2=>grind
   rename_i dd h2;have hd:=dq (hT.b8.trans h1);have xn:=mf (eJ.b8.trans h2);split at h
   ·rename_i es uu rr hby dw;split at h
    ·rename_i l hl;unfold z8 at hby;split at hby
     ·rename_i ie l7;obtain⟨ef,ed,ez,hE⟩:=hC.get l7;split at hby
      ·rename_i jg;have hz1:=pb hby;have hed:=rj (hE.b8.trans jg);have hes: ∀i e,(SC.view es).elem i=some e->e.length=1:=λi e he=>by grind[Bb]
       obtain⟨a,cap,new,rfl,bH,nC,fZ,ip⟩:=gd hG hR (z:=1) hx.am dw rfl K9 hes;obtain⟨ns,IE,hbs⟩:=yi hl
       have np:new.toList=ns.map (Value.int .u8):=by
        apply SJ;intro k;by_cases hk:k<es.length
        ·obtain⟨n,hn⟩: ∃n,ns[k]? =some n:=⟨ns[k]'K0,pj K0⟩;have he:=hbs k n hn;have:=ip k _ 0 _ he rfl;simp only[A0,CU]at this;have Li:k<new.size:=by grind[SC.len]
         have hr2:=YF this;simp_all
        grind[SC.len]
       have e1:(SC.view es).len =ns.length:=by grind[SC.len]
       refine⟨_,?_,bn.pure hR h (fT rfl)⟩;simp only[convert,eL,hT.cX,eJ.cX,hd,xn,my]
       cases a with
       |none=>
        have:new= #[]:=by simpa [Builtin.firstCells]using bH.symm
        rw[this]at np;have aof:ns= []:=by grind
        subst aof;have sI:l= []:=by grind[md]
        subst sI;simp[hE.cX,hed,Conv.bytesToString];rfl
       |some a=>
        have afw:(loadCells a (SC.view es).len).run C.P w= .ok (ns.map (Value.int .u8)).toArray w:=by
         have:(ns.map (Value.int .u8)).toArray =new:=by grind
         rw[this];simpa [Builtin.firstCells]using bH
        have hb:=De hl IE hbs;simp only[hE.cX,hed,my];rw[e1]at afw ⊢;rw[run_bytesToString w a ns.length cap ns afw,L8,hb];simp
      grind
     grind
    grind
   grind
  grind
 grind
end
section
variable {C:bU}{F:gN}{β:Nat->Option Nat}{N:Nat->Prop}{H:HF}{fid:Nat}{K:j8}{w w':World}{P:Program}
theorem Hj: ∀ {ds:List (Option DV)} {l:List SV} {u:Hp} {r:List Nat},cH.firsts H ds=some (l,u,r)->(∀p∈u,me H p)/\l.length=ds.length/\
  ∀(j:Nat) (g:Bool) (cs:List SC),l[j]? =some (g,cs)->∃x ue re,ds[j]? =some (some (.val x))/\x.1=g/\bV H [] x.2=some (cs,ue,re)/\∀q∈ue,q∈u
 | [],l,u,r,h=>by grind[cH.firsts]
 |d::ds,l,u,r,h=>by
  unfold cH.firsts at h;split at h
  grind
  ·rename_i x xs vU;cases vU;split at h
   ·rename_i c u1 r1 h1;split at h
    ·rename_i cs u2 r2 h2;simp at h;obtain⟨rfl,rfl,_⟩:=h;obtain⟨q1,q2,q3⟩:=Hj h2;refine⟨λp hp=>?_,by grind,λj g c' hj=>?_⟩
     grind[cN]
     ·cases j with
      |zero=>
       grind
      |succ j=>
       obtain⟨x',ue,re,a1,a2,a3,a4⟩:=q3 j g c' bv
       grind
    grind
   grind
  grind
def S9 (C:bU)(H:HF)(u:Hp)(d:Option DV)(cs:List SC):Prop:=
 (∃id,d=some (.val (false,[.ptr id 0]))/\(H id=some (.ec cs)\/((id,some (.ec cs))∈u/\∃t ds ue re,H id=some (.box t ds)/\bV H (C.kinds t) ds=some (cs,ue,re)/\∀q∈ue,q∈u)))\/
 d=some (.val (false,[.st (.ref cs)]))
def S9.mono {u v:Hp}(h: ∀q∈u,q∈v){d:Option DV}{cs:List SC}(hc:S9 C H u d cs):S9 C H v d cs:=by
 rcases hc with⟨id,h1,h2|⟨h2,t,ds,ue,re,h3,h4,h5⟩⟩|h1
 ·exact .inl ⟨id,h1,.inl h2⟩
 ·exact .inl ⟨id,h1,.inr ⟨h _ h2,t,ds,ue,re,h3,h4,λq hq=>h _ (h5 q hq)⟩⟩
 ·exact .inr h1
theorem yj: ∀ {ds:List (Option DV)} {l:List (List SC)} {u:Hp} {r:List Nat},cH.capts C H ds=some (l,u,r)->il C H u/\l.length=ds.length/\∀(j:Nat) (cs:List SC),l[j]? =some cs->∃d,ds[j]? =some d/\S9 C H u d cs
 | [],l,u,r,h=>by grind[cH.capts,il]
 |d::ds,l,u,r,h=>by
  unfold cH.capts at h;split at h
  grind
  ·rename_i id xs vU;cases vU;split at h
   ·rename_i cs hb;split at h
    ·rename_i l2 u2 r2 h2;simp at h;obtain⟨rfl,rfl,_⟩:=h;obtain⟨q1,q2,q3⟩:=yj h2;refine⟨q1,by grind,λj c' hj=>?_⟩
     cases j with
     |zero=>simp at hj;subst hj;exact⟨_,rfl,.inl ⟨id,rfl,.inl hb⟩⟩
     |succ j=>grind
    grind
   ·rename_i t cs hb;split at h
    ·rename_i c u1 r1 h1;split at h
     ·rename_i l2 u2 r2 h2;simp at h;obtain⟨rfl,rfl,_⟩:=h;obtain⟨q1,q2,q3⟩:=yj h2
      have hg:il C H ((id,some (.ec c))::(u1++u2)):=by
       intro p hp;rcases dl.1 hp with rfl|hp
       ·exact .inr ⟨t,cs,c,u1,r1,hb,rfl,h1,λq hq=>ji _ (iz.2 (.inl hq))⟩
       ·rcases iz.1 hp with hp|hp
        ·exact .inl (cN h1 p hp)
        ·rcases q1 p hp with h|⟨t',xz,l',ul',rl',e1,e2,e3,e4⟩
         ·exact .inl h
         ·exact .inr ⟨t',xz,l',ul',rl',e1,e2,e3,λq hq=>ji _ (iz.2 (.inr (e4 q hq)))⟩
      refine⟨hg,by grind,λj c' hj=>?_⟩
      cases j with
      |zero=>
       simp at hj;subst hj;exact⟨_,rfl,.inl ⟨id,rfl,.inr ⟨by simp,t,cs,u1,r1,hb,h1,λq hq=>ji _ (iz.2 (.inl hq))⟩⟩⟩
      |succ j=>
       obtain⟨d',e1,e2⟩:=q3 j c' bv;exact⟨d',by grind,e2.mono λq hq=>ji _ (iz.2 (.inr hq))⟩
     grind
    grind
   grind
  ·rename_i cs xs vU;cases vU;split at h
   ·rename_i l2 u2 r2 h2;simp at h;obtain⟨rfl,rfl,_⟩:=h;obtain⟨q1,q2,q3⟩:=yj h2;refine⟨q1,by grind,λj c' hj=>?_⟩
    cases j with
    |zero=>simp at hj;subst hj;exact⟨_,rfl,.inr rfl⟩
    |succ j=>grind
   grind
  grind
def YH (hR:ad F β N H w){id b:Nat}{cs:List SC}(hb:H id=some (.ec cs))(xC:β id=some b):dy (MV F β H w) (MR F β H w) (.pointer (some ⟨b,0,none⟩)) (.ref cs):=by
 obtain⟨_,b',arr,T,h1,h2,h3,h4,h5⟩:=hR.rel id _ hb;rw[xC]at h1;cases h1;refine .ref b 0 (λk=>arr.getD k undef) (λk hk=>?_) h5;rw[j7];unfold MR;rw[if_pos h2,ri h2 (tD hR (pg.refl H) hb xC k)]
 grind[gb]
def L9 (hG:bJ C F)(hR:ad F β N H w){E:EF}{a:Act}(hE:dM F β N H w E a){f:FuncId}{first bM:Array Operand}
  (h:cH C f (first.toList.map (C.ev E)) (bM.toList.map (C.ev E)) H K):
  ∃v,(Instr.makeFunc (.func f) (first.map a.eval) (bM.map a.eval)).run P w= .ok v w/\bn F β N H fid K w v w:=by
 unfold cH at h;split at h
 ·rename_i fs u1 r1 h1;split at h
  ·rename_i cs u2 r2 h2;obtain⟨p1,p2,p3⟩:=Hj h1;obtain⟨q1,q2,q3⟩:=yj h2;have hg:il C H (u1++u2):=(il.ko p1).append q1;have hH:=hg.heap hR
   have mb: ∀ {ue:Hp} {ks:List Bool} {ds:List DC} {l:List SC} {re:List Nat},bV H ks ds=some (l,ue,re)->(∀q∈ue,q∈u1++u2)->∀p∈ue,∃z c,p.2=some (.row false z c)/\(Hp.on (u1++u2) H) p.1=some (.row false z c):=
    λhs hq p hp=>hg.frozen (hq p hp) (cN hs p hp)
   refine⟨_,rfl,bn.still hR hg h (co.bk (cK ?_))⟩
   have uU: ∀(j:Nat) (g:Bool) (c:List SC),fs[j]? =some (g,c)->eu (MV F β (Hp.on (u1++u2) H) w) (MR F β (Hp.on (u1++u2) H) w) ((first.map a.eval).getD j undef) (g,c):=by
    intro j g c hj;obtain⟨x,ue,re,e1,e2,e3,e4⟩:=p3 j g c hj;simp at e1;obtain⟨o,ho,o9⟩:=e1;have hx:au F β N H w (a.eval o) x:=mB hG hR hE o9;have iV:(first.map a.eval).getD j undef=a.eval o:=by simp_all
    rw[iV];have hq: ∀q∈ue,q∈u1++u2:=λq hq=>iz.2 (.inl (e4 q hq));obtain⟨xg,xc⟩:=x;simp at e2;subst e2;cases xg
    ·obtain⟨d,hd,IF⟩:=hx;simp at hd;subst hd;have hl:=iD e3;obtain⟨c0,rfl⟩: ∃c0,c= [c0]:=xO.1 K0;refine⟨c0,rfl,?_⟩
     exact iE hR hg.soft (f:=λ_=>a.eval o) (λk d' hk=>by
      grind) e3 (mb e3 hq) 0 c0 rfl
    ·obtain⟨arr,h3,h4,h5⟩:=hx;refine⟨arr,h3,by grind[iD],?_⟩;exact iE hR hg.soft (f:=λk=>arr.getD k undef) h5 e3 (mb e3 hq)
   refine .fn _ _ (λj=>match(first.map a.eval).getD j undef with| .agg arr=>arr|_=> #[]) bv bv (λj c hj=>?_) (λj c hj=>?_) (λj c hj=>?_) (λj c k x hj hk=>?_) (λj c hj=>?_)
   ·exact akD
   ·exact akD
   ·obtain⟨arr,h3,h4,_⟩:=uU j _ _ hj
    grind
   ·obtain⟨arr,h3,h4,h5⟩:=uU j _ _ hj
    grind
   ·obtain⟨d,e1,e2⟩:=q3 j c hj;simp at e1;obtain⟨o,ho,o9⟩:=e1;have iV:(bM.map a.eval).getD j undef=a.eval o:=by simp_all
    rw[iV];rcases e2 with⟨id,rfl,e2⟩|rfl
    ·have hx:au F β N H w (a.eval o) _:=mB hG hR hE o9;obtain⟨hn,b,jv,hp⟩:=hx.am;rw[hp];refine YH hH ?_ jv;rcases e2 with e2|⟨e2,t,ds,ue,re,e3,e4,e5⟩
     ·rcases hg.soft id with h|⟨_,_,_,h,_⟩|⟨_,_,_,h,_⟩
      grind
      grind
      grind
     ·exact hg.afC (iz.2 (.inr e2)) e3 e4
    ·have hx:au F β N H w (a.eval o) _:=mB hG hR hE o9;exact dy.mono (pg.tr (N:=N) hg.soft).mv (pg.tr (N:=N) hg.soft).mr hx.am
  grind
 grind
end
section
variable {C:bU}{F:gN}{β:Nat->Option Nat}{N:Nat->Prop}{H:HF}{fid:Nat}{K:j8}{w w':World}{P:Program}
def wg (hG:bJ C F)(hR:ad F β N H w):(MR F β H w).le (rd w):=by grind[IZ]
theorem Bc {k:Bool}{d:DC}{c:SC}{u:Hp}{r:List Nat}(h:m7 C H k d=some (c,u,r)): ∀p∈u,me H p:=by
 cases d with
 |ptr id off=>
  grind[m7,cN]
 |st c'=>exact nG (d:=.st c') (k:=k) h
 |nil=>exact nG (d:=.nil) (k:=k) h
 |own id=>exact nG (d:=.own id) (k:=k) h
 |cI id z i off=>
  grind[m7,cN]
 |sL g id=>grind[m7,bA]
 |mp id=>grind[m7,bA]
def qh {cs:List SC}{b off:Nat}{mv:Mem}{arr:Array Value}{T:TypeId}(h3:w.heap[b]? =some (.cells arr T))(h4:arr.size=cs.length)(h5: ∀(k:Nat) (x:SC),cs[k]? =some x->dy mv (rd w) (arr.getD k undef) x):
  dy mv (rd w) (.pointer (some ⟨b,off,none⟩)) (.ref (cs.drop off)):=by
 refine .ref b off (λk=>arr.getD (off+k) undef) (λk hk=>gb h3 bv) (λk x hx=>?_)
 grind
def yk {cs:List SC}{b o off:Nat}{mv:Mem}{arr:Array Value}{T:TypeId}(h3:w.heap[b]? =some (.cells arr T))(h4:o+cs.length<=arr.size)(h5: ∀(k:Nat) (x:SC),cs[k]? =some x->dy mv (rd w) (arr.getD (o+k) undef) x):
  dy mv (rd w) (.pointer (some ⟨b,o+off,none⟩)) (.ref (cs.drop off)):=by
 refine .ref b (o+off) (λk=>arr.getD (o+off+k) undef) (λk hk=>gb h3 bv) (λk x hx=>?_)
 grind
theorem Ma (hG:bJ C F)(hR:ad F β N H w){u0:Hp}(hg:il C H u0){v:Value}{k:Bool}{d:DC}{c:SC}{u:Hp}{r:List Nat}(hd:cw F β N H w v d)(h:m7 C H k d=some (c,u,r))(hu: ∀p∈u,p∈u0):
  dy (MV F β (u0.on H) w) (rd w) v c:=by
 have hH:=hg.heap hR;have mb: ∀p∈u,∃z c,p.2=some (.row false z c)/\(u0.on H) p.1=some (.row false z c):=λp hp=>hg.frozen (hu p hp) (Bc h p hp);have base:bA H k d=some (c,u,r)->dy (MV F β (u0.on H) w) (rd w) v c:=λh1=>(Hd hR hg.soft hd h1 mb).mono (Mem.le_refl _) (wg hG hH)
 cases d with
 |ptr id off=>
  obtain⟨hn,b,jv,rfl⟩:=hd;simp only[m7]at h;split at h
  ·rename_i cs hb;simp at h;obtain⟨rfl,_,_⟩:=h;obtain⟨_,b',arr,T,h1,h2,h3,h4,h5⟩:=hR.rel id _ hb;rw[jv]at h1;cases h1;exact qh h3 h4 λk x hx=>(h5 k x hx).mono (pg.tr (N:=N) hg.soft).mv (Mem.le_trans (wg hG hR) (Mem.le_refl _))
  ·rename_i t cs hb;split at h
   ·rename_i l u1 r1 hs;simp at h;obtain⟨rfl,rfl,_⟩:=h;obtain⟨_,b',arr,T,h1,h2,h3,h4,h5⟩:=hR.rel id _ hb;rw[jv]at h1;cases h1;have:=iE hR hg.soft (f:=λk=>arr.getD k undef) h5 hs mb;exact qh h3 (by grind[iD]) λk x hx=>(this k x hx).mono (Mem.le_refl _) (wg hG hH)
   grind
  grind
 |st c'=>exact base h
 |nil=>exact base h
 |own id=>exact base h
 |sL g id=>exact base h
 |mp id=>exact base h
 |cI id z i off=>
  obtain⟨hn,b,jv,rfl⟩:=hd;simp only[m7]at h;split at h
  ·rename_i z' l hb;split at h
   ·rename_i e qb iL;have qb:=pb qb;subst qb;split at h
    ·rename_i cs u1 r1 hs;simp at h;obtain⟨rfl,rfl,_⟩:=h;obtain⟨_,⟨hz,hl⟩,q|⟨b',cap,arr,T,q1,q2,q3,q4,q5,q6⟩⟩:=hR.rel id _ hb
     grind
     ·rw[jv]at q1;cases q1;have bG:=hl i e iL;have hi:i<l.length:=(kJ.1 iL).1;have:=iE hR hg.soft (f:=λk=>arr.getD (i*z+k) undef) (λk d hk=>q6 i e k d iL hk) hs mb;refine yk q3 ?_ λk x hx=>(this k x hx).mono (Mem.le_refl _) (wg hG hH);rw[iD hs,bG,q4];have:(i+1)*z<=cap*z:=kE _ K0
      grind
    grind
   grind
  ·rename_i m z' c0 hb;split at h
   ·rename_i e qb iL;have qb:=pb qb;subst qb;simp at h;obtain⟨rfl,_,_⟩:=h;obtain⟨_,⟨hz,hv,hl⟩,q|⟨b',cap,q1,q2,arr,T,q3,q4,q5,q6,q7,q8,q9⟩⟩:=hR.rel id _ hb
    grind
    ·rw[jv]at q1;cases q1;have bG:=hl i e iL;have hi:=SC.iu iL;refine yk q3 ?_ λk x hx=>(q9 i e k x iL hx).mono (pg.tr (N:=N) hg.soft).mv (ee _);rw[bG,q4];have:(i+1)*z<=cap*z:=kE _ K0
     grind
   grind
  grind
theorem Df: ∀ {ks:List Bool} {ds:List DC} {l:List SC} {u:Hp} {r:List Nat},oB C H ks ds=some (l,u,r)->(∀p∈u,me H p)/\l.length=ds.length/\
  ∀(k:Nat) (c:SC),l[k]? =some c->∃d kb ue re,ds[k]? =some d/\m7 C H kb d=some (c,ue,re)/\∀q∈ue,q∈u
 |ks,[],l,u,r,h=>by grind[oB]
 |ks,d::ds,l,u,r,h=>by
  simp only[oB]at h;split at h
  ·rename_i c u1 r1 h1;split at h
   ·rename_i cs u2 r2 h2;simp at h;obtain⟨rfl,rfl,_⟩:=h;obtain⟨q1,q2,q3⟩:=Df h2
    grind[Bc]
   grind
  grind
theorem yl: ∀ {ts:List TypeId} {xs:List DX} {l:List SV} {u:Hp} {r:List Nat},pl C H ts xs=some (l,u,r)->(∀p∈u,me H p)/\l.length=xs.length/\
  ∀(k:Nat) (g:Bool) (cs:List SC),l[k]? =some (g,cs)->∃x ks ue re,xs[k]? =some x/\x.1=g/\oB C H ks x.2=some (cs,ue,re)/\∀q∈ue,q∈u
 |ts,[],l,u,r,h=>by grind[pl]
 |ts,x::xs,l,u,r,h=>by
  simp only[pl]at h;split at h
  ·rename_i c u1 r1 h1;split at h
   ·rename_i cs u2 r2 h2;simp at h;obtain⟨rfl,rfl,_⟩:=h;obtain⟨q1,q2,q3⟩:=yl h2;obtain⟨p1,_,_⟩:=Df h1
    grind
   grind
  grind
theorem Hk (hG:bJ C F)(hR:ad F β N H w){u0:Hp}(hg:il C H u0){v:Value}{x:DX}{ks:List Bool}{cs:List SC}{u:Hp}{r:List Nat}(hx:au F β N H w v x)(h:oB C H ks x.2=some (cs,u,r))(hu: ∀p∈u,p∈u0):
  eu (MV F β (u0.on H) w) (rd w) v (x.1,cs):=by
 obtain⟨q1,q2,q3⟩:=Df h;obtain⟨g,ds⟩:=x;cases g
 ·obtain⟨d,hd,IF⟩:=hx;simp at hd;subst hd;obtain⟨c0,rfl⟩: ∃c0,cs= [c0]:=xO.1 K0;obtain⟨d',kb,ue,re,a1,a2,a3⟩:=q3 0 c0 rfl;simp at a1;subst a1;exact⟨c0,rfl,Ma hG hR hg IF a2 λq hq=>hu q (a3 q hq)⟩
 ·obtain⟨arr,h3,h4,h5⟩:=hx;refine⟨arr,h3,by grind,λk c hk=>?_⟩
  grind[Ma]
theorem ym: ∀ {ds:List (Option DV)} {xs:List DX},IY ds=some xs->xs.length=ds.length/\∀(k:Nat) (x:DX),xs[k]? =some x->ds[k]? =some (some (.val x))
 | [],xs,h=>by grind[IY]
 |d::ds,xs,h=>by
  unfold IY at h;split at h
  grind
  ·rename_i x r vU;cases vU;split at h
   ·rename_i l hl;simp at h;subst h;obtain⟨h1,h2⟩:=ym hl
    grind
   grind
  grind
def pf.append {mv mr:Mem}{a b:Array Value}{x y:List SV}(h:pf mv mr a x)(k:pf mv mr b y):pf mv mr (a++b) (x++y):=by
 refine⟨by simp[h.1,k.1],λj z hz=>?_⟩;by_cases hj:j<x.length
 ·rw[UN hj]at hz;rw[bQ (b:=a) (l:=j) (by rw[XO (by rw[h.1];exact hj)])];exact h.2 j z hz
 ·rw[XP K0]at hz;rw[bQ (b:=b) (l:=j -x.length) (by rw[XT (by rw[h.1];omega),h.1])];exact k.2 _ z hz
def eQ.later (hG:bJ C F)(hR:ad F β N H w):eQ C.gl (rd w):=by
 intro g cs hm;obtain⟨h0,h9⟩:=hG.ok g cs hm;refine⟨λk x hx=>?_,λfN=>?_⟩
 ·obtain⟨v,h1,h2⟩:=h0 k x hx;exact⟨v,hR.below.rd (tE h1 (hG.UI g cs hm (Nat.lt_of_le_of_lt (dD _) (kJ.1 hx).1))) h1,h2⟩
 ·obtain⟨v,h1,_⟩:=h0 0 cs[0] bv;have e:rd w g cs.length=rd F.w0 g cs.length:=PA (w:=F.w0) (a:=⟨g,cs.length,none⟩) (hR.below.block g (IS _ _ h1) (tE h1 (hG.UI g cs hm fN)))
  grind
def YI (hR:ad F β N H w)(hw:Below w.heap.size w w'):(dX (MV F β H w) w.heap.size w').le (MV F β H w'):=by
 intro b o v h;unfold dX at h;split at h
 ·rename_i hb;have FT:F.dL b:=gN.gG (pd hR.below.size hb);rw[ri FT];omega
  ·intro id bC e jv;have:=(hR.fY e jv).1;omega
 ·exact(Tr.grow hR hw).mv b o v h
theorem eu.dyn {x:SV}{v:Value}(h:eu (MV F β H w) (MR F β H w) v x):au F β N H w v (dyn x):=by
 obtain⟨g,cs⟩:=x;cases g
 ·obtain⟨c,hc,hr⟩:=h;simp at hc;subst hc;exact⟨.st c,rfl,hr⟩
 ·obtain⟨arr,h1,h2,h3⟩:=h;refine⟨arr,h1,by grind[Fw.dyn],λk c hk=>?_⟩;simp only[Fw.dyn,gK]at hk
  cases hc:cs[k]? with
  |none=>grind
  |some x=>simp[hc]at hk;subst hk;exact h3 k x hc
theorem tM: ∀ {ks:List Bool} {ds:List DC} {l:List SC} {u:Hp},bV H ks ds=some (l,u,[])->u= []
 |_,[],_,_,h=>by grind[bV]
 |ks,d::ds,l,u,h=>by
  simp only[bV]at h;split at h
  ·rename_i c u1 r1 h1;split at h
   ·rename_i cs u2 r2 h2;simp only[lM,ij,List.append_eq_nil_iff]at h;obtain⟨_,rfl,rfl,rfl⟩:=h;rw[tM h2,xS]
    cases d with
    |own id=>
     grind[bA]
    |st=>grind[bA]
    |nil=>grind[bA]
    |ptr=>grind[bA]
    |cI=>grind[bA]
    |sL=>grind[bA]
    |mp=>grind[bA]
   grind
  grind
theorem YJ {k:Bool}{d:DC}{c c0:SC}{id iW z0:Nat}(h:m7 C H k d=some (c,[(id,some (.row false z0 c0))],[iW])):d= .own id/\H id=some (.row true z0 c0)/\c=c0:=by
 cases d with
 |st=>grind[m7,bA]
 |nil=>grind[m7,bA]
 |sL=>grind[m7,bA]
 |mp=>grind[m7,bA]
 |cI=>
  grind[m7,tM]
 |own i=>
  simp only[m7,bA]at h
  grind
 |ptr i off=>
  grind[m7,tM]
theorem YK (hG:bJ C F)(hR:ad F β N H w)(hf: ¬N fid){E:EF}{a:Act}(hE:dM F β N H w E a){o:Oper}{c:Call}{fo:Operand}(ho:o.op= .call c)(hc:c.callee= .value fo){Q:Exit->Act->World->Prop}
  {f:FuncId}{first:List SV}{bM:List (List SC)}{xs:List DX}{l:List SV}{u:Hp}{rs:List Nat}{r:lO}{Sa:List TypeId}(KY:C.ev E fo=some (.val (false,[.st (.fn f first bM)])))(FF:IY (c.args.toList.map (C.ev E))=some xs)
  (dw:pl C H Sa xs=some (l,u,rs))(i8:akN C.P f (first++l++bM.map λcs=>(false,[.ref cs])) r)(hK:je fid u rs K r):
  o.wp C.P a w (λa' w'=>∃v,a'=a.put o.dst v/\bn F β N H fid K w v w') Q:=by
 cases r with
 |one=>exact i8.elim
 |aI=>exact i8.elim
 |own=>exact i8.elim
 |mix=>exact i8.elim
 |uV z c'=>
 obtain⟨c0,dQ,XE,Ps,bG,uR,Cg,gC⟩:=i8;simp only[je]at hK;split at hK;case h_2=>grind
 rename_i id z0 c1 iW;split at hK;case h_2=>grind
 rename_i jv;obtain⟨xH,hb2⟩:=aH jv;have xH:=pb xH;have hb2:=pb hb2;subst xH hb2;obtain⟨q1,q2,q3⟩:=yl dw;obtain⟨v1,v2⟩:=ym FF
 cases xs with
 |nil=>grind[pl]
 |cons x xs=>
 simp only[pl]at dw;split at dw;case h_2=>grind
 rename_i cc u1 r1 h1;split at dw;case h_2=>grind
 rename_i cs u2 r2 h2;simp only[lM,ij]at dw;obtain⟨rfl,hu,hr⟩:=dw;have hl:=aQ List.length dQ;simp only[sO,jP,jj,xT]at hl;obtain rfl:first= []:=CN.1 K0
 obtain rfl:bM= []:=CN.1 K0;obtain rfl:cs= []:=CN.1 K0;obtain rfl:xs= []:=by grind
 simp[pl]at h2;obtain⟨rfl,rfl⟩:=h2;simp only[xS]at hu hr;subst hu hr;simp at dQ;obtain⟨g,ds⟩:=x;simp only at dQ h1;obtain⟨rfl,rfl⟩:=dQ
 have hds: ∃d k,ds= [d]/\m7 C H k d=some (c0,[(id,some (.row false z c1))],[id]):=by
  cases ds with
  |nil=>grind[oB]
  |cons d ds=>
   simp only[oB]at h1;split at h1;case h_2=>cases h1
   rename_i ca ua ra ha;split at h1;case h_2=>cases h1
   rename_i cb ub rb hb;simp only[lM,ij,BR]at h1;obtain⟨⟨rfl,rfl⟩,e1,e2⟩:=h1
   cases ds with
   |nil=>
    grind[oB]
   |cons d' ds=>
    grind[oB]
 obtain⟨d,k,rfl,hs⟩:=hds;obtain⟨rfl,hid,rfl⟩:=YJ hs;have mb:au F β N H w (a.eval fo) _:=mB hG hR hE KY;have GP:dy (MV F β H w) (MR F β H w) (a.eval fo) (.fn f [] []):=mb.am;have FD:a.eval fo= .func (.func f) #[] #[]:=aiw;have hd:=v2 0 _ rfl;simp at hd;obtain⟨oo,ho1,ho2⟩:=hd;have s8:c.args.map a.eval= #[a.eval oo]:=by grind
 have jr:cw F β N H w (a.eval oo) (.own id):=(mB hG hR hE ho2).am
 have bH:(execOp a.eval o).run C.P w= .ok (.enter f #[a.eval oo]) w:=by
  unfold iN at XE;split at XE
  ·rename_i fn GP;obtain⟨FH,mV⟩:=aH XE;obtain⟨body,mV⟩:=qW.1 mV;have xu:(fn.name=="runtime.NumGoroutine")=false:=by grind
   simp only[execOp,ho,resolve,hc,FD,Deferred.ofValue,eL,lN,my,invoke,callFunc,AZ,GP,xu,mV,SE,to,kK,s8];simp
  grind
 unfold Oper.wp;rw[bH];obtain⟨hn,⟨hz,hv0,sI⟩,abO⟩:=hR.rel id _ hid;have Xm:id≠fid:=λe=>hf (e▸hn)
 rcases jr.2.2 _ _ _ hid rfl with⟨b0,b1,b2⟩|⟨b,cap,arr,T,b0,b1,b2,b3⟩
 ·show Calls C.P f #[a.eval oo] w _;rw[b2];refine(Cg b1 w).mono λe w1 he=>?_;obtain⟨rfl,s9⟩:=he;refine⟨_,rfl,?_⟩;have tG:=Tr.grow hR s9;have xI:=hR.grow s9;have live: ∀ {k:Nat} {b0:cD},k≠id->bt H id (some (.row true z c')) k=some b0->H k=some b0:=λhk h=>by grind[aG]
  have t2:Tr F β N H w1 β N (bt H id (some (.row true z c'))) w1:=by
   refine⟨jy.refl _ _,λbb o v _ hs e=>⟨λiW bC e' hb=>?_,e⟩,λ_ h=>h,λ_ _=>rfl,λiW bC _ e=>?_,λ_ _ _ _ arr _ _ _ _ _ _ h=>⟨arr,h,rfl⟩,λ_ _ h=>h⟩
   ·by_cases h:iW=id
    grind
    ·exact hs iW bC (live h e') hb
   ·by_cases h:iW=id
    ·subst h;rw[an]at e;cases e;exact⟨_,hid,rfl,by omega⟩
    ·exact⟨bC,live h e,bC.fV⟩
  have hN:ad F β N (bt H id (some (.row true z c'))) w1:=by
   refine xI.step t2 (λi=>i=id) (λi bC hi e=>⟨live hi e,(xI.rel i bC (live hi e)).1,λ_ _=>rfl⟩) (λi bC hi e=>?_) (λi j bb x y hi hj bi bj=>?_)
   ·subst hi;rw[an]at e;cases e;exact⟨hn,⟨hz,Ps,uR⟩,.inl ⟨b0,by omega⟩⟩
   ·by_cases h1:i=id
    grind
    ·by_cases h2:j=id
     grind
     ·exact xI.inj i j bb x y (live h1 hi) (live h2 hj) bi bj
  exact ajo
 ·have hbl:=hR.rel id _ hid
  rcases abO with⟨h3,_⟩|⟨b',jE,p1,p2,arr',T',r1,r2,r3,r4,r5,r6,r7⟩
  ·grind
  rw[b0]at p1;cases p1;rw[b2]at r1;cases r1;have fZ:cap=jE:=UK hz K0;subst fZ;show Calls C.P f #[a.eval oo] w _;rw[b1];refine(gC (MV F β H w) w b cap arr T b2 b3 r5 r7).mono λe w' he=>?_;obtain⟨rfl,w1,aem,s9,rfl,hs2,amL⟩:=he;refine⟨_,rfl,?_⟩;have tG:=Tr.grow hR s9;have xI:=hR.grow s9
  have xH:w1.heap[b]? =some (.cells arr T):=by
   rw[<- b2];exact s9.block _ (hR.fY hid b0).1
  have vH:(cD.row true z c0).zX (.row true z c'):=⟨rfl,by omega⟩;have dw: ∀o,(cD.row true z c0).tm o->(cD.row true z c').tm o/\aem[o]? =arr[o]? :=λo h=>by cases h.1
  have t2:=Tr.write (N:=N) xI hid b0 xH hs2 vH dw;have hN:=ad.write (N:=N) xI hid b0 xH hs2 vH dw ⟨⟨hz,Ps,uR⟩,.inr ⟨b,cap,b0,p2,aem,T,xV w1 b arr aem T (0,0) xH,by omega,hz,Ps,by omega,uR,λi e j x he hx=>(amL i e j x he hx).mono (tG.trans t2).mv (Mem.le_refl _)⟩⟩;exact ajo
theorem Mb {mv mr mv' CF:Mem}{v:Value}{x:SV}(hl:xZ x.2=true)(h:eu mv mr v x):eu mv' CF v x:=by
 have cell: ∀ {cs:List SC} {k:Nat} {c:SC} {v:Value},xZ cs=true->cs[k]? =some c->dy mv mr v c->dy mv' CF v c:=by
  intro cs
  induction cs with
  |nil=>grind
  |cons d cs ih=>
   intro k c v hl hk hr
   cases d with
   |lit z=>
    cases k with
    |zero=>
     simp at hk;subst hk
     cases hr with
     |lit h=>exact .lit h
     |empty a cap hv=>grind[SC.ao]
     |view _ _ _ _ _ hv=>grind[SC.ao]
    |succ k=>grind[xZ]
   |_=>grind[xZ]
 unfold eu at*;split
 grind
 ·rename_i hx;rw[if_neg hx]at h;obtain⟨c,h1,h2⟩:=h;exact⟨c,h1,cell (k:=0) hl bv h2⟩
theorem Hl: ∀ {l:List SV} {k:Nat} {x:SV},L3 l=true->l[k]? =some x->xZ x.2=true
 | [],k,x,_,hk=>by grind
 |y::l,k,x,h,hk=>by
  unfold L3 at h;split at h
  ·cases k with
   |zero=>grind
   |succ k=>exact Hl h (by simpa using hk)
  grind
theorem Dh (hR:ad F β N H w)(hf: ¬N fid){u:Hp}{rs:List Nat}{r:lO}{v:Value}{w1:World}(hg:il C H u)(s9:Below w.heap.size w w1)(lE:qY (MV F β (u.on H) w) w.heap.size w1 v r)(hK:je fid u rs K r):
  bn F β N H fid K w v w1:=by
 have hH:=hg.heap hR;have tS:Tr F β N H w β N (u.on H) w:=hg.soft.tr;have tG:=Tr.grow hH s9;have xI:=hH.grow s9;have eC:=YI hH s9
 cases r with
 |one x=>
  simp only[je]at hK
  cases hl:xZ x.2 with
  |true=>
   rw[hl]at hK;exact⟨β,_,_,_,hK,(Tr.grow hR s9).bk,(hR.grow s9).bk,co.bk (eu.dyn (Mb hl lE))⟩
  |false=>
  rw[hl]at hK;refine⟨β,_,_,_,hK,(tS.trans tG).bk,xI.bk,co.bk ?_⟩;exact eu.dyn (lE.mono eC (ee _))
 |aI lr=>
  obtain⟨arr,rfl,h2,h3⟩:=lE;simp only[je]at hK
  cases hl:L3 lr with
  |true=>
   rw[hl]at hK;refine⟨β,_,_,_,hK,(Tr.grow hR s9).bk,(hR.grow s9).bk,co.bk ⟨arr,rfl,by grind,λk x hx=>?_⟩⟩
   grind[eu.dyn,Mb,Hl]
  |false=>
  rw[hl]at hK;refine⟨β,_,_,_,hK,(tS.trans tG).bk,xI.bk,co.bk ⟨arr,rfl,by grind,λk x hx=>?_⟩⟩;rw[gK]at hx
  cases hy:lr[k]? with
  |none=>grind
  |some y=>
   rw[hy]at hx;cases hx;exact eu.dyn ((h3 k _ hy).mono eC (ee _))
 |own z c=>
  rcases lE with⟨rfl,h0,hv,hz,hl⟩|⟨b,cap,rfl,hb,arr,T,r1,r2,r3,r4,r5,r6,r7⟩
  ·have t2:=Tr.new xI (Below.refl _ _) hf none (by simp) (.row true z c);have hN:=ad.new xI (Below.refl _ _) hf none (by simp) (.row true z c) ⟨⟨hz,hv,hl⟩,.inl ⟨by simp[cV],h0⟩⟩;refine⟨_,_,_,_,hK,(tS.trans tG).trans t2,hN,cK ⟨.inr rfl,rfl,λnV z' n' hb wI=>?_⟩⟩;rw[Hp.on,an]at hb;cases hb;cases wI;exact .inl ⟨by simp[cV],h0,rfl⟩
  ·have jv: ∀x,some b=some x->w.heap.size<=x:=λx hx=>by grind
   have t2:=Tr.new hH s9 hf (some b) jv (.row true z c);have aes:((dX (MV F β (u.on H) w) w.heap.size w1).but b).le (MV F (cV β fid (some b)) (bt (u.on H) fid (some (.row true z c))) w1):=K55;have hN:=ad.new hH s9 hf (some b) jv (.row true z c) ⟨⟨r3,r4,r6⟩,.inr ⟨b,cap,by simp[cV],gN.gG (pd hH.below.size hb),arr,T,r1,r2,r3,r4,r5,r6,λi e j x he hx=>(r7 i e j x he hx).mono aes (Mem.le_refl _)⟩⟩;refine⟨_,_,_,_,hK,tS.trans t2,hN,cK ⟨.inr rfl,rfl,λnV z' n' jW wI=>?_⟩⟩;rw[Hp.on,an]at jW;cases jW;cases wI;exact aj3
 |uV z c=>exact lE.elim
 |mix t lr z c=>
  obtain⟨vo,m,hvo,lE⟩:=lE
  have key: ∃cQ,Tr F β N H w cQ (bk N fid) (bt (u.on H) fid (some (.row true z c))) w1/\ad F cQ (bk N fid) (bt (u.on H) fid (some (.row true z c))) w1/\
    cw F cQ (bk N fid) (bt (u.on H) fid (some (.row true z c))) w1 vo (.own fid)/\m.le (MV F cQ (bt (u.on H) fid (some (.row true z c))) w1):=by
   rcases hvo with⟨rfl,h0,hv,hz,hl,rfl⟩|⟨b,cap,rfl,hb,⟨arr,T,r1,r2,r3,r4,r5,r6,r7⟩,rfl⟩
   ·have t2:=Tr.new xI (Below.refl _ _) hf none (by simp) (.row true z c);have hN:=ad.new xI (Below.refl _ _) hf none (by simp) (.row true z c) ⟨⟨hz,hv,hl⟩,.inl ⟨by simp[cV],h0⟩⟩;refine⟨_,(tS.trans tG).trans t2,hN,⟨.inr rfl,rfl,λnV z' n' hb wI=>?_⟩,Mem.le_trans eC t2.mv⟩;exact ajt
   ·have jv: ∀x,some b=some x->w.heap.size<=x:=λx hx=>by grind
    have t2:=Tr.new hH s9 hf (some b) jv (.row true z c);have aes:((dX (MV F β (u.on H) w) w.heap.size w1).but b).le (MV F (cV β fid (some b)) (bt (u.on H) fid (some (.row true z c))) w1):=K55;have hN:=ad.new hH s9 hf (some b) jv (.row true z c) ⟨⟨r3,r4,r6⟩,.inr ⟨b,cap,by simp[cV],gN.gG (pd hH.below.size hb),arr,T,r1,r2,r3,r4,r5,r6,λi e j x he hx=>(r7 i e j x he hx).mono aes (Mem.le_refl _)⟩⟩;refine⟨_,tS.trans t2,hN,⟨.inr rfl,rfl,λnV z' n' jW wI=>?_⟩,aes⟩;rw[an]at jW;cases jW;cases wI;exact aj3
  obtain⟨cQ,ht,hN,jr,hm⟩:=key
  have afz: ∀ {v:Value} {x:Bool × List (Option SC)},BS m vo v x->au F cQ (bk N fid) (bt (u.on H) fid (some (.row true z c))) w1 v (L2 fid x):=by
   rintro v ⟨g,cs⟩ hx
   have IK: ∀ {v:Value} {o:Option SC},PH m vo v o->cw F cQ (bk N fid) (bt (u.on H) fid (some (.row true z c))) w1 v (aeJ fid o):=by
    intro v o hc
    cases o with
    |none=>have hc:v=vo:=hc;rw[hc];exact jr
    |some c=>exact dy.mono hm (ee _) hc
   cases g
   ·obtain⟨c,hc,hr⟩:=hx;simp at hc;subst hc;exact⟨_,rfl,IK hr⟩
   ·obtain⟨arr,h1,h2,h3⟩:=hx;refine⟨arr,h1,by grind[L2],λk c hk=>?_⟩
    grind[L2]
  cases t
  ·obtain⟨x,rfl,hx⟩:=lE;exact⟨cQ,_,_,_,hK,ht,hN,afz hx⟩
  ·obtain⟨arr,rfl,h2,h3⟩:=lE;refine⟨cQ,_,_,_,hK,ht,hN,⟨arr,rfl,by grind,λk x hx=>?_⟩⟩;rw[gK]at hx
   cases hy:lr[k]? with
   |none=>grind
   |some y=>rw[hy]at hx;cases hx;exact afz (h3 k _ hy)
theorem I7: ∀ {xs:List DX},okN xs=true->∀(k:Nat) (x:DX),xs[k]? =some x->(∃s,x=(false,[.st s]))\/x=(false,[.nil])
 | [],_,k,x,hk=>by grind
 |y::xs,h,k,x,hk=>by
  unfold okN at h;split at h
  grind
  ·rename_i s l hy;cases hy
   cases k with
   |zero=>grind
   |succ k=>exact I7 h k x bv
  ·rename_i l hy;cases hy
   cases k with
   |zero=>grind
   |succ k=>exact I7 h k x bv
  grind
theorem YL (hG:bJ C F)(hR:ad F β N H w)(hf: ¬N fid){E:EF}{a:Act}(hE:dM F β N H w E a){o:Oper}{c:Call}{fo:Operand}(ho:o.op= .call c)(hc:c.callee= .value fo){Q:Exit->Act->World->Prop}
  {f:FuncId}{first:List SV}{bM:List (List SC)}{xs:List DX}(KY:C.ev E fo=some (.val (false,[.st (.fn f first bM)])))(FF:IY (c.args.toList.map (C.ev E))=some xs)
  (h:wP C fid f first bM xs K):
  o.wp C.P a w (λa' w'=>∃v,a'=a.put o.dst v/\bn F β N H fid K w v w') Q:=by
 unfold wP at h;split at h;case h_2=>grind
 rename_i fC;obtain⟨r,i8,hK⟩:=h;have mb:au F β N H w (a.eval fo) _:=mB hG hR hE KY;have GP:dy (MV F β H w) (MR F β H w) (a.eval fo) (.fn f [] []):=mb.am;have FD:a.eval fo= .func (.func f) #[] #[]:=aiw;obtain⟨v1,v2⟩:=ym FF;have hg:il C H []:=il.ko (λp hp=>by cases hp);have wJ:(MV F β H w).le (rd w):=λb o v h=>yh hG hR h
 have bH:(execOp a.eval o).run C.P w= .ok (.enter f (c.args.map a.eval)) w:=by
  have XE:=i8.1;unfold iN at XE;split at XE
  ·rename_i fn GP;obtain⟨FH,mV⟩:=aH XE;obtain⟨body,mV⟩:=qW.1 mV;have xu:(fn.name=="runtime.NumGoroutine")=false:=by grind
   simp only[execOp,ho,resolve,hc,FD,Deferred.ofValue,eL,lN,my,invoke,callFunc,AZ,GP,xu,mV,SE,to,kK];simp
  grind
 unfold Oper.wp;rw[bH]
 have dQ: ∀k x,xs[k]? =some x->∃d,x=(false,[d])/\akP (MV F β H w) (rd w) ((c.args.map a.eval).getD k undef) d:=by
  intro k x hx;have hd:=v2 k x hx;simp at hd;obtain⟨oo,ho1,ho2⟩:=hd;have iV:(c.args.map a.eval).getD k undef=a.eval oo:=by simp_all
  have hX:au F β N H w (a.eval oo) x:=mB hG hR hE ho2;rw[iV];rcases I7 fC k x hx with⟨s,rfl⟩|rfl
  ·exact⟨_,rfl,dy.mono (Mem.le_refl _) (wg hG hR) hX.am⟩
  ·exact⟨_,rfl,hX.am⟩
 refine(i8.2 _ w (c.args.map a.eval) wJ (eQ.later hG hR) bv dQ).mono λe w1 he=>?_;obtain⟨v,rfl,s9,lE⟩:=he;exact⟨v,rfl,Dh (u:=[]) hR hf hg s9 lE hK⟩
theorem Di {mv mr:Mem}{vf:Value}{f:FuncId}{first:List SV}{bM:List (List SC)}(GP:dy mv mr vf (.fn f first bM)):
  ∃fv cv,vf= .func (.func f) fv cv/\pf mv mr fv first/\pf mv mr cv (bM.map λcs=>(false,[.ref cs])):=by
 cases GP with
 |empty a cap hv=>grind[SC.ao]
 |view _ _ _ _ _ hv=>grind[SC.ao]
 |fn fv cv ga h1 h2 hf1 hf0 hf2 hf3 Xv=>
  refine⟨fv,cv,rfl,⟨h1,λk x hx=>?_⟩,⟨by grind,λk x hx=>?_⟩⟩
  ·obtain⟨g,cs⟩:=x;cases g
   ·obtain⟨c0,rfl⟩:=hf0 k cs hx;exact⟨c0,rfl,hf1 k c0 hx⟩
   ·obtain⟨e1,e2⟩:=hf2 k cs hx;exact⟨ga k,e1,e2,λj y hy=>hf3 k cs j y hx hy⟩
  ·simp at hx;obtain⟨cs,UC,rfl⟩:=hx;exact⟨_,rfl,Xv k cs UC⟩
def Vc {P:Program}{g:FuncId}(h:iN P g=true)(args:Array Value)(w:World):(callFunc g args).run P w= .ok (.enter g args) w:=by
 unfold iN at h;split at h
 ·rename_i fn GP;obtain⟨FH,mV⟩:=aH h;obtain⟨body,mV⟩:=qW.1 mV;have xu:(fn.name=="runtime.NumGoroutine")=false:=by grind
  simp only[callFunc,eL,lN,my,AZ,GP,xu,mV,SE,to,kK]
 grind
theorem acz (hG:bJ C F)(hR:ad F β N H w)(hf: ¬N fid){E:EF}{a:Act}(hE:dM F β N H w E a){o:Oper}{c:Call}{fo:Operand}(ho:o.op= .call c)(hc:c.callee= .value fo){Q:Exit->Act->World->Prop}
  (h:jk C fid (C.ev E fo) (c.args.toList.map (C.ev E)) c.argTypes.toList H K):
  o.wp C.P a w (λa' w'=>∃v,a'=a.put o.dst v/\bn F β N H fid K w v w') Q:=by
 unfold jk at h;split at h
 ·rename_i f first bM xs KY FF
  split at h
  ·rename_i l u rs dw;obtain⟨r,i8,hK⟩:=h;rcases i8 with i8|i8;case inr=>grind[YK]
   have mb:au F β N H w (a.eval fo) _:=mB hG hR hE KY;obtain⟨q1,q2,q3⟩:=yl dw;obtain⟨v1,v2⟩:=ym FF;have hg:il C H u:=il.ko q1;have hH:=hg.heap hR;have wJ:(MV F β (u.on H) w).le (rd w):=λb o v h=>yh hG hH h
   have dQ:pf (MV F β (u.on H) w) (rd w) (c.args.map a.eval) l:=by
    refine⟨by grind,λk x hx=>?_⟩;obtain⟨g,cs⟩:=x;obtain⟨x,ks,ue,re,a1,a2,a3,a4⟩:=q3 k g cs hx;have hd:=v2 k x a1;simp at hd;obtain⟨oo,ho1,ho2⟩:=hd;have iV:(c.args.map a.eval).getD k undef=a.eval oo:=by simp_all
    rw[iV,<- a2];exact Hk hG hR hg (mB hG hR hE ho2) a3 a4
   have GP:dy (MV F β H w) (MR F β H w) (a.eval fo) (.fn f first bM):=mb.am;obtain⟨fv,cv,FD,uU,Uz⟩:=Di GP;have tS:Tr F β N H w β N (u.on H) w:=hg.soft.tr
   have hall:pf (MV F β (u.on H) w) (rd w) (fv++c.args.map a.eval++cv) (first++l++bM.map λcs=>(false,[.ref cs])):=
    ((uU.mono tS.mv (wg hG hR)).append dQ).append (Uz.mono tS.mv (wg hG hR))
   have RZ:=i8.2 _ w _ wJ (eQ.later hG hH) hall
   have bH:(execOp a.eval o).run C.P w= .ok (.enter f (fv++c.args.map a.eval++cv)) w:=by
    have XE:=i8.1;exact K53
   unfold Oper.wp;rw[bH];refine RZ.mono λe w1 he=>?_
   grind[Dh]
  grind
 grind
theorem Vd (hG:bJ C F)(hR:ad F β N H w)(hf: ¬N fid){E:EF}{a:Act}(hE:dM F β N H w E a){o:Oper}{c:Call}{fo:Operand}(ho:o.op= .call c)(hc:c.callee= .value fo){nx:Bool}{Q:Exit->Act->World->Prop}
  (h:rh C fid nx (C.ev E fo) (c.args.toList.map (C.ev E)) c.argTypes.toList H K):
  o.wp C.P a w (λa' w'=>∃v,a'=a.put o.dst v/\bn F β N H fid K w v w') Q:=by
 unfold rh at h
 grind[acz,YL]
end
section
variable {C:bU}{F:gN}{β:Nat->Option Nat}{N:Nat->Prop}{H:HF}{fid:Nat}{K:j8}{w w':World}{P:Program}
theorem bN {o:Oper}{a:Act}{v:Value}{next:Act->World->Prop}{Q:Exit->Act->World->Prop}(h:(execOp a.eval o).run P w= .ok (.value v) w')(hn:next (a.put o.dst v) w'):o.wp P a w next Q:=by
 unfold Oper.wp;rw[h];exact hn
def Dj {o:Oper}{a:Act}{next:Act->World->Prop}{Q:Exit->Act->World->Prop}(h:(execOp a.eval o).run P w= .ok .skip w')(hn:next (a.put o.dst undef) w'):o.wp P a w next Q:=by
 unfold Oper.wp;rw[h];exact hn
theorem Mc {ds:List (Option DV)}{xs:List DX}(h:(ds.mapM λd=>match d with|some (.val x)=>some x|_=>none)=some xs):xs.length=ds.length/\∀(k:Nat) (x:DX),xs[k]? =some x->ds[k]? =some (some (.val x)):=by
 induction ds generalizing xs with
 |nil=>grind
 |cons d ds ih=>
  simp only[List.mapM_cons,Option.bind_eq_bind,Option.bind_eq_some_iff]at h
  grind
theorem YM (hC:C.Ok)(hG:bJ C F)(hR:ad F β N H w)(hf: ¬N fid){E:EF}{a:Act}(hE:dM F β N H w E a){o:Oper}{Q:Exit->Act->World->Prop}(h:fw C fid o (C.ev E) H K):
  o.wp C.P a w (λa' w'=>∃v,a'=a.put o.dst v/\bn F β N H fid K w v w') Q:=by
 have ev: ∀ {x:Operand} {d:DV},C.ev E x=some d->co F β N H w (a.eval x) d:=λh=>mB hG hR hE h
 cases ho:o.op with
 |move x=>
  exact aiv
 |assign x=>
  exact aiv
 |pick c x y=>
  unfold fw at h;rw[ho]at h;simp only at h;split at h
  ·rename_i t hc;have hcv:=(au.am (ev hc)).bB.1;cases t
   ·simp only at h;split at h
    ·rename_i d hd;exact bN (v:=a.eval y) akr ⟨_,rfl,bn.pure hR h (ev hd)⟩
    grind
   ·simp only at h;split at h
    ·rename_i d hd;exact bN (v:=a.eval x) akr ⟨_,rfl,bn.pure hR h (ev hd)⟩
    grind
  grind
 |alloc T=>
  unfold fw at h;rw[ho]at h;simp only at h;split at h
  ·rename_i i hi;split at h
   ·rename_i cs hz;obtain⟨v,w',hr,hp⟩:=Yz (v0:=.tuple #[]) hC hR hf hi hz h;exact bN Hb ⟨_,rfl,hp⟩
   grind
  grind
 |box T x=>
  unfold fw at h;rw[ho]at h;simp only at h;split at h
  ·rename_i d hd;obtain⟨v,w',hr,hp⟩:=agr (C:=C) hR hf (ev hd) h;exact bN Hb ⟨_,rfl,hp⟩
  grind
 |build T parts=>
  obtain⟨v,hr,hp⟩:=YB hC hG hR hE ho h;exact bN Hb ⟨_,rfl,hp⟩
 |buildSlice T len parts=>
  obtain⟨v,w',hr,hp⟩:=F7 hC hG hR hf hE ho h;exact bN Hb ⟨_,rfl,hp⟩
 |load T x=>
  unfold fw at h;rw[ho]at h;simp only at h;split at h
  ·rename_i d hd;obtain⟨v,hr,hp⟩:=S6 hC hG hR (ev hd) h;exact bN Hb ⟨_,rfl,hp⟩
  grind
 |store T x y=>
  unfold fw at h;rw[ho]at h;simp only at h;split at h
  ·rename_i d e hd he;obtain⟨w',hr,hp⟩:=Yv hC hR (ev hd) (ev he) h;exact Dj Hb ⟨_,rfl,hp⟩
  grind
 |fieldAddr T x n=>
  unfold fw at h;rw[ho]at h;simp only at h;split at h
  ·rename_i d hd;obtain⟨v,hr,hp⟩:=I1 hC hR (ev hd) h;exact bN Hb ⟨_,rfl,hp⟩
  grind
 |indexAddr T x y=>
  unfold fw at h;rw[ho]at h;simp only at h;split at h
  ·rename_i d e hd he;obtain⟨v,hr,hp⟩:=I3 hC hG hR (ev hd) (ev he) h;exact bN Hb ⟨_,rfl,hp⟩
  grind
 |index T x y=>
  unfold fw at h;rw[ho]at h;simp only at h;split at h
  ·rename_i d e hd he;obtain⟨v,hr,hp⟩:=Yx hC hR (ev hd) (ev he) h;exact bN Hb ⟨_,rfl,hp⟩
  grind
 |field T x n=>
  unfold fw at h;rw[ho]at h;simp only at h;split at h
  ·rename_i d hd;obtain⟨v,hr,hp⟩:=Yy hC hR (ev hd) h;exact bN Hb ⟨_,rfl,hp⟩
  grind
 |slice T x lo hi mx=>
  unfold fw at h;rw[ho]at h;simp only at h;split at h
  ·rename_i d hd;obtain⟨v,hr,hp⟩:=YC hC hG hR hE (ev hd) h;exact bN ai8 ⟨_,rfl,hp⟩
  grind
 |binOp op T x y yT=>
  unfold fw at h;rw[ho]at h;simp only at h;split at h
  ·rename_i d e hd he;obtain⟨v,hr,hp⟩:=acy (xo:=x) (yo:=y) hC hR (ev hd) (ev he) h;refine bN (w':=w) (v:=v) ?_ ⟨_,rfl,hp⟩;simp only[execOp,ho];rw[eL,hr];rfl
  grind
 |unOp op T x=>
  unfold fw at h;rw[ho]at h;simp only at h;split at h
  ·rename_i d hd;obtain⟨v,hr,hp⟩:=agt (P:=C.P) hR (ev hd) h;exact bN Hb ⟨_,rfl,hp⟩
  grind
 |convert s t x=>
  unfold fw at h;rw[ho]at h;simp only at h;split at h
  ·rename_i d hd;obtain⟨v,hr,hp⟩:=YG hC hG hR (ev hd) h;exact bN Hb ⟨_,rfl,hp⟩
  grind
 |extract t n=>
  unfold fw at h;rw[ho]at h;simp only at h;split at h
  ·rename_i l hl;split at h
   ·rename_i x hx;obtain⟨arr,h1,h2,h3⟩:=ev hl;have ak:n<arr.size:=by grind
    have hg:arr[n]? =some (arr.getD n undef):=by simp_all
    exact bN (v:=arr.getD n undef) (by grind[execOp,Instr.extract,Sem.run_pure]) ⟨_,rfl,bn.pure hR h (h3 n x hx)⟩
   grind
  grind
 |makeFunc fn first bM=>
  cases fn with
  |func f=>
   unfold fw at h;rw[ho]at h;simp only at h;obtain⟨v,hr,hp⟩:=L9 (P:=C.P) hG hR hE h;exact bN Hb ⟨_,rfl,hp⟩
  |_=>grind[fw]
 |makeSlice T x y=>
  unfold fw at h;rw[ho]at h;simp only at h;split at h
  ·rename_i d e hd he;obtain⟨v,w',hr,hp⟩:=I6 hC hR hf (ev hd) (ev he) h;exact bN Hb ⟨_,rfl,hp⟩
  grind
 |call c=>
  cases hc:c.callee with
  |value fo=>
   grind[fw,Vd]
  |invoke r m=>grind[fw]
  |builtin b=>
   unfold fw at h;rw[ho]at h;simp only[hc]at h
   have key: ∀ {v:Value} {w':World},(builtin b c.argTypes o.type (c.args.map λ| .const _=>true|_=>false) (c.args.map a.eval)).run C.P w= .ok (.value v) w'->bn F β N H fid K w v w'->
     o.wp C.P a w (λa' w'=>∃v,a'=a.put o.dst v/\bn F β N H fid K w v w') Q:=by
    grind[bN,execOp,resolve,invoke]
   unfold eZ at h;split at h
   ·
    rename_i t ts x vX dQ;have h0:c.args.size=1:=by exact aga
    obtain⟨x0,Sd⟩: ∃x0,c.args= #[x0]:=by
     have:c.args.toList.length=1:=by omega
     obtain⟨x0,h⟩:=xO.1 this
     grind
    have o9:C.ev E x0=some (.val x):=by grind
    have qc:c.argTypes[0]? =some t:=by
     have:=aQ (·[0]?) vX
     grind
    split at h
    grind
    ·rename_i i hi;obtain⟨tf,d,z,hT⟩:=hC.get hi;have hx:=ev o9;split at h
     ·rename_i e c0 bW;have hd:=dq (hT.b8.trans bW);split at h
      ·rename_i hv;obtain⟨a0,cap,o7,_⟩:=(au.am hx).CK hv;exact K57
      grind
     ·rename_i e bW;have hd:=dq (hT.b8.trans bW);have o7:a.eval x0= .slice none 0 0:=au.am hx;exact K57
     ·rename_i e id bW;have hd:=dq (hT.b8.trans bW);split at h
      ·rename_i m z' c0 hb;obtain⟨_,_,jr⟩:=au.am hx
       have o7: ∃a0 cap,a.eval x0= .slice a0 c0.len cap:=by
        rcases jr _ z' c0.len hb rfl with⟨_,h2,h3⟩|⟨b,cap,arr,T,_,h2,_⟩
        grind
        grind
       obtain⟨a0,cap,o7⟩:=o7;exact K57
      ·rename_i z' l hb;obtain⟨_,_,jr⟩:=au.am hx
       have o7: ∃a0 cap,a.eval x0= .slice a0 l.length cap:=by
        rcases jr _ z' l.length hb rfl with⟨_,h2,h3⟩|⟨b,cap,arr,T,_,h2,_⟩
        grind
        grind
       obtain⟨a0,cap,o7⟩:=o7;exact K57
      grind
     ·rename_i s bW;have hd:=mf (hT.b8.trans bW);have o7:=(au.am hx).bB.1;exact K57
     ·rename_i n e bW;have hd:=kp (hT.b8.trans bW);exact key (by simp[builtin,Builtin.len_,qc,Sd,hT.cX,hd,goInt]) (bn.pure hR h (fT rfl))
     grind
   ·
    rename_i t t' x y vX dQ;have h0:c.args.size=2:=by exact aga
    obtain⟨x0,x1,Sd⟩: ∃x0 x1,c.args= #[x0,x1]:=ai9;have o9:C.ev E x0=some (.val x)/\C.ev E x1=some (.val y):=by grind
    have qc:c.argTypes= #[t,t']:=by grind
    split at h
    ·rename_i i' lA;split at h
     ·rename_i e' bW;obtain⟨v,w',hr,hp⟩:=Va (T:=t) (ty:=o.type) hC hG hR hf lA bW (ev o9.1) (ev o9.2) h;refine key (v:=v) (w':=w') ?_ hp;exact afG
     ·rename_i k' bW;obtain⟨v,w',hr,hp⟩:=PM (T:=t) (ty:=o.type) hC hG hR hf lA bW (ev o9.1) (ev o9.2) h;refine key (v:=v) (w':=w') ?_ hp;exact afG
     grind
    grind
   ·
    rename_i k n r dQ;split at h
    ·rename_i xs Cd;obtain⟨m1,m2⟩:=Mc Cd;obtain⟨x0,rest,jg⟩: ∃x0 rest,c.args.toList=x0::rest:=ajQ;rw[jg]at dQ;simp at dQ;obtain⟨R2,her⟩:=dQ;have hv0:=(au.am (ev R2)).bB.1;subst her
     obtain⟨v,hr,hp,hK⟩:=Ab (P:=C.P) (w:=w) (H:=H) (β:=β) (N:=N) (F:=F) (vs:=rest.map a.eval) bv (λj x v e1 e2=>by
      have:=m2 j x e1;simp at this e2;obtain⟨o1,h1,h2⟩:=this;obtain⟨o2,h3,rfl⟩:=e2;rw[h1]at h3;cases h3
      exact ev h2) h
     refine key (v:=v) (w':=w) ?_ (bn.pure hR hK (fT hp));simp only[if_true]at hr;simp only[builtin,Builtin.max_,Array.toList_map,jg,jd,hv0,eL,hr,my];rfl
    grind
   ·
    rename_i k n r dQ;split at h
    ·rename_i xs Cd;obtain⟨m1,m2⟩:=Mc Cd;obtain⟨x0,rest,jg⟩: ∃x0 rest,c.args.toList=x0::rest:=ajQ;rw[jg]at dQ;simp at dQ;obtain⟨R2,her⟩:=dQ;have hv0:=(au.am (ev R2)).bB.1;subst her
     obtain⟨v,hr,hp,hK⟩:=Ab (P:=C.P) (w:=w) (H:=H) (β:=β) (N:=N) (F:=F) (vs:=rest.map a.eval) bv (λj x v e1 e2=>by
      have:=m2 j x e1;simp at this e2;obtain⟨o1,h1,h2⟩:=this;obtain⟨o2,h3,rfl⟩:=e2;rw[h1]at h3;cases h3
      exact ev h2) h
     refine key (v:=v) (w':=w) ?_ (bn.pure hR hK (fT hp));simp only[to,kK]at hr;simp only[builtin,Builtin.min_,Array.toList_map,jg,jd,hv0,eL,hr,my];rfl
    grind
   grind
 |_=>grind[fw]
end
end Go.Fw
namespace Go.Fw
section
variable {C:bU}{H H':HF}{fid:Nat}{K:j8}
theorem jl {k:Bool}{d:DC}{c:SC}{u:Hp}{r:List Nat}(h:bA H k d=some (c,u,r))(hH: ∀id∈r,H' id=H id):bA H' k d=some (c,u,r):=by
 cases d with
 |own id=>
  grind[bA]
 |sL g id=>grind[bA]
 |mp id=>grind[bA]
 |st c'=>grind[bA]
 |nil=>grind[bA]
 |ptr id off=>grind[bA]
 |cI id z i off=>grind[bA]
theorem fm: ∀ {ks:List Bool} {ds:List DC} {l:List SC} {u:Hp} {r:List Nat},bV H ks ds=some (l,u,r)->(∀id∈r,H' id=H id)->bV H' ks ds=some (l,u,r)
 |ks,[],l,u,r,h,_=>by grind[bV]
 |ks,d::ds,l,u,r,h,hH=>by
  simp only[bV]at h ⊢;split at h
  ·rename_i c u1 r1 h1;split at h
   ·rename_i cs u2 r2 h2;simp at h;obtain⟨rfl,rfl,rfl⟩:=h;rw[jl h1 λid hid=>hH id (iz.2 (.inl hid)),fm h2 λid hid=>hH id (iz.2 (.inr hid))]
   grind
  grind
theorem PN {k:Bool}{d:DC}{c:SC}{u:Hp}{r:List Nat}(h:m7 C H k d=some (c,u,r))(hH: ∀id∈r,H' id=H id):m7 C H' k d=some (c,u,r):=by
 cases d with
 |ptr id off=>
  grind[m7,fm]
 |st c'=>exact jl (d:=.st c') (k:=k) h hH
 |nil=>exact jl (d:=.nil) (k:=k) h hH
 |own id=>exact jl (d:=.own id) (k:=k) h hH
 |sL g id=>grind[m7,bA]
 |mp id=>grind[m7,bA]
 |cI id z i off=>
  simp only[m7]at h ⊢;split at h
  grind[fm]
  grind
  grind
theorem Bd: ∀ {ks:List Bool} {ds:List DC} {l:List SC} {u:Hp} {r:List Nat},oB C H ks ds=some (l,u,r)->(∀id∈r,H' id=H id)->oB C H' ks ds=some (l,u,r)
 |ks,[],l,u,r,h,_=>by grind[oB]
 |ks,d::ds,l,u,r,h,hH=>by
  simp only[oB]at h ⊢;split at h
  ·rename_i c u1 r1 h1;split at h
   ·rename_i cs u2 r2 h2;simp at h;obtain⟨rfl,rfl,rfl⟩:=h;rw[PN h1 λid hid=>hH id (iz.2 (.inl hid)),Bd h2 λid hid=>hH id (iz.2 (.inr hid))]
   grind
  grind
theorem jm: ∀ {ts:List TypeId} {xs:List DX} {l:List SV} {u:Hp} {r:List Nat},pl C H ts xs=some (l,u,r)->(∀id∈r,H' id=H id)->pl C H' ts xs=some (l,u,r)
 |ks,[],l,u,r,h,_=>by grind[pl]
 |ks,d::ds,l,u,r,h,hH=>by
  simp only[pl]at h ⊢;split at h
  ·rename_i c u1 r1 h1;split at h
   ·rename_i cs u2 r2 h2;simp at h;obtain⟨rfl,rfl,rfl⟩:=h;rw[Bd h1 λid hid=>hH id (iz.2 (.inl hid)),jm h2 λid hid=>hH id (iz.2 (.inr hid))]
   grind
  grind
theorem tO {ks:List Bool}{z:Nat}: ∀ {ps:List (Nat × Option DV)} {n:Nat} {es:List (List SC)} {u:Hp} {r:List Nat},kM H ks z n ps=some (es,u,r)->(∀id∈r,H' id=H id)->kM H' ks z n ps=some (es,u,r)
 | [],n,es,u,r,h,_=>by grind[kM]
 |p::ps,n,es,u,r,h,hH=>by
  unfold kM at h ⊢;split at h;omega
  ·rename_i n0 i x rest vU;cases vU;split at h
   ·rename_i hb;split at h
    ·rename_i e u1 r1 dw;split at h
     ·rename_i Xs u2 r2 hf abH;simp at h;obtain⟨rfl,rfl,rfl⟩:=h;rw[fm dw λid hid=>hH id (iz.2 (.inl hid))];simp only;rw[hf,tO abH λid hid=>hH id (iz.2 (.inr hid))]
     grind
    grind
   omega
  omega
theorem yn: ∀ {ds:List (Option DV)} {l:List SV} {u:Hp} {r:List Nat},cH.firsts H ds=some (l,u,r)->(∀id∈r,H' id=H id)->cH.firsts H' ds=some (l,u,r)
 | [],l,u,r,h,_=>by grind[cH.firsts]
 |d::ds,l,u,r,h,hH=>by
  unfold cH.firsts at h ⊢;split at h;omega
  ·rename_i x xs vU;cases vU;split at h
   ·rename_i c u1 r1 h1;split at h
    ·rename_i cs u2 r2 h2;simp at h;obtain⟨rfl,rfl,rfl⟩:=h;rw[fm h1 λid hid=>hH id (iz.2 (.inl hid))];simp only;rw[yn h2 λid hid=>hH id (iz.2 (.inr hid))]
    grind
   grind
  omega
theorem po: ∀ {ds:List (Option DV)} {l:List (List SC)} {u:Hp} {r:List Nat},cH.capts C H ds=some (l,u,r)->(∀id∈r,H' id=H id)->cH.capts C H' ds=some (l,u,r)
 | [],l,u,r,h,_=>by grind[cH.capts]
 |d::ds,l,u,r,h,hH=>by
  unfold cH.capts at h ⊢;split at h;omega
  ·rename_i id xs vU;cases vU;split at h
   ·rename_i cs hb;split at h
    ·rename_i l2 u2 r2 h2;simp at h;obtain⟨rfl,rfl,rfl⟩:=h;rw[hH id (by simp),hb];simp only;rw[po h2 λj hj=>hH j bv]
    grind
   ·rename_i t cs hb;split at h
    ·rename_i c u1 r1 h1;split at h
     ·rename_i l2 u2 r2 h2;simp at h;obtain⟨rfl,rfl,rfl⟩:=h;rw[hH id (by simp),hb];simp only;rw[fm h1 λj hj=>hH j bv];simp only;rw[po h2 λj hj=>hH j bv]
     grind
    grind
   grind
  ·rename_i cs xs vU;cases vU;split at h
   ·rename_i l2 u2 r2 h2;simp at h;obtain⟨rfl,rfl,rfl⟩:=h;rw[po h2 hH]
   grind
  omega
def mC (f:HF->j8->Prop):Prop:=∀H K,f H K->∃r u R,K r u R/\∀(H':HF) (K':j8),(∀id∈R,H' id=H id)->K' r u R->f H' K'
def mC.const {f:j8->Prop}(h: ∀K,f K->∃r u R,K r u R/\∀K':j8,K' r u R->f K'):mC λ_ K=>f K:=λ_ K hK=>
 let⟨r,u,R,h1,h2⟩:=h K hK;⟨r,u,R,h1,λ_ K' _ h3=>h2 K' h3⟩
def PO (T:TypeId)(x:DX):mC (oC C T x):=by
 intro H K h;unfold oC at h;split at h
 ·grind
 rename_i i hi;split at h
 grind[oC]
 grind[oC]
 grind[oC]
 grind
def Md (T:TypeId)(x y:DX):mC (rf C T x y):=by
 intro H K h;unfold rf at h;split at h
 ·grind
 rename_i i hi;split at h
 ·grind
 rename_i bG;split at h
 ·rename_i id off;split at h
  grind[rf]
  grind
 ·rename_i id z n off;split at h
  ·rename_i z' c hb;split at h
   ·rename_i eC;split at h
    ·rename_i l r dw;split at h
     ·rename_i hf;obtain⟨e,he,h⟩:=h;split at h
      ·rename_i c' nq;refine⟨_,_,_,h,λH' K' hH hK=>?_⟩;simp only[rf,hi,bG,hH id (by simp),hb,eC,fm dw λj hj=>hH j bv,hf]
       grind
      grind
     grind
    grind
   grind
  grind[rf]
  grind
 grind
def BU (T:TypeId)(x:DX)(n:Nat):mC λ_ K=>oD C T x n K:=by
 refine mC.const λK h=>?_;unfold oD at h ⊢;split at h
 ·grind
 rename_i i hi;split at h
 ·rename_i fs bW;split at h
  ·rename_i o ft RY;split at h
   grind
   grind
  grind
 grind
def BV (T:TypeId)(x y:DX):mC (eR C T x y):=by
 intro H K h;unfold eR at h;split at h
 ·grind
 rename_i i hi;split at h
 ·rename_i e k n bW;split at h
  ·grind
  rename_i ie l7;split at h
  ·rename_i id;split at h
   grind[eR]
   grind[eR]
   grind
  grind[eR]
  grind
 ·rename_i len e k n bW;split at h
  ·grind
  grind[eR]
 grind
theorem Dk {i:TI}{cs:List DC}{off:Nat}(h:C4 i cs off K): ∃r u R,K r u R/\∀K':j8,K' r u R->C4 i cs off K':=by grind[C4]
def Me (T:TypeId)(x y:DX):mC λ_ K=>tw C T x y K:=by
 refine mC.const λK h=>?_;unfold tw at h;split at h
 ·grind
 rename_i i hi;split at h
 ·rename_i len e k n bW;split at h
  ·grind
  rename_i ie l7;split at h
  grind[Dk,tw]
  grind
 grind[tw]
 grind
def Mf (T:TypeId)(x:DX)(n:Nat):mC λ_ K=>z7 C T x n K:=by
 refine mC.const λK h=>?_;unfold z7 at h;split at h
 ·grind
 rename_i i hi;split at h
 ·rename_i fs bW;split at h
  ·rename_i o ft RY;split at h
   ·rename_i fi kG;split at h
    grind[Dk,z7]
    grind
   grind
  grind
 grind
theorem Ad {d:Option (Option DV)}{GW:Nat}{K':Nat->Prop}(h:F5 d GW K'): ∃n,K' n/\∀K'':Nat->Prop,K'' n->F5 d GW K'':=by
 unfold F5 at h
 grind[F5]
def Mg (T:TypeId)(x:DX)(lo hi:Option (Option DV)):mC (gL C T x lo hi):=by
 intro H K h;unfold gL at h;split at h
 ·grind
 rename_i i lA;split at h
 ·rename_i e bW;split at h
  ·grind
  rename_i ie l7;split at h
  ·rename_i c u r dw;split at h
   ·rename_i GY hv;obtain⟨l,h,hl⟩:=Ad h;obtain⟨hh,h,hh'⟩:=Ad h;obtain⟨h1,hu,h⟩:=h;refine⟨_,_,_,h,λH' K' hH hK=>?_⟩;simp only[gL,lA,bW,l7,fm dw hH]
    grind
   grind
  grind
 ·rename_i bW;split at h
  grind[Ad,gL]
  grind
 ·rename_i n e bW;split at h
  ·grind
  rename_i ie l7;split at h
  ·rename_i _l1 id off;split at h
   ·rename_i t cs hb;split at h
    ·rename_i l u r dw;split at h
     ·rename_i O4 eC;split at h
      ·rename_i ns IE;refine⟨_,_,_,h,λH' K' hH hK=>?_⟩;simp only[gL,lA,bW,l7,hH id (by simp),hb,fm dw λj hj=>hH j bv]
       grind
      grind
     grind
    grind
   ·rename_i l hb;split at h
    ·rename_i O4 eC;split at h
     grind[gL]
     grind
    grind
   grind
  grind
 grind
end
end Go.Fw
