import Derived.Below
import Derived.Deep.RegionLaw
import Derived.Ground.Names2Prog
import Derived.Ground.Names7Prog
import Derived.Ground.NamesProg
import Derived.IntWalk
import Derived.JoinedOf
import Derived.KernelRfl
import Derived.LaidLaws
import Derived.LaidMore
import Derived.LaidSub
import Derived.Laws.Append
import Derived.Laws.BytesString
import Derived.Laws.Cells
import Derived.Laws.CopyRow
import Derived.Laws.Entries
import Derived.Laws.IdiomCopy
import Derived.Laws.IdiomStrings
import Derived.Laws.StructEq
import Derived.Lay
import Derived.Lib.AppendIntMem
import Derived.Lib.AtoiAll
import Derived.Lib.AtoiAllCases
import Derived.Lib.ItoaNum
import Derived.Lib.Join
import Derived.Lib.SliceRun
import Derived.Lib.SmallJoins
import Derived.Lib.Split
import Derived.Lib.Strings
import Derived.Lib.Walk
import Derived.LoopIn
import Derived.LoopNIn
import Derived.MapKept
import Derived.OpenShut
import Derived.Orders
import Derived.OrdersIn
import Derived.OwnWalkIn
import Derived.ProofKit
import Derived.RangeFuncBound
import Derived.RangeFuncCalls
import Derived.RangeFuncFrom
import Derived.RangeFuncLeaves
import Derived.RangeFuncOwn
import Derived.Scope
import Derived.Shelf.LaysC
import Derived.Shelf.LaysM
import Derived.Shelf.Slices.Clone
import Derived.Shelf.Slices.Reverse
import Derived.Shelf.Sort.Plain
import Derived.Shelf.Spec.SlicesGrow
import Derived.Shelf.Strconv.AtoiAll
import Derived.Shelf.Strconv.Itoa3
import Derived.Shelf.Strings.Cut
import Derived.Shelf.Strings.OnBuilder
import Derived.Shelf.Strings.Prefix
import Derived.Shelf.Strings.Split
import Derived.Shelf.Vars
import Derived.Stop.Joined
import Derived.Tactics
import Derived.TacticsIn
import Derived.TacticsInMore
import Derived.WalkKit
import GoSem.ClaimGoes
set_option linter.all false
namespace Go
def fD:=@Nat.ne_of_beq_eq_false
def fO:=@Nat.le_of_ble_eq_true
def jP:=@List.getD_eq_getElem?_getD
def kp:=@List.getElem?_eq_some_iff
def eU:=@decide_eq_false
def fG:=@decide_eq_true
def oX:=@List.getElem?_eq_getElem
def dM:=@Nat.zero_le
def mw:=@Go.Result.andThen_ok
def o7:=@Nat.eq_of_beq_eq_true
def aP:=@congrArg
def dh:=@List.mem_cons
def eJ:=@Go.Sem.run_bind
def i8:=@List.mem_cons_of_mem
def gq:=@List.getElem?_map
def jv:=@List.mem_of_getElem?
def ja:=@List.mem_cons_self
def dS:=@List.mem_map
def kE:=@Nat.mul_le_mul_right
def gC:=@List.mem_append
def my:=@Option.map_eq_some_iff
def dz:=@Nat.le_refl
def sE:=@Array.getD_eq_getD_getElem?
def gr:=@Prod.mk.injEq
def jf:=@List.length_map
def lz:=@List.mem_singleton
def o0:=@List.take_of_length_le
def qQ:=@Option.isSome_iff_exists
def kF:=@List.length_cons
def lL:=@Option.some.injEq
def jw:=@List.map_cons
def mV:=@List.not_mem_nil
def mW:=@List.take_length
def lM:=@Go.Sem.run_pure
def p8:=@Int.toNat_natCast
def j8:=@Nat.zero_add
def pH:=@List.getElem_mem
def xG:=@List.length_eq_one_iff
def sV:=@Bool.false_eq_true
def qR:=@List.cons_append
def sY:=@Go.run_underlying
def sG:=@Bool.and_eq_true
def IR:=@List.eq_nil_of_length_eq_zero
def FT:=@Array.getElem?_eq_some_iff
def wv:=@decide_eq_true_iff
def sZ:=@Option.getD_some
def CG:=@List.length_eq_zero_iff
def xH:=@Bool.false_ne_true
def xI:=@List.length_append
def IS:=@Go.World.block_lt_of_cell?
def o3:=@Nat.le_trans
def ww:=@List.all_eq_true
def vt:=@Bool.eq_iff_iff
def CI:=@List.mem_iff_getElem
def wx:=@List.map_append
def wz:=@Option.some.inj
def IT:=@List.getElem?_set_self
def FU:=@List.mem_of_mem_take
def xJ:=@Option.map_some
def CJ:=@Go.World.var?_cell
def zP:=@List.nodup_cons
def zQ:=@List.append_nil
def zR:=@List.length_nil
def CK:=@List.take_add_one
def Pw:=@Classical.byContradiction
def kM:=@if_false
def BL:=@List.cons.injEq
def FV:=@Function.comp_def
def Px:=@Go.World.cell?_of_block
def UI:=@Nat.eq_of_mul_eq_mul_right
def UJ:=@Go.World.putObj_heap_other
def XG:=@Int.mul_le_mul_of_nonneg_right
def UK:=@List.getElem?_append_left
def CM:=@List.length_set
def CN:=@Int.emod_nonneg
def XH:=@Int.mul_le_mul_of_nonneg_left
def Lw:=@List.map_congr_left
def Lx:=@List.length_pos_iff
def IU:=@List.nodup_append
def mY:=@or_false
def CO:=@Int.mul_nonneg
def UL:=@List.getElem?_cons_zero
def Ly:=@Int.emod_lt_of_pos
def Py:=@List.mem_append_left
def Pz:=@List.getElem?_set_ne
def PA:=@List.mem_of_mem_drop
def zS:=@List.map_map
def XI:=@Array.getElem?_append_left
def XJ:=@List.getElem?_append_right
def XK:=@List.drop_eq_getElem_cons
def XL:=@Int.natAbs_ediv_le_natAbs
def UM:=@List.mem_iff_getElem?
def UN:=@Array.getElem?_toList
def PC:=@List.getElem?_drop
def afx:=@List.exists_cons_of_length_eq_add_one
def FW:=@not_not_intro
def CP:=@List.map_nil
def CQ:=@Nat.add_zero
def IV:=@Go.setRow_heap
def IW:=@List.drop_zero
def CR:=@Go.DataW.trod_int
def CS:=@of_decide_eq_true
def Sd:=@Int.mul_lt_mul_of_pos_right
def Se:=@List.idxOf_lt_length_of_mem
def GY:=@List.getElem?_take
def Lz:=@List.getElem?_toArray
def LA:=@List.take_append_drop
def LB:=@List.length_filter_le
def LC:=@List.set_getElem_self
def GZ:=@Go.DataW.agg.injEq
def AS:=@Go.run_program
def Sf:=@Go.MapKept.run_getObj_map
def Sg:=@Go.World.putObj_heap_same
def Sh:=@List.mem_or_eq_of_mem_set
def LD:=@Int.ediv_emod_unique
def Si:=@Nat.lt_succ_iff_lt_or_eq
def CT:=@Int.natAbs_zero
def G0:=@List.append_assoc
def XM:=@Array.getElem?_setIfInBounds_ne
def CU:=@UInt8.toNat_inj
def Sj:=@List.getElem?_cons_succ
def LF:=@List.getD_cons_zero
def G1:=@List.any_eq_true
def CV:=@Int.mul_le_mul
def s6:=@Nat.mod_lt
def Sk:=@Go.MapKept.run_findKey
def Sl:=@List.drop_of_length_le
def G2:=@Int.natAbs_tmod
def Sm:=@List.length_singleton
def XN:=@Array.getElem?_append_right
def Sn:=@Array.getElem?_append
def Sq:=@List.set_append_right
def Sr:=@Go.Lib.atoiAll_bounds
def Ss:=@Int.emod_add_mul_ediv
def CW:=@Int.sign_zero
def LG:=@List.ext_getElem?
def LH:=@Classical.not_not
def Su:=@List.getElem?_append
def Sv:=@Go.run_storeCells_at
def Sw:=@Go.World.cells?_some
def Sx:=@Go.DataW.trod_struct
def Sy:=@Array.getElem_modify
def SA:=@Classical.not_forall
def G3:=@List.nodup_nil
def XO:=@Decidable.byContradiction
def LI:=@List.drop_length
def LJ:=@Option.bind_some
def LL:=@List.length_take
def LM:=@Bool.not_eq_true
def AT:=@Nat.mul_one
def SD:=@Go.DataW.trod_array
def SE:=@List.getD_cons_succ
def SF:=@Option.isNone_some
def oh:=@Ne.symm
def sl:=@and_true
def LN:=@Int.ediv_nonneg
def SG:=@List.set_cons_zero
def LO:=@List.nil_append
def SH:=@List.filter_append
def SI:=@List.getElem_idxOf
def SJ:=@Go.DataW.lit.injEq
def CX:=@Int.one_mul
def SK:=@Array.size_append
def AU:=@Nat.blt_eq
def SL:=@decide_eq_true_eq
def SM:=@Option.isSome_map
def SN:=@Int.lt_trichotomy
def SO:=@Nat.lt_trichotomy
def LP:=@List.take_zero
def G4:=@Nat.sub_zero
def XP:=@Nat.div_lt_iff_lt_mul
def XQ:=@Array.mem_of_getElem?
def G6:=@Nat.sub_self
def SP:=@Go.run_loadCells
def SQ:=@Go.grownBy_keeps
def SR:=@List.length_drop
def XR:=@Nat.pow_le_pow_right
def aeu:=@Int.gcd_pos_of_ne_zero_right
def LQ:=@Nat.add_assoc
def LR:=@Bool.or_false
def LS:=@Int.mul_assoc
def SU:=@Option.map_none
def AV:=@Array.ext
def XS:=@List.drop_succ_cons
def XT:=@List.getElem_of_mem
def XU:=@List.take_succ_cons
def aev:=@Int.sign_eq_neg_one_of_neg
def aew:=@Int.lt_of_mul_lt_mul_right
def aex:=@Array.getElem_append_right
def XV:=@Nat.lt_of_lt_of_le
def XW:=@Nat.add_sub_cancel
def XX:=@List.set_cons_succ
def LU:=@List.map_set
def XY:=@Option.isSome_some
def XZ:=@Option.isSome_none
def aey:=@Array.mapM_eq_mapM_toList
def aez:=@List.pairwise_iff_getElem
def aeA:=@Array.getElem?_eq_getElem
def aeB:=@Array.getElem_append_left
def X0:=@List.flatten_cons
def G7:=@Array.ext'
def X3:=@List.any_eq_false
def SW:=@Bool.false_or
def LV:=@List.map_id
def X4:=@Int.ediv_le_self
def SX:=@Nat.gcd_comm
def X5:=@List.foldl_cons
def X6:=@Bool.or_eq_true
def SY:=@Int.ne_of_gt
def X7:=@List.findIdx_eq
def X8:=@Bool.decide_and
def CY:=@true_and
def X9:=@Nat.mul_le_mul
def Ya:=@Array.size_map
def Yb:=@List.drop_drop
def Yc:=@Int.natAbs_mul
def SZ:=@Nat.add_mul
variable{p:Prop}
def K0 (h:p:=by omega):p:=h
def K1 (h:p:=by
 (try(refine tX 0 ?_;try exact Zt))
 (first|done|rfl|exact True.intro)):p:=h
def K2 (h:p:=by
 have Uw:=(kp.1 hi).1;have bA:(se s.units).length =s.units.length:=by grind
 have ak:i< (se s.units).length :=by omega
 have cu:=λH fid=>zw (H:=H) (fid:=fid) (s:=s) (n:=x) hi hl;rw[hx]at cu;have hm:=al4 p log s u (w0::x::ws);refine gH f111 ?_;repeat' ((first|(refine kO 7 rfl ?_;first|refine ii (λ_ z=>⟨_,_,_,(cu _ _ rfl rfl rfl rfl),z⟩) ?_)|refine tX 0 ?_|exact Zt|refine bR ?_ ?_<;>intro h)<;>(try conv=>whnf))
 all_goals try exact Ze
 repeat((first|(refine kO 7 rfl ?_;first|refine so (λ_ z=>⟨_,_,_,(bW.Pt (Cz hU (uH rfl rfl rfl) hm) rfl (OH s p log u _)),z⟩) ?_)|refine tX 2 ?_|exact Zt);(try conv=>whnf))
 refine aS ?_;refine aQ ?_;(refine aR ?_;conv=>whnf);(try(refine tX 2 ?_;try exact Zt));refine⟨_,bs.trans (Fp 9 i (e':=unY u) rfl (IT ak) rfl (OG u 11 13 15)) (vn (E':=[(3,some (.val (dyn (V1 (w0::x::ws))))),(6,pP 4),(8,pP 6),(12,vI i),(13,pP 94),(14,vI 0),(127,vBo (0 != 0))]) (X:=sX s i u u') (m:=mX) (ks:=[3,6,8,12,13,14,127]) (n':=1000) rfl ⟨⟨9,_,by simp,rfl,by rw[List.set_set];exact sc (kl rfl)⟩,⟨4,_,by simp,rfl,rfl⟩,⟨6,_,by simp,rfl,rfl⟩,⟨94,_,by simp,rfl,rfl⟩,⟨fz 43 11,_,by simp,rfl,rfl⟩,⟨fz 43 13,_,by simp,rfl,rfl⟩,⟨fz 43 15,_,by simp,rfl,rfl⟩,trivial⟩ rfl rfl),?_⟩;repeat' ((first|refine tX 0 ?_|exact Zt|refine bR ?_ ?_<;>intro h)<;>(try conv=>whnf))
 all_goals first|exact Zs|exact⟨[(9,9),(11,11),(13,13),(15,15)],nJ rfl ⟨⟨9,_,by simp,rfl,anJ s i u u' _⟩,⟨11,_,by simp,rfl,rfl⟩,⟨13,_,by simp,rfl,rfl⟩,⟨15,_,by simp,rfl,rfl⟩,trivial⟩,_,rfl,rfl⟩):p:=h
def K3 (h:p:=by
 obtain⟨volt,earth,opens,hall,lots,units⟩:=s
 rcases J7 log with⟨g1,g2⟩|⟨j,g1,g2,g3⟩
 ·rw[g2]at CB;refine gF f62 hl ?_;repeat' ((first|(refine kO 7 rfl ?_;first|refine Rh (jn _ _) ?_)|refine tX 0 ?_|exact Zt|refine bR ?_ ?_<;>intro h)<;>(try conv=>whnf))
  rw[hf];repeat' ((first|(refine kO 7 rfl ?_;first|refine Rq (iS _) ?_|refine rG (λ_ z=>⟨_,wF CB,z⟩) ?_)|refine tX 0 ?_|exact Zt|refine bR ?_ ?_<;>intro h)<;>(try conv=>whnf))
  all_goals first|exact Zo|exact Ew
 ·rw[g3]at CB;have hN:dN (((log.map cY).length :Int) -1) j:=⟨by omega⟩;generalize log.getD j ⟨0,[],[]⟩=le at*;obtain⟨lt,lw,lx⟩:=le;refine gF f62 hl ?_;repeat' ((first|(refine kO 7 rfl ?_;first|refine Rh (jn _ _) ?_)|refine tX 0 ?_|exact Zt|refine bR ?_ ?_<;>intro h)<;>(try conv=>whnf))
  all_goals rw[hf]
  all_goals
   repeat' ((first|(refine kO 7 rfl ?_;first|refine Rq (iS _) ?_|refine rG (λ_ z=>⟨_,wF CB,z⟩) ?_)|refine tX 0 ?_|exact Zt|refine bR ?_ ?_<;>intro h)<;>(try conv=>whnf))
   all_goals first|exact Zo|exact Ew):p:=h
def K4 (h:p:=by
 repeat' ((first|refine tX 0 ?_|exact Zt|refine bR ?_ ?_<;>intro h)<;>(try conv=>whnf))
 all_goals first|exact Zs|exact⟨m0,dX rfl rfl,_,rfl,rfl⟩):p:=h
def K5 (h:p:=by
 repeat' ((first|refine tX 0 ?_|exact Zt|refine bR ?_ ?_<;>intro h)<;>(try conv=>whnf))
 all_goals first|exact Zo|(exact rfl)):p:=h
def K6 (h:p:=by
 repeat((first|(refine kO 7 rfl ?_;first|refine rG (λ_ z=>⟨_,MU (show(4:Int)≠0 by decide),z⟩) ?_)|refine tX 0 ?_|exact Zt);(try conv=>whnf))
 rw[vr];repeat((first|(refine kO 7 rfl ?_;first|refine rG (λ_ z=>⟨_,MU (show(4:Int)≠0 by decide),z⟩) ?_)|refine tX 0 ?_|exact Zt);(try conv=>whnf))
 (first|done|rfl|exact True.intro)):p:=h
def K7 (h:p:=by(first|done|rfl|exact True.intro)):p:=h
def K8 (h:p:=by
 repeat' ((first|refine tX 0 ?_|exact Zt|refine bR ?_ ?_<;>intro h)<;>(try conv=>whnf))
 all_goals first|exact Zs|exact⟨m3,dX rfl rfl,_,rfl,rfl⟩):p:=h
def K9 (h:p:=by decide):p:=h
def UO (h:p:=by
 repeat' ((first|refine tX 0 ?_|exact Zt|refine bR ?_ ?_<;>intro h)<;>(try conv=>whnf))
 all_goals first|exact Ze|exact⟨m3,dX rfl rfl,_,rfl,rfl⟩):p:=h
def K11 (h:p:=by
 repeat' ((first|(refine kO 7 rfl ?_;first|refine rG (λ_ z=>⟨_,aN (by simp only[ab,jf];omega) _,z⟩) ?_|refine rG (λ_ z=>⟨_,bG (by simp only[ab,jf];omega) _,z⟩) ?_|refine rG (λ_ z=>⟨_,wF rfl,z⟩) ?_)|refine tX 0 ?_|exact Zt|refine bR ?_ ?_<;>intro h)<;>(try conv=>whnf))
 all_goals exact Ew):p:=h
def dl (h:p:=by kernel_rfl):p:=h
def bq (h:p:=by grind):p:=h
def K15 (h:p:=by
 repeat' ((first|(refine kO 7 rfl ?_;first|refine ii (λ_ z=>⟨_,_,_,(Ar hl (by grind[gY,cT]) ⟨_,_,rfl,rfl⟩ rfl),z⟩) ?_)|refine tX 0 ?_|exact Zt|refine bR ?_ ?_<;>intro h)<;>(try conv=>whnf))
 all_goals exact Ew):p:=h
def K16 (h:p:=by
 repeat' ((first|(refine kO 7 rfl ?_;first|refine Rq (eo _ _ _) ?_)|refine tX 0 ?_|exact Zt|refine bR ?_ ?_<;>intro h)<;>(try conv=>whnf))
 all_goals exact Z0):p:=h
def K17 (h:p:=by
 (try(refine tX 0 ?_;try exact Zt))
 refine af (ι:=Nat) (λi=>1<=i/\i<=a.length) (λi=>a.length -i) (λi=>⟨[(0,vL a),(1,vL b),(5,pO 0),(6,vI (FR a b i)),(7,vI i)],[(0,some (.row true 1 (.ints (Xs a b i))))],1⟩) 1 (ai (by rw[g5,e1,e2];kernel_rfl)) ⟨dz _,by omega⟩ ?_;clear d0' d1 d2 h e1 e2;rintro i ⟨zG,hi⟩;have d0':=dig b i;have d1:=ha.get i;have d2:=hb.get i;have d3:=Ao a b i;have d4:=Cp a b i;have d5:=Nd a b i
 (try(refine tX 0 ?_;try exact Zt))
 (refine bR ?_ ?_<;>intro h<;>(try conv=>whnf))
 ·have ak:i<a.length:=by omega
  (try(refine tX 0 ?_;try exact Zt))
  (refine bR ?_ ?_<;>intro h<;>(try conv=>whnf))
  ·have f1:FR a b (i+1)=1:=if_pos h;have f2:sbD a b i=a.getD i 0 -b.getD i 0 -FR a b i+1000000000:=if_pos h
   (try(refine tX 0 ?_;try exact Zt))
   exact⟨i+1,⟨by omega,ak⟩,by omega,ai (by rw[d5,f1,f2];kernel_rfl)⟩
  ·have f1:FR a b (i+1)=0:=if_neg h;have f2:sbD a b i=a.getD i 0 -b.getD i 0 -FR a b i:=if_neg h
   (try(refine tX 0 ?_;try exact Zt))
   exact⟨i+1,⟨by omega,ak⟩,by omega,ai (by rw[d5,f1,f2];kernel_rfl)⟩
 ·obtain rfl:i=a.length:=by omega
  (try(refine tX 0 ?_;try exact Zt))
  rfl):p:=h
def K18 (h:p:=by
 repeat' ((first|(refine kO 7 rfl ?_;first|refine ii (λ_ z=>⟨_,_,_,(c0 _ _ ⟨_,_,rfl,rfl⟩ rfl),z⟩) ?_|refine rG (λ_ z=>⟨_,aN (by(simp[ab];done)) _,z⟩) ?_|refine rG (λ_ z=>⟨_,bG (by(simp[ab];done)) _,z⟩) ?_|refine rG (λ_ z=>⟨_,aN (by simp only[ab,jw,kF];omega) _,z⟩) ?_|refine rG (λ_ z=>⟨_,bG (by simp only[ab,jw,kF];omega) _,z⟩) ?_|refine rG (λ_ z=>⟨_,wF rfl,z⟩) ?_)|refine tX 0 ?_|exact Zt|refine bR ?_ ?_<;>intro h)<;>(try conv=>whnf))
 all_goals exact Ei):p:=h
def G8 (h:p:=by simp only[execOp,ho,eJ,hr,mw];rfl):p:=h
def K20 (h:p:=by
 obtain rfl:i=e.text.length:=by omega
 have Xo:(kf.map Rg).length =19:=rfl;have hv:=bg (f:=Rg) (l:=kf) hj vl;rw[show vb j=(kf.getD j vl).2 from rfl]at hr;generalize kf.getD j vl=q at*;repeat' ((first|refine tX 0 ?_|exact Zt|refine bR ?_ ?_<;>intro h)<;>(try conv=>whnf))
 all_goals try(exfalso;omega)
 repeat((first|(refine kO 7 rfl ?_;first|refine so (λ_ z=>⟨_,_,_,(Fu _ _ zG b1 b2 b3 b4),z⟩) ?_|refine so (λ_ z=>⟨_,_,_,(RA (n:=1034) hS rfl rfl rfl rfl),z⟩) ?_)|refine tX 2 ?_|exact Zt);(try conv=>whnf))
 repeat' ((first|refine tX 0 ?_|exact Zt|refine bR ?_ ?_<;>intro h)<;>(try conv=>whnf))
 refine al6 (R:=[fz 1036 9,fz 1036 11,fz 1036 13,fz 1036 15]) _ y hy ⟨rfl,rfl,an (.st _)<|an (.st _)<|an (.st _)<|an (.st _)<|an (.st _)<|an ?_ oK⟩;rw[hyu]
 exact W4 (a:=fz 1036 11) (b:=fz 1036 13) (c:=fz 1036 15) Uw (aP (λl=>some (cB.aG 17 l)) (ag4 (fresh 1036 0) s.units i0 u')) rfl rfl rfl ⟨.head _,.tail _ (.head _),.tail _ (.tail _ (.head _)),.tail _ (.tail _ (.tail _ (.head _)))⟩):p:=h
def K21 (h:p:=by
 by_cases h1:i=fid
 ·by_cases h2:j=fid;omega
  ·exfalso;subst h1;rw[jy]at bi;cases bi;rw[it _ _ _ h2]at bj;obtain⟨h3,h4⟩:=live h2 hj;exact h3 (hR.inj j id b _ _ h4 hb bj xp)
 ·by_cases h2:j=fid
  ·exfalso;subst h2;rw[jy]at bj;cases bj;rw[it _ _ _ h1]at bi;obtain⟨h3,h4⟩:=live h1 hi;exact h3 (hR.inj i id b _ _ h4 hb bi xp)
  ·rw[it _ _ _ h1]at bi;rw[it _ _ _ h2]at bj
   exact hR.inj i j x _ _ (live h1 hi).2 (live h2 hj).2 bi bj):p:=h
def K22 (h:p:=by
 repeat' ((first|refine tX 0 ?_|exact Zt|refine bR ?_ ?_<;>intro h)<;>(try conv=>whnf))
 all_goals first|exact Zo|exact⟨i+1,ak,by omega,ai (by rw[xu,lW];kernel_rfl)⟩):p:=h
def K23 (h:p:=by
 obtain rfl:i=e.text.length:=by omega
 have Xo:(kf.map Rg).length =19:=rfl;have hv:=bg (f:=Rg) (l:=kf) hj vl;rw[show vb j=(kf.getD j vl).2 from rfl]at hr;generalize kf.getD j vl=q at*;repeat' ((first|refine tX 0 ?_|exact Zt|refine bR ?_ ?_<;>intro h)<;>(try conv=>whnf))
 all_goals try(exfalso;omega)
 repeat((first|(refine kO 7 rfl ?_;first|refine so (λ_ z=>⟨_,_,_,(Ry _ _ b1 b2 b3 b4),z⟩) ?_|refine so (λ_ z=>⟨_,_,_,(Rz (n:=1034) hS rfl rfl rfl),z⟩) ?_)|refine tX 2 ?_|exact Zt);(try conv=>whnf))
 repeat' ((first|refine tX 0 ?_|exact Zt|refine bR ?_ ?_<;>intro h)<;>(try conv=>whnf))
 by_cases hy:y.2=0
 ·exact al6 (R:=[fz 1036 5,fz 1036 7,fz 1036 9]) _ y hy ⟨rfl,rfl,an (.st _)<|an (.st _)<|an (.row (.head _) rfl)<|an (.st _)<|an (.row (.tail _ (.head _)) rfl)<|an (.row (.tail _ (.tail _ (.head _))) rfl) oK⟩
 ·exact al5 _ y hy):p:=h
theorem K24 (h:p:=by
 repeat' ((first|refine tX 0 ?_|exact Zt|refine bR ?_ ?_<;>intro h)<;>(try conv=>whnf))
 all_goals first
  |(exfalso;omega)
  |rfl):p:=h
def K26 (h:p:=by
 rw[aY hx h2 h4 (show aI E p log ⟨volt,earth,opens,hall,lots,units⟩ _ 14 [x] n r=(_,_)from hq.trans ((if_neg xH).trans (if_pos hh)))];refine gI f128 h3 hl rfl ?_;repeat' ((first|(refine kO 7 rfl ?_;first|refine ii (λ_ z=>⟨_,_,_,(c0 _ _ ⟨_,_,rfl,rfl⟩ rfl),z⟩) ?_|refine rG (λ_ z=>⟨_,bG (FW hh) _,z⟩) ?_|refine rG (λ_ z=>⟨_,aN (by(simp[ab];done)) _,z⟩) ?_|refine rG (λ_ z=>⟨_,bG (by simp only[ab,jw,kF];omega) _,z⟩) ?_|refine rG (λ_ z=>⟨_,wF rfl,z⟩) ?_|refine ii (λ_ z=>⟨_,_,_,(vc hM hp hr rfl rfl rfl (jS (by assumption)) rfl rfl rfl),z⟩) ?_)|refine tX 0 ?_|exact Zt|refine bR ?_ ?_<;>intro h)<;>(try conv=>whnf))
 all_goals exact Ei):p:=h
def K27 (h:p:=by
 refine gH f111 ?_;repeat' ((first|(refine kO 7 rfl ?_;first|refine ii (λ_ z=>⟨_,_,_,(cu _ _ rfl rfl rfl),z⟩) ?_)|refine tX 0 ?_|exact Zt|refine bR ?_ ?_<;>intro h)<;>(try conv=>whnf))
 all_goals first|exact Zs|exact⟨m0,dX rfl rfl,_,rfl,rfl⟩):p:=h
def K28 (h:p:=by
 repeat' ((first|(refine kO 7 rfl ?_;first|refine Rq (gj _) ?_|refine Rq (eo _ _ _) ?_)|refine tX 0 ?_|exact Zt|refine bR ?_ ?_<;>intro h)<;>(try conv=>whnf))
 all_goals exact Z0):p:=h
def K29 (h:p:=by
 repeat' ((first|refine tX 0 ?_|exact Zt|refine bR ?_ ?_<;>intro h)<;>(try conv=>whnf))
 all_goals first|exact Ze|exact⟨n,⟨by omega,hg⟩,by omega,ai (by rw[show((n:Int) -1)=(((n+1:Nat):Int) -1 -1)by omega];kernel_rfl)⟩):p:=h
def K30 (h:p:=by
 repeat' ((first|refine tX 0 ?_|exact Zt|refine bR ?_ ?_<;>intro h)<;>(try conv=>whnf))
 all_goals first|exact Zo|exact⟨i+1,ak,by omega,ai (by rw[xu];kernel_rfl)⟩):p:=h
def K31 (h:p:=by
 refine gI f125 h3 hl rfl ?_;repeat' ((first|(refine kO 7 rfl ?_;first|refine ii (λ_ z=>⟨_,_,_,(c0 _ _ ⟨_,_,rfl,rfl⟩ rfl),z⟩) ?_|refine rG (λ_ z=>⟨_,bG hh _,z⟩) ?_|refine rG (λ_ z=>⟨_,aN (by(simp[ab];done)) _,z⟩) ?_|refine rG (λ_ z=>⟨_,bG (by(simp[ab];done)) _,z⟩) ?_|refine rG (λ_ z=>⟨_,aN (by simp only[ab,jw,kF];omega) _,z⟩) ?_|refine rG (λ_ z=>⟨_,bG (by simp only[ab,jw,kF];omega) _,z⟩) ?_|refine rG (λ_ z=>⟨_,wF rfl,z⟩) ?_)|refine tX 0 ?_|exact Zt|refine bR ?_ ?_<;>intro h)<;>(try conv=>whnf))
 all_goals exact Ei):p:=h
def K32 (h:p:=by
 rw[h3]at hcc kI
 (try(refine tX 0 ?_;try exact Zt))
 rw[vr]
 (try(refine tX 0 ?_;try exact Zt))
 exact⟨i+1,⟨ak,iU kI⟩,by omega,fB (ks:=[1,2,8,14,15,16]) (m:=[(0,0)]) (n:=1) (by rw[vJ,<- hpk];kernel_rfl)⟩):p:=h
def K33 (h:p:=by
 obtain rfl:i=e.text.length:=by omega
 have Xo:(kf.map Rg).length =19:=rfl;have hv:=bg (f:=Rg) (l:=kf) hj vl;rw[show vb j=(kf.getD j vl).2 from rfl]at hr;generalize kf.getD j vl=q at*;repeat' ((first|refine tX 0 ?_|exact Zt|refine bR ?_ ?_<;>intro h)<;>(try conv=>whnf))
 all_goals try(exfalso;omega)
 repeat((first|(refine kO 7 rfl ?_;first|refine so (λ_ z=>⟨_,_,_,(Fu _ _ zG b1 b2 b3 b4),z⟩) ?_|refine so (λ_ z=>⟨_,_,_,(RC (n:=1034) hS rfl rfl rfl rfl),z⟩) ?_)|refine tX 2 ?_|exact Zt);(try conv=>whnf))
 repeat' ((first|refine tX 0 ?_|exact Zt|refine bR ?_ ?_<;>intro h)<;>(try conv=>whnf))
 exact al5 _ y hy):p:=h
def K34 (h:p:=by
 have hn: ¬(len*ie.size>2^24):=by omega
 refine⟨(Array.range (len*ie.size)).map (λx=>(if len*ie.size=0 then #[]else ez.cells)[x%(if len*ie.size=0 then #[]else ez.cells).size]!),by simp,λcells l7=>?_⟩;simp only[Instr.buildSlice,eJ,hT.cU,hd,mw,GV.iG,hn,kM];by_cases h0:len*ie.size=0
 ·rw[if_pos h0]at l7;simp only[h0,if_true,eJ,lM,mw];rw[h0]at l7;rw[l7];simp[newRow]
 ·rw[if_neg h0]at l7;simp only[h0,kM,eJ,GV.sS,mw,lM];rw[l7]
  simp[newRow]):p:=h
def K35 (h:p:=by
 refine gF f119 hl ?_;repeat' ((first|(refine kO 7 rfl ?_;first|refine rG (λ_ z=>⟨_,aN (by omega) _,z⟩) ?_|refine rG (λ_ z=>⟨_,bG (by omega) _,z⟩) ?_|refine rG (λ_ z=>⟨_,wF rfl,z⟩) ?_)|refine tX 0 ?_|exact Zt|refine bR ?_ ?_<;>intro h)<;>(try conv=>whnf))
 all_goals exact Ew):p:=h
def K36 (h:p:=by
 refine gI f128 h3 hl rfl ?_;repeat' ((first|(refine kO 7 rfl ?_;first|refine ii (λ_ z=>⟨_,_,_,(c0 _ _ ⟨_,_,rfl,rfl⟩ rfl),z⟩) ?_|refine rG (λ_ z=>⟨_,aN hh _,z⟩) ?_|refine rG (λ_ z=>⟨_,aN (by(simp[ab];done)) _,z⟩) ?_|refine rG (λ_ z=>⟨_,bG (by simp only[ab,jw,kF];omega) _,z⟩) ?_|refine rG (λ_ z=>⟨_,wF rfl,z⟩) ?_|refine ii (λ_ z=>⟨_,_,_,(vc hM hp hr rfl rfl rfl (jS (by assumption)) rfl rfl rfl),z⟩) ?_)|refine tX 0 ?_|exact Zt|refine bR ?_ ?_<;>intro h)<;>(try conv=>whnf))
 all_goals exact Ei):p:=h
def IX (h:p:=by
 (try(refine tX 0 ?_;try exact Zt))
 rfl):p:=h
def K39 (h:p:=by
 repeat' ((first|(refine kO 7 rfl ?_;first|refine rG (λ_ z=>⟨_,aN hk _,z⟩) ?_|refine rG (λ_ z=>⟨_,bG hk _,z⟩) ?_|refine rG (λ_ z=>⟨_,wF rfl,z⟩) ?_)|refine tX 0 ?_|exact Zt|refine bR ?_ ?_<;>intro h)<;>(try conv=>whnf))
 all_goals exact Ei):p:=h
def K40 (h:p:=by
 simp only[m7]at hr;split at hr
 ·rename_i n hn;simp at hr;subst hr;have hm:=Ac hn;obtain⟨_,b,h1,h2⟩:=hd;exact⟨⟨_,hm⟩,b,by rw[h.kK hm];exact h1,h2⟩
 grind):p:=h
def K41 (h:p:=by
 repeat' ((first|refine tX 0 ?_|exact Zt|refine bR ?_ ?_<;>intro h)<;>(try conv=>whnf))
 all_goals exact rfl):p:=h
def K42 (h:p:=by
 (try(refine tX 0 ?_;try exact Zt))
 exact⟨i -1,⟨by omega,by omega⟩,by omega,ai (by rw[show i -1+1=i by omega];unfold EL EM;rw[s1,s2];kernel_rfl)⟩):p:=h
def K43 (h:p:=by
 (try(refine tX 0 ?_;try exact Zt))
 exact⟨i -1,⟨by omega,by omega⟩,by omega,ai (by rw[show i -1+1=i by omega];unfold Ka Kb;rw[s1,s2];kernel_rfl)⟩):p:=h
def K44 (h:p:=by
 rintro F nt a w ⟨N,⟨q1,q2,q0,β,q3,q4⟩,q5⟩
 have hg:ig {P:=default,gl:=[],ty:=[]} Hh.get [(id,some (.row false z c))]:=ig.ko λp hp=>by
  rw[lz]at hp;subst hp;exact⟨m,z,c,hb,rfl⟩
 have ht:Tr F β N Hh.get w β N (Hp.on [(id,some (.row false z c))] Hh.get) w:=hg.soft.tr;refine⟨N,⟨q1,q2,q0,β,?_,?_⟩,q5⟩
 ·have:=ht.env q4 q3;rwa [<- Hp.get_append]at this
 ·have:=hg.heap q4
  rwa [<- Hp.get_append]at this):p:=h
def K45 (h:p:=by
 refine sF f179 ?_;repeat((first|(refine kO 7 rfl ?_;first|refine rG (λ_ z=>⟨_,aN h1 _,z⟩) ?_)|refine tX 0 ?_|exact Zt);(try conv=>whnf))
 refine JI hu rfl rfl rfl rfl rfl rfl (by simp;omega) ?_;conv=>whnf
 rw[zB]
 exact tL):p:=h
def K46 (h:p:=by
 rw[aY hx h2 h4 (show aI E p log ⟨volt,earth,opens,hall,lots,units⟩ _ 14 [x] n r=(_,_)from hq.trans (if_pos rfl))];refine gI f128 h3 hl rfl ?_
 exact tL):p:=h
def K47 (h:p:=by repeat first|exact im.base _|refine im.step rfl ?_):p:=h
def K48 (h:p:=by
 repeat' ((first|(refine kO 7 rfl ?_;first|refine Rq (eo _ _ _) ?_)|refine tX 0 ?_|exact Zt|refine bR ?_ ?_<;>intro h)<;>(try conv=>whnf))
 all_goals first|exact Zo|exact mF (by unfold Zl;split<;>(try split)<;>omega)):p:=h
def K49 (h:p:=by
 repeat' split at h
 all_goals(simp only[gr]at h;obtain⟨rfl,h⟩:=h)
 all_goals first|exact hm|exact⟨hm.units,hm.lots,hm.opens,hm.unit⟩):p:=h
def K50 (h:p:=by
 repeat' ((first|refine tX 0 ?_|exact Zt|refine bR ?_ ?_<;>intro h)<;>(try conv=>whnf))
 all_goals first|exact Zo|(exact absurd h hx)|exact⟨i+1,⟨ak,λhm=>(FP.1 hm).elim dy λe=>hx e.symm⟩,by omega,Zc⟩):p:=h
def K51 (h:p:=by
 (refine bR ?_ ?_<;>intro h<;>(try conv=>whnf))
 ·(try(refine tX 0 ?_;try exact Zt))
  generalize (lo+hi+1)/2=mm at*;exact⟨(mm,hi),⟨⟨by omega,by omega,by omega⟩,by show y*mm<=_;omega,p5⟩,by omega,Zc⟩
 ·(try(refine tX 0 ?_;try exact Zt))
  generalize (lo+hi+1)/2=mm at*;refine⟨(lo,mm -1),⟨⟨by omega,by omega,by omega⟩,p4,?_⟩,by omega,Zc⟩;simp only
  rw[Int.sub_add_cancel];omega):p:=h
def wA (h:p:=by simp;omega):p:=h
def K53 (h:p:=by
 by_cases hz:(ws.take (w+1)).getD k []= []
 ·have B8: []∈ws.take (w+1):=FU (ahn.2 (.inr hz.symm));rw[if_pos B8];rw[hz]at RR;exact tL
 ·generalize (ws.take (w+1)).getD k []=y at*;repeat' ((first|refine tX 0 ?_|exact Zt|refine bR ?_ ?_<;>intro h)<;>(try conv=>whnf))
  all_goals first|exact Ze|exact⟨k+1,⟨uI,λhm=>(ahn.1 hm).elim xw λe=>hz e.symm⟩,by omega,Zc⟩):p:=h
def K54 (h:p:=by
 unfold iH at Xy;split at Xy
 ·rename_i fn GO;obtain⟨FE,mS⟩:=aH Xy;obtain⟨body,mS⟩:=qQ.1 mS;have xd:(fn.name=="runtime.NumGoroutine")=false:=by grind
  simp only[execOp,ho,resolve,hc,FC,Deferred.ofValue,eJ,lM,mw,invoke,callFunc,AS,GO,xd,mS,SF,sV,kM]
 grind):p:=h
theorem K55 (h:p:=by
 obtain⟨_,hB⟩:=hR.rel id bx e
 cases bx with
 |map es=>obtain⟨b',arr,T,q1,q2,q3,_⟩:=hB;grind
 |box t cs=>obtain⟨b',arr,T,q1,q2,q3,_⟩:=hB;grind
 |dZ cs=>obtain⟨b',arr,T,q1,q2,q3,_⟩:=hB;grind
 |row m z c=>
  obtain⟨_,q1|⟨b',cap,q1,q2,arr,T,q3,_⟩⟩:=hB
  grind
  grind
 |aG z l=>
  obtain⟨_,q1|⟨b',cap,arr,T,q1,q2,q3,_⟩⟩:=hB
  grind
  grind):p:=h
def K56 (h:p:=by
 intro b' o' v' h';unfold Mem.but at h';split at h'
 grind
 ·rename_i fh;unfold dW at h';split at h'
  ·rename_i hge;rw[qZ (gN.gG (o3 hH.below.size hge))];omega
   ·intro id bx e hid;by_cases Xj:id=fid
    grind[jy]
    ·rw[az _ _ _ Xj]at e;rw[it _ _ _ Xj]at hid;have:=(hH.fY e hid).1;omega
  ·exact t2.mv b' o' v' h'):p:=h
theorem K57 (h:p:=by
 obtain rfl:i=l.length:=by omega
 rw[LI]at he;repeat' ((first|refine tX 0 ?_|exact Zt|refine bR ?_ ?_<;>intro h)<;>(try conv=>whnf))
 all_goals first
  |(exfalso;omega)
  |exact mF he):p:=h
def K58 (h:p:=by exact key (by simp[builtin,Builtin.len_,uE,RW,hT.cU,hd,oU,goInt]) (bh.pure hR h (fT rfl))):p:=h
def K59 (h:p:=by
 refine aS ?_;(refine aR ?_;conv=>whnf);(try(refine tX 2 ?_;try exact Zt));refine aQ ?_;(refine aR ?_;conv=>whnf);(try(refine tX 2 ?_;try exact Zt));refine⟨_,dj 6 rfl,?_⟩;repeat' ((first|refine tX 0 ?_|exact Zt|refine bR ?_ ?_<;>intro h)<;>(try conv=>whnf))
 all_goals first|(exact rfl)|(cases x<;>first|(exact rfl)|(exact absurd rfl h)|(cases h))|trace_state):p:=h
def K60 (h:p:=by
 have:(gz (fresh (Fw.tag fid) 0) T' R).map Prod.fst=ah R++(ah T').map (fresh (Fw.tag fid) 0):=by simp[gz,sn,FV]
 rw[this,IU];refine⟨hR,?_,λa ha b hb R0=>?_⟩
 ·have AR:=(m8.new fj hi).ok.news;have:(sn (ah T') (fresh (Fw.tag fid) 0)).map Prod.snd=(ah T').map (fresh (Fw.tag fid) 0):=by simp[sn,FV]
  grind
 grind):p:=h
def K61 (h:p:=by
 show Int.gcd y (x.tmod y)=_;rw[<- hg];show Nat.gcd y.natAbs (x.tmod y).natAbs =Nat.gcd x.natAbs y.natAbs
 rw[G2,SX x.natAbs y.natAbs,Nat.gcd_rec y.natAbs x.natAbs,SX]):p:=h
def K62 (h:p:=by
 intro d hd;have:d= .st (.lit (.pointer none)):=by simpa using hd
 subst this
 trivial):p:=h
def K63 (h:p:=by
 simp only[dh,mV,mY]at AO
 grind[bz,uz]):p:=h
def K64 (h:p:=by
 rw[if_neg h1]at c1 ⊢;refine gF f116 sw ?_;repeat' ((first|(refine kO 7 rfl ?_;first|refine ii (λ_ z=>⟨_,_,_,(c0 _ _ ⟨_,_,rfl,rfl⟩ rfl),z⟩) ?_|refine Rq (iS _) ?_|refine rG (λ_ z=>⟨_,wF (E:=4) rfl,z⟩) ?_)|refine tX 0 ?_|exact Zt|refine bR ?_ ?_<;>intro h)<;>(try conv=>whnf))
 all_goals first|exact Zo|exact Ew):p:=h
def K65 (h:p:=by
 repeat' ((first|(refine kO 7 rfl ?_;first|refine rG (λ_ z=>⟨_,wF rfl,z⟩) ?_)|refine tX 0 ?_|exact Zt|refine bR ?_ ?_<;>intro h)<;>(try conv=>whnf))
 all_goals exact Ew):p:=h
theorem K66 (h:p:=by
 repeat' ((first|refine tX 0 ?_|exact Zt|refine bR ?_ ?_<;>intro h)<;>(try conv=>whnf))
 all_goals first
  |(exfalso;omega)
  |exact⟨i+1,⟨ak,by omega⟩,by omega,Zc⟩):p:=h
def K67 (h:p:=by
 by_cases hb:A<=p.eH -used
 all_goals
  repeat' ((first|(refine kO 7 rfl ?_;first|refine Rq cA ?_|refine rG (λ_ z=>⟨_,aN hb _,z⟩) ?_|refine rG (λ_ z=>⟨_,bG hb _,z⟩) ?_|refine rG (λ_ z=>⟨_,wF rfl,z⟩) ?_)|refine tX 0 ?_|exact Zt|refine bR ?_ ?_<;>intro h)<;>(try conv=>whnf))
  all_goals exact Ei):p:=h
def PD (h:p:=by rw[<- hn];kernel_rfl):p:=h
def K69 (h:p:=by
 refine gH f243 ?_;repeat' ((first|(refine kO 7 rfl ?_;first|refine ii (λ_ z=>⟨_,_,_,(cv _ _ _ _ _ rfl rfl rfl),z⟩) ?_|refine ii (λ_ z=>⟨_,_,_,(cr _ _ _ _ _ rfl rfl rfl),z⟩) ?_)|refine tX 0 ?_|exact Zt|refine bR ?_ ?_<;>intro h)<;>(try conv=>whnf))
 all_goals first|exact Zs|exact⟨m3,dX rfl rfl,_,rfl,rfl⟩):p:=h
def K70 (h:p:=by
 refine sF f147 ?_;repeat((first|(refine kO 7 rfl ?_;first|refine Rq (dt _ _ _) ?_)|refine tX 0 ?_|exact Zt);(try conv=>whnf))
 (first|done|rfl|exact True.intro)):p:=h
def K71 (h:p:=by
 rcases Si.1 hj with h'|rfl
 ·exact Lj j h'
 ·exact h):p:=h
def K72 (h:p:=by
 repeat' ((first|refine tX 0 ?_|exact Zt|refine bR ?_ ?_<;>intro h)<;>(try conv=>whnf))
 all_goals first|exact Zo|exact gX (eU λh=>h0 h.1).symm):p:=h
def K73 (h:p:=by
 obtain⟨h1,h2⟩:=live hi e;refine⟨h2,(hR.rel i bx h2).1,λb1 xA=>setRow_other w b b1 _ λjt=>h1 ?_⟩;subst jt
 exact hR.inj i id b1 bx _ h2 hb xA xp):p:=h
def K76 (h:p:=by repeat first|refine BG.step rfl ?_|exact BG.base _):p:=h
def K77 (h:p:=by
 have hz:=hz n hd;have hap:(l++[n]).length =l.length+1:=by simp
 repeat' ((first|refine tX 0 ?_|exact Zt|refine bR ?_ ?_<;>intro h)<;>(try conv=>whnf))
 all_goals first|exact Zo|(exact absurd rfl h)|(exact⟨(i+1,st,l++[n]),⟨⟨ak,by dsimp only;omega⟩,hz⟩,by dsimp only;omega,Zc⟩)):p:=h
def K78 (h:p:=by
 repeat' split at h
 all_goals(simp only[gr]at h;obtain⟨rfl,h⟩:=h)
 all_goals first|exact hm|exact⟨hm.lots,hm.len,hm.gas,hm.used,hm.res⟩):p:=h
theorem K79 (h:p:=by
 cases d with
 |own k=>simp only[m7];rw[oC hT hm hme]
 |ptr k o=>simp only[m7];rw[oC hT hm hme]
 |cE k _ _ _=>simp only[m7];rw[oC hT hm hme]
 |mp k=>simp only[m7];rw[oC hT hm hme]
 |sD g k=>simp only[m7];rw[oC hT hm hme]
 |st c=>rfl
 |nil=>rfl):p:=h
def K80 (h:p:=by
 refine gB f287 ?_;repeat' ((first|(refine kO 7 rfl ?_;first|refine ii (λ_ z=>⟨_,_,_,kX (c2 _) rfl,z⟩) ?_|refine ii (λ_ z=>⟨_,_,_,kX (c3 _) rfl,z⟩) ?_)|refine tX 0 ?_|exact Zt|refine bR ?_ ?_<;>intro h)<;>(try conv=>whnf))
 all_goals exact⟨rfl,rfl,_,rfl,rfl⟩):p:=h
def K81 (h:p:=by
 have hu:=h0 _ rfl;refine⟨cQ β fid (some w.heap.size),_,u,R,hK,by rw[hu];exact(td.trans ht).trans t2,by grind,?_⟩;rw[hu];refine cH ⟨.inr rfl,rfl,λnL z' n' hb wt=>?_⟩;rw[am]at hb;cases hb;cases wt
 exact .inr ⟨w.heap.size,dK,_,e,by simp[cQ],rfl,uE,IG⟩):p:=h
def FX (h:p:=by assumption):p:=h
def K83 (h:p:=by
 refine sF f137 ?_;repeat' ((first|refine tX 0 ?_|exact Zt|refine bR ?_ ?_<;>intro h)<;>(try conv=>whnf))
 all_goals first|exact Zo|(exact rfl)|(exact absurd h hp)|(exact absurd rfl (by assumption))|(exact mG (fG (by omega)))|(exact mG (eU (by omega)))):p:=h
def K84 (h:p:=by
 (try(refine tX 0 ?_;try exact Zt))
 exact⟨(l++[(m:Int)%1000000000],m/1000000000),⟨g,by simp;omega,by simp;omega,by simp;omega,by simp;omega,by simp⟩,by simp only;omega,ai (by rw[show((m/1000000000:Nat):Int)=(m:Int)/1000000000 by omega];kernel_rfl)⟩):p:=h
def K85 (h:p:=by
 (try(refine tX 0 ?_;try exact Zt))
 exact⟨i+1,ak,by omega,ai (by rw[hs];kernel_rfl)⟩):p:=h
def K86 (h:p:=by
 refine gH f199 ?_;repeat' ((first|(refine kO 7 rfl ?_;first|refine ii (λ_ z=>⟨_,_,_,(cm _ _ _ _ _ rfl rfl rfl),z⟩) ?_)|refine tX 0 ?_|exact Zt|refine bR ?_ ?_<;>intro h)<;>(try conv=>whnf))
 all_goals first|exact Zs|exact⟨m3,dX rfl rfl,_,rfl,rfl⟩):p:=h
def K87 (h:p:=by
 repeat' ((first|refine tX 0 ?_|exact Zt|refine bR ?_ ?_<;>intro h)<;>(try conv=>whnf))
 all_goals first|exact Z0|(exact absurd hx h)):p:=h
def K88 (h:p:=by
 rw[lz]at hy;subst hy;intro d hd;rw[lz]at hd;subst hd
 trivial):p:=h
def K89 (h:p:=by
 obtain⟨_,b,h1,h2⟩:=h
 exact⟨(fC id hm).2,b,by rw[(fC id hm).1];exact h1,h2⟩):p:=h
def K90 (h:p:=by
 repeat' ((first|refine tX 0 ?_|exact Zt|refine bR ?_ ?_<;>intro h)<;>(try conv=>whnf))
 all_goals first|exact Zo|exact Ew):p:=h
def K91 (h:p:=by
 obtain⟨hn,b,h1,h2⟩:=h
 exact⟨t.used _ hn,b,by rw[t.kK _ hn];exact h1,h2⟩):p:=h
def K92 (h:p:=by
 intro d hd;rw[lz]at hd;subst hd
 trivial):p:=h
def K93 (h:p:=by
 repeat' ((first|refine tX 0 ?_|exact Zt|refine bR ?_ ?_<;>intro h)<;>(try conv=>whnf))
 all_goals first|exact Zo|(exact absurd rfl h)|(exact⟨(i+1,n,[]),⟨⟨ak,by simp⟩,by rw[h0];exact hz⟩,by dsimp only;omega,Zc⟩)):p:=h
def K94 (h:p:=by
 rw[if_pos hn]at e;refine⟨fresh (Fw.tag fid) 0 n,b'.rn (fresh (Fw.tag fid) 0),?_,?_,ph UA (fj.dQ n b' e)⟩
 grind[gz]
 ·rw[Hp.get_append,tE,if_pos (by show _∈ah _;grind[dn]),jR hi n hn,e];rfl):p:=h
def K95 (h:p:=by
 subst h1;rw[am]at e;cases e;intro d hd;simp only[dh,mV,mY]at hd
 rcases hd with rfl|rfl|rfl|rfl|rfl|rfl|rfl|rfl|rfl|rfl|rfl|rfl|rfl<;>first|trivial|(show _∈_::_;simp)):p:=h
def K96 (h:p:=by
 repeat' ((first|(refine kO 7 rfl ?_;first|refine ii (λ_ z=>⟨_,_,_,(c3 _ _ ⟨_,_,rfl,rfl⟩ rfl),z⟩) ?_)|refine tX 0 ?_|exact Zt|refine bR ?_ ?_<;>intro h)<;>(try conv=>whnf))
 all_goals first|exact Zo|exact Ex):p:=h
def K97 (h:p:=by
 (try(refine tX 0 ?_;try exact Zt))
 grind):p:=h
def K98 (h:p:=by
 intro b2 o v' wu;unfold Mem.but;split
 ·rename_i hb2;subst hb2;exfalso;unfold MV at wu;rw[if_pos q2]at wu;split at wu
  ·rename_i hs;have:=hs id _ hb h1
   grind[cB.sU]
  grind
 ·exact yl FD b2 o v' wu):p:=h
def K99 (h:p:=by
 (try(refine tX 0 ?_;try exact Zt))
 refine aD ?_
 (try(refine tX 0 ?_;try exact Zt))
 refine aD ?_
 exact tL):p:=h
def afy (h:p:=by
 obtain⟨o,b0,h1,rfl,h3,rfl⟩:=(m8.new fj hi).heap id b e
 exact JF (cB.dL l6 (fj.dQ o b0 h3))):p:=h
def ahO (h:p:=by
 simp only[cP,dh,mV,mY]at hd
 rcases hd with rfl|rfl|rfl|rfl|rfl|rfl|rfl|rfl|rfl|rfl|rfl|rfl|rfl|rfl|rfl|rfl|rfl<;>first|trivial|(show _∈ah _;simp[lA])):p:=h
def LW (h:p:=by have:=(e.text.getD i 0).toNat_lt;omega):p:=h
def xK (h:p:=by
 refine sF f280 ?_
 exact tL):p:=h
def ahP (h:p:=by
 rw[wL]at pF;simp only[dh]at pF;rcases pF with rfl|rfl|rfl|rfl|rfl|rfl|rfl|rfl|h'
 ·omega
 ·omega
 ·omega
 ·omega
 ·omega
 ·omega
 ·omega
 ·omega
 ·have:=wK hi h';omega):p:=h
def ahQ (h:p:=by
 simp only[cP,dh,mV,mY]at hd
 rcases hd with rfl|rfl|rfl|rfl|rfl|rfl|rfl|rfl|rfl|rfl|rfl|rfl|rfl|rfl|rfl|rfl|rfl<;>first|trivial|(show _∈_::_;simp)):p:=h
def ahR (h:p:=by
 repeat' ((first|(refine kO 7 rfl ?_;first|refine rG (λ_ z=>⟨_,MU (show(6:Int)≠0 by decide),z⟩) ?_)|refine tX 0 ?_|exact Zt|refine bR ?_ ?_<;>intro h)<;>(try conv=>whnf))
 all_goals exact Z0):p:=h
def afz (h:p:=by
 simp only[builtin,uE,RW,List.map_toArray,jw,CP,eJ,hr,mw]
 rfl):p:=h
def afA (h:p:=by
 repeat' ((first|refine tX 0 ?_|exact Zt|refine bR ?_ ?_<;>intro h)<;>(try conv=>whnf))
 all_goals exact Ew):p:=h
def afB (h:p:=by rw[show ws.getD i []=ws[i]by simp[jP,ak]];exact pH ak):p:=h
def ahS (h:p:=by
 (try(refine tX 0 ?_;try exact Zt))
 rw[e1];rw[f]
 (refine bR ?_ ?_<;>intro h<;>(try conv=>whnf))
 ·(try(refine tX 0 ?_;try exact Zt))
  rw[if_pos h]
 ·(try(refine tX 0 ?_;try exact Zt))
  rw[if_neg h]):p:=h
def afC (h:p:=by
 obtain⟨z,hz,rfl⟩:=my.1 hp;obtain⟨h5,h6⟩:=oE.2 z hz
 rw[k2 _ h5,k3 _ h6]):p:=h
def ahT (h:p:=by
 repeat' ((first|refine tX 0 ?_|exact Zt|refine bR ?_ ?_<;>intro h)<;>(try conv=>whnf))
 all_goals rfl):p:=h
def afD (h:p:=by
 rw[am]at this;cases this;cases wt
 exact .inr ⟨b,cap,_,T,by simp[cQ],rfl,uE,by omega⟩):p:=h
def ahU (h:p:=by
 obtain rfl:i=l.length:=by omega
 repeat' ((first|refine tX 0 ?_|exact Zt|refine bR ?_ ?_<;>intro h)<;>(try conv=>whnf))
 all_goals first|exact Zo|exact gX (fG ⟨h0,hp⟩).symm):p:=h
def afE (h:p:=by rwa [show(if b=true then(0:Int)else e)=if p then 0 else e from by simp only[BP.iff (b:=b)]]at h):p:=h
def ahV (h:p:=by
 unfold Go.Fw.IQ at h;simp only[sG]at h;have:=bX h.1.1;simp only[jw,CP,zP,dh,mV,mY,not_or]at this
 grind):p:=h
def vu (h:p:=by grind[fw,Op.operands]):p:=h
def abL (h:p:=by
 obtain⟨d,e1,e2⟩:=Jw hE e
 exact fC.vK (q3 s d e1) e2):p:=h
def UP (h:p:=by
 show(if u.rel then _ else _)=_
 rw[hrel];rfl):p:=h
def am5 (h:p:=by
 have:(gz (fresh (Fw.tag fid) 0) T' R).map Prod.snd=ah R++ah T':=by simp[gz,sn,FV]
 rw[this,IU]
 exact⟨hR,fj.nd,λa ha b hb R0=>by grind⟩):p:=h
def abM (h:p:=by
 rw[j8]
 grind[fZ,Nat.lt_of_lt_of_le,Nat.mul_le_mul_right]):p:=h
def ahW (h:p:=by
 refine sF f281 ?_;repeat' ((first|(refine kO 7 rfl ?_;first|refine Rq (kD _ _ _) ?_)|refine tX 0 ?_|exact Zt|refine bR ?_ ?_<;>intro h)<;>(try conv=>whnf))
 all_goals exact Z0):p:=h
def ahX (h:p:=by
 repeat' ((first|refine tX 0 ?_|exact Zt|refine bR ?_ ?_<;>intro h)<;>(try conv=>whnf))
 all_goals first|(exact rfl)|(cases x<;>first|(exact rfl)|(exact absurd rfl h)|(cases h))):p:=h
def ahY (h:p:=by
 repeat' ((first|refine tX 0 ?_|exact Zt|refine bR ?_ ?_<;>intro h)<;>(try conv=>whnf))
 all_goals first|exact Zo|exact⟨i+1,hp,by omega,ai (by rw[zB];kernel_rfl)⟩):p:=h
def ahZ (h:p:=by
 have:br 0 us=br 0 (us.take i)++(lA u (17+6*i) (19+6*i) (21+6*i)++br (i+1) (us.drop (i+1))):=by
  conv=>lhs;rw[h1]
  rw[yI,h2,j8];rfl
 grind):p:=h
def afF (h:p:=by
 generalize ar 32 s=l at*;have hn:(ab l).length =l.length:=by simp
 refine sF f69 ?_
 exact tA):p:=h
def ah0 (h:p:=by
 repeat' ((first|(refine kO 7 rfl ?_;first|refine rG (λ_ z=>⟨_,wF rfl,z⟩) ?_)|refine tX 0 ?_|exact Zt|refine bR ?_ ?_<;>intro h)<;>(try conv=>whnf))
 all_goals exact Ei):p:=h
def ah1 (h:p:=by
 rcases Nat.lt_or_gt_of_ne hjn with O9|hgt'
 ·have:(j+1)*z0<=n*z0:=kE _ O9
  grind
 ·have:(n+1)*z0<=j*z0:=kE _ hgt'
  grind):p:=h
def ah2 (h:p:=by
 show if iP=id then Q .normal a w else Q (.exit iP) a w
 split at h
 ·rename_i e;rw[if_pos (o7 e)];grind
 ·rename_i e
  rw[if_neg (λe'=>by simp_all)];grind):p:=h
def ah3 (h:p:=by
 obtain⟨o,n⟩:=q;obtain⟨h1,rfl⟩:=Tu.1 h;show tag n<n'
 rw[hT.tag h1];exact h0):p:=h
def ah4 (h:p:=by
 refine rG (r:=lit (.int .i64 (l.length:Nat))) (u:=[]) (R:=[]) (λK hK=>?_) h2;unfold fw;rw[ho];simp only[hc,ha,hx];unfold eX;simp only[hi,hk,SC.ao]
 exact hK):p:=h
def afG (h:p:=by
 have hk:iP≠fid:=λe=>hf (e▸Lk)
 exact⟨blk',(live hk e).2,blk'.fU⟩):p:=h
def ah5 (h:p:=by rw[vt];simp only[wv,sG];unfold eK;constructor<;>(intro h;refine⟨?_,?_⟩<;>first|omega|exact hp)):p:=h
def afH (h:p:=by simp[Instr.sliceAt,hT.cU,hd,Instr.sureAddr,Instr.sliceBounds,GV.iG,Addr.add]):p:=h
def ah6 (h:p:=by
 refine rG (r:=lit (.int .i64 (l.length:Nat))) (u:=[]) (R:=[id]) (λK hK=>?_) h2;unfold fw;rw[ho];simp only[hc,ha,hx];unfold eX;simp only[hi,hk,hH]
 exact hK):p:=h
def CZ (h:p:=by
 refine sF f203 ?_
 exact tL):p:=h
def ah7 (h:p:=by
 repeat' ((first|(refine kO 7 rfl ?_;first|refine Rh (jn _ _) ?_)|refine tX 0 ?_|exact Zt|refine bR ?_ ?_<;>intro h)<;>(try conv=>whnf))
 all_goals exact Z0):p:=h
def ah8 (h:p:=by
 intro p hp;rcases dh.1 hp with rfl|hp
 ·exact .inr ⟨t,cs,l,u,r,hb,rfl,eG,λq hq=>i8 _ hq⟩
 ·exact .inl (cJ eG p hp)):p:=h
def afI (h:p:=by
 intro d hd;rw[lz]at hd;subst hd
 exact hT.xE):p:=h
theorem ah9 (h:p:=by
 match vs,hl with
 | [],_=>rfl
 | [v],hl=>
  exfalso;have:l.length=1:=by grind
  obtain⟨y,rfl⟩:=xG.1 this
  grind
 |_::_::_,_=>rfl):p:=h
def aia (h:p:=by
 refine⟨.inr rfl,by rw[Ca];rfl,λnL z' n' hb wt=>?_⟩;rw[az _ _ _ (oh fh),iU]at hb;cases hb;cases wt
 exact .inl ⟨by simp[cQ],h0,Ca⟩):p:=h
def aib (h:p:=by
 repeat' ((first|refine tX 0 ?_|exact Zt|refine bR ?_ ?_<;>intro h)<;>(try conv=>whnf))
 all_goals first|exact Zo|(exact rfl)|(exact absurd (by assumption) hp)):p:=h
def afJ (h:p:=by
 (try(refine tX 0 ?_;try exact Zt))
 rw[if_neg h];(first|done|rfl|exact True.intro)):p:=h
def abN (h:p:=by unfold lA;dsimp only;rw[<- lq];kernel_rfl):p:=h
def PE (h:p:=by rw[Hp.au,am]):p:=h
theorem aic (h:p:=by
 have e1:lo.map a.eval=none:=by cases lo with|none=>rfl|some x=>grind
 have e2:hi.map a.eval=none:=by cases hi with|none=>rfl|some x=>grind
 grind):p:=h
def PF (h:p:=by
 refine gI f124 h3 hl rfl ?_
 exact tL):p:=h
def afK (h:p:=by
 obtain⟨rfl,_⟩:=hx.al.bw
 exact⟨_,rfl,bh.pure hR h (fT rfl)⟩):p:=h
def am6 (h:p:=by
 simp only[AT,CQ];rw[sE,hg]
 exact .lit rfl):p:=h
def aid (h:p:=by
 have hj:j<z':=by grind
 have ak:i*z'+j<c'.len*z':=by
  have:(i+1)*z'<=c'.len*z':=kE _ (SC.ip he)
  grind
 simp_all):p:=h
def abO (h:p:=by have:scB 1000000000000 (iW ch):=hS;omega):p:=h
def aie (h:p:=by
 refine sF f6 ?_;repeat' ((first|refine tX 0 ?_|exact Zt|refine bR ?_ ?_<;>intro h)<;>(try conv=>whnf))
 all_goals first|exact Z0|exact m9 (by simp)):p:=h
def aif (h:p:=by
 obtain⟨is,hd⟩:=U2 (hT.b8.trans bV);unfold Op.equal Op.maxDepth Op.equalIn
 simp only[eJ,hT.cU,hd,mw,lM]):p:=h
def aig (h:p:=by
 have:k=9\/k=11\/k=13\/k=15:=by simpa [F1,ah]using hk
 rcases this with rfl|rfl|rfl|rfl
 ·exact h9
 ·exact ha
 ·exact hb
 ·exact hc):p:=h
def aih (h:p:=by
 rw[aY hx h2 h4 (show aI E p log ⟨volt,earth,opens,hall,lots,units⟩ _ 3 [x,y] n r=(_,_)from if_pos hm)];refine gI f117 h3 hl rfl ?_
 exact tL):p:=h
def aii (h:p:=by
 rename_i xs ys;simp at h;subst h;refine⟨rfl,rfl,rfl,by simp[SC.len],λi e he=>?_⟩;simp only[SC.elem,SC.len,Su]at he ⊢
 grind):p:=h
def aij (h:p:=by
 rw[gq,my]at hk;obtain⟨x0,RW,rfl⟩:=hk
 exact fC.sj (hv k x0 RW) (nQ (B9 x0 (jv RW)))):p:=h
def aik (h:p:=by
 subst h2;unfold wd;rw[ex];simp only[CW,CT,df,Int.add_zero];refine sF f396 ?_
 (try(refine tX 0 ?_;try exact Zt))
 rw[ex];rfl):p:=h
def ail (h:p:=by
 rw[XK hi];show(if l[i]≠0 then l[i]else fs (l.drop (i+1)))=_
 rw[show l.getD i 0=l[i]by simp[jP,hi]]):p:=h
def aim (h:p:=by
 have pF:=P0 e;have e3:a2.tmps.getD s undef=a.tmps.getD s undef:=(u3 s pF).trans ((p3 s pF).trans (amH s pF));have:=u1.env s dv e
 grind):p:=h
theorem ain (h:p:=by
 clear hx
 induction x with
 |nil=>rfl
 |cons d x ih=>
  simp only[eZ]
  rw[key d ja,ih λd hd=>key d (i8 _ hd)]):p:=h
def aio (h:p:=by
 unfold fw at h;rw[ho]at h;simp only at h;split at h
 ·rename_i d hd;exact bJ (by simp[execOp,ho]) ⟨_,rfl,bh.pure hR h (ev hd)⟩
 grind):p:=h
theorem aip (h:p:=by
 generalize a.eval fo=vf at GO
 cases GO with
 |empty a cap hv=>grind[SC.ao]
 |view _ _ _ _ _ hv=>grind[SC.ao]
 |fn fv cv ga h1 h2=>
  grind):p:=h
def aiq (h:p:=by
 rw[aY hx h2 h4 (show aI E p log ⟨volt,earth,opens,hall,lots,units⟩ _ 16 [x] n r=(_,_)from rfl)];refine gI f130 h3 hl rfl ?_
 exact tL):p:=h
def air (h:p:=by
 obtain rfl:i=p.aa.length:=by omega
 rw[show(cL p.aa).take p.aa.length=cL p.aa from o0 (by simp[cL])]
 exact tA):p:=h
def Yd (h:p:=by grind[Nat.eq_of_mul_eq_mul_right]):p:=h
def afL (h:p:=by rwa [if_neg (λhb=>hp ((BP.iff (b:=b)).1 hb))]at h):p:=h
def ais (h:p:=by
 intro e he;rcases gC.1 he with he|he
 ·obtain⟨w,_,rfl⟩:=dS.1 he;rfl
 ·rw[lz]at he;subst he;rfl):p:=h
def ait (h:p:=by
 rw[DP zG ak];intro b jV;rcases gC.1 jV with jV|jV
 ·exact xj b jV
 ·rw[lz]at jV;subst jV;exact hx):p:=h
def UQ (h:p:=by rw[<- Ur];kernel_rfl):p:=h
def aiu (h:p:=by
 have hk:=Hp.dV e;have:k=11\/k=13\/k=15:=by simpa [lA,ah]using hk
 rcases this with rfl|rfl|rfl<;>(cases e;trivial)):p:=h
def afM (h:p:=by
 intro d hd;have:d= .st (.view (log.map cY)):=by grind
 subst this;trivial):p:=h
def aiv (h:p:=by
 rw[ho]at h;simp only at h ⊢;rw[he m (by grind[Op.operands]),he k (by grind[Op.operands]),he v (by grind[Op.operands])];split at h
 grind
 omega):p:=h
def afN (h:p:=by
 rcases Si.1 hj with h'|rfl
 ·exact hp j h'
 ·exact h):p:=h
theorem aiw (h:p:=by
 cases h with
 |empty _ _ hv=>grind[SC.ao]
 |view _ _ _ _ _ hv=>grind[SC.ao]
 |ref b o f hc hr=>exact .ref b o f (by simp) (by simp)):p:=h
def US (h:p:=by cases d<;>simp[eC]at h;grind):p:=h
def aix (h:p:=by
 subst xy;rw[am]at hb;cases hb;cases wt
 exact .inr ⟨w.heap.size,len,arr',e,by simp[cQ],by grind,gO w _,by omega⟩):p:=h
def UT (h:p:=by have:=(s.getD i 0).toNat_lt;omega):p:=h
def abP (h:p:=by simp only[qR];grind[cC,mL]):p:=h
def UU (h:p:=by
 refine gI f126 h3 hl rfl ?_
 exact tL):p:=h
def aiy (h:p:=by
 have:k=11\/k=13\/k=15:=by simpa [lA,ah]using hk
 rcases this with rfl|rfl|rfl<;>exact⟨by decide,by decide,rfl⟩):p:=h
def aiz (h:p:=by
 obtain rfl:i=ch.length:=by omega
 (try(refine tX 0 ?_;try exact Zt))
 rw[he,LI];(first|done|rfl|exact True.intro)):p:=h
def aiA (h:p:=by
 repeat' ((first|refine tX 0 ?_|exact Zt|refine bR ?_ ?_<;>intro h)<;>(try conv=>whnf))
 all_goals first|(exact rfl)|trace_state):p:=h
def afO (h:p:=by rw[vt];simp only[wv];omega):p:=h
def afP (h:p:=by exact⟨β,_,_,_,h,fj.bf,hH.bf,⟨#[],rfl,rfl,by simp⟩⟩):p:=h
def Ye (h:p:=by exact⟨q0,.inl ⟨by grind,q1.2⟩⟩):p:=h
def aiB (h:p:=by
 have:=h4 (ws.getD 0 []) (by rw[show ws.getD 0 []=ws[0]by simp[jP,h6]];exact pH h6)
 omega):p:=h
def aiC (h:p:=by
 intro k n y c hn;have:0<=(n:Int)/\(n:Int)<=(y:Int):=⟨by omega,by omega⟩
 simp[Instr.sliceBound,asIntOf,this]):p:=h
def aiD (h:p:=by
 (try(refine tX 0 ?_;try exact Zt))
 exact⟨i+1,⟨⟨by omega,ak⟩,amu⟩,by omega,ai (by rw[hv];kernel_rfl)⟩):p:=h
def aiE (h:p:=by simp only[qR];rw[cC c1,cC c2,cC c3,cC c4,cC c5,cC c6,cC c7,mL]):p:=h
def aiF (h:p:=by
 have hk:=(kp.1 hx).1;have pF:k<ds.length:=by omega
 have hd:ds[k]? =some ds[k]:=by grind
 grind):p:=h
def UV (h:p:=by unfold maxLen;omega):p:=h
def Yf (h:p:=by simp[sn,FV]):p:=h
def aiG (h:p:=by
 unfold gz
 exact gC.2 (.inl (jX.2 ⟨hk,rfl⟩))):p:=h
def afQ (h:p:=by
 by_cases hjn:j=n
 ·rw[if_pos hjn]at hj;grind[iq]
 grind):p:=h
def abQ (h:p:=by rw[vJ,lW];kernel_rfl):p:=h
def afR (h:p:=by rw[ni];exact yX (by rw[l5 Cd];simp)):p:=h
theorem aiH (h:p:=by
 match vs,hl,q2 with
 | [v],_,_=>exact⟨_,h,Uq 0 y rfl⟩
 | [],hl,q2=>grind
 |_::_::_,hl,q2=>grind):p:=h
theorem aiI (h:p:=by
 cases h2 with
 |num h=>exact h
 |empty a cap hv=>simp[SC.ao]at hv
 |view _ _ _ _ _ hv=>simp[SC.ao]at hv):p:=h
def aiJ (h:p:=by simp only[qR];rw[cC b1,cC b2,cC b3,cC b4,cC b5,cC b6,mL]):p:=h
def aiK (h:p:=by
 have:10*0+(b.toNat -48)<=fI 0 (b::r'):=Ae (acc:=10*0+(b.toNat -48)) (l:=r')
 grind[dp]):p:=h
def afS (h:p:=by
 rw[it _ _ _ hk]at jV
 exact hs iP bx (live hk e').2 jV):p:=h
def UW (h:p:=by exact .inl ⟨by decide,rfl⟩):p:=h
def am7 (h:p:=by
 rw[this,zS];have e:(B ∘ λx:ByteArray=>x.data.toList)=id:=by funext x;exact acI x
 simp_all):p:=h
def aiL (h:p:=by
 rw[h2]at h5;unfold wN;rw[h5];show(if b=true\/0<=v then some v else none).isSome =true
 rw[if_pos h1];rfl):p:=h
def aiM (h:p:=by
 obtain⟨h0,h⟩:=h;have h1: ¬b<0:=by omega
 refine⟨_,?_,?_,h⟩
 ·simp[binOp,Op.shift,h1]
 ·rfl):p:=h
def abR (h:p:=by unfold BV at hb0;rw[ea]at hb0;exact hb0):p:=h
def afT (h:p:=by
 refine gI f117 h3 hl rfl ?_
 exact tL):p:=h
def aiN (h:p:=by
 have hm:(if false=true\/0<=n then some n else none)=some m:=hm;split at hm
 ·cases hm;rfl
 ·cases hm):p:=h
def abS (h:p:=by grind[SC.elem]):p:=h
def afU (h:p:=by
 intro d hd;obtain⟨c,_,rfl⟩:=dS.1 hd
 trivial):p:=h
def aiO (h:p:=by
 cases x<;>cases y<;>cases z<;>first|(exact absurd ⟨⟨rfl,rfl⟩,rfl⟩ hall)|skip
 all_goals exact tA):p:=h
def aiP (h:p:=by
 have iU:=vm dy fh
 (try(refine tX 0 ?_;try exact Zt))
 generalize (vC.getD k 0).toNat =x at*
 exact tL):p:=h
def aiQ (h:p:=by
 obtain⟨N,⟨_,_,_,β,hE,hR⟩,_⟩:=hr;have:=mA hG hR hE hb
 exact(aq.al this).bw.1):p:=h
def aiR (h:p:=by rw[show((l.length:Int) -1+1).toNat =l.length by omega,J8,J8];kernel_rfl):p:=h
theorem aiS (h:p:=by
 match ps,hp2 with
 | [],_=>rfl
 | [_],_=>rfl
 |_::_::_::_,_=>rfl
 | [_,_],h=>exact absurd rfl h):p:=h
def aiT (h:p:=by exact Zn (JV hn hg (Int.gcd_dvd_left ..)) (JV ⟨by omega,by omega⟩ hg (Int.gcd_dvd_right ..))):p:=h
def aiU (h:p:=by rw[show ps.getD i []=ps[i]by simp[jP,ak]];exact pH ak):p:=h
def am8 (h:p:=by rwa [show Lc (fresh (tag fid) 1) (.val (dyn (I z)))= .val (dyn (I z))from aP DV.val (JJ _ _)]at g):p:=h
theorem am9 (h:p:=by
 cases h2 with
 |num h=>exact h
 |empty a cap hv=>grind[SC.ao]
 |view _ _ _ _ _ hv=>grind[SC.ao]):p:=h
def afV (h:p:=by rwa [if_pos ((BP.iff (b:=b)).2 hp)]at h):p:=h
def LX (h:p:=by exact⟨q0,.inl q1⟩):p:=h
def aiV (h:p:=by rw[Hp.au];exact λs dv e=>hs.vK (q3 s dv e)):p:=h
theorem aiW (h:p:=by
 cases k with
 |zero=>simp at hk;subst hk;exact⟨.int .i64 0,by grind,.lit rfl⟩
 |succ k=>grind):p:=h
def aiX (h:p:=by
 rintro⟨a,b,c,d⟩ h;obtain⟨e1,e2,e3,e4⟩:=J5 h
 rw[k1 _ e1,k2 _ e2,k3 _ e3,k4 _ e4]):p:=h
def aiY (h:p:=by simp only[execOp,ho,eJ,SU,hr,mw];rfl):p:=h
theorem aiZ (h:p:=by
 have:c.args.toList.length=2:=by omega
 match hl:c.args.toList,this with
 | [x0,x1],_=>grind):p:=h
theorem ai0 (h:p:=by
 cases h with
 |empty a cap hv h0=>exact .empty a cap hv h0
 |view _ _ _ _ _ hv fN=>grind[SC.len]):p:=h
def abT (h:p:=by rw[<- Es];simp[*]):p:=h
def UX (h:p:=by have:=hS.units;omega):p:=h
def ai1 (h:p:=by
 rw[lk,hT.lots u hm y hy]
 exact⟨.inl,λo=>o.resolve_right (hnu _ _ (hT.nm u hm) hy)⟩):p:=h
def ai2 (h:p:=by exact cH (.fn #[] #[] (λ_=> #[]) rfl rfl (by simp) (by simp) (by simp) (by simp) (by simp))):p:=h
def ai3 (h:p:=by
 unfold fw;rw[ho];simp only[hc,hx];show K (lit (.int .i64 (if b>a then b else a))) [] []
 grind):p:=h
def ai4 (h:p:=by
 unfold Op.equal Op.maxDepth
 exact L7 (n:=9999) (c:=.bool) rfl hT.IP (hT.b8.trans bV)):p:=h
def ai5 (h:p:=by exact(Px (w:=w) (a:=⟨b,o,none⟩) (zL.below.block b (ak h1) h1)).symm):p:=h
def ai6 (h:p:=by
 obtain rfl:i=p.aa.length:=by omega
 rw[o0 (dz _)]
 exact tA):p:=h
def Yg (h:p:=by unfold gok;omega):p:=h
def abU (h:p:=by rw[<- hb];kernel_rfl):p:=h
def UY (h:p:=by simpa using h):p:=h
def ai7 (h:p:=by
 (try(refine tX 0 ?_;try exact Zt))
 rw[he,if_pos h];(first|done|rfl|exact True.intro)):p:=h
def ai8 (h:p:=by
 obtain⟨c,_,rfl⟩:=dS.1 h;obtain⟨c',_,rfl⟩:=dS.1 hd
 trivial):p:=h
def UZ (h:p:=by
 refine sF f224 ?_
 exact tL):p:=h
theorem ai9 (h:p:=by
 cases h with
 |lit h=>rfl
 |empty a cap hv h0=>cases hv
 |view b o cap z f hv=>cases hv):p:=h
def aja (h:p:=by
 simp only[jP,PC]
 rw[show 1+(i -1)=i by omega]):p:=h
def afW (h:p:=by
 rw[fG hx]at hp1;rw[nM hx]
 exact tL):p:=h
def ajb (h:p:=by
 rw[PC]at hc;simp at e;subst e;have:=q5 _ _ hc
 simpa using this.flat rfl):p:=h
def ajc (h:p:=by
 simp only[jW,h1,h2,h3,h4,h5,h6,h7,fp,eZ,m7,id1,id2,id3,id4]
 rfl):p:=h
def ana (h:p:=by
 intro d hd;have:d= .ptr 1 0:=by simpa using hd
 subst this
 exact(dq p l hu).xE):p:=h
def ajd (h:p:=by simp[jP,h]):p:=h
def abV (h:p:=by have:=h n hn;omega):p:=h
def Yh (h:p:=by cases k<;>rfl):p:=h
def anb (h:p:=by rw[CK,oX h];simp[jP,h]):p:=h
def anc (h:p:=by rw[jP,oX ak];exact pH _):p:=h
def aje (h:p:=by exact⟨β,_,_,_,hK,(tG.trans t2).bf,hN.bf,⟨#[],rfl,rfl,by simp⟩⟩):p:=h
def ane (h:p:=by
 intro hm;have hm:n∈ah (cS (fresh (Fw.tag fid) 0) T'):=hm
 grind[dn]):p:=h
def afX (h:p:=by unfold gY cT at hx;omega):p:=h
def ajf (h:p:=by
 intro d hd;have:d= .st (.view (l.map cY)):=by simpa using hd
 subst this
 trivial):p:=h
def abW (h:p:=by simpa using hi):p:=h
def ajg (h:p:=by
 (try(refine tX 0 ?_;try exact Zt))
 generalize (s.getD 1 0).toNat =c at*
 exact tL):p:=h
def ajh (h:p:=by
 rw[hs];refine⟨by rw[nz.eq];omega,⟨by omega,by grind⟩,u,?_⟩
 simp_all):p:=h
def aji (h:p:=by
 rw[hs];refine⟨by rw[nz.eq];omega,⟨by grind,by omega⟩,u,?_⟩
 simp_all):p:=h
def ajj (h:p:=by
 rw[am]at hb;cases hb;cases wt
 exact .inl ⟨by simp[cQ],h0,rfl⟩):p:=h
def ajk (h:p:=by
 rw[dn]at hid;obtain⟨k,hk,rfl⟩:=dS.1 hid
 exact l6 k hk):p:=h
def ajl (h:p:=by
 rw[run_choose];simp only[Question.forced,sV,kM,hk]
 rfl):p:=h
def ajm (h:p:=by
 show -9223372036854775807<=x.tmod y/\x.tmod y<=9223372036854775807
 omega):p:=h
def ajn (h:p:=by have:=(kp.1 IK).1;have h17:k+1<17:=this;omega):p:=h
def afY (h:p:=by exact⟨_,_,_,_,_,_,_,_,_,_,rfl⟩):p:=h
def Yi (h:p:=by simp[SC.len]):p:=h
def afZ (h:p:=by grind[yt,s8,i64_in]):p:=h
def ajo (h:p:=by
 have hid:id∈ah (cS (fresh (Fw.tag fid) 0) T'):=hid
 grind[dn]):p:=h
def abX (h:p:=by rw[kI];exact h3):p:=h
def ajp (h:p:=by
 rcases this with rfl|rfl|rfl
 ·rw[h1];rfl
 ·rw[h2];rfl
 ·rw[h3];rfl):p:=h
def ajq (h:p:=by
 by_cases he:E.2=0
 ·rw[if_pos he];exact tL
 ·rw[if_neg he]
  exact tL):p:=h
def ajr (h:p:=by intro x hx;simp at hx;rcases hx with rfl|rfl<;>rfl):p:=h
def af0 (h:p:=by
 unfold dyn;simp only[zS]
 congr 1):p:=h
def abY (h:p:=by dsimp only;omega):p:=h
def Yj (h:p:=by
 refine sF f304 ?_
 exact tL):p:=h
def ajs (h:p:=by
 rw[az _ _ _ hi]at e
 exact⟨e,(hN.rel i b0 e).1,λ_ _=>rfl⟩):p:=h
def ajt (h:p:=by rw[xI,Sm];omega):p:=h
def aju (h:p:=by
 conv=>rhs;rw[<- ih]
 cases ws<;>simp[join_cons,join_one,joinTail]):p:=h
def af1 (h:p:=by have:=aP List.length dJ;grind):p:=h
def ajv (h:p:=by
 obtain rfl:k=3:=by omega
 exact absurd (hkk.symm.trans (hkn dy)) h3):p:=h
def ajw (h:p:=by simp[Instr.indexAt,asIntOf,hT.cU,hd,h2,hE.iG,addr_add]):p:=h
def ajx (h:p:=by rw[show(l++[r]).take (w+1)=l by rw[<- ak];simp];simp;omega):p:=h
def abZ (h:p:=by rw[jf,aav]):p:=h
def ajy (h:p:=by
 rw[bL e1]
 exact(q7 j e k x he hk).mono fj.mv (Mem.le_refl _)):p:=h
def ajz (h:p:=by
 (try(refine tX 0 ?_;try exact Zt))
 rw[Int.neg_mul,CX];rfl):p:=h
def ab0 (h:p:=by rw[hgl];omega):p:=h
def U0 (h:p:=by simp[h]):p:=h
def af2 (h:p:=by rw[e1,e2];kernel_rfl):p:=h
def ajA (h:p:=by
 rw[Y2,Y2,show(a==b)=decide (a=b)by grind]
 exact hK):p:=h
def ajB (h:p:=by have:=aeu n (show d≠0 by omega);omega):p:=h
def ajC (h:p:=by
 refine(LD hy).2 ⟨by omega,by omega,?_⟩
 grind):p:=h
def af3 (h:p:=by
 rw[eU hx]at hp1
 exact tL):p:=h
def ajD (h:p:=by
 have:id=fid:=by simpa using hid
 rw[this]):p:=h
def ajE (h:p:=by rw[hn];exact gk.2 ⟨hT.fresh,λx g=>absurd g (fh x)⟩):p:=h
def ajF (h:p:=by
 rw[CQ]at this;rw[<- this,<- Array.foldl_toList]
 simp):p:=h
theorem ajG (h:p:=by
 cases hl:c.args.toList with
 |nil=>grind
 |cons x0 rest=>grind):p:=h
def ajH (h:p:=by
 refine⟨[.lit (.int .i64 (l.getD n 0))],?_,hK⟩
 grind[SC.elem]):p:=h
def ajI (h:p:=by first|exact lvM h1|exact uvM λ_=>rfl):p:=h
def ajJ (h:p:=by first|exact lvM h4|exact uvM λ_=>rfl):p:=h
def ab1 (h:p:=by have:=SC.ip he;omega):p:=h
def ajK (h:p:=by rw[this,b4,<- SZ];exact kE _ nq):p:=h
def ajL (h:p:=by
 rw[UK hkp]at hk;have:=hr.2 k c hk
 grind):p:=h
def ajM (h:p:=by simp only[gr]at h;obtain⟨rfl,h⟩:=h;exact hm):p:=h
def ab2 (h:p:=by grind[jL]):p:=h
def anf (h:p:=by cases h):p:=h
def af4 (h:p:=by grind[lT]):p:=h
def ang (h:p:=by
 rcases h with h|h
 ·exact h.2 mv w vs hm hG ha
 ·exact h.elim):p:=h
def ajN (h:p:=by
 obtain rfl:i=ps.length:=by omega
 rw[gT dy]
 exact tA):p:=h
def ab3 (h:p:=by grind[maxLen]):p:=h
def ab4 (h:p:=by grind[rd,cell_setRow_other]):p:=h
def af5 (h:p:=by simp[Op.equalIn,sY hu]):p:=h
def ab5 (h:p:=by rw[<- SZ];grind):p:=h
def anh (h:p:=by
 have:=ph (ρ:=λk=>k) jq g2
 grind[cB.Lm]):p:=h
def af6 (h:p:=by
 refine gI f127 h3 hl rfl ?_
 exact tL):p:=h
def ab6 (h:p:=by rw[q1];rfl):p:=h
def ajO (h:p:=by
 obtain rfl:k=res.length:=by omega
 rw[Oe]
 exact tL):p:=h
def ajP (h:p:=by(conv=>rhs;rw[<- lq]);kernel_rfl):p:=h
def ajQ (h:p:=by
 rw[az _ _ _ h]at e
 exact⟨blk',e,blk'.fU⟩):p:=h
def ajR (h:p:=by
 show(if(index s [32]== -1)=true then _ else _)=_
 grind):p:=h
def ajS (h:p:=by
 conv=>lhs;rw[<- e]
 simp[jP,hv]):p:=h
def ajT (h:p:=by
 simp only[SK,hc.size,hd.size,O6]
 grind):p:=h
def ajU (h:p:=by exact .inr ⟨b,cap,arr,T,by simp[cQ],rfl,r1,r2⟩):p:=h
theorem ajV (h:p:=by
 cases r with
 |uK z c=>exact hm.elim
 |_=>exact hs.elim):p:=h
def ab7 (h:p:=by
 refine sF f213 ?_
 exact tL):p:=h
def ab8 (h:p:=by
 refine sF f310 ?_
 exact tL):p:=h
def ab9 (h:p:=by
 refine sF f370 ?_
 exact tL):p:=h
def aca (h:p:=by
 refine sF f252 ?_
 exact tA):p:=h
def acb (h:p:=by
 refine sF f110 ?_
 exact tL):p:=h
def ajW (h:p:=by
 rw[hx]at hc;generalize t.bu.getD i []=y at*
 exact tL):p:=h
def acd (h:p:=by simpa [F0,ah]using hk):p:=h
def ajX (h:p:=by rw[np,<- SZ];exact kE _ eB):p:=h
theorem ajY (h:p:=by
 cases qs with
 |nil=>simp at ha;omega
 |cons a b=>simp):p:=h
def ajZ (h:p:=by have:=(Ub hP h).1.units;omega):p:=h
def af7 (h:p:=by
 rw[hm];refine sF f229 ?_
 exact tA):p:=h
def aj0 (h:p:=by rw[hs];exact λt e=>(hd t e).1):p:=h
theorem aj1 (h:p:=by
 induction n with
 |zero=>rfl
 |succ n ih=>grind[cV]):p:=h
def ani (h:p:=by exact⟨_,rfl,Below.refl _ _,⟨_,rfl,.lit rfl⟩⟩):p:=h
theorem aj2 (h:p:=by
 cases qs with
 |nil=>simp at ha;omega
 |cons a b=>rfl):p:=h
def anj (h:p:=by
 have:=ww.1 hn q h
 rwa [AU]at this):p:=h
def ace (h:p:=by exact Ph S a w' eL hr):p:=h
def aj3 (h:p:=by
 obtain⟨h5,h6⟩:=oE.2 p hp
 rw[k2 _ h5,k3 _ h6]):p:=h
theorem aj4 (h:p:=by
 induction n with
 |zero=>rfl
 |succ n ih=>grind[aW]):p:=h
def aj5 (h:p:=by dsimp only;rw[e1,e2];kernel_rfl):p:=h
def acf (h:p:=by
 rw[eN dy]
 exact tA):p:=h
def acg (h:p:=by
 refine sF f88 ?_
 exact tA):p:=h
def af8 (h:p:=by simp only;omega):p:=h
def af9 (h:p:=by rw[kI];decide):p:=h
def aj6 (h:p:=by rw[<- e];exact(hT.lt id hid).2):p:=h
def aj7 (h:p:=by
 rcases FN h h' with⟨rfl,rfl⟩|rfl
 ·rfl
 ·simp):p:=h
def aj8 (h:p:=by
 rw[bL e1]
 exact fj.ju hR (q7 j e k x he hk)):p:=h
theorem aj9 (h:p:=by
 cases base with
 |none=>simp_all
 |some b=>simp_all):p:=h
def aga (h:p:=by rw[<- hzl,<- hE.xC];simp):p:=h
def agb (h:p:=by
 rw[this]
 exact .lit rfl):p:=h
def aka (h:p:=by rw[jf];kernel_rfl):p:=h
def akb (h:p:=by rw[bp,bp];omega):p:=h
def ach (h:p:=by grind[cC,mL]):p:=h
def akc (h:p:=by
 rw[gq,IK]at hd;cases hd
 exact .st _):p:=h
def akd (h:p:=by rintro⟨a',w',h⟩;exact h):p:=h
def ake (h:p:=by rw[FF];exact dz _):p:=h
def aci (h:p:=by simp[F1]):p:=h
def akf (h:p:=by simp[execOp,ho,hcv,asBool]):p:=h
def agc (h:p:=by simpa using hl):p:=h
def akg (h:p:=by
 rcases h with h|h
 grind
 ·rw[h,jQ];grind):p:=h
def akh (h:p:=by
 rw[Hp.au,xy]
 exact t3.env hN (t2.env q4 q3)):p:=h
def agd (h:p:=by simpa using h5):p:=h
def aki (h:p:=by exact eG (es:=[]) (.empty _ _ rfl rfl) (by simp)):p:=h
def akj (h:p:=by
 obtain⟨h1,h2⟩:=aH h
 grind[Mv]):p:=h
def acj (h:p:=by simp[br,lA,ah]):p:=h
def akk (h:p:=by have:=h4 b (by simp);omega):p:=h
def akl (h:p:=by have:=h4 a (by simp);omega):p:=h
def akm (h:p:=by grind[SC.len]):p:=h
def akn (h:p:=by grind[jK]):p:=h
def ako (h:p:=by
 rw[eS h6];generalize jO ru=e at*
 exact tL):p:=h
def akp (h:p:=by
 have ea:BU s=0:=by unfold BU;grind
 grind):p:=h
def akq (h:p:=by cases hb;obtain⟨_,b,_,rfl⟩:=h1;grind):p:=h
def akr (h:p:=by
 obtain⟨c0,h3,h4⟩:=uG j _ _ hj
 grind):p:=h
def aks (h:p:=by
 rename_i aoA;split at h
 grind[lO]
 grind):p:=h
def akt (h:p:=by obtain⟨m,z,c,rfl⟩:=tR e;trivial):p:=h
def aku (h:p:=by
 rw[bL e]
 exact fj.ju hR (h5 k x hk)):p:=h
def akv (h:p:=by simp;rw[hc.size];omega):p:=h
def akw (h:p:=by simp[Builtin.firstCells]):p:=h
def akx (h:p:=by subst h7;rw[am]at e;cases e;trivial):p:=h
def aky (h:p:=by subst h3;rw[am]at e;cases e;trivial):p:=h
def akz (h:p:=by subst h5;rw[am]at e;cases e;trivial):p:=h
end Go
namespace Go.Fw
open Go.RowKit (Below)
inductive SC where
 |lit (v:Value)
 |ints (xs:List Int)
 |view (es:List (List SC))
 |ref (cs:List SC)
 |fn (f:FuncId) (first:List (Bool × List SC)) (bI:List (List SC))
 |err
 |num (k:IntKind)
 |raw (v:Value)
 |any
 deriving Inhabited
abbrev SV:=Bool × List SC
namespace SC
def ao:SC->Bool
 | .ints _| .view _=>true
 |_=>false
def len:SC->Nat
 | .ints xs=>xs.length
 | .view es=>es.length
 |_=>0
def elem:SC->Nat->Option (List SC)
 | .ints xs,i=>(xs[i]?).map λn=>[.lit (.int .i64 n)]
 | .view es,i=>es[i]?
 |_,_=>none
end SC
theorem SC.ip {c:SC}{i:Nat}{e:List SC}(h:c.elem i=some e):i<c.len:=by
 cases c<;>simp[SC.elem,SC.len]at h ⊢
 grind
 grind
def SC.oe {c:SC}{i:Nat}(h:i<c.len): ∃e,c.elem i=some e:=by
 cases c<;>simp[SC.elem,SC.len]at h ⊢;simp_all;simp_all
def plain:Value->Bool
 | .bool _| .int _ _| .float _ _| .complex _ _ _| .string _| .nilFunc | .nilIface | .pointer none| .map none| .chan none=>true
 |_=>false
abbrev Mem:=Nat->Nat->Option Value
def Mem.le (m m':Mem):Prop:=∀b o v,m b o=some v->m' b o=some v
def eV:Mem:=λ_ _=>none
def rd (w:World):Mem:=λb o=>w.cell? ⟨b,o,none⟩
def Mem.le_refl (m:Mem):m.le m:=λ_ _ _ h=>h
def Mem.le_trans {a b c:Mem}(h:a.le b)(k:b.le c):a.le c:=λx y v e=>k x y v (h x y v e)
def ec (m:Mem):eV.le m:=λ_ _ _ h=>by grind[eV]
inductive dw (mv:Mem):Mem->Value->SC->Prop
 |lit {mr:Mem} {v:Value} (h:plain v=true):dw mv mr v (.lit v)
 |empty {mr:Mem} {c:SC} (a:Option Addr) (cap:Nat) (hv:c.ao=true) (h0:c.len=0):dw mv mr (.slice a 0 cap) c
 |view {mr:Mem} {c:SC} (b o cap z:Nat) (f:Nat->Value) (hv:c.ao=true) (fN:0<c.len) (hz:0<z) (fX:c.len<=cap)
   (hl: ∀i e,c.elem i=some e->e.length=z) (hc: ∀k,k<c.len*z->mv b (o+k)=some (f k))
   (hr: ∀(i:Nat) (e:List SC) (j:Nat) (x:SC),c.elem i=some e->e[j]? =some x->dw mv eV (f (i*z+j)) x):dw mv mr (.slice (some ⟨b,o,none⟩) c.len cap) c
 |ref {mr:Mem} {cs:List SC} (b o:Nat) (f:Nat->Value) (hc: ∀k,k<cs.length->mr b (o+k)=some (f k))
   (hr: ∀(k:Nat) (x:SC),cs[k]? =some x->dw mv mr (f k) x):dw mv mr (.pointer (some ⟨b,o,none⟩)) (.ref cs)
 |err {mr:Mem} {v:Value} (h: ∃T x,v= .iface T x):dw mv mr v .err
 |num {mr:Mem} {v:Value} {k:IntKind} (h: ∃m,v= .int k m):dw mv mr v (.num k)
 |raw {mr:Mem} {v:Value} (h:v.oneCell'=true):dw mv mr v (.raw v)
 |any {mr:Mem} {v:Value} (h:v.oneCell'=true):dw mv mr v .any
 |fn {mr:Mem} {f:FuncId} {first:List (Bool × List SC)} {bI:List (List SC)} (fv cv:Array Value) (ga:Nat->Array Value) (h1:fv.size=first.length) (h2:cv.size=bI.length)
   (hf1: ∀(j:Nat) (c:SC),first[j]? =some (false,[c])->dw mv mr (fv.getD j undef) c) (hf0: ∀(j:Nat) (cs:List SC),first[j]? =some (false,cs)->∃c,cs= [c])
   (hf2: ∀(j:Nat) (cs:List SC),first[j]? =some (true,cs)->fv.getD j undef= .agg (ga j)/\(ga j).size =cs.length)
   (hf3: ∀(j:Nat) (cs:List SC) (k:Nat) (x:SC),first[j]? =some (true,cs)->cs[k]? =some x->dw mv mr ((ga j).getD k undef) x)
   (Xq: ∀(j:Nat) (cs:List SC),bI[j]? =some cs->dw mv mr (cv.getD j undef) (.ref cs)):dw mv mr (.func (.func f) fv cv) (.fn f first bI)
def dw.mono {mv mr mv' CD:Mem}(hv:mv.le mv')(hr:mr.le CD){v:Value}{c:SC}(h:dw mv mr v c):dw mv' CD v c:=by
 induction h generalizing CD with
 |lit h=>exact .lit h
 |empty a cap hv h0=>exact .empty a cap hv h0
 |view b o cap z f h1 h2 h3 h4 hl hc _ ih=>exact .view b o cap z f h1 h2 h3 h4 hl (λk hk=>hv _ _ _ (hc k hk)) λi e j x he hx=>ih i e j x he hx (Mem.le_refl _)
 |ref b o f hc _ ih=>exact .ref b o f (λk hk=>hr _ _ _ (hc k hk)) λk x hx=>ih k x hx hr
 |err h=>exact .err h
 |num h=>exact .num h
 |raw h=>exact .raw h
 |any h=>exact .any h
 |fn fv cv ga h1 h2 _ hf0 hf2 _ _ i1 i3 ic=>exact .fn fv cv ga h1 h2 (λj c hc=>i1 j c hc hr) hf0 hf2 (λj cs k x h1 h2=>i3 j cs k x h1 h2 hr) λj cs hc=>ic j cs hc hr
def SC.flat:SC->Bool
 | .ref _| .fn _ _ _=>false
 |_=>true
theorem dw.flat {mv mr CD:Mem}{v:Value}{c:SC}(h:dw mv mr v c)(hf:c.flat=true):dw mv CD v c:=by
 cases h with
 |lit h=>exact .lit h
 |empty a cap hv h0=>exact .empty a cap hv h0
 |view b o cap z f h1 h2 h3 h4 hl hc hr=>exact .view b o cap z f h1 h2 h3 h4 hl hc hr
 |ref b o f hc _=>grind[SC.flat]
 |err h=>exact .err h
 |num h=>exact .num h
 |raw h=>exact .raw h
 |any h=>exact .any h
 |fn=>grind[SC.flat]
def er (mv mr:Mem)(v:Value)(x:SV):Prop:=
 if x.1 then ∃arr,v= .agg arr/\arr.size=x.2.length/\∀k c,x.2[k]? =some c->dw mv mr (arr.getD k undef) c
 else ∃c,x.2= [c]/\dw mv mr v c
def er.mono {mv mr mv' CD:Mem}(hv:mv.le mv')(hr:mr.le CD){v:Value}{x:SV}(h:er mv mr v x):er mv' CD v x:=by
 unfold er at*;split
 ·rename_i hx;rw[if_pos hx]at h;obtain⟨arr,h1,h2,h3⟩:=h;exact⟨arr,h1,h2,λk c hc=>(h3 k c hc).mono hv hr⟩
 ·rename_i hx;rw[if_neg hx]at h;obtain⟨c,h1,h2⟩:=h;exact⟨c,h1,h2.mono hv hr⟩
def o4 (mv mr:Mem)(vs:Array Value)(l:List SV):Prop:=vs.size=l.length/\∀k x,l[k]? =some x->er mv mr (vs.getD k undef) x
def o4.mono {mv mr mv' CD:Mem}(hv:mv.le mv')(hr:mr.le CD){vs:Array Value}{l:List SV}(h:o4 mv mr vs l):o4 mv' CD vs l:=
 ⟨h.1,λk x hx=>(h.2 k x hx).mono hv hr⟩
def LY (w:World)(mv:Mem)(b z:Nat)(c:SC)(cap:Nat):Prop:=
 ∃arr T,w.heap[b]? =some (.cells arr T)/\arr.size=cap*z/\0<z/\c.ao=true/\c.len<=cap/\(∀i e,c.elem i=some e->e.length=z)/\
  ∀i e j x,c.elem i=some e->e[j]? =some x->dw mv eV (arr.getD (i*z+j) undef) x
inductive ma where
 |one (x:SV)
 |aJ (l:List SV)
 |own (z:Nat) (c:SC)
 |mix (t:Bool) (l:List (Bool × List (Option SC))) (z:Nat) (c:SC)
 |uK (z:Nat) (c:SC)
def PG (m:Mem)(vo v:Value):Option SC->Prop
 |some c=>dw m eV v c
 |none=>v=vo
def BM (m:Mem)(vo v:Value)(x:Bool × List (Option SC)):Prop:=
 if x.1 then ∃arr,v= .agg arr/\arr.size=x.2.length/\∀k c,x.2[k]? =some c->PG m vo (arr.getD k undef) c
 else ∃c,x.2= [c]/\PG m vo v c
def BM.mono {m m':Mem}(h:m.le m'){vo v:Value}{x:Bool × List (Option SC)}(hx:BM m vo v x):BM m' vo v x:=by
 have key: ∀ {v:Value} {c:Option SC},PG m vo v c->PG m' vo v c:=by
  intro v c hc
  cases c with
  |none=>exact hc
  |some c=>exact dw.mono h (Mem.le_refl _) hc
 unfold BM at*
 grind
def dW (mv:Mem)(n:Nat)(w':World):Mem:=λb o=>if n<=b then rd w' b o else mv b o
def Mem.but (m:Mem)(b:Nat):Mem:=λb' o=>if b'=b then none else m b' o
def qT (mv:Mem)(n:Nat)(w':World)(v:Value):ma->Prop
 | .one x=>er (dW mv n w') eV v x
 | .aJ l=>∃arr,v= .tuple arr/\o4 (dW mv n w') eV arr l
 | .own z c=>(v= .slice none 0 0/\c.len=0/\c.ao=true/\0<z/\∀i e,c.elem i=some e->e.length=z)\/
   ∃b cap,v= .slice (some ⟨b,0,none⟩) c.len cap/\n<=b/\LY w' ((dW mv n w').but b) b z c cap
 | .mix t l z c=>∃vo m,((vo= .slice none 0 0/\c.len=0/\c.ao=true/\0<z/\(∀i e,c.elem i=some e->e.length=z)/\m=dW mv n w')\/
   ∃b cap,vo= .slice (some ⟨b,0,none⟩) c.len cap/\n<=b/\LY w' ((dW mv n w').but b) b z c cap/\m=(dW mv n w').but b)/\
   if t then ∃arr,v= .tuple arr/\arr.size=l.length/\∀k x,l[k]? =some x->BM m vo (arr.getD k undef) x else ∃x,l= [x]/\BM m vo v x
 | .uK _ _=>False
abbrev s7:=List (Nat × List SC)
def eQ (gl:s7)(m:Mem):Prop:=∀g cs,(g,cs)∈gl->(∀k x,cs[k]? =some x->∃v,m g k=some v/\dw eV eV v x)/\(0<cs.length->m g cs.length=none)
def iH (P:Program)(f:FuncId):Bool:=
 match P.funcs[f]? with
 |some fn=> !(fn.name=="runtime.NumGoroutine")&&fn.body.isSome
 |none=>false
def akA (P:Program)(gl:s7)(f:FuncId)(args:List SV)(r:ma):Prop:=
 iH P f=true/\∀(mv:Mem) (w:World) (vs:Array Value),mv.le (rd w)->eQ gl (rd w)->o4 mv (rd w) vs args->
  Calls P f vs w λe w'=>∃v,e= .returned v/\Below w.heap.size w w'/\qT mv w.heap.size w' v r
def akB (P:Program)(f:FuncId)(args:List SV):ma->Prop
 | .uK z c'=>∃c,args= [(false,[c])]/\iH P f=true/\c'.ao=true/\c'.len=c.len/\(∀i e,c'.elem i=some e->e.length=z)/\
   (c.len=0->∀w,Calls P f #[.slice none 0 0] w λe w'=>e= .returned (.tuple #[])/\Below w.heap.size w w')/\
   ∀(mv:Mem) (w:World) (b cap:Nat) (arr:Array Value) (T:TypeId),w.heap[b]? =some (.cells arr T)->arr.size=cap*z->c.len<=cap->
    (∀i e j x,c.elem i=some e->e[j]? =some x->dw mv eV (arr.getD (i*z+j) undef) x)->
    Calls P f #[.slice (some ⟨b,0,none⟩) c.len cap] w λe w'=>e= .returned (.tuple #[])/\∃w1 arr',Below w.heap.size w w1/\w'=w1.setRow b arr'/\arr'.size=arr.size/\
     ∀i e j x,c'.elem i=some e->e[j]? =some x->dw mv eV (arr'.getD (i*z+j) undef) x
 |_=>False
def nN (P:Program)(gl:s7)(f:FuncId)(args:List SV)(r:ma):Prop:=akA P gl f args r\/akB P f args r
def nN.pure {P:Program}{gl:s7}{f:FuncId}{args:List SV}{x:SV}(h:nN P gl f args (.one x)):akA P gl f args (.one x):=h.elim id λh=>h.elim
end Go.Fw
namespace Go.Fw
inductive DC where
 |st (c:SC)
 |ptr (id off:Nat)
 |own (id:Nat)
 |cE (id z i off:Nat)
 |nil
 |mp (id:Nat)
 |sD (f:Nat) (id:Nat)
 deriving Inhabited
abbrev DX:=Bool × List DC
inductive DV where
 |val (x:DX)
 |aJ (l:List DX)
 deriving Inhabited
inductive cB where
 |box (t:TypeId) (cs:List DC)
 |dZ (cs:List SC)
 |row (m:Bool) (z:Nat) (c:SC)
 |aG (z:Nat) (l:List (List DC))
 |map (es:List (ByteArray × SV))
 deriving Inhabited
def cB.sz:cB->Option (Nat × Nat)
 | .row _ z c=>some (z,c.len)
 | .aG z l=>some (z,l.length)
 |_=>none
abbrev Hp:=List (Nat × Option cB)
def Hp.get:Hp->Nat->Option cB
 | [],_=>none
 |(j,b)::H,i=>match Nat.beq i j with
  |true=>b
  |false=>Hp.get H i
abbrev HF:=Nat->Option cB
abbrev EF:=Nat->Option DV
abbrev dT:=List (Nat × Option DV)
def dT.get:dT->Nat->Option DV
 | [],_=>none
 |(j,b)::H,i=>match Nat.beq i j with
  |true=>b
  |false=>dT.get H i
inductive AW where
 |int (k:IntKind)|bool|str|slice (e:TypeId)|array (n:Nat) (e:TypeId)|struct (fs:List (Nat × TypeId))|ptr (e:TypeId)|func|iface|map (k e:TypeId)|other
 deriving Inhabited
def cF:AW->Bool
 | .struct _=>true
 | .array _ _=>true
 |_=>false
inductive ZC where
 |lit (v:Value)
 |nil
 deriving Inhabited
structure TI where
 b8:AW
 size:Nat
 bytes:Nat
 zero:List ZC
 kinds:List Bool
 eqs:Option (List AW)
 deriving Inhabited
def eC:TypeDesc->AW
 | .int k=>.int k
 | .bool =>.bool
 | .string =>.str
 | .slice e=>.slice e
 | .array n e=>.array n e
 | .struct fs=>.struct (fs.toList.map λf=>(f.offset,f.type))
 | .pointer e=>.ptr e
 | .func _ _ _=>.func
 | .interface _=>.iface
 | .map k e=>.map k e
 |_=>.other
def BN:Value->ZC
 | .slice none 0 0=>.nil
 |v=>.lit v
def kN (P:Program):Nat->TypeId->Option (List AW)
 |0,_=>none
 |d+1,t=>match P.info? t,P.underlying t with
  |some i,some .bool =>if i.size=1 then some [.bool]else none
  |some i,some (.int k)=>if i.size=1 then some [.int k]else none
  |some i,some .string =>if i.size=1 then some [.str]else none
  |some i,some (.struct fs)=>match P.stoodInHeld t,fs.toList.foldl (λacc f=>match acc with
    |none=>none
    |some l=>match f.name != "_"&&f.offset==l.length,kN P d f.type with
     |true,some l'=>some (l++l')
     |_,_=>none) (some [])with
   |false,some l=>if l.length=i.size then some l else none
   |_,_=>none
  |some i,some (.array n e)=>match kN P d e with
   |some l=>if n*l.length=i.size then some (List.replicate n l).flatten else none
   |none=>none
  |_,_=>none
def akC (P:Program)(t:TypeId):Option (AW × Nat × Nat × List ZC × Option (List AW)):=
 match P.info? t,P.underlying t with
 |some i,some d=>match i.zero,(match d with| .struct fs=>fs.toList.all λf=>(P.info? f.type).isSome |_=>true)with
  |some v,true=>some (eC d,i.size,i.bytes,v.cells.toList.map BN,if P.eqGuardType P.depth t then none else kN P 8 t)
  |_,_=>none
 |_,_=>none
structure bN where
 P:Program
 gl:s7
 ty:List (Nat × TI)
 nx:List Nat:=[]
 deep:List Nat:=[]
 mz:List (Nat × Bool):=[]
 hx:List Nat:=[]
 fx:List Nat:=[]
 sx:List (Nat × String):=[]
def Yk (P:Program)(t:TypeId):Option Bool:=match P.info? t with
 |some i=>match i.zero with
  |some (.agg _)=>some true
  |some v=>match v.oneCell' with
   |true=>some false
   |false=>none
  |none=>none
 |none=>none
def LZ:List (Nat × TI)->Nat->Option TI
 | [],_=>none
 |(j,b)::H,i=>match Nat.beq i j with
  |true=>some b
  |false=>LZ H i
def bN.ti (C:bN)(t:TypeId):Option TI:=LZ C.ty t
structure bN.Ok (C:bN):Prop where
 mixed:C.P.follows .mixedOrders =true
 ty:(C.ty.map λp=>akC C.P p.1)=C.ty.map λp=>some (p.2.b8,p.2.size,p.2.bytes,p.2.zero,p.2.eqs)
 mz:(C.mz.map λp=>Yk C.P p.1)=C.mz.map λp=>some p.2
def bN.kL (C:bN)(e:TypeId):Bool:=
 match C.ti e with
 |some i=>match i.b8 with
  | .int .i64 =>true
  |_=>false
 |none=>false
def bN.kinds (C:bN)(t:TypeId):List Bool:=
 match C.ti t with
 |some i=>i.kinds
 |none=>[]
def AX:Bool->SC
 |true=>.ints []
 |false=>.view []
def bv (H:HF)(k:Bool):DC->Option (SC × Hp × List Nat)
 | .st c=>some (c,[],[])
 | .nil =>some (AX k,[],[])
 | .own id=>match H id with
  |some (.row m z c)=>some (c,(match m with|true=>[(id,some (.row false z c))]|false=>[]),[id])
  |some (.aG _ _)=>some (.any,[],[id])
  |_=>none
 |_=>none
def bS (H:HF):List Bool->List DC->Option (List SC × Hp × List Nat)
 |_,[]=>some ([],[],[])
 |ks,d::ds=>match bv H (ks.headD false) d with
  |some (c,u,r)=>match bS H ks.tail ds with
   |some (cs,u',r')=>some (c::cs,u++u',r++r')
   |none=>none
  |none=>none
def ol:List SC->Bool
 | []=>true
 |c::cs=>match c.flat with
  |true=>ol cs
  |false=>false
def mZ (C:bN)(H:HF)(k:Bool):DC->Option (SC × Hp × List Nat)
 | .ptr id off=>match H id with
  |some (.dZ cs)=>some (.ref (cs.drop off),[],[id])
  |some (.box t cs)=>match bS H (C.kinds t) cs with
   |some (l,u,r)=>some (.ref (l.drop off),u,id::r)
   |none=>none
  |_=>none
 | .cE id z i off=>match H id with
  |some (.aG z' l)=>match Nat.beq z z',l[i]? with
   |true,some e=>match bS H [] e with
    |some (cs,u,r)=>some (.ref (cs.drop off),u,id::r)
    |none=>none
   |_,_=>none
  |some (.row _ z' c)=>match Nat.beq z z',c.elem i with
   |true,some e=>some (.ref (e.drop off),[],[id])
   |_,_=>none
  |_=>none
 |d=>bv H k d
def om (C:bN)(H:HF):List Bool->List DC->Option (List SC × Hp × List Nat)
 |_,[]=>some ([],[],[])
 |ks,d::ds=>match mZ C H (ks.headD false) d with
  |some (c,u,r)=>match om C H ks.tail ds with
   |some (cs,u',r')=>some (c::cs,u++u',r++r')
   |none=>none
  |none=>none
def o8 (C:bN)(H:HF):List TypeId->List DX->Option (List SV × Hp × List Nat)
 |_,[]=>some ([],[],[])
 |ts,x::xs=>match om C H (C.kinds (ts.headD 0)) x.2 with
  |some (c,u,r)=>match o8 C H ts.tail xs with
   |some (cs,u',r')=>some ((x.1,c)::cs,u++u',r++r')
   |none=>none
  |none=>none
def dyn (x:SV):DX:=(x.1,x.2.map .st)
def bm (c:DC):DV:=.val (false,[c])
def lit (v:Value):DV:=.val (false,[.st (.lit v)])
def IY:Value->Option DV
 | .slice none 0 0=>some (bm .nil)
 | .func (.func f) a b=>match a.toList,b.toList with
  | [],[]=>some (bm (.st (.fn f [] [])))
  |_,_=>none
 |v=>match plain v with
  |true=>some (lit v)
  |false=>none
def xL:s7->Nat->Option (List SC)
 | [],_=>none
 |(j,b)::H,i=>match Nat.beq i j with
  |true=>some b
  |false=>xL H i
def bN.ev (C:bN)(E:EF):Operand->Option DV
 | .tmp t=>E t
 | .const v=>IY v
 | .global g=>match xL C.gl g with
  |some cs=>some (bm (.st (.ref cs)))
  |none=>none
 | .func f=>some (bm (.st (.fn f [] [])))
def iq {α:Type}(cs:List α)(off:Nat)(xs:List α):List α:=cs.take off++xs++cs.drop (off+xs.length)
def ZC.dyn:ZC->Option DC
 | .nil =>some .nil
 | .lit v=>match plain v with
  |true=>some (.st (.lit v))
  |false=>none
def C0:List ZC->Option (List DC)
 | []=>some []
 |z::zs=>match z.dyn with
  |some d=>match C0 zs with
   |some ds=>some (d::ds)
   |none=>none
  |none=>none
def qU:List Bool->List ZC->Option (List SC)
 |_,[]=>some []
 |ks,.nil ::zs=>match qU ks.tail zs with
  |some ds=>some (AX (ks.headD false)::ds)
  |none=>none
 |ks,.lit v::zs=>match plain v with
  |true=>match qU ks.tail zs with
   |some ds=>some (.lit v::ds)
   |none=>none
  |false=>none
def G9 (O5:Nat->Option (Nat × Nat))(cells:List DC):List (Nat × Option DV)->Option (List DC)
 | []=>some cells
 |(i,some (.val x))::rest=>match O5 i with
  |some (off,size)=>match Nat.beq x.2.length size&&Nat.ble (off+size) cells.length with
   |true=>G9 O5 (iq cells off x.2) rest
   |false=>none
  |none=>none
 |_=>none
def kP (H:HF)(ks:List Bool)(z:Nat):Nat->List (Nat × Option DV)->Option (List (List SC) × Hp × List Nat)
 |_,[]=>some ([],[],[])
 |n,(i,some (.val x))::rest=>match Nat.beq i n&&Nat.beq x.2.length z with
  |true=>match bS H ks x.2 with
   |some (e,u,r)=>match ol e,kP H ks z (n+1) rest with
    |true,some (es,u',r')=>some (e::es,u++u',r++r')
    |_,_=>none
   |none=>none
  |false=>none
 |_,_=>none
def wB:List (List SC)->Option (List Int)
 | []=>some []
 | [.lit (.int .i64 n)]::r=>match wB r with
  |some l=>some (n::l)
  |none=>none
 |_=>none
def Yl (k:Bool)(es:List (List SC)):Option SC:=
 match k with
 |true=>match wB es with
  |some l=>some (.ints l)
  |none=>none
 |false=>some (.view es)
def SC.cat:SC->SC->Option SC
 | .ints xs,.ints ys=>some (.ints (xs++ys))
 | .view xs,.view ys=>some (.view (xs++ys))
 |_,_=>none
def SC.zN:SC->Nat->Prop
 | .ints _,z=>z=1
 | .view es,z=>∀e,e∈es->e.length=z
 |_,_=>False
def SC.xB:SC->Nat->List SC->Option SC
 | .ints xs,i,[.lit (.int .i64 n)]=>some (.ints (xs.set i n))
 | .view es,i,e=>some (.view (es.set i e))
 |_,_,_=>none
def SC.sub:SC->Nat->Nat->SC
 | .ints xs,l,h=>.ints ((xs.take h).drop l)
 | .view es,l,h=>.view ((es.take h).drop l)
 |c,_,_=>c
def xq:Nat:=4294967296
def S3:AW->Value->Value->Option Bool
 | .int _,.int k a,.int k' b=>match decide (k=k')with
  |true=>some (a==b)
  |false=>none
 | .bool,.bool a,.bool b=>some (a==b)
 | .str,.string a,.string b=>some (a==b)
 |_,_,_=>none
def mb:List AW->List DC->List DC->Option Bool
 | [],[],[]=>some true
 |c::cs,.st (.lit a)::xs,.st (.lit b)::ys=>match S3 c a b with
  |some p=>match mb cs xs ys with
   |some q=>some (p&&q)
   |none=>none
  |none=>none
 |_,_,_=>none
def s8 (op:BinOp)(k:IntKind)(a b:Int)(K:Value->Prop):Prop:=
 match op with
 | .add =>K (.int k (k.wrap (a+b)))
 | .sub =>K (.int k (k.wrap (a -b)))
 | .mul =>K (.int k (k.wrap (a*b)))
 | .quo =>b≠0/\K (.int k (k.wrap (a.tdiv b)))
 | .rem =>b≠0/\K (.int k (a.tmod b))
 | .and =>K (.int k (k.wrap (BitVec.ofInt k.bits a &&& BitVec.ofInt k.bits b).toNat))
 | .or =>K (.int k (k.wrap (BitVec.ofInt k.bits a ||| BitVec.ofInt k.bits b).toNat))
 | .xor =>K (.int k (k.wrap (BitVec.ofInt k.bits a^^^BitVec.ofInt k.bits b).toNat))
 | .andNot =>K (.int k (k.wrap (BitVec.ofInt k.bits a &&& ~~~BitVec.ofInt k.bits b).toNat))
 | .eql =>K (.bool (a==b))
 | .neq =>K (.bool (a != b))
 | .lss =>K (.bool (decide (a<b)))
 | .leq =>K (.bool (decide (a<=b)))
 | .gtr =>K (.bool (decide (a>b)))
 | .geq =>K (.bool (decide (a>=b)))
 |_=>False
def wC (op:BinOp)(a b:ByteArray)(K:Value->Prop):Prop:=
 match op with
 | .add =>a.size+b.size<=2^40/\K (.string (a++b))
 | .eql =>K (.bool (a.toList==b.toList))
 | .neq =>K (.bool !(a.toList==b.toList))
 | .lss =>K (.bool (Op.bytesLess a.toList b.toList))
 | .leq =>K (.bool (Op.bytesLess a.toList b.toList || a.toList==b.toList))
 | .gtr =>K (.bool !(Op.bytesLess a.toList b.toList || a.toList==b.toList))
 | .geq =>K (.bool !(Op.bytesLess a.toList b.toList))
 |_=>False
def qV (op:BinOp):Value->Value->(Value->Prop)->Prop
 | .int k a,.int k' b,K=>match op with
  | .shl =>0<=b/\K (.int k (k.wrap (a*2^(min b.toNat k.bits))))
  | .shr =>0<=b/\K (.int k (a.fdiv (2^(min b.toNat k.bits))))
  |op=>match decide (k=k')with
   |true=>s8 op k a b K
   |false=>False
 | .string a,.string b,K=>wC op a b K
 |_,_,_=>False
def lN:Operand->Bool
 | .const _=>true
 |_=>false
def L0:DC->Option Bool
 | .ptr _ _=>some true
 | .cE _ _ _ _=>some true
 | .st (.ref _)=>some true
 | .st (.lit (.pointer none))=>some false
 |_=>none
def L1 (C:bN)(nc:Bool)(op:BinOp)(T:TypeId)(x y:DX)(K:DV->Prop):Prop:=
 match x,y with
 |(false,[.st (.lit (.bool a))]),(false,[.st (.lit (.bool b))])=>match C.ti T with
  |some i=>match i.b8,op with
   | .bool,.eql =>K (lit (.bool (a==b)))
   | .bool,.neq =>K (lit (.bool !(a==b)))
   |_,_=>False
  |none=>False
 |(false,[.st (.lit .nilIface)]),(false,[.st (.lit .nilIface)])=>match C.ti T,nc with
  |some i,true=>match i.b8,op with
   | .iface,.eql =>K (lit (.bool true))
   | .iface,.neq =>K (lit (.bool false))
   |_,_=>False
  |_,_=>False
 |(false,[.st .err]),(false,[.st (.lit .nilIface)])=>match C.ti T with
  |some i=>match i.b8,op with
   | .iface,.eql =>K (lit (.bool false))
   | .iface,.neq =>K (lit (.bool true))
   |_,_=>False
  |none=>False
 |(false,[d]),(false,[.st (.lit (.pointer none))])=>match L0 d,C.ti T with
  |some b,some i=>match i.b8,op with
   | .ptr _,.eql =>K (lit (.bool !b))
   | .ptr _,.neq =>K (lit (.bool b))
   |_,_=>False
  |_,_=>False
 |(false,[.st (.lit a)]),(false,[.st (.lit b)])=>qV op a b λv=>K (lit v)
 |(true,xs),(true,ys)=>match C.ti T with
  |some i=>match cF i.b8 with
   |true=>match i.eqs,op with
    |some l,.eql =>match mb l xs ys with
     |some b=>K (lit (.bool b))
     |none=>False
    |some l,.neq =>match mb l xs ys with
     |some b=>K (lit (.bool !b))
     |none=>False
    |_,_=>False
   |false=>False
  |none=>False
 |_,_=>False
def Pm (op:UnOp)(x:DX)(K:DV->Prop):Prop:=
 match op,x with
 | .neg,(false,[.st (.lit (.int k n))])=>K (lit (.int k (k.wrap (0 -n))))
 | .xor,(false,[.st (.lit (.int k n))])=>K (lit (.int k (k.wrap (BitVec.ofInt k.bits (if k.signed then -1 else k.max)^^^BitVec.ofInt k.bits n).toNat)))
 | .not,(false,[.st (.lit (.bool b))])=>K (lit (.bool !b))
 |_,_=>False
abbrev j9:=DV->Hp->List Nat->Prop
def oq (C:bN)(T:TypeId)(x:DX)(H:HF)(K:j9):Prop:=
 match C.ti T with
 |none=>False
 |some i=>
  match x with
  |(false,[.ptr id off])=>match H id with
   |some (.box _ cs)=>match Nat.ble (off+i.size) cs.length&&(cF i.b8 || Nat.beq i.size 1)with
    |true=>K (.val (cF i.b8,(cs.drop off).take i.size)) [] [id]
    |false=>False
   |some (.dZ cs)=>match Nat.ble (off+i.size) cs.length&&(cF i.b8 || Nat.beq i.size 1)with
    |true=>K (.val (cF i.b8,((cs.drop off).take i.size).map .st)) [] [id]
    |false=>False
   |_=>False
  |(false,[.st (.ref cs)])=>match Nat.ble i.size cs.length&&(cF i.b8 || Nat.beq i.size 1)with
   |true=>K (.val (cF i.b8,(cs.take i.size).map .st)) [] []
   |false=>False
  |(false,[.cE id z n off])=>match H id with
   |some (.row _ z' c)=>match Nat.beq z z'&&Nat.ble (off+i.size) z&&(cF i.b8 || Nat.beq i.size 1)with
    |true=>∃e,c.elem n=some e/\K (.val (cF i.b8,((e.drop off).take i.size).map .st)) [] [id]
    |false=>False
   |some (.aG z' l)=>match Nat.beq z z'&&Nat.ble (off+i.size) z&&(cF i.b8 || Nat.beq i.size 1)with
    |true=>∃e,l[n]? =some e/\K (.val (cF i.b8,(e.drop off).take i.size)) [] [id]
    |false=>False
   |_=>False
  |_=>False
def qW (C:bN)(T:TypeId)(x v:DX)(H:HF)(K:j9):Prop:=
 match C.ti T with
 |none=>False
 |some i=>match Nat.beq v.2.length i.size with
  |false=>False
  |true=>match x with
   |(false,[.ptr id off])=>match H id with
    |some (.box t cs)=>match Nat.ble (off+i.size) cs.length with
     |true=>K (.aJ []) [(id,some (.box t (iq cs off v.2)))] [id]
     |false=>False
    |_=>False
   |(false,[.cE id z n off])=>match H id with
    |some (.row true z' c)=>match Nat.beq z z'&&Nat.ble (off+i.size) z with
     |true=>match bS H i.kinds v.2 with
      |some (l,[],r)=>match ol l with
       |true=>∃e,c.elem n=some e/\match c.xB n (iq e off l)with
        |some c'=>K (.aJ []) [(id,some (.row true z' c'))] (id::r)
        |none=>False
       |false=>False
      |_=>False
     |false=>False
    |some (.aG z' l)=>match Nat.beq z z'&&Nat.ble (off+i.size) z with
     |true=>∃e,l[n]? =some e/\K (.aJ []) [(id,some (.aG z' (l.set n (iq e off v.2))))] [id]
     |false=>False
    |_=>False
   |_=>False
def ot (C:bN)(T:TypeId)(x:DX)(f:Nat)(K:j9):Prop:=
 match C.ti T with
 |none=>False
 |some i=>match i.b8 with
  | .struct fs=>match fs[f]? with
   |some (o,ft)=>match C.ti ft with
    |some fi=>match Nat.ble 1 fi.size with
     |true=>match x with
      |(false,[.ptr id off])=>K (bm (.ptr id (off+o))) [] []
      |(false,[.st (.ref cs)])=>K (bm (.st (.ref (cs.drop o)))) [] []
      |(false,[.cE id z n off])=>K (bm (.cE id z n (off+o))) [] []
      |_=>False
     |false=>False
    |none=>False
   |none=>False
  |_=>False
def eR (C:bN)(T:TypeId)(x ix:DX)(H:HF)(K:j9):Prop:=
 match C.ti T with
 |none=>False
 |some i=>match i.b8,ix with
  | .slice e,(false,[.st (.lit (.int _ n))])=>match C.ti e with
   |none=>False
   |some ie=>match x with
    |(false,[.own id])=>match H id with
     |some (.row _ z c)=>match Nat.beq z ie.size with
      |true=>(0<=n/\n<c.len)/\K (bm (.cE id z n.toNat 0)) [] [id]
      |false=>False
     |some (.aG z l)=>match Nat.beq z ie.size with
      |true=>(0<=n/\n<l.length)/\K (bm (.cE id z n.toNat 0)) [] [id]
      |false=>False
     |_=>False
    |(false,[.st c])=>match c.ao with
     |true=>0<=n/\∃el,c.elem n.toNat=some el/\el.length=ie.size/\K (bm (.st (.ref el))) [] []
     |false=>False
    |_=>False
  | .array len e,(false,[.st (.lit (.int _ n))])=>match C.ti e with
   |none=>False
   |some ie=>match x with
    |(false,[.ptr id off])=>(0<=n/\n<len)/\K (bm (.ptr id (off+n.toNat*ie.size))) [] []
    |(false,[.st (.ref cs)])=>(0<=n/\n<len)/\K (bm (.st (.ref (cs.drop (n.toNat*ie.size))))) [] []
    |_=>False
  |_,_=>False
def ack (i:TI):Bool:=cF i.b8
def C1 (i:TI)(cs:List DC)(off:Nat)(K:j9):Prop:=
 match Nat.ble (off+i.size) cs.length&&(ack i || Nat.beq i.size 1)with
 |true=>K (.val (ack i,(cs.drop off).take i.size)) [] []
 |false=>False
def s9 (C:bN)(T:TypeId)(x ix:DX)(K:j9):Prop:=
 match C.ti T with
 |none=>False
 |some i=>match i.b8,ix with
  | .array len e,(false,[.st (.lit (.int _ n))])=>match C.ti e with
   |none=>False
   |some ie=>match x with
    |(true,cs)=>(0<=n/\n<len)/\C1 ie cs (n.toNat*ie.size) K
    |_=>False
  | .str,(false,[.st (.lit (.int _ n))])=>match x with
   |(false,[.st (.lit (.string s))])=>0<=n/\∃b,s[n.toNat]? =some b/\K (lit (.int .u8 (b.toNat:Nat))) [] []
   |_=>False
  |_,_=>False
def zT (C:bN)(T:TypeId)(x:DX)(f:Nat)(K:j9):Prop:=
 match C.ti T with
 |none=>False
 |some i=>match i.b8 with
  | .struct fs=>match fs[f]? with
   |some (o,ft)=>match C.ti ft with
    |some fi=>match x with
     |(true,cs)=>C1 fi cs o K
     |_=>False
    |none=>False
   |none=>False
  |_=>False
def FZ (d:Option (Option DV))(GP:Nat)(K:Nat->Prop):Prop:=
 match d with
 |none=>K GP
 |some (some (.val (false,[.st (.lit (.int _ n))])))=>0<=n/\K n.toNat
 |_=>False
def gL (C:bN)(T:TypeId)(x:DX)(lo hi:Option (Option DV))(H:HF)(K:j9):Prop:=
 match C.ti T with
 |none=>False
 |some i=>match i.b8 with
  | .slice e=>match C.ti e with
   |none=>False
   |some ie=>match bS H i.kinds x.2 with
    |some ([c],u,r)=>match x.1,c.ao with
     |false,true=>FZ lo 0 λl=>FZ hi c.len λh=>(l<=h/\h<=c.len)/\c.zN ie.size/\K (bm (.st (c.sub l h))) u r
     |_,_=>False
    |_=>False
  | .str =>match x with
   |(false,[.st (.lit (.string s))])=>FZ lo 0 λl=>FZ hi s.size λh=>(l<=h/\h<=s.size)/\K (lit (.string (s.extract l h))) [] []
   |_=>False
  | .array n e=>match C.ti e with
   |none=>False
   |some ie=>match x,lo,hi with
    |(false,[.ptr id off]),none,none=>match H id with
     |some (.box t cs)=>match bS H (C.kinds t) cs with
      |some (l,u,r)=>match C.kL e,Nat.beq ie.size 1&&Nat.ble (off+n) l.length&&Nat.ble 1 n with
       |true,true=>match wB (((l.drop off).take n).map λc=>[c])with
        |some ns=>K (bm (.st (.ints ns))) ((id,some (.dZ l))::u) (id::r)
        |none=>False
       |_,_=>False
      |none=>False
     |some (.dZ l)=>match C.kL e,Nat.beq ie.size 1&&Nat.ble (off+n) l.length&&Nat.ble 1 n with
       |true,true=>match wB (((l.drop off).take n).map λc=>[c])with
        |some ns=>K (bm (.st (.ints ns))) [] [id]
        |none=>False
       |_,_=>False
     |_=>False
    |_,_,_=>False
  |_=>False
def cD (C:bN)(f:FuncId)(first bI:List (Option DV))(H:HF)(K:j9):Prop:=
 let rec firsts:List (Option DV)->Option (List SV × Hp × List Nat)
  | []=>some ([],[],[])
  |some (.val x)::xs=>match bS H [] x.2 with
   |some (c,u,r)=>match firsts xs with
    |some (cs,u',r')=>some ((x.1,c)::cs,u++u',r++r')
    |none=>none
   |none=>none
  |_=>none
 let rec capts:List (Option DV)->Option (List (List SC) × Hp × List Nat)
  | []=>some ([],[],[])
  |some (.val (false,[.ptr id 0]))::xs=>match H id with
   |some (.dZ cs)=>match capts xs with
    |some (l,u',r')=>some (cs::l,u',id::r')
    |none=>none
   |some (.box t cs)=>match bS H (C.kinds t) cs with
    |some (c,u,r)=>match capts xs with
     |some (l,u',r')=>some (c::l,(id,some (.dZ c))::(u++u'),id::(r++r'))
     |none=>none
    |none=>none
   |_=>none
  |some (.val (false,[.st (.ref cs)]))::xs=>match capts xs with
    |some (l,u',r')=>some (cs::l,u',r')
    |none=>none
  |_=>none
 match firsts first with
 |some (a,u,r)=>match capts bI with
  |some (b,u',r')=>K (bm (.st (.fn f a b))) (u++u') (r++r')
  |none=>False
 |none=>False
def lO (C:bN)(fid:Nat)(T:TypeId)(l c:DX)(K:j9):Prop:=
 match C.ti T with
 |none=>False
 |some i=>match i.b8,l,c with
  | .slice e,(false,[.st (.lit (.int _ n))]),(false,[.st (.lit (.int _ m))])=>match C.ti e with
   |none=>False
   |some ie=>match Nat.ble 1 ie.size&&Nat.ble ie.bytes 4096&&Nat.beq ie.zero.length ie.size with
    |true=>(0<=n/\n<=m/\m<=xq)/\match C.kL e with
     |true=>match ie.zero with
      | [.lit (.int .i64 0)]=>K (bm (.own fid)) [(fid,some (.row true ie.size (.ints (List.replicate n.toNat 0))))] []
      |_=>False
     |false=>match qU ie.kinds ie.zero with
      |some z=>K (bm (.own fid)) [(fid,some (.row true ie.size (.view (List.replicate n.toNat z))))] []
      |none=>False
    |false=>False
  |_,_,_=>False
def qX (C:bN)(fid:Nat)(T:TypeId)(x y:DX)(H:HF)(K:j9):Prop:=
 match C.ti T with
 |none=>False
 |some i=>match i.b8,y with
  | .slice e,(false,[yc])=>match C.ti e with
   |none=>False
   |some ie=>match Nat.ble 1 ie.size&&Nat.ble ie.bytes 4096&&Nat.beq ie.zero.length ie.size with
    |false=>False
    |true=>match bv H (C.kL e) yc with
     |none=>False
     |some (cy,_,ry)=>match x with
      |(false,[.nil])=>match SC.cat (AX (C.kL e)) cy with
       |some c'=>c'.zN ie.size/\c'.len<=xq/\K (bm (.own fid)) [(fid,some (.row true ie.size c'))] ry
       |none=>False
      |(false,[.own id])=>match H id with
       |some (.row m z c)=>match Nat.beq z ie.size,SC.cat c cy with
        |true,some c'=>cy.zN z/\c'.len<=xq/\K (bm (.own fid)) [(fid,some (.row m z c')),(id,none)] (id::ry)
        |_,_=>False
       |_=>False
      |_=>False
  |_,_=>False
def IZ (C:bN)(e:TypeId)(ie:TI)(n:Nat):Option SC:=
 match C.kL e with
 |true=>match ie.zero with
  | [.lit (.int .i64 0)]=>some (.ints (List.replicate n 0))
  |_=>none
 |false=>match qU ie.kinds ie.zero with
  |some z=>some (.view (List.replicate n z))
  |none=>none
def p9 (C:bN)(fid:Nat)(T:TypeId)(x y:DX)(H:HF)(K:j9):Prop:=
 match C.ti T with
 |none=>False
 |some i=>match i.b8,y with
  | .slice e,(false,[.st (.lit (.int _ n))])=>match C.ti e with
   |none=>False
   |some ie=>match Nat.ble 1 ie.size&&Nat.ble ie.bytes 4096&&Nat.beq ie.zero.length ie.size with
    |false=>False
    |true=>(0<=n/\n<=xq)/\match IZ C e ie n.toNat with
     |none=>False
     |some cy=>match x with
      |(false,[.own id])=>match H id with
       |some (.row m z c)=>match Nat.beq z ie.size,SC.cat c cy with
        |true,some c'=>c'.len<=xq/\K (bm (.own fid)) [(fid,some (.row m z c')),(id,none)] [id]
        |_,_=>False
       |_=>False
      |_=>False
  |_,_=>False
def tg (afl:Bool)(k:IntKind)(a:Int):List DX->(Value->Prop)->Prop
 | [],K=>K (.int k a)
 |(false,[.st (.lit (.int k' b))])::r,K=>match decide (k=k')with
  |true=>tg afl k (match afl with|true=>if b>a then b else a|false=>if b<a then b else a) r K
  |false=>False
 |_,_=>False
def eX (C:bN)(fid:Nat)(b:Builtin)(R8:List TypeId)(args:List (Option DV))(H:HF)(K:j9):Prop:=
 match b,R8,args with
 | .len,t::_,[some (.val x)]=>match C.ti t with
  |none=>False
  |some i=>match i.b8,x with
   | .slice _,(false,[.st c])=>match c.ao with
    |true=>K (lit (.int .i64 (c.len:Nat))) [] []
    |false=>False
   | .slice _,(false,[.nil])=>K (lit (.int .i64 0)) [] []
   | .slice _,(false,[.own id])=>match H id with
    |some (.row _ _ c)=>K (lit (.int .i64 (c.len:Nat))) [] [id]
    |some (.aG _ l)=>K (lit (.int .i64 (l.length:Nat))) [] [id]
    |_=>False
   | .str,(false,[.st (.lit (.string s))])=>K (lit (.int .i64 (s.size:Nat))) [] []
   | .array n _,_=>K (lit (.int .i64 (n:Nat))) [] []
   |_,_=>False
 | .append,[t,t'],[some (.val x),some (.val y)]=>match C.ti t' with
  |some i'=>match i'.b8 with
   | .slice _=>qX C fid t x y H K
   | .int _=>p9 C fid t x y H K
   |_=>False
  |none=>False
 | .max,_,some (.val (false,[.st (.lit (.int k a))]))::r=>match r.mapM λd=>match d with|some (.val x)=>some x|_=>none with
  |some xs=>tg true k a xs λv=>K (lit v) [] []
  |none=>False
 | .min,_,some (.val (false,[.st (.lit (.int k a))]))::r=>match r.mapM λd=>match d with|some (.val x)=>some x|_=>none with
  |some xs=>tg false k a xs λv=>K (lit v) [] []
  |none=>False
 |_,_,_=>False
def aeC (C:bN)(f:FuncId)(args:List SV)(K:ma->Prop):Prop:=∃r,nN C.P C.gl f args r/\K r
def I0:List (Option DV)->Option (List DX)
 | []=>some []
 |some (.val x)::r=>match I0 r with
  |some l=>some (x::l)
  |none=>none
 |_=>none
def aeD (fid:Nat):Option SC->DC
 |some c=>.st c
 |none=>.own fid
def L2 (fid:Nat)(x:Bool × List (Option SC)):DX:=(x.1,x.2.map (aeD fid))
def xM:List SC->Bool
 | []=>true
 | .lit _::cs=>xM cs
 |_=>false
def L3:List SV->Bool
 | []=>true
 |x::l=>match xM x.2 with
  |true=>L3 l
  |false=>false
def S4 (b:Bool)(u:Hp):Hp:=match b with
 |true=>[]
 |false=>u
def jb (fid:Nat)(u:Hp)(rs:List Nat)(K:j9):ma->Prop
 | .one x=>K (.val (dyn x)) (S4 (xM x.2) u) rs
 | .aJ l=>K (.aJ (l.map dyn)) (S4 (L3 l) u) rs
 | .own z c=>K (bm (.own fid)) ((fid,some (.row true z c))::u) rs
 | .mix true l z c=>K (.aJ (l.map (L2 fid))) ((fid,some (.row true z c))::u) rs
 | .mix false [x] z c=>K (.val (L2 fid x)) ((fid,some (.row true z c))::u) rs
 | .mix false _ _ _=>False
 | .uK z c=>match u,rs with
  | [(id,some (.row false z' _))],[iP]=>match Nat.beq id iP&&Nat.beq z z' with
   |true=>K (.aJ []) [(id,some (.row true z c))] [id]
   |false=>False
  |_,_=>False
def xN (n:Nat):List Nat->Bool
 | []=>false
 |m::l=>match Nat.beq n m with
  |true=>true
  |false=>xN n l
def akD (mv mr:Mem)(v:Value):DC->Prop
 | .st c=>dw mv mr v c
 | .nil =>v= .slice none 0 0
 |_=>False
def akE (P:Program)(gl:s7)(f:FuncId)(args:List DX)(r:ma):Prop:=
 iH P f=true/\∀(mv:Mem) (w:World) (vs:Array Value),mv.le (rd w)->eQ gl (rd w)->vs.size=args.length->(∀k x,args[k]? =some x->∃d,x=(false,[d])/\akD mv (rd w) (vs.getD k undef) d)->
  Calls P f vs w λe w'=>∃v,e= .returned v/\Go.RowKit.Below w.heap.size w w'/\qT mv w.heap.size w' v r
def okN:List DX->Bool
 | []=>true
 |(false,[.st _])::xs=>okN xs
 |(false,[.nil])::xs=>okN xs
 |_=>false
def wD (C:bN)(fid:Nat)(f:FuncId)(first:List SV)(bI:List (List SC))(xs:List DX)(K:j9):Prop:=
 match first,bI,okN xs with
 | [],[],true=>∃r,akE C.P C.gl f xs r/\jb fid [] [] K r
 |_,_,_=>False
def jg (C:bN)(fid:Nat)(fv:Option DV)(args:List (Option DV))(R8:List TypeId)(H:HF)(K:j9):Prop:=
 match fv,I0 args with
 |some (.val (false,[.st (.fn f first bI)])),some xs=>match o8 C H R8 xs with
  |some (l,u,rs)=>aeC C f (first++l++bI.map λcs=>(false,[.ref cs])) (jb fid u rs K)
  |none=>False
 |_,_=>False
def ank (C:bN):Operand->Bool
 | .func f=>xN f C.nx
 | .const (.func (.func f) _ _)=>xN f C.nx
 |_=>false
def qY (C:bN)(fid:Nat)(nx:Bool)(fv:Option DV)(args:List (Option DV))(R8:List TypeId)(H:HF)(K:j9):Prop:=
 match nx with
 |true=>match fv,I0 args with
  |some (.val (false,[.st (.fn f first bI)])),some xs=>wD C fid f first bI xs K
  |_,_=>False
 |false=>jg C fid fv args R8 H K
def mc:List (List SC)->Option (List UInt8)
 | []=>some []
 | [.lit (.int .u8 n)]::r=>match mc r with
  |some l=>some (UInt8.ofNat n.toNat::l)
  |none=>none
 |_=>none
def zU (C:bN)(e:TypeId):Bool:=match C.ti e with
 |some ie=>match ie.b8 with
  | .int .u8 =>Nat.beq ie.size 1
  |_=>false
 |none=>false
def xO (C:bN)(src dst:TypeId)(x:DX)(H:HF)(K:j9):Prop:=
 match C.ti src,C.ti dst with
 |some i,some j=>match i.b8 with
  | .int _=>match j.b8,x with
   | .int k,(false,[.st (.lit (.int _ n))])=>K (lit (.int k (k.wrap n))) [] []
   |_,_=>False
  | .str =>match j.b8,x with
   | .str,(false,[.st (.lit (.string s))])=>K (lit (.string s)) [] []
   |_,_=>False
  | .slice e=>match j.b8,x with
   | .str,(false,[d])=>match zU C e,bv H false d with
    |true,some (.view es,_,r)=>match mc es with
     |some l=>K (lit (.string ⟨l.toArray⟩)) [] r
     |none=>False
    |_,_=>False
   |_,_=>False
  |_=>False
 |_,_=>False
def fw (C:bN)(fid:Nat)(o:Oper)(ev:Operand->Option DV)(H:HF)(K:j9):Prop:=
 match o.op with
 | .move x=>match ev x with
  |some v=>K v [] []
  |none=>False
 | .assign x=>match ev x with
  |some v=>K v [] []
  |none=>False
 | .pick c a b=>match ev c with
  |some (.val (false,[.st (.lit (.bool t))]))=>match t with
   |true=>match ev a with
    |some v=>K v [] []
    |none=>False
   |false=>match ev b with
    |some v=>K v [] []
    |none=>False
  |_=>False
 | .alloc T=>match C.ti T with
  |some i=>match C0 i.zero with
   |some cs=>K (bm (.ptr fid 0)) [(fid,some (.box T cs))] []
   |none=>False
  |none=>False
 | .box T x=>match ev x with
  |some (.val x)=>K (bm (.ptr fid 0)) [(fid,some (.box T x.2))] []
  |_=>False
 | .build T parts=>match C.ti T with
  |some i=>match C0 i.zero with
   |some zs=>match i.b8 with
    | .struct fs=>match G9 (λn=>match fs[n]? with|some (o,ft)=>(match C.ti ft with|some fi=>some (o,fi.size)|none=>none)|none=>none) zs (parts.toList.map λp=>(p.1,ev p.2))with
     |some cs=>K (.val (true,cs)) [] []
     |none=>False
    | .array _ e=>match C.ti e with
     |some ie=>match G9 (λn=>some (n*ie.size,ie.size)) zs (parts.toList.map λp=>(p.1,ev p.2))with
      |some cs=>K (.val (true,cs)) [] []
      |none=>False
     |none=>False
    |_=>False
   |none=>False
  |none=>False
 | .buildSlice T len parts=>match C.ti T with
  |some i=>match i.b8 with
   | .slice e=>match C.ti e with
    |some ie=>match Nat.ble 1 ie.size&&Nat.ble (len*ie.size) 16777216&&Nat.beq parts.size len with
     |true=>match kP H ie.kinds ie.size 0 (parts.toList.map λp=>(p.1,ev p.2))with
      |some (es,u,r)=>match Yl (C.kL e) es with
       |some c=>K (bm (.own fid)) ((fid,some (.row true ie.size c))::u) r
       |none=>False
      |none=>False
     |false=>False
    |none=>False
   |_=>False
  |none=>False
 | .load T a=>match ev a with
  |some (.val x)=>oq C T x H K
  |_=>False
 | .store T a v=>match ev a,ev v with
  |some (.val x),some (.val y)=>qW C T x y H K
  |_,_=>False
 | .fieldAddr T a f=>match ev a with
  |some (.val x)=>ot C T x f K
  |_=>False
 | .indexAddr T a ix=>match ev a,ev ix with
  |some (.val x),some (.val y)=>eR C T x y H K
  |_,_=>False
 | .index T a ix=>match ev a,ev ix with
  |some (.val x),some (.val y)=>s9 C T x y K
  |_,_=>False
 | .field T a f=>match ev a with
  |some (.val x)=>zT C T x f K
  |_=>False
 | .slice T x lo hi mx=>match ev x,mx with
  |some (.val x),none=>gL C T x (lo.map ev) (hi.map ev) H K
  |_,_=>False
 | .binOp op T a b _=>match ev a,ev b with
  |some (.val x),some (.val y)=>L1 C (lN a || lN b) op T x y λv=>K v [] []
  |_,_=>False
 | .unOp op _ a=>match ev a with
  |some (.val x)=>Pm op x λv=>K v [] []
  |_=>False
 | .convert s d a=>match ev a with
  |some (.val x)=>xO C s d x H K
  |_=>False
 | .extract t ix=>match ev t with
  |some (.aJ l)=>match l[ix]? with
   |some x=>K (.val x) [] []
   |none=>False
  |_=>False
 | .makeFunc (.func f) first bI=>cD C f (first.toList.map ev) (bI.toList.map ev) H K
 | .makeSlice T l c=>match ev l,ev c with
  |some (.val x),some (.val y)=>lO C fid T x y K
  |_,_=>False
 | .call c=>match c.callee with
  | .value f=>qY C fid (ank C f) (ev f) (c.args.toList.map ev) c.argTypes.toList H K
  | .builtin b=>eX C fid b c.argTypes.toList (c.args.toList.map ev) H K
  |_=>False
 |_=>False
open Go.RowKit (Below)
open Classical
def bn (H:HF)(f:Nat)(b:Option cB):HF:=λi=>if i=f then b else H i
def Hp.on:Hp->HF->HF
 | [],H=>H
 |(j,b)::u,H=>bn (Hp.on u H) j b
def cB.sU:cB->Nat->Prop
 | .box _ _,_=>False
 | .dZ _,_=>True
 | .row m z c,o=>m=false/\o<c.len*z
 | .aG _ _,_=>False
 | .map _,_=>False
structure gN where
 w0:World
 Pk:Mem
 own:Nat->Prop
 fixed:List (Nat × Value):=[]
 db:Nat:=0
 mr0:Mem:=rd w0
abbrev gN.base (F:gN):Nat:=F.w0.heap.size
def gN.dD (F:gN)(b:Nat):Prop:=F.base<=b\/F.own b
def gN.gG {F:gN}{b:Nat}(h:F.base<=b):F.dD b:=.inl h
structure jx (m:Nat->Prop) (w w':World):Prop where
 os:w'.os=w.os
 tape:w'.tape=w.tape
 output:w'.output=w.output
 size:w.heap.size<=w'.heap.size
 block: ∀k,k<w.heap.size->¬m k->w'.heap[k]? =w.heap[k]?
theorem jx.refl (m:Nat->Prop)(w:World):jx m w w:=⟨rfl,rfl,rfl,dz _,λ_ _ _=>rfl⟩
def jx.trans {m:Nat->Prop}{a b c:World}(h:jx m a b)(k:jx m b c):jx m a c:=
 ⟨k.os.trans h.os,k.tape.trans h.tape,k.output.trans h.output,o3 h.size k.size,λi hi hm=>(k.block i (XV hi h.size) hm).trans (h.block i hi hm)⟩
def jx.Ll {m:Nat->Prop}{w w':World}(h:Below w.heap.size w w'):jx m w w':=⟨h.os,h.tape,h.output,h.size,λk hk _=>h.block k hk⟩
def jx.mono {m m':Nat->Prop}{w w':World}(h:jx m w w')(hm: ∀b,b<w.heap.size->m b->m' b):jx m' w w':=⟨h.os,h.tape,h.output,h.size,λk hk hn=>h.block k hk λe=>hn (hm k hk e)⟩
def jx.below {m:Nat->Prop}{w w':World}(h:jx m w w')(hm: ∀b,b<w.heap.size->¬m b):Below w.heap.size w w':=⟨h.os,h.tape,h.output,h.size,λk hk=>h.block k hk (hm k hk)⟩
def fS (β:Nat->Option Nat)(H:HF)(b o:Nat):Prop:=∀id bx,H id=some bx->β id=some b->bx.sU o
noncomputable def MV (F:gN)(β:Nat->Option Nat)(H:HF)(w:World):Mem:=λb o=>if F.dD b then(if fS β H b o then rd w b o else none)else F.Pk b o
noncomputable def MR (F:gN)(β:Nat->Option Nat)(H:HF)(w:World):Mem:=λb o=>if F.dD b then MV F β H w b o else F.mr0 b o
section
variable (F:gN)(β:Nat->Option Nat)(N:Nat->Prop)(H:HF)(w:World)
def U1 (v:Value)(id z n:Nat):Prop:=
 (β id=none/\n=0/\v= .slice none 0 0)\/
  ∃b cap arr T,β id=some b/\v= .slice (some ⟨b,0,none⟩) n cap/\w.heap[b]? =some (.cells arr T)/\arr.size=cap*z
def co (v:Value):DC->Prop
 | .st c=>dw (MV F β H w) (MR F β H w) v c
 | .nil =>v= .slice none 0 0
 | .ptr id off=>N id/\∃b,β id=some b/\v= .pointer (some ⟨b,off,none⟩)
 | .own id=>N id/\v.oneCell'=true/\∀bx z n,H id=some bx->bx.sz=some (z,n)->U1 β w v id z n
 | .cE id z i off=>N id/\∃b,β id=some b/\v= .pointer (some ⟨b,i*z+off,none⟩)
 | .mp id=>N id/\∃b,β id=some b/\v= .map (some b)
 | .sD g id=>N id/\∃b,β id=some b/\v= .func (.func g) #[] #[.pointer (some ⟨b,0,none⟩)]
def aq (v:Value)(x:DX):Prop:=
 if x.1 then ∃arr,v= .agg arr/\arr.size=x.2.length/\∀k c,x.2[k]? =some c->co F β N H w (arr.getD k undef) c
 else ∃c,x.2= [c]/\co F β N H w v c
def cj (v:Value):DV->Prop
 | .val x=>aq F β N H w v x
 | .aJ l=>∃arr,v= .tuple arr/\arr.size=l.length/\∀k x,l[k]? =some x->aq F β N H w (arr.getD k undef) x
def ir (id:Nat):cB->Prop
 | .box _ cs=>∃b arr T,β id=some b/\F.dD b/\w.heap[b]? =some (.cells arr T)/\arr.size=cs.length/\∀k x,cs[k]? =some x->co F β N H w (arr.getD k undef) x
 | .dZ cs=>∃b arr T,β id=some b/\F.dD b/\w.heap[b]? =some (.cells arr T)/\arr.size=cs.length/\∀k x,cs[k]? =some x->dw (MV F β H w) (MR F β H w) (arr.getD k undef) x
 | .row _ z c=>(0<z/\c.ao=true/\∀i e,c.elem i=some e->e.length=z)/\
   ((β id=none/\c.len=0)\/∃b cap,β id=some b/\F.dD b/\LY w (MV F β H w) b z c cap)
 | .aG z l=>(0<z/\∀(i:Nat) (e:List DC),l[i]? =some e->e.length=z)/\
   ((β id=none/\l.length=0)\/∃b cap arr T,β id=some b/\F.dD b/\w.heap[b]? =some (.cells arr T)/\arr.size=cap*z/\l.length<=cap/\
    ∀(i:Nat) (e:List DC) (k:Nat) (x:DC),l[i]? =some e->e[k]? =some x->co F β N H w (arr.getD (i*z+k) undef) x)
 | .map es=>∃b arr amp,β id=some b/\F.dD b/\w.heap[b]? =some (.map arr amp)/\arr.size=es.length/\
   ∀(i:Nat) (k:ByteArray) (x:SV) (e:MapEntry),es[i]? =some (k,x)->arr[i]? =some e->e.key= .string k/\er (MV F β H w) (MR F β H w) e.val x
structure ad:Prop where
 rel: ∀id bx,H id=some bx->N id/\ir F β N H w id bx
 inj: ∀i j b x y,H i=some x->H j=some y->β i=some b->β j=some b->i=j
 below:jx F.dD F.w0 w
 sT: ∀b o v,F.Pk b o=some v->rd w b o=some v/\(F.dD b->fS β H b o)
def dE (E:EF)(a:Act):Prop:=∀s dv,E s=some dv->cj F β N H w (a.tmps.getD s undef) dv
end
def cB.zO:cB->cB->Prop
 | .box _ _,.box _ _=>True
 | .box _ _,.dZ _=>True
 | .dZ _,.dZ _=>True
 | .row _ z c,.row _ z' c'=>z=z'/\c.len=c'.len
 | .aG z l,.aG z' l'=>z=z'/\l.length=l'.length
 | .map _,.map _=>True
 |_,_=>False
theorem cB.Sc {a b:cB}(h:a.zO b):b.sz=a.sz:=by cases a<;>cases b<;>simp[cB.zO,cB.sz]at h ⊢ <;>(grind)
def cB.fU (b:cB):b.zO b:=by cases b<;>simp[cB.zO]
structure Tr (F:gN) (β:Nat->Option Nat) (N:Nat->Prop) (H:HF) (w:World) (cM:Nat->Option Nat) (N':Nat->Prop) (H':HF) (w':World):Prop where
 below:jx F.dD w w'
 mem: ∀b o v,F.dD b->fS β H b o->rd w b o=some v->fS cM H' b o/\rd w' b o=some v
 used: ∀id,N id->N' id
 kK: ∀id,N id->cM id=β id
 keep: ∀id blk',N id->H' id=some blk'->∃bx,H id=some bx/\bx.zO blk'
 size: ∀id blk' zn b arr T,N id->H' id=some blk'->blk'.sz=some zn->β id=some b->F.dD b->w.heap[b]? =some (.cells arr T)->∃arr',w'.heap[b]? =some (.cells arr' T)/\arr'.size=arr.size
 ax: ∀(k:Nat) (x:Option (List Deferred)),w.heap[k]? =some (.deferred x)->w'.heap[k]? =some (.deferred x)
section
variable {F:gN}{β cM:Nat->Option Nat}{N N':Nat->Prop}{H H':HF}{w w':World}
theorem Tr.refl:Tr F β N H w β N H w:=
 ⟨jx.refl _ _,λ_ _ _ _ h e=>⟨h,e⟩,λ_ h=>h,λ_ _=>rfl,λ_ b _ e=>⟨b,e,b.fU⟩,λ_ _ _ _ arr _ _ _ _ _ _ h=>⟨arr,h,rfl⟩,λ_ _ h=>h⟩
def Below.ahN {B:Nat}(h:Below B w w'){b o:Nat}(hb:b<B):rd w' b o=rd w b o:=h.cell hb
theorem jx.rd {m:Nat->Prop}(h:jx m w w'){b o:Nat}{v:Value}(hb: ¬m b)(e:rd w b o=some v):rd w' b o=some v:=by
 have ak:=IS _ _ e;exact(Px (w:=w) (a:=⟨b,o,none⟩) (h.block b ak hb)).trans e
def Tr.mv (t:Tr F β N H w cM N' H' w'):(MV F β H w).le (MV F cM H' w'):=by
 intro b o v h;unfold MV at*;by_cases hb:F.dD b
 ·simp only[hb,if_true]at h ⊢;by_cases hs:fS β H b o
  ·simp only[hs,if_true]at h;obtain⟨h1,h2⟩:=t.mem b o v hb hs h
   grind
  grind
 grind
def Tr.mr (t:Tr F β N H w cM N' H' w'):(MR F β H w).le (MR F cM H' w'):=by
 intro b o v h;unfold MR at*;by_cases hb:F.dD b
 ·simp only[hb,if_true]at h ⊢;exact t.mv b o v h
 grind
def Tr.sT (t:Tr F β N H w cM N' H' w')(h: ∀b o v,F.Pk b o=some v->rd w b o=some v/\(F.dD b->fS β H b o)): ∀b o v,F.Pk b o=some v->rd w' b o=some v/\(F.dD b->fS cM H' b o):=by
 intro b o v e;obtain⟨h1,h2⟩:=h b o v e;by_cases hb:F.dD b
 ·obtain⟨h3,h4⟩:=t.mem b o v hb (h2 hb) h1
  grind
 ·exact⟨t.below.rd hb h1,λh=>absurd h hb⟩
theorem Tr.ju (t:Tr F β N H w cM N' H' w')(hR:ad F β N H w){v:Value}{d:DC}(h:co F β N H w v d):co F cM N' H' w' v d:=by
 cases d with
 |st c=>exact dw.mono t.mv t.mr h
 |nil=>exact h
 |ptr id off=>
  exact K91
 |own id=>
  obtain⟨hn,h1c,h⟩:=h;refine⟨t.used _ hn,h1c,λblk' z n hb hz=>?_⟩;obtain⟨bx,e,hl⟩:=t.keep id _ hn hb;have eb:=t.kK id hn;have hz0:=hz;rw[cB.Sc hl]at hz;have h:=h _ _ _ e hz;unfold U1 at*;rw[eb]
  rcases h with⟨h1,h2,h3⟩|⟨b,cap,arr,T,h1,h2,h3,h4⟩
  grind
  ·have FF:F.dD b:=by
    obtain⟨_,jV⟩:=hR.rel id _ e
    cases bx with
    |row m z c=>
     obtain⟨_,jV|⟨b',jG,q1,q2,q3⟩⟩:=jV
     grind
     grind
    |aG z l=>
     obtain⟨_,jV|⟨b',jG,arr',T',q1,q2,q3⟩⟩:=jV
     grind
     grind
    |box _ _=>grind[cB.sz]
    |dZ _=>grind[cB.sz]
    |map _=>grind[cB.sz]
   obtain⟨arr',e',es⟩:=t.size id _ _ b arr T hn hb hz0 h1 FF h3
   grind
 |cE id z i off=>
  exact K91
 |sD g id=>
  exact K91
 |mp id=>
  exact K91
def Tr.sj (t:Tr F β N H w cM N' H' w')(hR:ad F β N H w){v:Value}{d:DX}(h:aq F β N H w v d):aq F cM N' H' w' v d:=by
 unfold aq at*;split
 ·rename_i hx;rw[if_pos hx]at h;obtain⟨arr,h1,h2,h3⟩:=h;exact⟨arr,h1,h2,λk c hc=>t.ju hR (h3 k c hc)⟩
 ·rename_i hx;rw[if_neg hx]at h;obtain⟨c,h1,h2⟩:=h;exact⟨c,h1,t.ju hR h2⟩
theorem Tr.vK (t:Tr F β N H w cM N' H' w')(hR:ad F β N H w){v:Value}{d:DV}(h:cj F β N H w v d):cj F cM N' H' w' v d:=by
 cases d with
 |val x=>exact t.sj hR h
 |aJ l=>
  obtain⟨arr,h1,h2,h3⟩:=h;exact⟨arr,h1,h2,λk c hc=>t.sj hR (h3 k c hc)⟩
def Tr.env (t:Tr F β N H w cM N' H' w')(hR:ad F β N H w){E:EF}{a:Act}(h:dE F β N H w E a):dE F cM N' H' w' E a:=
 λs dv e=>t.vK hR (h s dv e)
theorem ad.step (hR:ad F β N H w)(t:Tr F β N H w cM N' H' w')(T:Nat->Prop)
  (hu: ∀id bx,¬T id->H' id=some bx->H id=some bx/\N id/\∀b,β id=some b->w'.heap[b]? =w.heap[b]?)
  (ht: ∀id bx,T id->H' id=some bx->N' id/\ir F cM N' H' w' id bx)
  (hi: ∀i j b x y,H' i=some x->H' j=some y->cM i=some b->cM j=some b->i=j):ad F cM N' H' w':=by
 refine⟨λid bx e=>?_,hi,hR.below.trans t.below,t.sT hR.sT⟩;by_cases hT:T id
 grind
 ·obtain⟨e0,GQ,hw⟩:=hu id bx hT e;have eb:=t.kK id GQ;obtain⟨hn,hb⟩:=hR.rel id bx e0;refine⟨t.used _ hn,?_⟩
  cases bx with
  |box ty cs=>
   obtain⟨b,arr,T',h1,h2,h3,h4,h5⟩:=hb;exact⟨b,arr,T',by grind,h2,by grind,h4,λk x hx=>t.ju hR (h5 k x hx)⟩
  |dZ cs=>
   obtain⟨b,arr,T',h1,h2,h3,h4,h5⟩:=hb;exact⟨b,arr,T',by grind,h2,by grind,h4,λk x hx=>(h5 k x hx).mono t.mv t.mr⟩
  |row m z c=>
   obtain⟨h0,h1|⟨b,cap,h1,h2,arr,T',q1,q2,q3,q4,q5,q6,q7⟩⟩:=hb
   ·exact⟨h0,.inl ⟨by grind,h1.2⟩⟩
   ·exact⟨h0,.inr ⟨b,cap,by grind,h2,arr,T',by grind,q2,q3,q4,q5,q6,λi e j x he hx=>(q7 i e j x he hx).mono t.mv (Mem.le_refl _)⟩⟩
  |aG z l=>
   obtain⟨h0,h1|⟨b,cap,arr,T',h1,h2,q1,q2,q3,q4⟩⟩:=hb
   ·exact⟨h0,.inl ⟨by grind,h1.2⟩⟩
   ·exact⟨h0,.inr ⟨b,cap,arr,T',by grind,h2,by grind,q2,q3,λi e j x he hx=>t.ju hR (q4 i e j x he hx)⟩⟩
  |map es=>
   obtain⟨b,arr,ck,h1,h2,h3,h4,h5⟩:=hb;exact⟨b,arr,ck,by grind,h2,by grind,h4,λi k x e hi he=>let⟨a1,a2⟩:=h5 i k x e hi he;⟨a1,a2.mono t.mv t.mr⟩⟩
def S5 (h:Below w.heap.size w w'){b o:Nat}{v:Value}(e:rd w b o=some v):rd w' b o=some v:=by rw[Below.ahN h (IS _ _ e)];exact e
def kQ {b:Nat}{o:Obj}(e:w.heap[b]? =some o):b<w.heap.size:=(FT.1 e).1
def Tr.grow (_hR:ad F β N H w)(h:Below w.heap.size w w'):Tr F β N H w β N H w' where
 below:=.Ll h
 mem:=λ_ _ _ _ hs e=>⟨hs,S5 h e⟩
 used:=λ_ h=>h
 kK:=λ_ _=>rfl
 keep:=λ_ b _ e=>⟨b,e,b.fU⟩
 size:=λ_ _ _ b arr T _ _ _ _ _ e=>⟨arr,by rw[h.block b (kQ e)];exact e,rfl⟩
 ax:=λk o e=>by rw[h.block k (kQ e)];exact e
theorem ad.fY (hR:ad F β N H w){id b:Nat}{bx:cB}(e:H id=some bx)(hb:β id=some b):b<w.heap.size/\F.dD b:=by
 obtain⟨_,h⟩:=hR.rel id bx e
 cases bx with
 |box ty cs=>obtain⟨b',arr,T',h1,h2,h3,_⟩:=h;grind
 |dZ cs=>obtain⟨b',arr,T',h1,h2,h3,_⟩:=h;grind
 |row m z c=>
  obtain⟨_,h1|⟨b',cap,h1,h2,arr,T',q1,_⟩⟩:=h
  grind
  grind
 |aG z l=>
  obtain⟨_,h1|⟨b',cap,arr,T',h1,h2,q1,_⟩⟩:=h
  grind
  grind
 |map es=>obtain⟨b',arr,T',h1,h2,h3,_⟩:=h;grind
def ad.grow (hR:ad F β N H w)(h:Below w.heap.size w w'):ad F β N H w':=
 hR.step (Tr.grow hR h) (λ_=>False) (λid bx _ e=>⟨e,(hR.rel id bx e).1,λb hb=>h.block b (hR.fY e hb).1⟩) (λ_ _ h=>h.elim) hR.inj
theorem am (H:HF)(f:Nat)(b:Option cB):bn H f b f=b:=by simp[bn]
theorem az (H:HF)(f:Nat)(b:Option cB){i:Nat}(h:i≠f):bn H f b i=H i:=by simp[bn,h]
theorem Hp.au (j:Nat)(b:Option cB)(H:Hp):Hp.get ((j,b)::H)=bn H.get j b:=by
 funext i;by_cases h:i=j
 ·subst h;simp[Hp.get,bn]
 grind[Nat.eq_of_beq_eq_true,Hp.get,bn]
theorem Hp.get_append (u H:Hp):Hp.get (u++H)=u.on H.get:=by
 induction u with
 |nil=>rfl
 |cons p u ih=>rw[qR,Hp.au,ih];rfl
theorem Hp.UH (u u':Hp)(H:HF):Hp.on (u++u') H=u.on (u'.on H):=by
 induction u with
 |nil=>rfl
 |cons p u ih=>rw[qR];show bn _ _ _=bn _ _ _;rw[ih]
def tag (id:Nat):Nat:=match Nat.beq (id%2) 0 with
 |true=>id/2
 |false=>id/8589934592
def jQ (n:Nat):tag (2*n)=n:=by
 have h:2*n%2=0:=by omega
 unfold tag;simp_all
theorem age (id:Nat):tag id<=id:=by grind[tag]
def bf (N:Nat->Prop)(f:Nat):Nat->Prop:=λid=>N id\/tag id=tag f
def cQ (β:Nat->Option Nat)(f:Nat)(b:Option Nat):Nat->Option Nat:=λid=>if id=f then b else β id
theorem jy (β:Nat->Option Nat)(f:Nat)(b:Option Nat):cQ β f b f=b:=by simp[cQ]
def it (β:Nat->Option Nat)(f:Nat)(b:Option Nat){i:Nat}(h:i≠f):cQ β f b i=β i:=by simp[cQ,h]
def Tr.new (_hR:ad F β N H w)(h:Below w.heap.size w w'){f:Nat}(hf: ¬N f)(b:Option Nat)(hb: ∀x,b=some x->w.heap.size<=x)(bx:cB):
  Tr F β N H w (cQ β f b) (bf N f) (bn H f (some bx)) w' where
 below:=.Ll h
 mem:=λb' o v _ hs e=>by
  refine⟨λid blk' e' jV=>?_,S5 h e⟩;by_cases hid:id=f
  ·subst hid;rw[jy]at jV;have:=hb _ jV;have:=IS _ _ e
   grind
  ·rw[az _ _ _ hid]at e';rw[it _ _ _ hid]at jV;exact hs id blk' e' jV
 used:=λ_ h=>.inl h
 kK:=λid hn=>it _ _ _ λe=>hf (e▸hn)
 keep:=λid b' hn e=>by
  have hid:id≠f:=λe=>hf (e▸hn);rw[az _ _ _ hid]at e;exact⟨b',e,b'.fU⟩
 size:=λ_ _ _ b arr T _ _ _ _ _ e=>⟨arr,by rw[h.block b (kQ e)];exact e,rfl⟩
 ax:=λk o e=>by rw[h.block k (kQ e)];exact e
def ad.new (hR:ad F β N H w)(h:Below w.heap.size w w'){f:Nat}(hf: ¬N f)(b:Option Nat)(hb: ∀x,b=some x->w.heap.size<=x)(bx:cB)
  (hrel:ir F (cQ β f b) (bf N f) (bn H f (some bx)) w' f bx):ad F (cQ β f b) (bf N f) (bn H f (some bx)) w':=by
 refine hR.step (Tr.new hR h hf b hb bx) (λid=>id=f) (λid blk' hid e=>?_) (λid blk' hid e=>?_) (λi j x y z hi hj bi bj=>?_)
 ·rw[az _ _ _ hid]at e;exact⟨e,(hR.rel id blk' e).1,λb hb=>h.block b (hR.fY e hb).1⟩
 ·subst hid;rw[am]at e;cases e;exact⟨.inr rfl,hrel⟩
 ·by_cases h1:i=f
  ·by_cases h2:j=f
   grind
   ·exfalso;subst h1;rw[az _ _ _ h2]at hj;rw[jy]at bi;rw[it _ _ _ h2]at bj;have:=(hR.fY hj bj).1
    grind
  ·by_cases h2:j=f
   ·exfalso;subst h2;rw[az _ _ _ h1]at hi;rw[jy]at bj;rw[it _ _ _ h1]at bi;have:=(hR.fY hi bi).1
    grind
   ·rw[az _ _ _ h1]at hi;rw[az _ _ _ h2]at hj;rw[it _ _ _ h1]at bi;rw[it _ _ _ h2]at bj;exact hR.inj i j x y z hi hj bi bj
def Tr.trans {amO:Nat->Option Nat}{N'':Nat->Prop}{H'':HF}{w'':World}(t:Tr F β N H w cM N' H' w')(u:Tr F cM N' H' w' amO N'' H'' w''):Tr F β N H w amO N'' H'' w'' where
 below:=t.below.trans u.below
 mem:=λb o v hb hs e=>let⟨h1,h2⟩:=t.mem b o v hb hs e;u.mem b o v hb h1 h2
 used:=λid h=>u.used id (t.used id h)
 kK:=λid h=>(u.kK id (t.used id h)).trans (t.kK id h)
 keep:=λid Pd hn e=>by
  obtain⟨blk',e',sw⟩:=u.keep id Pd (t.used id hn) e;obtain⟨bx,e0,hl⟩:=t.keep id blk' hn e';refine⟨bx,e0,?_⟩;cases bx<;>cases blk'<;>cases Pd<;>simp[cB.zO]at* <;>(grind)
 size:=λid Pd zn b arr T hn e0 ez eb hb e=>by
  obtain⟨blk',ek,hl⟩:=u.keep id Pd (t.used id hn) e0;obtain⟨arr',e',s'⟩:=t.size id blk' zn b arr T hn ek (by grind[cB.Sc]) eb hb e;obtain⟨aoq,e'',s''⟩:=u.size id Pd zn b arr' T (t.used id hn) e0 ez ((t.kK id hn).trans eb) hb e'
  grind
 ax:=λk o e=>u.ax k o (t.ax k o e)
end
end Go.Fw
namespace Go.Fw
open Go.RowKit (Below)
section
variable {C:bN}{F:gN}{β cM:Nat->Option Nat}{N N':Nat->Prop}{H H':HF}{w w':World}
def o5 (H H':HF):Prop:=∀id,H' id=H id\/(∃m z c,H id=some (.row m z c)/\H' id=some (.row false z c))\/∃t cs l,H id=some (.box t cs)/\H' id=some (.dZ l)
theorem o5.refl (H:HF):o5 H H:=λ_=>.inl rfl
def o5.live (h:o5 H H'){id:Nat}{x:cB}(e:H' id=some x): ∃y,H id=some y/\y.zO x:=by
 rcases h id with h|⟨m,z,c,h1,h2⟩|⟨t,cs,l,h1,h2⟩
 ·exact⟨x,by grind,x.fU⟩
 ·rw[h2]at e;cases e;exact⟨_,h1,rfl,rfl⟩
 ·rw[h2]at e;cases e;exact⟨_,h1,trivial⟩
def o5.tr (h:o5 H H'):Tr F β N H w β N H' w where
 below:=jx.refl _ _
 mem:=λb o v _ hs e=>by
  refine⟨λid bx e' hb=>?_,e⟩;rcases h id with h|⟨m,z,c,h1,h2⟩|⟨t,cs,l,h1,h2⟩
  ·exact hs id bx bq hb
  ·have:=hs id _ h1 hb;rw[h2]at e';cases e';exact⟨rfl,this.2⟩
  ·rw[h2]at e';cases e';trivial
 used:=λ_ h=>h
 kK:=λ_ _=>rfl
 keep:=λid blk' _ e=>let⟨y,e1,hl⟩:=h.live e;⟨y,e1,hl⟩
 size:=λ_ _ _ _ arr _ _ _ _ _ _ h=>⟨arr,h,rfl⟩
 ax:=λ_ _ h=>h
def PH (hR:ad F β N H w)(h:o5 H H'){id b z:Nat}{c:SC}(e:H' id=some (.row false z c))(hb:β id=some b){o:Nat}(ho:o<c.len*z):fS β H' b o:=by
 intro iP bx e' jV;obtain⟨y,ey,_⟩:=h.live e;obtain⟨y',ey',_⟩:=h.live e';have:iP=id:=hR.inj iP id b y' y ey' ey jV hb;subst this;rw[e]at e';cases e';exact⟨rfl,ho⟩
def th (hR:ad F β N H w)(h:o5 H H'){id b:Nat}{cs:List SC}(e:H' id=some (.dZ cs))(hb:β id=some b)(o:Nat):fS β H' b o:=by
 intro iP bx e' jV;obtain⟨y,ey,_⟩:=h.live e;obtain⟨y',ey',_⟩:=h.live e';have:iP=id:=hR.inj iP id b y' y ey' ey jV hb;subst this;rw[e]at e';cases e';trivial
def qZ {b o:Nat}(hb:F.dD b)(hs:fS β H b o):MV F β H w b o=rd w b o:=by
 unfold MV
 grind
theorem fZ {arr:Array Value}{T:TypeId}{b o:Nat}(h:w.heap[b]? =some (.cells arr T))(ho:o<arr.size):rd w b o=some (arr.getD o undef):=by simp[rd,World.cell?,h,Array.getD,ho]
def Ym (hR:ad F β N H w)(h:o5 H H'){id z:Nat}{c:SC}{v:Value}(e:H' id=some (.row false z c))(hv:U1 β w v id z c.len)
  (gE:ir F β N H w id (.row false z c)):dw (MV F β H' w) (MR F β H' w) v c:=by
 obtain⟨⟨hz,abC,hl⟩,hr⟩:=gE;by_cases h0:c.len=0
 ·rcases hv with⟨_,_,rfl⟩|⟨b,cap,arr,T,h1,rfl,h3,h4⟩
  ·exact .empty _ _ abC h0
  ·rw[h0];exact .empty _ _ abC h0
 rcases hv with⟨_,h0',_⟩|⟨b,cap,arr,T,h1,rfl,h3,h4⟩
 ·omega
 rcases hr with⟨_,h0'⟩|⟨b',jG,q1,q2,arr',T',q3,q4,q5,q6,q7,q8,q9⟩
 ·omega
 rw[h1]at q1;cases q1;rw[h3]at q3;cases q3;have eB:c.len*z<=arr.size:=by rw[q4];exact kE _ q7
 have fX:cap=jG:=UI hz K0;subst fX;refine .view b 0 cap z (λk=>arr.getD k undef) abC K0 hz q7 hl (λk hk=>?_) (λi el j x he hx=>?_)
 ·rw[j8,qZ q2 (PH hR h e h1 hk)]
  grind[fZ]
 ·exact(q9 i el j x he hx).mono (o5.tr (N:=N) h).mv (Mem.le_refl _)
def md (H:HF)(p:Nat × Option cB):Prop:=∃m z c,H p.1=some (.row m z c)/\p.2=some (.row false z c)
theorem nw {k:Bool}{d:DC}{c:SC}{u:Hp}{r:List Nat}(h:bv H k d=some (c,u,r)): ∀p∈u,md H p:=by
 cases d with
 |st c'=>grind[bv]
 |nil=>grind[bv]
 |own id=>
  simp only[bv]at h;split at h
  ·rename_i m z c' e;simp at h;obtain⟨rfl,rfl,rfl⟩:=h;cases m
   ·simp
   ·intro p hp;simp at hp;subst hp;exact⟨_,_,_,e,rfl⟩
  grind
  grind
 |ptr id off=>grind[bv]
 |cE id z i off=>grind[bv]
 |sD g id=>grind[bv]
 |mp id=>grind[bv]
theorem Ha (hR:ad F β N H w)(hS:o5 H H'){v:Value}{k:Bool}{d:DC}{c:SC}{u:Hp}{r:List Nat}(hd:co F β N H w v d)
  (h:bv H k d=some (c,u,r))(hu: ∀p∈u,∃z c,p.2=some (.row false z c)/\H' p.1=some (.row false z c)):dw (MV F β H' w) (MR F β H' w) v c:=by
 cases d with
 |st c'=>
  simp[bv]at h;obtain⟨rfl,_,_⟩:=h;exact dw.mono (o5.tr (N:=N) hS).mv (o5.tr (N:=N) hS).mr hd
 |nil=>
  simp[bv]at h;obtain⟨rfl,_,_⟩:=h;have:v= .slice none 0 0:=hd;subst this;cases k
  ·exact .empty _ _ rfl rfl
  ·exact .empty _ _ rfl rfl
 |own id=>
  simp only[bv]at h;split at h
  ·rename_i m z c' e;simp at h;obtain⟨rfl,OX,rfl⟩:=h;obtain⟨hn,_,hd⟩:=hd;have hv:=hd _ _ _ e rfl;have hb:=(hR.rel id _ e).2
   have e':H' id=some (.row false z c'):=by
    cases m
    ·rcases hS id with h|⟨m,z1,c1,h1,h2⟩|⟨t,cs,l,h1,h2⟩
     grind
     grind
     grind
    ·subst OX;obtain⟨z1,c1,h1,h2⟩:=hu (id,some (.row false z c')) (by simp)
     grind
   refine Ym hR hS e' hv ?_;exact hb
  ·simp at h;obtain⟨rfl,_,_⟩:=h;exact .any hd.2.1
  grind
 |ptr id off=>grind[bv]
 |cE id z i off=>grind[bv]
 |sD g id=>grind[bv]
 |mp id=>grind[bv]
theorem cJ: ∀ {ks:List Bool} {ds:List DC} {l:List SC} {u:Hp} {r:List Nat},bS H ks ds=some (l,u,r)->∀p∈u,md H p
 |ks,[],l,u,r,h=>by grind[bS]
 |ks,d::ds,l,u,r,h=>by
  simp only[bS]at h;split at h
  ·rename_i c u1 r1 h1;split at h
   ·rename_i cs u2 r2 h2;simp at h;obtain⟨_,rfl,_⟩:=h;intro p hp;rcases gC.1 hp with hp|hp
    grind[nw]
    ·exact cJ h2 p hp
   grind
  grind
theorem iu: ∀ {ks:List Bool} {ds:List DC} {l:List SC} {u:Hp} {r:List Nat},bS H ks ds=some (l,u,r)->l.length=ds.length
 |ks,[],l,u,r,h=>by grind[bS]
 |ks,d::ds,l,u,r,h=>by
  simp only[bS]at h;split at h
  ·split at h
   ·rename_i cs u2 r2 h2;simp at h;obtain⟨rfl,_,_⟩:=h;simp[iu h2]
   grind
  grind
theorem iy (hR:ad F β N H w)(hS:o5 H H'): ∀ {ks:List Bool} {ds:List DC} {l:List SC} {u:Hp} {r:List Nat} {f:Nat->Value},(∀k d,ds[k]? =some d->co F β N H w (f k) d)->
  bS H ks ds=some (l,u,r)->(∀p∈u,∃z c,p.2=some (.row false z c)/\H' p.1=some (.row false z c))->∀k c,l[k]? =some c->dw (MV F β H' w) (MR F β H' w) (f k) c
 |ks,[],l,u,r,f,_,h,_=>by grind[bS]
 |ks,d::ds,l,u,r,f,hf,h,hu=>by
  simp only[bS]at h;split at h
  ·rename_i c u1 r1 h1;split at h
   ·rename_i cs u2 r2 h2;simp at h;obtain⟨rfl,rfl,_⟩:=h;intro k x hx
    cases k with
    |zero=>
     simp at hx;subst hx;exact Ha hR hS (hf 0 d rfl) h1 λp hp=>hu p (gC.2 (.inl hp))
    |succ k=>
     simp at hx;exact iy hR hS (f:=λk=>f (k+1)) (λk d hd=>hf (k+1) d bq) h2 (λp hp=>hu p (gC.2 (.inr hp))) k x hx
   grind
  grind
def akF (C:bN)(H:HF)(u:Hp)(p:Nat × Option cB):Prop:=
 md H p\/∃t cs l ul rl,H p.1=some (.box t cs)/\p.2=some (.dZ l)/\bS H (C.kinds t) cs=some (l,ul,rl)/\∀q∈ul,q∈u
def ig (C:bN)(H:HF)(u:Hp):Prop:=∀p∈u,akF C H u p
theorem xP (u:Hp)(H:HF)(id:Nat):(u.on H id=H id/\∀p∈u,p.1≠id)\/∃p∈u,p.1=id/\u.on H id=p.2:=by
 induction u with
 |nil=>exact .inl ⟨rfl,by simp⟩
 |cons q u ih=>
  obtain⟨j,b⟩:=q;by_cases h:id=j
  ·exact .inr ⟨(j,b),by simp,h.symm,by simp[Hp.on,bn,h]⟩
  ·have he:Hp.on ((j,b)::u) H id=Hp.on u H id:=by show bn _ _ _ id=_;simp[bn,h]
   grind
def ig.soft {u:Hp}(h:ig C H u):o5 H (u.on H):=by
 intro id
 rcases xP u H id with⟨h1,_⟩|⟨p,hp,rfl,h1⟩
 grind
 ·rcases h p hp with⟨m,z,c,e1,e2⟩|⟨t,cs,l,ul,rl,e1,e2,_⟩
  grind
  grind
def ig.frozen {u:Hp}(h:ig C H u){p:Nat × Option cB}(hp:p∈u)(hf:md H p): ∃z c,p.2=some (.row false z c)/\u.on H p.1=some (.row false z c):=by
 obtain⟨m,z,c,e1,e2⟩:=hf;refine⟨z,c,e2,?_⟩
 rcases xP u H p.1 with⟨_,h1⟩|⟨q,hq,hqp,h1⟩
 grind
 ·rcases h q hq with⟨m',z',c',q1,q2⟩|⟨t,cs,l,ul,rl,q1,_⟩
  grind
  grind
def ig.heap {u:Hp}(hR:ad F β N H w)(h:ig C H u):ad F β N (u.on H) w:=by
 have hS:=h.soft;have hT:Tr F β N H w β N (u.on H) w:=hS.tr;refine hR.step hT (λid=>u.on H id≠H id) (λid bx hid e=>?_) (λid bx hid e=>?_) (λi j b x y hi hj bi bj=>?_)
 ·have:u.on H id=H id:=Pw hid;have e':H id=some bx:=by grind
  exact⟨e',(hR.rel id bx e').1,λ_ _=>rfl⟩
 ·rcases xP u H id with⟨h1,_⟩|⟨p,hp,rfl,h1⟩
  grind
  ·rcases h p hp with⟨m,z,c,e1,e2⟩|⟨t,cs,l,ul,rl,e1,e2,e3,e4⟩
   ·rw[h1,e2]at e;cases e;obtain⟨hn,h0,hb⟩:=hR.rel _ _ e1;refine⟨hn,h0,?_⟩;rcases hb with hb|⟨b,cap,q1,q2,arr,T,q3,q4,q5,q6,q7,q8,q9⟩
    grind
    ·exact .inr ⟨b,cap,q1,q2,arr,T,q3,q4,q5,q6,q7,q8,λi e j x he hx=>(q9 i e j x he hx).mono hT.mv (Mem.le_refl _)⟩
   ·rw[h1,e2]at e;cases e;obtain⟨hn,b,arr,T,q1,q2,q3,q4,q5⟩:=hR.rel _ _ e1;refine⟨hn,b,arr,T,q1,q2,q3,by grind[iu],?_⟩;exact iy hR hS q5 e3 λq hq=>h.frozen (e4 q hq) (cJ e3 q hq)
 ·obtain⟨x',AO,_⟩:=hS.live hi;obtain⟨y',hy',_⟩:=hS.live hj;exact hR.inj i j b x' y' AO hy' bi bj
def ig.afw {u:Hp}(h:ig C H u){id:Nat}{t:TypeId}{ds:List DC}{l:List SC}{ue:Hp}{re:List Nat}(hp:(id,some (.dZ l))∈u)(hb:H id=some (.box t ds))
  (hs:bS H (C.kinds t) ds=some (l,ue,re)):u.on H id=some (.dZ l):=by
 rcases xP u H id with⟨_,h1⟩|⟨q,hq,hqp,h1⟩
 grind
 ·rcases h q hq with⟨m',z',c',q1,q2⟩|⟨t',cs,l',ul,rl,q1,q2,q3,_⟩
  grind
  grind
def ig.ko {u:Hp}(h: ∀p∈u,md H p):ig C H u:=λp hp=>.inl (h p hp)
def ig.append {u v:Hp}(h:ig C H u)(k:ig C H v):ig C H (u++v):=by
 intro p hp;rcases gC.1 hp with hp|hp
 ·rcases h p hp with h|⟨t,cs,l,ul,rl,e1,e2,e3,e4⟩
  ·exact .inl h
  ·exact .inr ⟨t,cs,l,ul,rl,e1,e2,e3,λq hq=>gC.2 (.inl (e4 q hq))⟩
 ·rcases k p hp with h|⟨t,cs,l,ul,rl,e1,e2,e3,e4⟩
  ·exact .inl h
  ·exact .inr ⟨t,cs,l,ul,rl,e1,e2,e3,λq hq=>gC.2 (.inr (e4 q hq))⟩
end
def Hb: ∀ {l:List (Nat × TI)} {t:Nat} {i:TI},LZ l t=some i->(t,i)∈l
 | [],_,_,h=>by grind[LZ]
 |(j,b)::l,t,i,h=>by
  simp only[LZ]at h;split at h;simp_all
  ·exact i8 _ (Hb h)
structure L4 (P:Program) (t:TypeId) (i:TI) (f:TypeInfo) (d:TypeDesc) (v:Value):Prop where
 od:P.info? t=some f
 IP:P.underlying t=some d
 b8:eC d=i.b8
 size:f.size=i.size
 bytes:f.bytes=i.bytes
 zero:f.zero=some v
 xC:v.cells.toList.map BN=i.zero
 eqs:(if P.eqGuardType P.depth t then none else kN P 8 t)=i.eqs
 fields: ∀fs,d= .struct fs->∀g∈fs.toList,(P.info? g.type).isSome =true
theorem bN.Ok.get {C:bN}(h:C.Ok){t:TypeId}{i:TI}(e:C.ti t=some i): ∃f d v,L4 C.P t i f d v:=by
 have hm:=Hb e;obtain⟨k,hk⟩:=UM.1 hm;have hty:=aP (·[k]?) h.ty;simp only[gq,hk,xJ,lL]at hty;unfold akC at hty;split at hty
 ·rename_i f d hf hd;split at hty
  ·rename_i v hz hall;simp only[lL,gr]at hty;obtain⟨h1,h2,h3,h4,h5⟩:=hty;refine⟨f,d,v,hf,hd,h1,h2,h3,hz,h4,h5,?_⟩
   grind
  grind
 grind
section
variable {P:Program}{t:TypeId}{i:TI}{f:TypeInfo}{d:TypeDesc}{v:Value}
def L4.cU (h:L4 P t i f d v)(w:World):(underlying t).run P w= .ok d w:=sY h.IP w
def L4.iG (h:L4 P t i f d v)(w:World):(sizeOf t).run P w= .ok i.size w:=by simp[sizeOf,typeInfo,h.od,h.size]
def L4.XE (h:L4 P t i f d v)(w:World):(typeInfo t).run P w= .ok f w:=by simp[typeInfo,h.od]
def L4.sS (h:L4 P t i f d v)(w:World):(zeroValue t).run P w= .ok v w:=by simp[zeroValue,typeInfo,h.od,h.zero]
def L4.GX (h:L4 P t i f d v)(w:World):(isAgg t).run P w= .ok (cF i.b8) w:=by
 rw[<- h.b8];cases d<;>simp[isAgg,h.cU,eC,cF]
def dm {e:TypeId}(h:eC d= .slice e):d= .slice e:=by exact US
def ku {n:Nat}{e:TypeId}(h:eC d= .array n e):d= .array n e:=by exact US
def rc {k:IntKind}(h:eC d= .int k):d= .int k:=by exact US
def L5 (h:eC d= .bool):d= .bool :=by cases d<;>simp[eC]at h;rfl
def U2 (h:eC d= .iface): ∃m,d= .interface m:=by exact US
def me (h:eC d= .str):d= .string :=by cases d<;>simp[eC]at h;rfl
def rf {fs:List (Nat × TypeId)}(h:eC d= .struct fs): ∃gs,d= .struct gs/\gs.toList.map (λf=>(f.offset,f.type))=fs:=US
end
theorem S6 {mv mr:Mem}{v:Value}{c:SC}(h:dw mv mr v c):v.oneCell'=true:=by
 cases h with
 |lit h=>cases ‹Value› <;>simp[plain]at h<;>rfl
 |empty=>rfl
 |view=>rfl
 |ref=>rfl
 |err h=>obtain⟨T,x,rfl⟩:=h;rfl
 |num h=>obtain⟨m,rfl⟩:=h;rfl
 |raw h=>exact h
 |any h=>exact h
 |fn=>rfl
def Hc {v:Value}(h:v.oneCell'=true):v.cells= #[v]:=by cases v<;>simp[Value.oneCell']at h<;>rfl
section
variable (C:bN)(F:gN)(β:Nat->Option Nat)(N:Nat->Prop)(H:HF)(fid:Nat)(K:j9)
def bh (w:World)(v:Value)(w':World):Prop:=
 ∃cM r u R,K r u R/\Tr F β N H w cM (bf N fid) (u.on H) w'/\ad F cM (bf N fid) (u.on H) w'/\cj F cM (bf N fid) (u.on H) w' v r
end
section
variable {C:bN}{F:gN}{β:Nat->Option Nat}{N:Nat->Prop}{H:HF}{fid:Nat}{K:j9}{w w':World}
theorem co.bf {f:Nat}{v:Value}{d:DC}(h:co F β N H w v d):co F β (bf N f) H w v d:=by
 cases d with
 |st c=>exact h
 |nil=>exact h
 |ptr id off=>exact⟨.inl h.1,h.2⟩
 |own id=>exact⟨.inl h.1,h.2⟩
 |cE id z i off=>exact⟨.inl h.1,h.2⟩
 |sD g id=>exact⟨.inl h.1,h.2⟩
 |mp id=>exact⟨.inl h.1,h.2⟩
def Tr.bf {cM:Nat->Option Nat}{H':HF}{f:Nat}(t:Tr F β N H w cM N H' w'):Tr F β N H w cM (bf N f) H' w':=
 ⟨t.below,t.mem,λ_ h=>.inl h,t.kK,t.keep,t.size,t.ax⟩
theorem ir.bf {f id:Nat}{b:cB}(h:ir F β N H w id b):ir F β (bf N f) H w id b:=by
 cases b with
 |box t cs=>obtain⟨b,arr,T,h1,h2,h3,h4,h5⟩:=h;exact⟨b,arr,T,h1,h2,h3,h4,λk x hx=>(h5 k x hx).bf⟩
 |dZ cs=>exact h
 |row m z c=>exact h
 |aG z l=>
  obtain⟨q0,q1|⟨b,cap,arr,T,q1,q2,q3,q4,q5,q6⟩⟩:=h
  ·exact LX
  ·exact⟨q0,.inr ⟨b,cap,arr,T,q1,q2,q3,q4,q5,λi e k x hi hx=>(q6 i e k x hi hx).bf⟩⟩
 |map es=>exact h
def ad.bf {f:Nat}(h:ad F β N H w):ad F β (bf N f) H w:=
 ⟨λid bx e=>let⟨a,b⟩:=h.rel id bx e;⟨.inl a,b.bf⟩,h.inj,h.below,h.sT⟩
def bh.still (hR:ad F β N H w){u:Hp}(hg:ig C H u){R:List Nat}{r:DV}{v:Value}(hK:K r u R)
  (hv:cj F β (Fw.bf N fid) (u.on H) w v r):bh F β N H fid K w v w:=
 ⟨β,r,u,R,hK,hg.soft.tr.bf,(hg.heap hR).bf,hv⟩
def aq.bf {f:Nat}{v:Value}{d:DX}(h:aq F β N H w v d):aq F β (Fw.bf N f) H w v d:=by
 unfold aq at*;split
 ·rename_i hx;rw[if_pos hx]at h;obtain⟨arr,h1,h2,h3⟩:=h;exact⟨arr,h1,h2,λk c hc=>(h3 k c hc).bf⟩
 ·rename_i hx;rw[if_neg hx]at h;obtain⟨c,h1,h2⟩:=h;exact⟨c,h1,h2.bf⟩
theorem cj.bf {f:Nat}{v:Value}{d:DV}(h:cj F β N H w v d):cj F β (Fw.bf N f) H w v d:=by
 cases d with
 |val x=>exact aq.bf h
 |aJ l=>obtain⟨arr,h1,h2,h3⟩:=h;exact⟨arr,h1,h2,λk c hc=>(h3 k c hc).bf⟩
def bh.pure (hR:ad F β N H w){R:List Nat}{r:DV}{v:Value}(hK:K r [] R)(hv:cj F β N H w v r):bh F β N H fid K w v w:=
 ⟨β,r,[],R,hK,(o5.refl H).tr.bf,hR.bf,hv.bf⟩
theorem fT {v:Value}(h:plain v=true):cj F β N H w v (lit v):=⟨.st (.lit v),rfl,.lit h⟩
def cH {v:Value}{d:DC}(h:co F β N H w v d):cj F β N H w v (bm d):=⟨d,rfl,h⟩
def aq.al {v:Value}{d:DC}(h:aq F β N H w v (false,[d])):co F β N H w v d:=by
 obtain⟨c,h1,h2⟩:=h
 grind
def aq.Ce {v:Value}{cs:List DC}(h:aq F β N H w v (true,cs)): ∃arr,v= .agg arr/\arr.size=cs.length/\∀k c,cs[k]? =some c->co F β N H w (arr.getD k undef) c:=h
theorem co.abG {v:Value}(h:co F β N H w v (.st .err)): ∃T x,v= .iface T x:=by
 have h:dw _ _ v .err :=h
 cases h with
 |empty a cap hv=>grind[SC.ao]
 |view _ _ _ _ _ hv=>grind[SC.ao]
 |err h=>exact h
theorem co.bw {v x:Value}(h:co F β N H w v (.st (.lit x))):v=x/\plain x=true:=by
 cases h with
 |lit h=>grind
 |empty a cap hv=>grind[SC.ao]
 |view _ _ _ _ _ hv=>grind[SC.ao]
structure bE (C:bN) (F:gN):Prop where
 ok:eQ C.gl (rd F.w0)
 mv:F.Pk.le (rd F.w0)
 UG: ∀g cs,(g,cs)∈C.gl->0<cs.length->¬F.own g
 rok:eQ C.gl F.mr0
 rle:F.mr0.le (rd F.w0)
 mvr:F.Pk.le F.mr0
theorem AY: ∀ {l:s7} {t:Nat} {i:List SC},xL l t=some i->(t,i)∈l
 | [],_,_,h=>by grind[xL]
 |(j,b)::l,t,i,h=>by
  simp only[xL]at h;split at h;simp_all
  ·exact i8 _ (AY h)
def tk {b o:Nat}{v:Value}(e:rd F.w0 b o=some v)(hn: ¬F.own b): ¬F.dD b:=by
 have hb:b<F.base:=IS _ _ e;rintro(h|h)
 ·omega
 grind
def agf {b o:Nat}{v:Value}(e:F.mr0 b o=some v)(hm: ¬F.dD b):MR F β H w b o=some v:=by
 unfold MR
 grind
theorem I1 {C:bN}(hG:bE C F)(hR:ad F β N H w):(MR F β H w).le (rd w):=by
 intro b o v h;unfold MR at h;split at h
 ·unfold MV at h
  grind
 ·rename_i hb;exact hR.below.rd hb (hG.rle b o v h)
def eQ.mr {C:bN}(hG:bE C F):eQ C.gl (MR F β H w):=by
 intro g cs hm;obtain⟨h0,h9⟩:=hG.rok g cs hm
 have hn:0<cs.length->¬F.dD g:=λfN=>by
  obtain⟨v,h1,_⟩:=h0 0 cs[0] bq;exact tk (hG.rle g 0 v h1) (hG.UG g cs hm fN)
 refine⟨λk x hx=>?_,λfN=>?_⟩
 ·obtain⟨v,h1,h2⟩:=h0 k x hx;exact⟨v,agf h1 (hn (Nat.lt_of_le_of_lt (dM _) (kp.1 hx).1)),h2⟩
 ·unfold MR
  grind
def PJ {v:Value}{d:DV}(h:IY v=some d):cj F β N H w v d:=by
 unfold IY at h;split at h
 ·simp at h;subst h;exact cH rfl
 ·split at h
  ·rename_i a b _ _ ha hb;simp at h;subst h;have ha:a= #[]:=by grind
   have hb:b= #[]:=by grind
   subst ha;subst hb;exact ai2
  grind
 grind[fT]
theorem mA (hG:bE C F)(_hR:ad F β N H w){E:EF}{a:Act}(hE:dE F β N H w E a){x:Operand}{d:DV}(h:C.ev E x=some d):cj F β N H w (a.eval x) d:=by
 cases x with
 |tmp t=>exact hE t d h
 |const v=>exact PJ h
 |global g=>
  simp only[bN.ev]at h;split at h
  ·rename_i cs hc;simp at h;subst h;have hm:=AY hc;have fC:=(eQ.mr (β:=β) (H:=H) (w:=w) hG g cs hm).1;refine cH ?_;refine .ref g 0 (λk=>((MR F β H w g k).getD undef)) (λk hk=>?_) (λk x hx=>?_)
   ·obtain⟨v,h1,_⟩:=fC k cs[k] bq
    grind
   ·obtain⟨v,h1,h2⟩:=fC k x hx;rw[h1];exact h2.mono (ec _) (ec _)
  grind
 |func f=>
  simp[bN.ev]at h;subst h;exact ai2
end
section
variable {C:bN}{F:gN}{β:Nat->Option Nat}{N:Nat->Prop}{H:HF}{fid:Nat}{K:j9}{w w':World}{P:Program}
def addr_add (b o n:Nat):(⟨b,o,none⟩:Addr).add n=⟨b,o+n,none⟩:=Addr.add_lit b o n
def C2 (ag:Bool)(n:Nat)(f:Nat->Value):Value:=if ag then .agg ((List.range n).map f).toArray else f 0
theorem L6 {t:TypeId}{i:TI}{tf:TypeInfo}{d:TypeDesc}{z:Value}(hT:L4 P t i tf d z){b off:Nat}{f:Nat->Value}
  (hc: ∀k,k<i.size->rd w b (off+k)=some (f k))(hs:(cF i.b8 || Nat.beq i.size 1)=true):(loadVar t ⟨b,off,none⟩).run P w= .ok (C2 (cF i.b8) i.size f) w:=by
 unfold loadVar C2;simp only[eJ,hT.GX,mw];cases Xz:cF i.b8
 ·simp only[Xz,SW]at hs;have h1:i.size=1:=o7 hs;have:=hc 0 K0;simp only[rd,CQ]at this;simp[this]
 ·simp only[if_true,eJ,hT.iG,mw];rw[SP w _ _ f (λj hj=>by rw[addr_add];exact hc j hj)];simp
def rg {f:Nat->Value}{cs:List DC}{off n:Nat}{ag:Bool}(UD: ∀k c,cs[k]? =some c->co F β N H w (f k) c)(hl:off+n<=cs.length)
  (hs:(ag || Nat.beq n 1)=true):aq F β N H w (C2 ag n λk=>f (off+k)) (ag,(cs.drop off).take n):=by
 cases ag
 ·simp only[SW]at hs;have h1:n=1:=o7 hs;subst h1;refine⟨cs[off],?_,?_⟩
  grind[List.drop_eq_getElem_cons]
  ·exact UD off _ (by simp)
 ·refine⟨_,rfl,by grind,λk c hc=>?_⟩;rw[GY]at hc;simp_all
theorem C3 {f:Nat->Value}{cs:List SC}{off n:Nat}{ag:Bool}(UD: ∀k c,cs[k]? =some c->dw (MV F β H w) (MR F β H w) (f k) c)(hl:off+n<=cs.length)
  (hs:(ag || Nat.beq n 1)=true):aq F β N H w (C2 ag n λk=>f (off+k)) (ag,((cs.drop off).take n).map .st):=by
 have:=rg (N:=N) (f:=f) (cs:=cs.map .st) (off:=off) (n:=n) (ag:=ag) (λk c hc=>by
  rw[gq]at hc
  cases hk:cs[k]? with
  |none=>simp[hk]at hc
  |some x=>simp[hk]at hc;subst hc;exact UD k x hk) bq hs
 simp_all
def aH {a b:Bool}(h:(a&&b)=true):a=true/\b=true:=by grind
theorem S7 (hC:C.Ok)(hG:bE C F)(hR:ad F β N H w){T:TypeId}{x:DX}{v0:Value}(hx:aq F β N H w v0 x)(h:oq C T x H K):
  ∃v,(Instr.loadAt T v0).run C.P w= .ok v w/\bh F β N H fid K w v w:=by
 unfold oq at h;split at h
 ·grind
 rename_i i hi;obtain⟨tf,d,z,hT⟩:=hC.get hi
 have bB: ∀ {b o:Nat} {f:Nat->Value},(∀k,k<i.size->rd w b (o+k)=some (f k))->(cF i.b8 || Nat.beq i.size 1)=true->
   (Instr.loadAt T (.pointer (some ⟨b,o,none⟩))).run C.P w= .ok (C2 (cF i.b8) i.size f) w:=by
  grind[Instr.loadAt,Instr.sureAddr,L6]
 split at h
 ·
  rename_i id off;obtain⟨hn,b,jt,rfl⟩:=hx.al;split at h
  ·rename_i t cs hb;obtain⟨_,b',arr,T',h1,h2,h3,h4,h5⟩:=hR.rel id _ hb;rw[jt]at h1;cases h1;split at h
   ·rename_i eB;obtain⟨eB,hs⟩:=aH eB;have eB:=fO eB
    exact⟨_,bB (f:=λk=>arr.getD (off+k) undef) (λk hk=>fZ h3 K0) hs,
     bh.pure hR h (rg (f:=λk=>arr.getD k undef) (λk c hc=>h5 k c hc) eB hs)⟩
   grind
  ·rename_i cs hb;obtain⟨_,b',arr,T',h1,h2,h3,h4,h5⟩:=hR.rel id _ hb;rw[jt]at h1;cases h1;split at h
   ·rename_i eB;obtain⟨eB,hs⟩:=aH eB;have eB:=fO eB
    exact⟨_,bB (f:=λk=>arr.getD (off+k) undef) (λk hk=>fZ h3 K0) hs,
     bh.pure hR h (C3 (f:=λk=>arr.getD k undef) (λk c hc=>h5 k c hc) eB hs)⟩
   grind
  grind
 ·
  rename_i cs;have hp:=hx.al;split at h
  ·rename_i eB;obtain⟨eB,hs⟩:=aH eB;have eB:=fO eB
   cases hp with
   |empty a cap hv=>grind[SC.ao]
   |view _ _ _ _ _ hv=>grind[SC.ao]
   |ref b o f hc hr=>
    have II: ∀k,k<cs.length->rd w b (o+k)=some (f k):=by
     intro k hk;exact I1 hG hR _ _ _ (hc k hk)
    have:=C3 (N:=N) (f:=f) (off:=0) (n:=i.size) (cs:=cs) (ag:=cF i.b8) hr K0 hs;refine⟨_,bB (f:=f) (λk hk=>II k K0) hs,bh.pure hR h ?_⟩;show aq _ _ _ _ _ _ _
    grind
  grind
 ·
  rename_i id z0 n off;obtain⟨hn,b,jt,rfl⟩:=hx.al;split at h
  ·rename_i m z' c hb;split at h
   ·rename_i eB;obtain⟨eB,hs⟩:=aH eB;obtain⟨pY,eB⟩:=aH eB;have eB:=fO eB;have pY:=o7 pY;subst pY;obtain⟨e,he,h⟩:=h;obtain⟨_,⟨hz,hv,hl⟩,gE⟩:=hR.rel id _ hb
    rcases gE with⟨h1,_⟩|⟨b',cap,h1,h2,arr,T',q1,q2,q3,q4,q5,q6,q7⟩
    ·grind
    rw[jt]at h1;cases h1;have iF:=hl n e he;have ak:=SC.ip he
    have B8:n*z0+z0<=arr.size:=by
     rw[q2];have:(n+1)*z0<=cap*z0:=kE _ K0
     grind
    exact⟨_,bB (f:=λk=>arr.getD (n*z0+(off+k)) undef) (λk hk=>by grind[fZ]) hs,
     bh.pure hR h (C3 (f:=λk=>arr.getD (n*z0+k) undef) (λk c hc=>(q7 n e k c he hc).mono (Mem.le_refl _) (ec _)) K0 hs)⟩
   grind
  ·rename_i z' l hb;split at h
   ·rename_i eB;obtain⟨eB,hs⟩:=aH eB;obtain⟨pY,eB⟩:=aH eB;have eB:=fO eB;have pY:=o7 pY;subst pY;obtain⟨e,he,h⟩:=h;obtain⟨_,⟨hz,hl⟩,gE⟩:=hR.rel id _ hb
    rcases gE with⟨h1,_⟩|⟨b',cap,arr,T',h1,h2,q1,q2,q3,q4⟩
    ·grind
    rw[jt]at h1;cases h1;have iF:=hl n e he;have ak:=(kp.1 he).1
    have B8:n*z0+z0<=arr.size:=by
     rw[q2];have:(n+1)*z0<=cap*z0:=kE _ K0
     grind
    exact⟨_,bB (f:=λk=>arr.getD (n*z0+(off+k)) undef) (λk hk=>by grind[fZ]) hs,
     bh.pure hR h (rg (f:=λk=>arr.getD (n*z0+k) undef) (λk c hc=>q4 n e k c he hc) K0 hs)⟩
   grind
  grind
 grind
theorem C4 {mv mr:Mem}{cs:List SC}{b o:Nat}(h:dw mv mr (.pointer (some ⟨b,o,none⟩)) (.ref cs))(n:Nat):dw mv mr (.pointer (some ⟨b,o+n,none⟩)) (.ref (cs.drop n)):=by
 cases h with
 |ref _ _ f hc hr=>
  refine .ref b (o+n) (λk=>f (n+k)) (λk hk=>?_) (λk x hx=>?_)
  grind
  grind
theorem I2 {mv mr:Mem}{v:Value}{cs:List SC}(h:dw mv mr v (.ref cs)): ∃b o,v= .pointer (some ⟨b,o,none⟩):=by
 cases h with
 |ref b o f hc hr=>grind
 |empty a cap hv=>grind[SC.ao]
 |view _ _ _ _ _ hv=>grind[SC.ao]
theorem I3 (hC:C.Ok)(hR:ad F β N H w){T:TypeId}{x:DX}{v0:Value}{n:Nat}(hx:aq F β N H w v0 x)(h:ot C T x n K):
  ∃v,(Instr.fieldAt T v0 n).run C.P w= .ok v w/\bh F β N H fid K w v w:=by
 unfold ot at h;split at h
 ·grind
 rename_i i hi;obtain⟨tf,d,z,hT⟩:=hC.get hi;split at h
 ·rename_i fs bV;obtain⟨gs,hd,hgs⟩:=rf (hT.b8.trans bV);split at h
  ·rename_i o ft R9;split at h
   ·rename_i fi kI;obtain⟨ff,fd,fz,hF⟩:=hC.get kI;split at h
    ·rename_i np;have np:=fO np;rw[<- hgs,gq]at R9
     cases hg:gs.toList[n]? with
     |none=>grind
     |some g=>
      simp[hg]at R9;obtain⟨ho,hft⟩:=R9;have UE:gs[n]? =some g:=by grind
      have bB: ∀b off,(Instr.fieldAt T (.pointer (some ⟨b,off,none⟩)) n).run C.P w= .ok (.pointer (some ⟨b,off+o,none⟩)) w:=by
       intro b off;have fh: ¬fi.size=0:=by omega
       simp[Instr.fieldAt,hT.cU,hd,UE,Instr.sureAddr,fieldPlace,hft,hF.iG,fh,addr_add,ho]
      split at h
      ·rename_i id off;obtain⟨hn,b,jt,rfl⟩:=hx.al;exact⟨_,bB b off,bh.pure hR h (cH ⟨hn,b,jt,rfl⟩)⟩
      ·rename_i cs;obtain⟨b,off,rfl⟩:=I2 hx.al;exact⟨_,bB b off,bh.pure hR h (cH (C4 hx.al o))⟩
      ·rename_i id z0 m off;obtain⟨hn,b,jt,rfl⟩:=hx.al;exact⟨_,bB b _,bh.pure hR h (cH ⟨hn,b,jt,by grind⟩)⟩
      grind
    grind
   grind
  grind
 grind
def jx.setRow {m:Nat->Prop}{b:Nat}(hb:m b)(arr:Array Value):jx m w (w.setRow b arr):=
 ⟨rfl,rfl,rfl,by simp,λk _ hk=>setRow_other w b k arr (λe=>hk (e▸hb))⟩
def mf {b:Nat}(lC: ∃arr T,w.heap[b]? =some (.cells arr T))(arr':Array Value)(k:Nat)(x:Option (List Deferred))(e:w.heap[k]? =some (.deferred x)):(w.setRow b arr').heap[k]? =some (.deferred x):=by grind[setRow_other]
def Tr.write (hR:ad F β N H w){id b:Nat}{bx blk':cB}{arr arr':Array Value}{T:TypeId}(hb:H id=some bx)(xp:β id=some b)
  (lC:w.heap[b]? =some (.cells arr T))(np:arr'.size=arr.size)(hl:bx.zO blk')(eG: ∀o,bx.sU o->blk'.sU o/\arr'[o]? =arr[o]?):
  Tr F β N H w β N (bn H id (some blk')) (w.setRow b arr') where
 ax:=mf ⟨_,_,lC⟩ arr'
 below:=jx.setRow (hR.fY hb xp).2 arr'
 mem:=λb' o v _ hs e=>by
  refine⟨λiP nL e' jV=>?_,?_⟩
  ·by_cases h:iP=id
   ·subst h;rw[am]at e';cases e';exact(eG o (hs iP bx hb jV)).1
   ·rw[az _ _ _ h]at e';exact hs iP nL e' jV
  ·by_cases h:b'=b
   ·subst h;have:=(eG o (hs id bx hb xp)).2;simp only[rd,World.cell?,lC]at e;simp only[rd,World.cell?,IV w b' arr arr' T (0,0) lC]
    grind
   exact ab4
 used:=λ_ h=>h
 kK:=λ_ _=>rfl
 keep:=λiP nL _ e=>by
  by_cases h:iP=id
  grind[am]
  ·rw[az _ _ _ h]at e;exact⟨nL,e,nL.fU⟩
 size:=λ_ _ _ b' xm T0 _ _ _ _ _ e=>by grind[setRow_heap,setRow_other]
def ad.write (hR:ad F β N H w){id b:Nat}{bx blk':cB}{arr arr':Array Value}{T:TypeId}(hb:H id=some bx)(xp:β id=some b)
  (lC:w.heap[b]? =some (.cells arr T))(np:arr'.size=arr.size)(hl:bx.zO blk')(eG: ∀o,bx.sU o->blk'.sU o/\arr'[o]? =arr[o]?)
  (hrel:ir F β N (bn H id (some blk')) (w.setRow b arr') id blk'):ad F β N (bn H id (some blk')) (w.setRow b arr'):=by
 refine hR.step (Tr.write hR hb xp lC np hl eG) (λi=>i=id) (λi b0 hi e=>?_) (λi b0 hi e=>?_) (λi j x y z hi hj bi bj=>?_)
 ·rw[az _ _ _ hi]at e;refine⟨e,(hR.rel i b0 e).1,λb1 h1=>setRow_other w b b1 arr' λh=>hi ?_⟩;subst h;exact hR.inj i id b1 b0 bx e hb h1 xp
 ·subst hi;rw[am]at e;cases e;exact⟨(hR.rel i bx hb).1,hrel⟩
 ·have live: ∀ {k:Nat} {b0:cB},bn H id (some blk') k=some b0->∃b1,H k=some b1:=by
   grind[az]
  obtain⟨b1,h1⟩:=live hi;obtain⟨b2,h2⟩:=live hj;exact hR.inj i j x b1 b2 h1 h2 bi bj
theorem co.one_cell {v:Value}{c:DC}(h:co F β N H w v c):v.oneCell'=true:=by
 cases c with
 |st c=>exact S6 h
 |nil=>have:v= .slice none 0 0:=h;subst this;rfl
 |ptr id off=>obtain⟨_,b,_,rfl⟩:=h;rfl
 |cE id z i off=>obtain⟨_,b,_,rfl⟩:=h;rfl
 |sD g id=>obtain⟨_,b,_,rfl⟩:=h;rfl
 |mp id=>obtain⟨_,b,_,rfl⟩:=h;rfl
 |own id=>exact h.2.1
theorem aq.cells {v:Value}{x:DX}(h:aq F β N H w v x):v.cells.size=x.2.length/\∀k c,x.2[k]? =some c->co F β N H w (v.cells.getD k undef) c:=by
 obtain⟨ag,cs⟩:=x;cases ag
 ·obtain⟨c,h0,hc⟩:=h;simp at h0;subst h0;rw[Hc hc.one_cell];refine⟨rfl,λk c' hk=>?_⟩
  cases k with
  |zero=>simp_all
  |succ k=>grind
 ·obtain⟨arr,rfl,h2,h3⟩:=h;exact⟨h2,h3⟩
def aq.cells_one {v:Value}{x:DX}(h:aq F β N H w v x): ∀u∈v.cells.toList,u.oneCell'=true:=by
 intro u hu;obtain⟨k,hk⟩:=UM.1 hu;have pF:v.cells[k]? =some u:=by grind
 obtain⟨h1,h2⟩:=h.cells;have ak:k<v.cells.size:=(FT.1 pF).1;have:=h2 k x.2[k] bq;have e:v.cells.getD k undef=u:=by simp_all
 rw[e]at this;exact this.one_cell
def aO (arr:Array Value)(off:Nat)(vs:List Value):Array Value:=(arr.toList.take off++vs++arr.toList.drop (off+vs.length)).toArray
theorem fk {arr:Array Value}{off:Nat}{vs:List Value}(h:off+vs.length<=arr.size):(aO arr off vs).size =arr.size:=by grind[aO]
def rh {α:Type}{l:List α}{off:Nat}{vs:List α}(h:off+vs.length<=l.length)(k:Nat):
  (iq l off vs)[k]? =if k<off then l[k]? else if k<off+vs.length then vs[k -off]? else l[k]? :=by
 unfold iq
 grind
def gb {arr:Array Value}{off:Nat}{vs:List Value}(h:off+vs.length<=arr.size)(k:Nat):
  (aO arr off vs)[k]? =if k<off then arr[k]? else if k<off+vs.length then vs[k -off]? else arr[k]? :=by
 grind[aO]
theorem mg {arr:Array Value}{k:Nat}{v:Value}(h:arr[k]? =some v):arr.getD k undef=v:=by simp_all
theorem bL {a b:Array Value}{k l:Nat}(h:a[k]? =b[l]?):a.getD k undef=b.getD l undef:=by simp_all
theorem I4 {t:TypeId}{i:TI}{tf:TypeInfo}{d:TypeDesc}{z v:Value}(hT:L4 P t i tf d z){b off:Nat}{arr:Array Value}{T:TypeId}
  (lC:w.heap[b]? =some (.cells arr T))(hv:v.cells.size=i.size)(h1: ∀u∈v.cells.toList,u.oneCell'=true)(eB:off+i.size<=arr.size):
  (storeVar t ⟨b,off,none⟩ v).run P w= .ok () (w.setRow b (aO arr off v.cells.toList)):=by
 unfold storeVar;simp only[eJ,hT.iG,mw,hv,ne_eq,not_true_eq_false,kM]
 grind[run_storeCells_at,aO]
def SC.Lv {c c':SC}{n:Nat}{e:List SC}(h:c.xB n e=some c'):c'.len=c.len/\c'.ao=c.ao:=by
 unfold SC.xB at h
 grind[SC.len,SC.ao]
def SC.qP {c c':SC}{n:Nat}{e:List SC}(h:c.xB n e=some c')(hn:n<c.len)(j:Nat):c'.elem j=if j=n then some e else c.elem j:=by
 unfold SC.xB at h
 grind[SC.len,SC.elem]
theorem lP: ∀ {l:List SC},ol l=true->∀(k:Nat) (x:SC),l[k]? =some x->x.flat=true
 | [],_,k,x,h=>by grind
 |c::cs,hf,k,x,h=>by
  simp only[ol]at hf;split at hf
  ·rename_i hc
   cases k with
   |zero=>grind
   |succ k=>exact lP hf k x bq
  grind
def Yn (hC:C.Ok)(hR:ad F β N H w){T:TypeId}{x y:DX}{v0 v1:Value}(hx:aq F β N H w v0 x)(hy:aq F β N H w v1 y)(h:qW C T x y H K):
  ∃w',(Instr.storeAt T v0 v1).run C.P w= .ok () w'/\bh F β N H fid K w undef w':=by
 unfold qW at h;split at h
 ·grind
 rename_i i hi;obtain⟨tf,d,z,hT⟩:=hC.get hi;obtain⟨hc1,Xv⟩:=hy.cells;have sQ:=hy.cells_one;split at h
 ·grind
 rename_i bA;have bA:=o7 bA
 have bB: ∀ {b off:Nat} {arr:Array Value} {T0:TypeId},w.heap[b]? =some (.cells arr T0)->off+i.size<=arr.size->
   (Instr.storeAt T (.pointer (some ⟨b,off,none⟩)) v1).run C.P w= .ok () (w.setRow b (aO arr off v1.cells.toList)):=by
  grind[Instr.storeAt,Instr.sureAddr,I4]
 have abs:v1.cells.toList.length=i.size:=by grind
 split at h
 ·rename_i id off;obtain⟨hn,b,jt,rfl⟩:=hx.al;split at h
  ·rename_i t cs hb;obtain⟨_,b',arr,T',h1,h2,h3,h4,h5⟩:=hR.rel id _ hb;rw[jt]at h1;cases h1;split at h
   ·rename_i eB;have eB:=fO eB;refine⟨_,bB h3 K0,?_⟩;have np:(aO arr off v1.cells.toList).size =arr.size:=fk K0;have eG: ∀o,(cB.box t cs).sU o->(cB.box t (iq cs off y.2)).sU o/\(aO arr off v1.cells.toList)[o]? =arr[o]? :=λo h=>h.elim;have fj:=Tr.write (N:=N) (blk':=.box t (iq cs off y.2)) hR hb jt h3 np trivial eG;have hH:=ad.write (N:=N) (blk':=.box t (iq cs off y.2)) hR hb jt h3 np trivial eG ⟨b,_,T',jt,h2,IV w b arr _ T' (0,0) h3,by grind[iq],λk x hk=>?_⟩
    ·exact afP
    ·rw[rh K0]at hk;have e:=gb (arr:=arr) (off:=off) (vs:=v1.cells.toList) K0 k;rw[abs]at e;by_cases k1:k<off
     ·simp only[k1,if_true]at hk e;exact aku
     ·by_cases k2:k<off+i.size
      ·have k2':k<off+y.2.length:=by omega
       simp only[k1,kM,k2,if_true,k2']at hk e;rw[bL (b:=v1.cells) (l:=k -off) bq];exact fj.ju hR (Xv _ x hk)
      ·have k2': ¬k<off+y.2.length:=by omega
       simp only[k1,kM,k2,k2']at hk e;exact aku
   grind
  grind
 ·rename_i id z0 n off;obtain⟨hn,b,jt,rfl⟩:=hx.al;split at h
  ·rename_i z' c hb;split at h
   ·rename_i eB;obtain⟨pY,eB⟩:=aH eB;have eB:=fO eB;have pY:=o7 pY;subst pY;split at h
    ·rename_i l r anS;split at h
     ·rename_i og;obtain⟨e,he,h⟩:=h;split at h
      ·rename_i c' lq;obtain⟨_,⟨hz,hv,hl⟩,gE⟩:=hR.rel id _ hb
       rcases gE with⟨h1,_⟩|⟨b',cap,h1,h2,arr,T',q1,q2,q3,q4,q5,q6,q7⟩
       ·grind
       rw[jt]at h1;cases h1;have iF:=hl n e he;have ak:=SC.ip he
       have B8:n*z0+z0<=arr.size:=by
        rw[q2];have:(n+1)*z0<=cap*z0:=kE _ K0
        grind
       refine⟨_,bB q1 K0,?_⟩;obtain⟨jd,hcv⟩:=SC.Lv lq;have np:(aO arr (n*z0+off) v1.cells.toList).size =arr.size:=fk K0;have eG: ∀o,(cB.row true z0 c).sU o->(cB.row true z0 c').sU o/\(aO arr (n*z0+off) v1.cells.toList)[o]? =arr[o]? :=λo h=>by cases h.1
       have vr:(cB.row true z0 c).zO (.row true z0 c'):=⟨rfl,jd.symm⟩;have fj:=Tr.write (N:=N) hR hb jt q1 np vr eG;have uF:l.length=i.size:=by grind[iu]
       have hlr:=iy hR (o5.refl H) (f:=λk=>v1.cells.getD k undef) Xv anS (λp hp=>by cases hp)
       have hbl:ir F β N (bn H id (some (.row true z0 c'))) (w.setRow b (aO arr (n*z0+off) v1.cells.toList)) id (.row true z0 c'):=by
        refine⟨⟨hz,by grind,λj e' hj=>?_⟩,.inr ⟨b,cap,jt,h2,_,T',IV w b arr _ T' (0,0) q1,by omega,q3,by grind,by omega,λj e' hj=>?_,λj e' k x hj hk=>?_⟩⟩
        ·rw[SC.qP lq ak]at hj;exact afQ
        ·rw[SC.qP lq ak]at hj;exact afQ
        ·have e1:=gb (arr:=arr) (off:=n*z0+off) (vs:=v1.cells.toList) K0 (j*z0+k);rw[abs]at e1;rw[SC.qP lq ak]at hj;by_cases hjn:j=n
         ·subst hjn;rw[if_pos rfl]at hj;cases hj;rw[rh K0,uF]at hk;by_cases k1:k<off
          ·rw[if_pos k1]at hk;rw[if_pos K0]at e1;exact ajy
          ·by_cases k2:k<off+i.size
           ·rw[if_neg k1,if_pos k2]at hk;rw[if_neg K0,if_pos K0]at e1;rw[bL (b:=v1.cells) (l:=k -off) bq];exact((hlr _ x hk).flat (lP og _ x hk)).mono fj.mv (Mem.le_refl _)
           ·rw[if_neg k1,if_neg k2]at hk;rw[if_neg K0,if_neg K0]at e1;exact ajy
         ·rw[if_neg hjn]at hj;have hkz:k<z0:=by grind
          have e2:(aO arr (n*z0+off) v1.cells.toList)[j*z0+k]? =arr[j*z0+k]? :=ah1;rw[bL e2];exact(q7 j e' k x hj hk).mono fj.mv (Mem.le_refl _)
       have hH:=ad.write (N:=N) hR hb jt q1 np vr eG hbl;exact afP
      grind
     grind
    grind
   grind
  ·rename_i z' l hb;split at h
   ·rename_i eB;obtain⟨pY,eB⟩:=aH eB;have eB:=fO eB;have pY:=o7 pY;subst pY;obtain⟨e,he,h⟩:=h;obtain⟨_,⟨hz,hl⟩,gE⟩:=hR.rel id _ hb
    rcases gE with⟨h1,_⟩|⟨b',cap,arr,T',h1,h2,q1,q2,q5,q7⟩
    ·grind
    rw[jt]at h1;cases h1;have iF:=hl n e he;have ak:=(kp.1 he).1
    have B8:n*z0+z0<=arr.size:=by
     rw[q2];have:(n+1)*z0<=cap*z0:=kE _ K0
     grind
    refine⟨_,bB q1 K0,?_⟩;have np:(aO arr (n*z0+off) v1.cells.toList).size =arr.size:=fk K0;have eG: ∀o,(cB.aG z0 l).sU o->(cB.aG z0 (l.set n (iq e off y.2))).sU o/\(aO arr (n*z0+off) v1.cells.toList)[o]? =arr[o]? :=λo h=>h.elim;have vr:(cB.aG z0 l).zO (.aG z0 (l.set n (iq e off y.2))):=⟨rfl,(CM ..).symm⟩;have fj:=Tr.write (N:=N) hR hb jt q1 np vr eG;have lq: ∀j,(l.set n (iq e off y.2))[j]? =if j=n then some (iq e off y.2)else l[j]? :=by grind
    have hbl:ir F β N (bn H id (some (.aG z0 (l.set n (iq e off y.2))))) (w.setRow b (aO arr (n*z0+off) v1.cells.toList)) id (.aG z0 (l.set n (iq e off y.2))):=by
     refine⟨⟨hz,λj e' hj=>?_⟩,.inr ⟨b,cap,_,T',jt,h2,IV w b arr _ T' (0,0) q1,by omega,by grind,λj e' k x hj hk=>?_⟩⟩
     ·rw[lq]at hj;exact afQ
     ·have e1:=gb (arr:=arr) (off:=n*z0+off) (vs:=v1.cells.toList) K0 (j*z0+k);rw[abs]at e1;rw[lq]at hj;by_cases hjn:j=n
      ·subst hjn;rw[if_pos rfl]at hj;cases hj;rw[rh K0,bA]at hk;by_cases k1:k<off
       ·rw[if_pos k1]at hk;rw[if_pos K0]at e1;exact aj8
       ·by_cases k2:k<off+i.size
        ·rw[if_neg k1,if_pos k2]at hk;rw[if_neg K0,if_pos K0]at e1;rw[bL (b:=v1.cells) (l:=k -off) bq];exact fj.ju hR (Xv _ x hk)
        ·rw[if_neg k1,if_neg k2]at hk;rw[if_neg K0,if_neg K0]at e1;exact aj8
      ·rw[if_neg hjn]at hj;have hkz:k<z0:=by grind
       have e2:(aO arr (n*z0+off) v1.cells.toList)[j*z0+k]? =arr[j*z0+k]? :=ah1;rw[bL e2];exact fj.ju hR (q7 j e' k x hj hk)
    have hH:=ad.write (N:=N) hR hb jt q1 np vr eG hbl;exact afP
   grind
  grind
 grind
end
section
variable {C:bN}{F:gN}{β:Nat->Option Nat}{N:Nat->Prop}{H:HF}{fid:Nat}{K:j9}{w w':World}{P:Program}
def tm (hG:bE C F)(_hR:ad F β N H w):(MV F β H w).le (MR F β H w):=by
 intro b o v h;unfold MR;by_cases hb:F.dD b
 grind
 ·rw[if_neg hb];unfold MV at h;rw[if_neg hb]at h;exact hG.mvr b o v h
theorem dw.CF {mv mr:Mem}{v:Value}{c:SC}(h:dw mv mr v c)(hv:c.ao=true): ∃a cap,v= .slice a c.len cap/\c.len<=cap:=by
 cases h with
 |lit=>grind[SC.ao]
 |empty a cap _ h0=>simp_all
 |view b o cap z f _ _ _ fX=>grind
 |ref=>grind[SC.ao]
 |err=>grind[SC.ao]
 |num=>grind[SC.ao]
 |raw=>grind[SC.ao]
 |any=>grind[SC.ao]
 |fn=>grind[SC.ao]
theorem dw.XC {mv mr:Mem}(eB:mv.le mr){v:Value}{c:SC}(h:dw mv mr v c)(hv:c.ao=true){n:Nat}{el:List SC}(he:c.elem n=some el):
  ∃b o cap,v= .slice (some ⟨b,o,none⟩) c.len cap/\dw mv mr (.pointer (some ⟨b,o+n*el.length,none⟩)) (.ref el):=by
 cases h with
 |lit=>grind[SC.ao]
 |empty a cap _ h0=>have:=SC.ip he;omega
 |view b o cap z f _ fN hz fX hl hc hr=>
  have wt:=hl n el he;subst wt;refine⟨b,o,cap,rfl,.ref b _ (λk=>f (n*el.length+k)) (λk hk=>?_) λk x hx=>(hr n el k x he hx).mono (Mem.le_refl _) (ec _)⟩;have ak:=SC.ip he;rw[LQ];refine eB _ _ _ (hc _ ?_);have:(n+1)*el.length<=c.len*el.length:=kE _ ak
  grind
 |ref=>grind[SC.ao]
 |err=>grind[SC.ao]
 |num=>grind[SC.ao]
 |raw=>grind[SC.ao]
 |any=>grind[SC.ao]
 |fn=>grind[SC.ao]
def I5 (hC:C.Ok)(hG:bE C F)(hR:ad F β N H w){T:TypeId}{x y:DX}{v0 v1:Value}(hx:aq F β N H w v0 x)(hy:aq F β N H w v1 y)(h:eR C T x y H K):
  ∃v,(Instr.indexAt T v0 v1).run C.P w= .ok v w/\bh F β N H fid K w v w:=by
 unfold eR at h;split at h
 ·grind
 rename_i i hi;obtain⟨tf,d,z,hT⟩:=hC.get hi;split at h
 ·rename_i e k n bV;have hd:=dm (hT.b8.trans bV);obtain⟨rfl,_⟩:=hy.al.bw;split at h
  ·grind
  rename_i ie lE;obtain⟨ef,ed,ez,hE⟩:=hC.get lE
  have bB: ∀(b o len cap:Nat),0<=n->n.toNat<len->(Instr.indexAt T (.slice (some ⟨b,o,none⟩) len cap) (.int k n)).run C.P w= .ok (.pointer (some ⟨b,o+n.toNat*ie.size,none⟩)) w:=by
   intro b o len cap h0 h1;have h2:0<=n/\n< (len:Int):=⟨h0,by omega⟩;exact ajw
  split at h
  ·rename_i id;obtain⟨hn,_,hp⟩:=hx.al;split at h
   ·rename_i m z0 c hb;split at h
    ·rename_i hz;have hz:=o7 hz;obtain⟨⟨h0,h1⟩,h⟩:=h
     rcases hp _ z0 c.len hb rfl with⟨_,h2,_⟩|⟨b,cap,arr,T',jt,rfl,_,_⟩
     ·omega
     ·refine⟨_,bB b 0 c.len cap h0 K0,bh.pure hR h (cH ⟨hn,b,jt,?_⟩)⟩
      grind
    grind
   ·rename_i z0 l hb;split at h
    ·rename_i hz;have hz:=o7 hz;obtain⟨⟨h0,h1⟩,h⟩:=h
     rcases hp _ z0 l.length hb rfl with⟨_,h2,_⟩|⟨b,cap,arr,T',jt,rfl,_,_⟩
     ·omega
     ·refine⟨_,bB b 0 l.length cap h0 K0,bh.pure hR h (cH ⟨hn,b,jt,?_⟩)⟩
      grind
    grind
   grind
  ·rename_i c;split at h
   ·rename_i hv;obtain⟨h0,el,he,bA,h⟩:=h;obtain⟨b,o,cap,rfl,hr⟩:=dw.XC (tm hG hR) hx.al hv he;refine⟨_,bB b o c.len cap h0 (SC.ip he),bh.pure hR h (cH ?_)⟩;rw[<- bA];exact hr
   grind
  grind
 ·rename_i len e k n bV;have hd:=ku (hT.b8.trans bV);obtain⟨rfl,_⟩:=hy.al.bw;split at h
  ·grind
  rename_i ie lE;obtain⟨ef,ed,ez,hE⟩:=hC.get lE
  have bB: ∀(b o:Nat),0<=n->n< (len:Int)->(Instr.indexAt T (.pointer (some ⟨b,o,none⟩)) (.int k n)).run C.P w= .ok (.pointer (some ⟨b,o+n.toNat*ie.size,none⟩)) w:=by
   intro b o h0 h1;have h2:0<=n/\n< (len:Int):=⟨h0,h1⟩;simp[Instr.indexAt,asIntOf,hT.cU,hd,h2,hE.iG,addr_add,Instr.sureAddr]
  split at h
  ·rename_i id off;obtain⟨hn,b,jt,rfl⟩:=hx.al;obtain⟨⟨h0,h1⟩,h⟩:=h;exact⟨_,bB b off h0 h1,bh.pure hR h (cH ⟨hn,b,jt,rfl⟩)⟩
  ·rename_i cs;obtain⟨b,o,rfl⟩:=I2 hx.al;obtain⟨⟨h0,h1⟩,h⟩:=h;exact⟨_,bB b o h0 h1,bh.pure hR h (cH (C4 hx.al _))⟩
  grind
 grind
def Yo {t:TypeId}{i:TI}{tf:TypeInfo}{d:TypeDesc}{z:Value}(hT:L4 P t i tf d z){arr:Array Value}{off:Nat}(eB:off+i.size<=arr.size)(hs:(cF i.b8 || Nat.beq i.size 1)=true):
  (part t arr off).run P w= .ok (C2 (cF i.b8) i.size λk=>arr.getD (off+k) undef) w:=by
 unfold part C2;simp only[eJ,hT.GX,mw];cases Xz:cF i.b8
 ·simp only[Xz,SW]at hs;have h1:i.size=1:=o7 hs;have ak:off<arr.size:=by omega
  simp_all
 ·simp only[if_true,eJ,hT.iG,mw,lM];congr 2;apply AV
  grind
  ·intro k h1 h2;have:off+k<arr.size:=by grind
   simp_all
def S8 (hR:ad F β N H w){t:TypeId}{i:TI}{tf:TypeInfo}{d:TypeDesc}{z:Value}(hT:L4 P t i tf d z){arr:Array Value}{cs:List DC}{off:Nat}
  (np:arr.size=cs.length)(UD: ∀k c,cs[k]? =some c->co F β N H w (arr.getD k undef) c)(h:C1 i cs off K):
  ∃v,(part t arr off).run P w= .ok v w/\bh F β N H fid K w v w:=by
 unfold C1 at h;split at h
 ·rename_i eB;obtain⟨eB,hs⟩:=aH eB;have eB:=fO eB;exact⟨_,Yo hT K0 hs,bh.pure hR h (rg (f:=λk=>arr.getD k undef) UD eB hs)⟩
 grind
def Yp (hC:C.Ok)(hR:ad F β N H w){T:TypeId}{x y:DX}{v0 v1:Value}(hx:aq F β N H w v0 x)(hy:aq F β N H w v1 y)(h:s9 C T x y K):
  ∃v,(Instr.index T v0 v1).run C.P w= .ok v w/\bh F β N H fid K w v w:=by
 unfold s9 at h;split at h
 ·grind
 rename_i i hi;obtain⟨tf,d,z,hT⟩:=hC.get hi;split at h
 ·rename_i len e k n bV;have hd:=ku (hT.b8.trans bV);obtain⟨rfl,_⟩:=hy.al.bw;split at h
  ·grind
  rename_i ie lE;obtain⟨ef,ed,ez,hE⟩:=hC.get lE;split at h
  ·rename_i cs;obtain⟨arr,rfl,h2,h3⟩:=hx.Ce;obtain⟨h0,h⟩:=h;obtain⟨v,hr,hp⟩:=S8 (fid:=fid) hR hE h2 h3 h;refine⟨v,?_,hp⟩;simp[Instr.index,asIntOf,hT.cU,hd,h0,hE.iG,hr]
  grind
 ·rename_i k n bV;have hd:=me (hT.b8.trans bV);obtain⟨rfl,_⟩:=hy.al.bw;split at h
  ·rename_i s;obtain⟨rfl,_⟩:=hx.al.bw;obtain⟨h0,b,hb,h⟩:=h;refine⟨_,?_,bh.pure hR h (fT rfl)⟩;simp[Instr.index,asIntOf,hT.cU,hd,h0,hb]
  grind
 grind
theorem Yq (hC:C.Ok)(hR:ad F β N H w){T:TypeId}{x:DX}{v0:Value}{n:Nat}(hx:aq F β N H w v0 x)(h:zT C T x n K):
  ∃v,(Instr.field T v0 n).run C.P w= .ok v w/\bh F β N H fid K w v w:=by
 unfold zT at h;split at h
 ·grind
 rename_i i hi;obtain⟨tf,d,z,hT⟩:=hC.get hi;split at h
 ·rename_i fs bV;obtain⟨gs,hd,hgs⟩:=rf (hT.b8.trans bV);split at h
  ·rename_i o ft R9;split at h
   ·rename_i fi kI;obtain⟨ff,fd,fz,hF⟩:=hC.get kI;rw[<- hgs,gq]at R9
    cases hg:gs.toList[n]? with
    |none=>grind
    |some g=>
     simp[hg]at R9;obtain⟨ho,hft⟩:=R9;have UE:gs[n]? =some g:=by grind
     split at h
     ·rename_i cs;obtain⟨arr,rfl,h2,h3⟩:=hx.Ce;obtain⟨v,hr,hp⟩:=S8 (fid:=fid) hR hF h2 h3 h;refine⟨v,?_,hp⟩;simp[Instr.field,hT.cU,hd,UE,asAgg,hft,ho,hr]
     grind
   grind
  grind
 grind
def Below.oc (w:World)(o:Obj):Below w.heap.size w (w.alloc o):=(Below.refl _ _).alloc (dz _) o
def gO (w:World)(o:Obj):(w.alloc o).heap[w.heap.size]? =some o:=by
 show(w.heap.push o)[w.heap.size]? =some o;simp
def bh.new {u:Hp}(Xl:ad F β N (u.on H) w)(t1:Tr F β N H w β N (u.on H) w)(hf: ¬N fid){bx:cB}{R:List Nat}{r:DV}{v:Value}{b:Option Nat}(hw:Below w.heap.size w w')(hb: ∀x,b=some x->w.heap.size<=x)
  (hK:K r ((fid,some bx)::u) R)
  (hrel: ∀(H1:HF),H1=bn (u.on H) fid (some bx)->Tr F β N H w (cQ β fid b) (bf N fid) H1 w'->Tr F β N (u.on H) w (cQ β fid b) (bf N fid) H1 w'->ir F (cQ β fid b) (bf N fid) H1 w' fid bx)
  (hv: ∀(H1:HF),H1=bn (u.on H) fid (some bx)->cj F (cQ β fid b) (bf N fid) H1 w' v r):bh F β N H fid K w v w':=by
 have t2:=Tr.new Xl hw hf b hb bx;have t:=t1.trans t2;exact⟨_,r,_,R,hK,t,ad.new Xl hw hf b hb bx (hrel _ rfl t t2),hv _ rfl⟩
theorem aeE {v:Value}{d:DC}(h:(BN v).dyn =some d):co F β N H w v d:=by
 unfold BN at h;split at h
 ·simp[ZC.dyn]at h;subst h;rfl
 ·simp only[ZC.dyn]at h;split at h
  ·rename_i hp;simp at h;subst h;exact .lit hp
  grind
theorem C5: ∀ {zs:List Value} {cs:List DC},C0 (zs.map BN)=some cs->cs.length=zs.length/\∀(k:Nat) (c:DC),cs[k]? =some c->∃v,zs[k]? =some v/\(BN v).dyn =some c
 | [],cs,h=>by grind[C0]
 |z::zs,cs,h=>by
  simp only[jw,C0]at h;split at h
  ·rename_i d hd;split at h
   ·rename_i ds hds;simp at h;subst h;obtain⟨h1,h2⟩:=C5 hds
    grind
   grind
  grind
def Yr (hC:C.Ok)(hR:ad F β N H w)(hf: ¬N fid){T:TypeId}{i:TI}{cs:List DC}{v0:Value}(hi:C.ti T=some i)(hz:C0 i.zero=some cs)(h:K (bm (.ptr fid 0)) [(fid,some (.box T cs))] []):
  ∃v w',(Instr.alloc T true v0).run C.P w= .ok v w'/\bh F β N H fid K w v w':=by
 obtain⟨tf,d,z,hT⟩:=hC.get hi;rw[<- hT.xC]at hz;obtain⟨hl,hc⟩:=C5 hz;refine⟨.pointer (some ⟨w.heap.size,0,none⟩),w.alloc (.cells z.cells T),by simp[Instr.alloc,hT.sS,newVar,newRow],?_⟩;refine bh.new (u:=[]) (b:=some w.heap.size) hR Tr.refl hf (Below.oc w _) (by simp) h (λH1 _ t _=>?_) (λH1 _=>cH ⟨.inr rfl,w.heap.size,by simp[cQ],rfl⟩);refine⟨w.heap.size,z.cells,T,by simp[cQ],gN.gG hR.below.size,gO w _,by grind,λk c hk=>?_⟩
 grind[mg,aeE]
def agh (hR:ad F β N H w)(hf: ¬N fid){T:TypeId}{x:DX}{v0:Value}(hx:aq F β N H w v0 x)(h:K (bm (.ptr fid 0)) [(fid,some (.box T x.2))] []):
  ∃v w',(Instr.box T v0).run C.P w= .ok v w'/\bh F β N H fid K w v w':=by
 obtain⟨h1,h2⟩:=hx.cells;refine⟨.pointer (some ⟨w.heap.size,0,none⟩),w.alloc (.cells v0.cells T),by simp[Instr.box,newVar,newRow],?_⟩;refine bh.new (u:=[]) (b:=some w.heap.size) hR Tr.refl hf (Below.oc w _) (by simp) h (λH1 _ t _=>?_) (λH1 _=>cH ⟨.inr rfl,w.heap.size,by simp[cQ],rfl⟩);exact⟨w.heap.size,v0.cells,T,by simp[cQ],gN.gG hR.below.size,gO w _,h1,λk c hk=>t.ju hR (h2 k c hk)⟩
theorem zW (off:Nat): ∀(l:List Value) (j:Nat) (cs:Array Value),off+j+l.length<=cs.size->
  (l.zipIdx j).foldl (λcs (p:Value × Nat)=>cs.setIfInBounds (off+p.2) p.1) cs=aO cs (off+j) l
 | [],j,cs,_=>by simp[aO]
 |v::l,j,cs,h=>by
  simp only[List.zipIdx_cons,X5];rw[zW off l (j+1) _ bq];unfold aO;congr 1;have e:=list_seg_step cs.toList (off+j) v l K0;simpa [Array.toList_setIfInBounds,LQ]using e
theorem I6 {O5 place':Nat->Option (Nat × Nat)}(hpp: ∀n x,O5 n=some x->place' n=some x): ∀ {parts:List (Nat × Value)} {ps:List (Nat × Option DV)} {arr:Array Value} {cells:List DC} {cs:List DC},parts.length=ps.length->
  (∀(k:Nat) (p:Nat × Value) (q:Nat × Option DV),parts[k]? =some p->ps[k]? =some q->p.1=q.1/\∀d,q.2=some d->cj F β N H w p.2 d)->arr.size=cells.length->(∀(k:Nat) (c:DC),cells[k]? =some c->co F β N H w (arr.getD k undef) c)->
  G9 O5 cells ps=some cs->∃arr',Instr.fill place' arr parts=some arr'/\arr'.size=cs.length/\∀(k:Nat) (c:DC),cs[k]? =some c->co F β N H w (arr'.getD k undef) c
 | [],[],arr,cells,cs,_,_,hs,hc,h=>by
  simp[G9]at h;subst h;exact⟨arr,rfl,hs,hc⟩
 | [],_::_,_,_,_,h,_,_,_,_=>by grind
 |_::_,[],_,_,_,h,_,_,_,_=>by grind
 |(i,v)::parts,(j,d)::ps,arr,cells,cs,hl,hp,hs,hc,h=>by
  obtain⟨Lh,hd⟩:=hp 0 _ _ rfl rfl;simp at Lh;subst Lh;unfold G9 at h;split at h
  grind
  ·rename_i n x rest vG;cases vG;have hx:aq F β N H w v x:=hd _ rfl;obtain⟨c1,c2⟩:=hx.cells;split at h
   ·rename_i off size pG;split at h
    ·rename_i eB;obtain⟨hl1,eB⟩:=aH eB;have hl1:=o7 hl1;have eB:=fO eB;have hlc:v.cells.toList.length=x.2.length:=by omega
     have Pe:v.cells.zipIdx.foldl (λcs (p:Value × Nat)=>cs.setIfInBounds (off+p.2) p.1) arr=aO arr off v.cells.toList:=by
      have:=zW off v.cells.toList 0 arr K0;exact ajF
     have abo:=I6 hpp (parts:=parts) (ps:=ps) (arr:=aO arr off v.cells.toList) (cells:=iq cells off x.2) (cs:=cs) bq
      (λk p q h1 h2=>hp (k+1) p q bq bq) (by grind[fk,iq]) (λk c hk=>?_) h
     ·obtain⟨arr',e1,e2,e3⟩:=abo;refine⟨arr',?_,e2,e3⟩;have g1: ¬(v.cells.size≠size):=by omega
      have g2: ¬(off+v.cells.size>arr.size):=by omega
      simp only[Instr.fill,hpp _ _ pG,g1,g2,decide_false,LR,sV,kM]
      grind
     ·have e:=gb (arr:=arr) (off:=off) (vs:=v.cells.toList) K0 k;rw[hlc]at e;rw[rh K0]at hk;by_cases k1:k<off
      ·simp only[k1,if_true]at hk e
       grind[bL]
      ·by_cases k2:k<off+x.2.length
       ·simp only[k1,kM,k2,if_true]at hk e
        grind[bL]
       ·simp only[k1,kM,k2]at hk e
        grind[bL]
    grind
   grind
  grind
end
section
variable {C:bN}{F:gN}{β:Nat->Option Nat}{N:Nat->Prop}{H:HF}{fid:Nat}{K:j9}{w w':World}{P:Program}
theorem vN {α γ:Type}{g:α->Sem γ}{h:α->γ}: ∀ {l:List α},(∀x∈l,(g x).run P w= .ok (h x) w)->(l.mapM g).run P w= .ok (l.map h) w
 | [],_=>by simp
 |x::l,hl=>by
  have h1:=hl x (by simp);have h2:=vN (l:=l) λy hy=>hl y bq;simp_all
def Ys {α γ:Type}{g:α->Sem γ}{h:α->γ}{l:Array α}(hl: ∀x∈l.toList,(g x).run P w= .ok (h x) w):(l.mapM g).run P w= .ok (l.map h) w:=by
 rw[aey,Sem.run_map,vN hl];simp
 grind
def C6 (hG:bE C F)(hR:ad F β N H w){E:EF}{a:Act}(hE:dE F β N H w E a)(parts:Array (Nat × Operand)):
  ((parts.map λp=>(p.1,a.eval p.2)).toList.length =(parts.toList.map λp=>(p.1,C.ev E p.2)).length)/\
  ∀(k:Nat) (p:Nat × Value) (q:Nat × Option DV),(parts.map λp=>(p.1,a.eval p.2)).toList[k]? =some p->(parts.toList.map λp=>(p.1,C.ev E p.2))[k]? =some q->
   p.1=q.1/\∀d,q.2=some d->cj F β N H w p.2 d:=by
 grind[mA]
theorem Yt (hC:C.Ok)(hG:bE C F)(hR:ad F β N H w){E:EF}{a:Act}(hE:dE F β N H w E a){o:Oper}{T:TypeId}{parts:Array (Nat × Operand)}(ho:o.op= .build T parts)
  (h:fw C fid o (C.ev E) H K): ∃v,(Instr.build T (parts.map λp=>(p.1,a.eval p.2))).run C.P w= .ok v w/\bh F β N H fid K w v w:=by
 unfold fw at h;rw[ho]at h;simp only at h;obtain⟨hl,hp⟩:=C6 hG hR hE parts;split at h
 ·rename_i i hi;obtain⟨tf,d,z,hT⟩:=hC.get hi;split at h
  ·rename_i zs hz;rw[<- hT.xC]at hz;obtain⟨z1,z2⟩:=C5 hz;have hz3: ∀(k:Nat) (c:DC),zs[k]? =some c->co F β N H w (z.cells.getD k undef) c:=by grind[mg,aeE]
   have hz4:z.cells.size=zs.length:=by grind
   split at h
   ·rename_i fs bV;obtain⟨gs,hd,hgs⟩:=rf (hT.b8.trans bV);split at h
    ·rename_i cs O7
     have aep:(gs.mapM λf=>do pure (f.offset,<- sizeOf f.type):Sem _).run C.P w= .ok (gs.map λf=>(f.offset,C.P.cellsOf f.type)) w:=by
      refine Ys λf hf=>?_;have:=hT.fields gs hd f hf;obtain⟨fi,kI⟩:=qQ.1 this;simp[sizeOf,typeInfo,kI,Program.cellsOf]
     obtain⟨arr',e1,e2,e3⟩:=I6 (place':=((gs.map λf=>(f.offset,C.P.cellsOf f.type))[·]?)) (by
      intro n x hx;split at hx
      ·rename_i o ft R9;rw[<- hgs,gq]at R9
       cases hg:gs.toList[n]? with
       |none=>grind
       |some g=>
        simp[hg]at R9;obtain⟨h1,h2⟩:=R9;split at hx
        ·rename_i fi kI;simp at hx;subst hx;obtain⟨ff,fd,fz,hF⟩:=hC.get kI;have UE:gs[n]? =some g:=by grind
         simp[UE,Program.cellsOf,h2,h1,hF.od,hF.size]
        grind
      grind) hl hp hz4 hz3 O7
     refine⟨.agg arr',?_,bh.pure hR h ⟨arr',rfl,e2,e3⟩⟩;simp only[Instr.build,eJ,hT.sS,mw,hT.cU,hd,aep];simp_all
    grind
   ·rename_i n e bV;have hd:=ku (hT.b8.trans bV);split at h
    ·rename_i ie lE;obtain⟨ef,ed,ez,GV⟩:=hC.get lE;split at h
     ·rename_i cs O7;obtain⟨arr',e1,e2,e3⟩:=I6 (λ_ _ h=>h) hl hp hz4 hz3 O7;refine⟨.agg arr',?_,bh.pure hR h ⟨arr',rfl,e2,e3⟩⟩;simp only[Instr.build,eJ,hT.sS,mw,hT.cU,hd,GV.iG];simp_all
     grind
    grind
   grind
  grind
 grind
theorem U3 {op:BinOp}{k:IntKind}{a b:Int}{K':Value->Prop}(h:s8 op k a b K')(hs:op≠ .shl)(hs':op≠ .shr)(T:TypeId):
  ∃v,(binOp op T (.int k a) (.int k b)).run P w= .ok v w/\plain v=true/\K' v:=by
 cases op<;>simp only[s8]at h<;>first
  |exact(hs rfl).elim
  |exact(hs' rfl).elim
  |exact h.elim
  |(refine⟨_,?_,?_,h⟩<;>simp[binOp,Op.intArith,Op.intBits,Op.intCmp,plain];done)
  |(obtain⟨h0,h⟩:=h;refine⟨_,?_,?_,h⟩<;>simp[binOp,Op.intDiv,h0,plain];done)
  |skip
theorem U4 {op:BinOp}{a b:ByteArray}{K':Value->Prop}(h:wC op a b K')(T:TypeId):
  ∃v,(binOp op T (.string a) (.string b)).run P w= .ok v w/\plain v=true/\K' v:=by
 cases op<;>simp only[wC]at h<;>first
  |exact h.elim
  |(refine⟨_,?_,?_,h⟩<;>simp[binOp,Op.stringOp,plain];done)
  |(obtain⟨h0,h⟩:=h
    refine⟨_,?_,?_,h⟩
    ·have h1: ¬(((a.size+b.size:Nat):Int)>IntKind.i64.max):=by
      grind[IntKind.max_i64]
     simp only[binOp,Op.stringOp,h1,kM];rfl
    ·rfl)
  |skip
def U5 {op:BinOp}{x y:Value}{K':Value->Prop}(h:qV op x y K')(T:TypeId):
  ∃v,(binOp op T x y).run P w= .ok v w/\plain v=true/\K' v:=by
 unfold qV at h;split at h
 ·rename_i k a k' b;split at h
  ·exact aiM
  ·exact aiM
  ·rename_i hs hs';split at h
   ·rename_i hk;simp at hk;subst hk;exact U3 h K0 K0 T
   grind
 ·exact U4 h T
 grind
theorem L7 {t:TypeId}{c:AW}{a b:Value}{p:Bool}{d:TypeDesc}{n:Nat}(h:S3 c a b=some p)(hu:P.underlying t=some d)(hd:eC d=c):(Op.equalIn (n+1) t a b).run P w= .ok p w:=by
 unfold S3 at h;split at h
 ·split at h
  ·rename_i k1 a k2 b hk;simp at hk;subst hk;simp at h;subst h;have:=rc hd;subst this;exact af5
  grind
 ·simp at h;subst h;have:=L5 hd;subst this;exact af5
 ·simp at h;subst h;have:=me hd;subst this;exact af5
 grind
def gP:List AW->List Value->List Value->Option Bool
 | [],[],[]=>some true
 |c::cs,a::xs,b::ys=>match S3 c a b with
  |some p=>match gP cs xs ys with
   |some q=>some (p&&q)
   |none=>none
  |none=>none
 |_,_,_=>none
theorem pI: ∀ {l1 l2:List AW} {x1 y1 x2 y2:List Value} {p:Bool},x1.length=l1.length->y1.length=l1.length->gP (l1++l2) (x1++x2) (y1++y2)=some p->
  ∃a b,gP l1 x1 y1=some a/\gP l2 x2 y2=some b/\p=(a&&b)
 | [],l2,x1,y1,x2,y2,p,h1,h2,h=>by
  have:x1= []:=CG.1 h1;have:y1= []:=CG.1 h2;subst x1;subst y1;exact⟨true,p,rfl,h,by simp⟩
 |c::l1,l2,x::x1,y::y1,x2,y2,p,h1,h2,h=>by
  simp only[qR,gP]at h;split at h
  ·rename_i p0 FD;split at h
   ·rename_i q0 hq0;simp at h;subst h;obtain⟨a,b,e1,e2,rfl⟩:=pI bq bq hq0
    grind[gP]
   grind
  grind
 |c::l1,l2,[],y1,x2,y2,p,h1,h2,h=>by grind
 |c::l1,l2,x::x1,[],x2,y2,p,h1,h2,h=>by grind
def cut (arr:Array Value)(off n:Nat):List Value:=(arr.toList.drop off).take n
def ri (arr:Array Value)(off m n:Nat):cut arr off (m+n)=cut arr off m++cut arr (off+m) n:=by grind[cut,List.drop_drop]
def Cf {arr:Array Value}{off n:Nat}(h:off+n<=arr.size):(cut arr off n).length =n:=by grind[cut]
def acl (P:Program)(w:World)(m:Nat)(t:TypeId)(l:List AW):Prop:=
 ∀(xs ys:Array Value) (off:Nat) (p:Bool),off+l.length<=xs.size->off+l.length<=ys.size->gP l (cut xs off l.length) (cut ys off l.length)=some p->
  ∃a b,(part t xs off).run P w= .ok a w/\(part t ys off).run P w= .ok b w/\(Op.equalIn m t a b).run P w= .ok p w
def qa (P:Program)(n:Nat)(acc:Option (List AW))(f:Field):Option (List AW):=
 match acc with
 |none=>none
 |some l=>match f.name != "_"&&f.offset==l.length,kN P n f.type with
  |true,some l'=>some (l++l')
  |_,_=>none
theorem F3 (P:Program)(n:Nat)(fs:List Field):fs.foldl (qa P n) none=none:=by
 induction fs with
 |nil=>rfl
 |cons f fs ih=>grind[qa]
theorem AZ {n m:Nat}(ih: ∀t l,kN P n t=some l->acl P w m t l): ∀(fs:List Field) (l0 l:List AW),fs.foldl (qa P n) (some l0)=some l->
  ∃l1,l=l0++l1/\∀(xs ys:Array Value) (p:Bool),l.length<=xs.size->l.length<=ys.size->gP l1 (cut xs l0.length l1.length) (cut ys l0.length l1.length)=some p->
   (Op.eqFields m xs ys fs).run P w= .ok p w
 | [],l0,l,h=>by
  simp at h;subst h;refine⟨[],by simp,λxs ys p _ _ hp=>?_⟩;simp[cut,gP]at hp;subst hp;rfl
 |f::fs,l0,l,h=>by
  simp only[X5]at h
  cases eG:qa P n (some l0) f with
  |none=>grind[F3]
  |some l2=>
   rw[eG]at h;obtain⟨l1,rfl,hl⟩:=AZ ih fs l2 l h;simp only[qa]at eG;split at eG
   ·rename_i l' FE hlv;simp at eG FE;subst eG;refine⟨l'++l1,by simp,λxs ys p hx hy hp=>?_⟩;have AO:l0.length+l'.length<=xs.size:=by grind
    have hy':l0.length+l'.length<=ys.size:=by grind
    rw[xI,ri,ri]at hp;obtain⟨a,b,e1,e2,rfl⟩:=pI (Cf AO) (Cf hy') hp;obtain⟨u,v,r1,r2,r3⟩:=ih f.type l' hlv xs ys l0.length a AO hy' e1;have O6:=hl xs ys b hx hy bq;have hn:f.name≠"_":=FE.1;have ho:f.offset=l0.length:=FE.2;simp only[Op.eqFields];rw[if_pos hn,ho];simp only[eJ,r1,mw,r2,r3];cases a
    ·simp
    grind
   grind
theorem wE {n:Nat}{t:TypeId}{l:List AW}(h:kN P n t=some l): ∃i d,P.info? t=some i/\P.underlying t=some d/\i.size=l.length/\(cF (eC d)=false->l= [eC d]):=by
 cases n with
 |zero=>grind[kN]
 |succ n=>
  unfold kN at h;split at h
  grind[eC]
  grind[eC]
  grind[eC]
  grind[eC,cF]
  ·refine⟨_,_,by assumption,by assumption,?_,by simp[eC,cF]⟩;split at h
   ·split at h
    ·simp at h;subst h;simp_all
    grind
   grind
  grind
def nO {t:TypeId}{i:TypeInfo}{d:TypeDesc}(hi:P.info? t=some i)(hd:P.underlying t=some d)(arr:Array Value){off:Nat}(ak:cF (eC d)=false->off<arr.size):
  (part t arr off).run P w= .ok (if cF (eC d)then .agg (arr.extract off (off+i.size))else arr.getD off undef) w:=by
 have Xz:(isAgg t).run P w= .ok (cF (eC d)) w:=by cases d<;>simp[isAgg,sY hd,eC,cF]
 unfold part;simp only[eJ,Xz,mw];cases h:cF (eC d);simp_all
 ·simp[sizeOf,typeInfo,hi]
theorem to (arr:Array Value)(off n o k:Nat)(h:o+k<=n):cut (arr.extract off (off+n)) o k=cut arr (off+o) k:=by
 unfold cut;apply LG
 grind
theorem vO {m e:Nat}{l:List AW}{xs ys:Array Value}(hs:(sizeOf e).run P w= .ok l.length w)(ih:acl P w m e l): ∀(n j:Nat) (p:Bool),(j+n)*l.length<=xs.size->(j+n)*l.length<=ys.size->
  gP (List.replicate n l).flatten (cut xs (j*l.length) (n*l.length)) (cut ys (j*l.length) (n*l.length))=some p->
  ∃r,(forIn (List.range' j n) (none,()) (λi (__s:Option Bool × Unit)=>(do
       let __do_lift <- part e xs (i*l.length);let __do_lift_1 <- part e ys (i*l.length);let __do_lift <- Op.equalIn m e __do_lift __do_lift_1
       if(!__do_lift)=true then pure (ForInStep.done (some false,()))else pure (ForInStep.yield (none,())):Sem (ForInStep (Option Bool × Unit))))).run P w= .ok r w/\
   (match r.1 with|some r=>r|none=>true)=p
 |0,j,p,_,_,hp=>by
  simp[cut,gP]at hp;simp_all
 |n+1,j,p,hx,hy,hp=>by
  have e1:(n+1)*l.length=l.length+n*l.length:=by grind
  have e2:(j+(n+1))*l.length=j*l.length+(l.length+n*l.length):=by grind
  rw[List.replicate_succ,X0,e1,ri,ri]at hp;obtain⟨a,b,g1,g2,rfl⟩:=pI (Cf K0) (Cf K0) hp;obtain⟨u,v,r1,r2,r3⟩:=ih xs ys (j*l.length) a K0 K0 g1;have e3:j*l.length+l.length=(j+1)*l.length:=by grind
  rw[e3]at g2;obtain⟨r,q1,q2⟩:=vO hs ih n (j+1) b bq bq g2;rw[List.range'_succ,List.forIn_cons];simp only[eJ,r1,mw,r2,r3];cases a;simp_all;simp_all
theorem S9: ∀(n:Nat) (t:TypeId) (l:List AW),kN P n t=some l->∀m,n<=m->acl P w m t l
 |0,t,l,h,m,_=>by grind[kN]
 |n+1,t,l,h,0,hm=>by omega
 |n+1,t,l,h,m+1,hm=>by
  intro xs ys off p hx hy hp;obtain⟨i,d,hi,hd,Xz,anQ⟩:=wE h;have ih: ∀t l,kN P n t=some l->acl P w m t l:=λt l hl=>S9 n t l hl m K0
  have anR:cF (eC d)=false->∃a b,(part t xs off).run P w= .ok a w/\(part t ys off).run P w= .ok b w/\(Op.equalIn (m+1) t a b).run P w= .ok p w:=by
   intro hc;have hl:=anQ hc;subst hl;simp at hx hy;refine⟨_,_,nO hi hd xs (λ_=>by omega),nO hi hd ys (λ_=>by omega),?_⟩
   have c1:cut xs off 1= [xs.getD off undef]:=by
    unfold cut;rw[XK bq];simp[Array.getD,show off<xs.size by omega]
   have c2:cut ys off 1= [ys.getD off undef]:=by
    unfold cut;rw[XK bq];simp[Array.getD,show off<ys.size by omega]
   simp only[Sm,c1,c2,gP]at hp;split at hp
   ·rename_i q hq;simp at hp;subst hp;simp only[hc,sV,kM]
    grind[L7]
   grind
  cases jd:cF (eC d)with
  |false=>grind
  |true=>
   have np:=Xz;refine⟨_,_,nO hi hd xs bq,nO hi hd ys bq,?_⟩;simp only[jd,if_true];have sx:(xs.extract off (off+i.size)).size =l.length:=by grind
   have sy:(ys.extract off (off+i.size)).size =l.length:=by grind
   unfold kN at h;rw[hi,hd]at h
   cases d with
   |struct fs=>
    simp only at h;split at h
    ·rename_i l' eG Pe;split at h
     ·simp at h;subst h;have ahB:fs.toList.foldl (qa P n) (some [])=some l':=Pe;obtain⟨l1,e1,hl1⟩:=AZ ih fs.toList [] l' ahB
      grind[Program.fieldsOf,run_equalIn_struct,to]
     grind
    grind
   |array k e=>
    simp only at h;split at h
    ·rename_i l' hlv;split at h
     ·rename_i uI;simp at h;subst h;obtain⟨ie,de,lE,hde,amW,FF⟩:=wE hlv;have hse:(sizeOf e).run P w= .ok ie.size w:=by simp[sizeOf,typeInfo,lE]
      rw[amW]at hse;simp only[Op.equalIn,eJ,sY hd,mw,hse];have uF:(List.replicate k l').flatten.length =k*l'.length:=by omega
      rw[uF]at sx sy hp;have hx2:off+k*l'.length<=xs.size:=by grind
      have hy2:off+k*l'.length<=ys.size:=by omega
      obtain⟨r,q1,q2⟩:=vO (xs:=xs.extract off (off+i.size)) (ys:=ys.extract off (off+i.size)) hse (ih e l' hlv) k 0 p bq bq
       (by rw[Nat.zero_mul,to _ _ _ _ _ K0,to _ _ _ _ _ K0];omega)
      rw[Std.Legacy.Range.forIn_eq_forIn_range'];simp only[Std.Legacy.Range.size,G4,XW,Nat.div_one,q1,mw];rw[<- q2]
      cases r with
      |mk r1 r2=>cases r1<;>rfl
     grind
    grind
   |_=>simp[eC,cF]at jd
end
section
variable {C:bN}{F:gN}{β:Nat->Option Nat}{N:Nat->Prop}{H:HF}{fid:Nat}{K:j9}{w w':World}{P:Program}
theorem xQ: ∀ {l:List AW} {xs ys:List DC} {a b:List Value} {p:Bool},a.length=xs.length->b.length=ys.length->
  (∀(k:Nat) (c:DC) (v:Value),xs[k]? =some c->a[k]? =some v->co F β N H w v c)->(∀(k:Nat) (c:DC) (v:Value),ys[k]? =some c->b[k]? =some v->co F β N H w v c)->
  mb l xs ys=some p->gP l a b=some p
 | [],[],[],a,b,p,ha,hb,_,_,h=>by
  have:a= []:=CG.1 ha;have:b= []:=CG.1 hb;subst a;subst b;exact h
 |c::l,x::xs,y::ys,a,b,p,ha,hb,h1,h2,h=>by
  obtain⟨u,a,rfl⟩:=afx ha;obtain⟨v,b,rfl⟩:=afx hb;unfold mb at h;split at h
  grind
  ·rename_i l1 l2 l3 e1 e2 e3;cases e1;cases e2;cases e3;obtain⟨rfl,_⟩:=(h1 0 _ u rfl rfl).bw;obtain⟨rfl,_⟩:=(h2 0 _ v rfl rfl).bw;split at h
   ·rename_i p0 FD;split at h
    ·rename_i q0 hq0;have:=xQ (a:=a) (b:=b) bq bq (λk c v e1 e2=>h1 (k+1) c v bq bq) (λk c v e1 e2=>h2 (k+1) c v bq bq) hq0
     grind[gP]
    grind
   grind
  grind
 | [],_::_,_,_,_,_,_,_,_,_,h=>by grind[mb]
 | [],[],_::_,_,_,_,_,_,_,_,h=>by grind[mb]
 |_::_,[],_,_,_,_,_,_,_,_,h=>by grind[mb]
 |_::_,_::_,[],_,_,_,_,_,_,_,h=>by grind[mb]
theorem o9 {op:BinOp}{T:TypeId}{x y:Operand}{a b:Value}(h: ∃f:Bool,f=true/\(match a with| .nilIface =>false| .agg _=>false|_=>true)=f):eqGuard op T x y a b=pure ():=by
 obtain⟨f,rfl,h⟩:=h;cases a<;>simp at h<;>cases op<;>cases b<;>rfl
def A0 {op:BinOp}{T:TypeId}{x y:Operand}(h:(lN x || lN y)=true):eqGuard op T x y .nilIface .nilIface =pure ():=by cases x<;>cases y<;>simp[lN]at h<;>cases op<;>rfl
def A1 {op:BinOp}{T U:TypeId}{x y:Operand}{u:Value}:eqGuard op T x y (.iface U u) .nilIface =pure ():=by cases op<;>rfl
def agi {T:TypeId}(hT: ∃i d,P.info? T=some i/\P.underlying T=some d/\cF (eC d)=true){l:List AW}(hl:kN P 8 T=some l){a b:Array Value}{p:Bool}(ha:a.size=l.length)(hb:b.size=l.length)
  (h:gP l a.toList b.toList=some p):(Op.equal T (.agg a) (.agg b)).run P w= .ok p w:=by
 obtain⟨i,d,hi,hd,Xz⟩:=hT;obtain⟨i',d',kH,xf,np,_⟩:=wE hl;rw[hi]at kH;cases kH;rw[hd]at xf;cases xf;have c1:cut a 0 l.length=a.toList:=by grind[cut,List.take_of_length_le]
 have c2:cut b 0 l.length=b.toList:=by grind[cut,List.take_of_length_le]
 obtain⟨u,v,h1,h2,h3⟩:=S9 (w:=w) 8 T l hl Op.maxDepth K9 a b 0 p K0 K0 bq;rw[nO hi hd a bq]at h1;rw[nO hi hd b bq]at h2;simp only[Xz,if_true,Result.ok.injEq,sl]at h1 h2;have ea:a.extract 0 (0+i.size)=a:=by grind
 have eb:b.extract 0 (0+i.size)=b:=by grind
 rw[ea]at h1;rw[eb]at h2;subst h1;subst h2;exact h3
theorem acm (hC:C.Ok)(hR:ad F β N H w){op:BinOp}{T:TypeId}{x y:DX}{xo yo:Operand}{v0 v1:Value}(hx:aq F β N H w v0 x)(hy:aq F β N H w v1 y)(h:L1 C (lN xo || lN yo) op T x y λv=>K v [] []):
  ∃v,(do eqGuard op T xo yo v0 v1;binOp op T v0 v1:Sem Value).run C.P w= .ok v w/\bh F β N H fid K w v w:=by
 unfold L1 at h;split at h
 ·rename_i a b;obtain⟨rfl,_⟩:=hx.al.bw;obtain⟨rfl,_⟩:=hy.al.bw;split at h
  ·rename_i i hi;obtain⟨tf,d,z,hT⟩:=hC.get hi;split at h
   ·rename_i bV;refine⟨_,?_,bh.pure hR h (fT rfl)⟩;rw[o9 ⟨true,rfl,rfl⟩];have e:(Op.equal T (.bool a) (.bool b)).run C.P w= .ok (a==b) w:=ai4;simp only[eJ,lM,mw];show(do pure (.bool (<- Op.equal T (.bool a) (.bool b))):Sem Value).run C.P w=_;simp_all
   ·rename_i bV;refine⟨_,?_,bh.pure hR h (fT rfl)⟩;rw[o9 ⟨true,rfl,rfl⟩];have e:(Op.equal T (.bool a) (.bool b)).run C.P w= .ok (a==b) w:=ai4;simp only[eJ,lM,mw];show(do pure (.bool (!(<- Op.equal T (.bool a) (.bool b)))):Sem Value).run C.P w=_;simp_all
   grind
  grind
 ·obtain⟨rfl,_⟩:=hx.al.bw;obtain⟨rfl,_⟩:=hy.al.bw;split at h
  ·rename_i i hi amF;obtain⟨tf,d,z,hT⟩:=hC.get hi;have key:i.b8= .iface ->(Op.equal T .nilIface .nilIface).run C.P w= .ok true w:=λbV=>by exact aif
   split at h
   ·rename_i bV;refine⟨_,?_,bh.pure hR h (fT rfl)⟩;rw[A0 amF];simp only[eJ,lM,mw];show(do pure (.bool (<- Op.equal T .nilIface .nilIface)):Sem Value).run C.P w=_;simp_all
   ·rename_i bV;refine⟨_,?_,bh.pure hR h (fT rfl)⟩;rw[A0 amF];simp only[eJ,lM,mw];show(do pure (.bool (!(<- Op.equal T .nilIface .nilIface))):Sem Value).run C.P w=_;simp_all
   grind
  grind
 ·obtain⟨U,u,rfl⟩:=hx.al.abG;obtain⟨rfl,_⟩:=hy.al.bw;split at h
  ·rename_i i hi;obtain⟨tf,d,z,hT⟩:=hC.get hi;have key:i.b8= .iface ->(Op.equal T (.iface U u) .nilIface).run C.P w= .ok false w:=λbV=>by exact aif
   split at h
   ·rename_i bV;refine⟨_,?_,bh.pure hR h (fT rfl)⟩;rw[A1];simp only[eJ,lM,mw];show(do pure (.bool (<- Op.equal T (.iface U u) .nilIface)):Sem Value).run C.P w=_;simp_all
   ·rename_i bV;refine⟨_,?_,bh.pure hR h (fT rfl)⟩;rw[A1];simp only[eJ,lM,mw];show(do pure (.bool (!(<- Op.equal T (.iface U u) .nilIface))):Sem Value).run C.P w=_;simp_all
   grind
  grind
 ·rename_i dd;obtain⟨rfl,_⟩:=hy.al.bw;split at h
  ·rename_i b i hb hi;obtain⟨tf,d,z,hT⟩:=hC.get hi
   obtain⟨p,rfl,hp⟩: ∃p:Option Addr,v0= .pointer p/\p.isSome=b:=by
    have h1:=hx.al;unfold L0 at hb;split at hb
    ·exact akq
    ·exact akq
    ·cases hb
     cases h1 with
     |empty a cap hv=>grind[SC.ao]
     |view _ _ _ _ _ hv=>grind[SC.ao]
     |ref b o f hc hr=>grind
    ·cases hb;obtain⟨rfl,_⟩:=h1.bw;grind
    grind
   have key: ∀e,i.b8= .ptr e->(Op.equal T (.pointer p) (.pointer none)).run C.P w= .ok (!b) w:=λe bV=>by
    obtain⟨d',hd⟩: ∃e',d= .pointer e':=by
     have:=hT.b8.trans bV;cases d<;>simp[eC]at this
     grind
    unfold Op.equal Op.maxDepth Op.equalIn;subst hp;cases p<;>simp[eJ,hT.cU,hd,mw,lM]
   have hg: ∀op,eqGuard op T xo yo (.pointer p) (.pointer none)=pure ():=λop=>o9 ⟨true,rfl,rfl⟩;split at h
   ·rename_i bV;refine⟨_,?_,bh.pure hR h (fT rfl)⟩;rw[hg];simp only[eJ,lM,mw];show(do pure (.bool (<- Op.equal T (.pointer p) (.pointer none))):Sem Value).run C.P w=_;simp_all
   ·rename_i bV;refine⟨_,?_,bh.pure hR h (fT rfl)⟩;rw[hg];simp only[eJ,lM,mw];show(do pure (.bool (!(<- Op.equal T (.pointer p) (.pointer none)))):Sem Value).run C.P w=_;simp_all
   grind
  grind
 ·rename_i a b hnb hnc hnp;obtain⟨rfl,_⟩:=hx.al.bw;obtain⟨rfl,_⟩:=hy.al.bw;obtain⟨v,hr,hp,hk⟩:=U5 (P:=C.P) (w:=w) h T;refine⟨v,?_,bh.pure hR hk (fT hp)⟩;have hg:eqGuard op T xo yo v0 v1=pure ():=by grind[o9,qV]
  grind
 ·rename_i xs ys;obtain⟨a,rfl,a1,a2⟩:=hx.Ce;obtain⟨b,rfl,b1,b2⟩:=hy.Ce;split at h
  ·rename_i i hi;obtain⟨tf,d,z,hT⟩:=hC.get hi;split at h;rotate_left
   ·grind
   rename_i aoH
   have key: ∀ {l:List AW} {p:Bool},i.eqs=some l->mb l xs ys=some p->C.P.eqGuardType C.P.depth T=false/\(Op.equal T (.agg a) (.agg b)).run C.P w= .ok p w:=by
    intro l p he hp;have hq:=hT.eqs;rw[he]at hq;split at hq
    grind
    ·rename_i hg;refine⟨by grind,?_⟩
     have oW:=xQ (a:=a.toList) (b:=b.toList) K0 K0 (λk c v e1 e2=>by
      have:=a2 k c e1;rwa [mg (by simpa using e2)]at this) (λk c v e1 e2=>by
      grind[mg]) hp
     have bA: ∀ {l:List AW} {a b:List Value} {p:Bool},gP l a b=some p->a.length=l.length/\b.length=l.length:=by
      intro l
      induction l with
      |nil=>grind[gP]
      |cons c l ih=>
       intro a b p h
       cases a with
       |nil=>grind[gP]
       |cons x a=>cases b with
        |nil=>grind[gP]
        |cons y b=>
         grind[gP]
     obtain⟨l1,l2⟩:=bA oW;exact agi ⟨_,_,hT.od,hT.IP,by rw[hT.b8];omega⟩ hq K0 K0 oW
   split at h
   ·rename_i l he;split at h
    ·rename_i p hp;obtain⟨hg,hr⟩:=key he hp;refine⟨_,?_,bh.pure hR h (fT rfl)⟩;have e:(eqGuard .eql T xo yo (.agg a) (.agg b)).run C.P w= .ok () w:=by simp[eqGuard,hg]
     simp only[eJ,e,mw];show(do pure (.bool (<- Op.equal T (.agg a) (.agg b))):Sem Value).run C.P w=_;simp_all
    grind
   ·rename_i l he;split at h
    ·rename_i p hp;obtain⟨hg,hr⟩:=key he hp;refine⟨_,?_,bh.pure hR h (fT rfl)⟩;have e:(eqGuard .neq T xo yo (.agg a) (.agg b)).run C.P w= .ok () w:=by simp[eqGuard,hg]
     simp only[eJ,e,mw];show(do pure (.bool (!(<- Op.equal T (.agg a) (.agg b)))):Sem Value).run C.P w=_;simp_all
    grind
   grind
  grind
 grind
end
section
variable {C:bN}{F:gN}{β:Nat->Option Nat}{N:Nat->Prop}{H:HF}{fid:Nat}{K:j9}{w w':World}{P:Program}
def agj (hR:ad F β N H w){op:UnOp}{x:DX}{v0:Value}(hx:aq F β N H w v0 x)(h:Pm op x λv=>K v [] []):
  ∃v,(Op.unary op v0).run P w= .ok v w/\bh F β N H fid K w v w:=by
 unfold Pm at h;split at h
 ·exact afK
 ·exact afK
 ·exact afK
 grind
theorem zX {mx:Bool}{k:IntKind}: ∀ {xs:List DX} {vs:List Value} {a:Int} {K':Value->Prop},vs.length=xs.length->(∀(j:Nat) (x:DX) (v:Value),xs[j]? =some x->vs[j]? =some v->aq F β N H w v x)->
  tg mx k a xs K'->∃v,(vs.foldlM (if mx then Builtin.max2 else Builtin.min2) (.int k a)).run P w= .ok v w/\plain v=true/\K' v
 | [],vs,a,K',hl,_,h=>by
  have:vs= []:=CG.1 hl;subst this;exact⟨_,rfl,rfl,h⟩
 |x::xs,vs,a,K',hl,hv,h=>by
  obtain⟨v,vs,rfl⟩:=afx hl;unfold tg at h;split at h
  grind
  ·rename_i k' b r vG;cases vG;split at h
   ·rename_i hk;simp at hk;subst hk;obtain⟨rfl,_⟩:=(hv 0 _ v rfl rfl).al.bw;obtain⟨u,h1,h2,h3⟩:=zX (vs:=vs) bq (λj x v e1 e2=>hv (j+1) x v bq bq) h
    grind[Builtin.min2,Builtin.max2]
   grind
  grind
theorem U6 {T e:TypeId}(hu:P.underlying T=some (.slice e)){z:Nat}(hs:(sizeOf e).run P w= .ok z w){a:Option Addr}{len cap l h:Nat}{lo hi:Option Value}
  (hlo:(match lo with|none=>l=0|some v=>∃k,v= .int k (l:Int)))(Xm:(match hi with|none=>h=len|some v=>∃k,v= .int k (h:Int)))(h1:l<=h)(h2:h<=len)(h3:len<=cap):
  (Instr.sliceAt T (.slice a len cap) lo hi none).run P w= .ok (.slice (if cap=l then a else a.map (·.add (l*z))) (h -l) (cap -l)) w:=by
 have e1:(Instr.sliceBounds true len cap lo hi none).run P w= .ok (l,h,cap) w:=by
  have hb: ∀(k:IntKind) (n y:Nat) (c:BoundsCode),n<=y->(Instr.sliceBound (.int k (n:Int)) y c).run P w= .ok n w:=aiC
  cases lo with
  |none=>
   simp at hlo;subst hlo
   cases hi with
   |none=>simp at Xm;subst Xm;simp[Instr.sliceBounds]
   |some v=>obtain⟨k,rfl⟩:=Xm;simp[Instr.sliceBounds,hb _ _ _ _ (show h<=cap by omega)]
  |some u=>
   obtain⟨k,rfl⟩:=hlo
   cases hi with
   |none=>simp at Xm;subst Xm;simp[Instr.sliceBounds,hb _ _ _ _ h1]
   |some v=>obtain⟨k',rfl⟩:=Xm;simp[Instr.sliceBounds,hb _ _ _ _ (show h<=cap by omega),hb _ _ _ _ h1]
 have e2:(underlying T).run P w= .ok (.slice e) w:=sY hu w;simp only[Instr.sliceAt,eJ,e2,mw,Instr.slice,e1,hs];simp
def SC.abF {c:SC}(hv:c.ao=true){l h:Nat}(h2:h<=c.len):(c.sub l h).len =h -l/\(c.sub l h).ao =true:=by cases c<;>simp[SC.ao]at hv<;>simp[SC.sub,SC.len,SC.ao]at* <;>omega
theorem SC.Lq {c:SC}(hv:c.ao=true){l h i:Nat}{e:List SC}(he:(c.sub l h).elem i=some e):c.elem (l+i)=some e/\l+i<h:=by
 cases c with
 |ints xs=>
  grind[SC.sub,SC.elem]
 |view es=>
  grind[SC.sub,SC.elem]
 |_=>grind[SC.ao]
theorem dw.sub {mv mr:Mem}{a:Option Addr}{len cap:Nat}{c:SC}(h:dw mv mr (.slice a len cap) c)(hv:c.ao=true){l r z:Nat}(h1:l<=r)(h2:r<=c.len)(hz: ∀i e,c.elem i=some e->e.length=z):
  len=c.len/\dw mv mr (.slice (if cap=l then a else a.map (·.add (l*z))) (r -l) (cap -l)) (c.sub l r):=by
 obtain⟨s1,s2⟩:=SC.abF (l:=l) hv h2;by_cases h0:r -l=0
 ·refine⟨?_,by rw[h0];exact .empty _ _ s2 K0⟩;obtain⟨a',jG,e,_⟩:=h.CF hv
  grind
 ·cases h with
  |lit hp=>grind[SC.ao]
  |err=>grind
  |num=>grind
  |raw=>grind[SC.ao]
  |any=>grind[SC.ao]
  |empty a cap _ h0'=>omega
  |view b o cap z' f _ fN wt fX hl hc hr=>
   obtain⟨e0,RP⟩:=SC.oe fN;have:z'=z:=by grind
   subst this;refine⟨rfl,?_⟩;rw[if_neg K0];have s1':(c.sub l r).len =r -l:=s1;rw[<- s1',xJ,addr_add];refine .view b (o+l*z') (cap -l) z' (λk=>f (l*z'+k)) s2 K0 wt K0 (λi e he=>hl _ e (SC.Lq hv he).1) (λk hk=>?_) (λi e j x he hx=>?_)
   ·rw[LQ];refine hc _ ?_;rw[s1']at hk;have:(l+(r -l))*z'<=c.len*z':=kE _ K0
    grind
   ·have:=hr (l+i) e j x (SC.Lq hv he).1 hx
    grind
theorem uL: ∀ {es:List (List SC)} {ns:List Int},wB es=some ns->ns.length=es.length/\∀(i:Nat) (m:Int),ns[i]? =some m->es[i]? =some [.lit (.int .i64 m)]
 | [],ns,h=>by grind[wB]
 |e::es,ns,h=>by
  unfold wB at h;split at h
  grind
  ·rename_i n r vG;cases vG;split at h
   ·rename_i l hl;simp at h;subst h;obtain⟨h1,h2⟩:=uL hl
    grind
   grind
  grind
def I7 {d:Option (Option DV)}{GP:Nat}{K':Nat->Prop}(h:FZ d GP K'): ∃n,K' n/\((d=none/\n=GP)\/∃k,d=some (some (lit (.int k (n:Int))))):=by
 unfold FZ at h;split at h
 grind
 ·rename_i k n;obtain⟨h0,h⟩:=h;exact⟨_,h,.inr ⟨k,by rw[Int.toNat_of_nonneg h0];rfl⟩⟩
 grind
theorem xR {c:SC}{z:Nat}(h:c.zN z): ∀i e,c.elem i=some e->e.length=z:=by
 intro i e he
 cases c with
 |ints xs=>grind[SC.zN,SC.elem]
 |view es=>exact h e (jv he)
 |_=>grind[SC.elem]
theorem Cg (hG:bE C F)(hR:ad F β N H w){E:EF}{a:Act}(hE:dE F β N H w E a){lo:Option Operand}{n GP:Nat}
  (h:(lo.map (C.ev E)=none/\n=GP)\/∃k,lo.map (C.ev E)=some (some (lit (.int k (n:Int))))):
  (match lo.map a.eval with|none=>n=GP|some v=>∃k,v= .int k (n:Int)):=by
 cases lo with
 |none=>
  grind
 |some x=>
  rcases h with⟨h,_⟩|⟨k,h⟩
  grind
  ·simp at h;have:=mA hG hR hE h;exact⟨k,(aq.al this).bw.1⟩
theorem Yu (hC:C.Ok)(hG:bE C F)(hR:ad F β N H w){E:EF}{a:Act}(hE:dE F β N H w E a){T:TypeId}{x:DX}{v0:Value}{lo hi:Option Operand}(hx:aq F β N H w v0 x)
  (h:gL C T x (lo.map (C.ev E)) (hi.map (C.ev E)) H K):
  ∃v,(Instr.sliceAt T v0 (lo.map a.eval) (hi.map a.eval) none).run C.P w= .ok v w/\bh F β N H fid K w v w:=by
 unfold gL at h;split at h
 ·grind
 rename_i i kH;obtain⟨tf,d,z,hT⟩:=hC.get kH;split at h
 ·rename_i e bV;have hd:=dm (hT.b8.trans bV);split at h
  ·grind
  rename_i ie lE;obtain⟨ef,ed,ez,GV⟩:=hC.get lE;split at h
  ·rename_i c u r eG;split at h
   ·rename_i GW hv;obtain⟨l,h,hl⟩:=I7 h;obtain⟨hh,h,hh'⟩:=I7 h;obtain⟨⟨h1,h2⟩,hu,h⟩:=h;have bA:=iu eG;obtain⟨ag,cs⟩:=x;simp at GW;subst GW;obtain⟨dc,UD,hd0⟩:=hx;simp at UD;subst UD;have hg:ig C H u:=ig.ko (cJ eG)
    have ij:=iy hR hg.soft (f:=λ_=>v0) (λk d hk=>by
     grind) eG (λp hp=>hg.frozen hp (cJ eG p hp)) 0 c rfl
    obtain⟨a0,ahw,rfl,fX⟩:=ij.CF hv;obtain⟨_,Sa⟩:=ij.sub hv h1 h2 (xR hu);refine⟨_,U6 (by rw[hT.IP,hd]) (GV.iG w) (Cg hG hR hE hl) (Cg hG hR hE hh') h1 h2 fX,bh.still hR hg h (cj.bf (cH Sa))⟩
   grind
  grind
 ·rename_i bV;have hd:=me (hT.b8.trans bV);split at h
  ·rename_i s;obtain⟨rfl,_⟩:=hx.al.bw;obtain⟨l,h,hl⟩:=I7 h;obtain⟨hh,h,hh'⟩:=I7 h;obtain⟨⟨h1,h2⟩,h⟩:=h;have o1:=Cg hG hR hE hl;have o2:=Cg hG hR hE hh';refine⟨.string (s.extract l hh),?_,bh.pure hR h (fT rfl)⟩;have hb: ∀(k:IntKind) (n y:Nat) (c:BoundsCode),n<=y->(Instr.sliceBound (.int k (n:Int)) y c).run C.P w= .ok n w:=aiC
   have e1:(Instr.sliceBounds false s.size s.size (lo.map a.eval) (hi.map a.eval) none).run C.P w= .ok (l,hh,s.size) w:=by
    cases hlo:lo.map a.eval with
    |none=>
     rw[hlo]at o1;simp at o1;subst o1
     cases Xm:hi.map a.eval with
     |none=>rw[Xm]at o2;simp at o2;subst o2;simp[Instr.sliceBounds]
     |some v=>rw[Xm]at o2;obtain⟨k,rfl⟩:=o2;simp[Instr.sliceBounds,hb _ _ _ _ h2]
    |some u=>
     rw[hlo]at o1;obtain⟨k,rfl⟩:=o1
     cases Xm:hi.map a.eval with
     |none=>rw[Xm]at o2;simp at o2;subst o2;simp[Instr.sliceBounds,hb _ _ _ _ h1]
     |some v=>rw[Xm]at o2;obtain⟨k',rfl⟩:=o2;simp[Instr.sliceBounds,hb _ _ _ _ h2,hb _ _ _ _ h1]
   simp only[Instr.sliceAt,eJ,hT.cU,hd,mw,Instr.slice];simp[e1]
  grind
 ·rename_i n e bV;have hd:=ku (hT.b8.trans bV);split at h
  ·grind
  rename_i ie lE;obtain⟨ef,ed,ez,GV⟩:=hC.get lE;split at h
  ·rename_i id off hlo Xm;obtain⟨hn,b,jt,rfl⟩:=hx.al;split at h
   ·rename_i t cs hb;split at h
    ·rename_i l u r eG;split at h
     ·rename_i Pj eB;obtain⟨eB,h1n⟩:=aH eB;obtain⟨hs1,AP⟩:=aH eB;have hs1:=o7 hs1;have AP:=fO AP;have h1n:=fO h1n;split at h
      ·rename_i ns IH;have hg:ig C H ((id,some (.dZ l))::u):=ah8;obtain⟨ahi,hnv⟩:=uL IH;simp at ahi;have hH:=hg.heap hR;have hid:(Hp.on ((id,some (.dZ l))::u) H) id=some (.dZ l):=by simp[Hp.on,bn]
       obtain⟨_,b',arr,T',q1,q2,q3,q4,q5⟩:=hH.rel id _ hid;rw[jt]at q1;cases q1;have hnn:n=ns.length:=by omega
       have bB:(Instr.sliceAt T (.pointer (some ⟨b,off,none⟩)) none none none).run C.P w= .ok (.slice (some ⟨b,off,none⟩) n n) w:=by
        have GQ: ¬n=0:=by omega
        exact afH
       refine⟨.slice (some ⟨b,off,none⟩) n n,?_,bh.still hR hg h (cj.bf (cH ?_))⟩
       ·exact aic
       ·show dw _ _ _ _;have amG:(SC.ints ns).len =n:=by grind[SC.len]
        have:= @dw.view (MV F β (Hp.on ((id,some (.dZ l))::u) H) w) (MR F β (Hp.on ((id,some (.dZ l))::u) H) w) (.ints ns) b off n 1 (λk=>arr.getD (off+k) undef) rfl K0 K0 K0 (λi e he=>by
         grind[SC.elem]) (λk hk=>by
         rw[qZ q2 (th hR hg.soft hid jt (off+k))]
         grind[fZ]) (λi e j x he hx=>by
         simp[SC.elem]at he;obtain⟨m,hm,rfl⟩:=he;have hj:j=0:=by grind
         subst hj;simp at hx;subst hx;have hli:=hnv i m hm;simp only[gq,my]at hli;obtain⟨c,hc,e⟩:=hli;rw[GY]at hc;split at hc
         ·exact ajb
         grind)
        grind
      grind
     grind
    grind
   ·rename_i l hb;split at h
    ·rename_i Pj eB;obtain⟨eB,h1n⟩:=aH eB;obtain⟨hs1,AP⟩:=aH eB;have hs1:=o7 hs1;have AP:=fO AP;have h1n:=fO h1n;split at h
     ·rename_i ns IH
      have hg:ig C H ([]:Hp):=by
       intro p hp
       grind
      obtain⟨ahi,hnv⟩:=uL IH;simp at ahi;have hH:=hg.heap hR;have hid:(Hp.on ([]:Hp) H) id=some (.dZ l):=by simpa [Hp.on]using hb
      obtain⟨_,b',arr,T',q1,q2,q3,q4,q5⟩:=hH.rel id _ hid;rw[jt]at q1;cases q1;have hnn:n=ns.length:=by omega
      have bB:(Instr.sliceAt T (.pointer (some ⟨b,off,none⟩)) none none none).run C.P w= .ok (.slice (some ⟨b,off,none⟩) n n) w:=by
       have GQ: ¬n=0:=by omega
       exact afH
      refine⟨.slice (some ⟨b,off,none⟩) n n,?_,bh.still hR hg h (cj.bf (cH ?_))⟩
      ·exact aic
      ·show dw _ _ _ _;have amG:(SC.ints ns).len =n:=by grind[SC.len]
       have:= @dw.view (MV F β (Hp.on ([]:Hp) H) w) (MR F β (Hp.on ([]:Hp) H) w) (.ints ns) b off n 1 (λk=>arr.getD (off+k) undef) rfl K0 K0 K0 (λi e he=>by
        grind[SC.elem]) (λk hk=>by
        rw[qZ q2 (th hR hg.soft hid jt (off+k))]
        grind[fZ]) (λi e j x he hx=>by
        simp[SC.elem]at he;obtain⟨m,hm,rfl⟩:=he;have hj:j=0:=by grind
        subst hj;simp at hx;subst hx;have hli:=hnv i m hm;simp only[gq,my]at hli;obtain⟨c,hc,e⟩:=hli;rw[GY]at hc;split at hc
        ·exact ajb
        grind)
       grind
     grind
    grind
   grind
  grind
 grind
end
section
variable {C:bN}{F:gN}{β:Nat->Option Nat}{N:Nat->Prop}{H:HF}{fid:Nat}{K:j9}{w w':World}{P:Program}
theorem C7 {z:Nat}: ∀ {parts:List (Nat × Value)} {n:Nat} {arr:Array Value},(∀(k:Nat) (p:Nat × Value),parts[k]? =some p->p.1=n+k/\p.2.cells.size=z)->(n+parts.length)*z<=arr.size->
  ∃arr',Instr.fill (λi=>some (i*z,z)) arr parts=some arr'/\arr'.size=arr.size/\(∀(k:Nat) (p:Nat × Value) (j:Nat),parts[k]? =some p->j<z->arr'[(n+k)*z+j]? =p.2.cells[j]?)/\(∀o,o<n*z->arr'[o]? =arr[o]?)
 | [],n,arr,_,_=>⟨arr,rfl,rfl,by simp,λ_ _=>rfl⟩
 |(i,v)::parts,n,arr,hp,hs=>by
  obtain⟨hi,hv⟩:=hp 0 _ rfl;simp at hi hv;subst hi;have e1:(i+(parts.length+1))*z=i*z+z+parts.length*z:=by grind
  simp only[kF]at hs;rw[e1]at hs;have hlc:v.cells.toList.length=z:=by omega
  have np:(aO arr (i*z) v.cells.toList).size =arr.size:=fk K0;have e2:(i+1+parts.length)*z=i*z+z+parts.length*z:=by grind
  obtain⟨arr',f1,f2,f3,f4⟩:=C7 (parts:=parts) (n:=i+1) (arr:=aO arr (i*z) v.cells.toList) (λk p hk=>by
   obtain⟨h1,h2⟩:=hp (k+1) p bq
   exact⟨by omega,h2⟩) K0
  have Pe:v.cells.zipIdx.foldl (λcs (p:Value × Nat)=>cs.setIfInBounds (i*z+p.2) p.1) arr=aO arr (i*z) v.cells.toList:=by
   have:=zW (i*z) v.cells.toList 0 arr K0;exact ajF
  refine⟨arr',?_,by omega,λk p j hk hj=>?_,λo ho=>?_⟩
  ·have g1: ¬(v.cells.size≠z):=by omega
   have g2: ¬(i*z+v.cells.size>arr.size):=by omega
   simp only[Instr.fill,g1,g2,decide_false,LR,sV,kM]
   grind
  ·cases k with
   |zero=>
    simp at hk;subst hk;have:(i+1)*z=i*z+z:=by grind
    rw[CQ,f4 _ K0,gb K0,if_neg K0,if_pos K0];simp
   |succ k=>
    grind
  ·have:(i+1)*z=i*z+z:=by grind
   rw[f4 o K0,gb K0,if_pos ho]
theorem A4 {ks:List Bool}{z:Nat}: ∀ {ps:List (Nat × Option DV)} {n:Nat} {es:List (List SC)} {u:Hp} {r:List Nat},kP H ks z n ps=some (es,u,r)->
  (∀p∈u,md H p)/\es.length=ps.length/\∀(k:Nat) (e:List SC),es[k]? =some e->∃x ue re,ps[k]? =some (n+k,some (.val x))/\x.2.length=z/\ol e=true/\bS H ks x.2=some (e,ue,re)/\∀q∈ue,q∈u
 | [],n,es,u,r,h=>by grind[kP]
 |p::ps,n,es,u,r,h=>by
  unfold kP at h;split at h
  grind
  ·rename_i n0 i x rest vG;cases vG;split at h
   ·rename_i hb;obtain⟨h1,h2⟩:=aH hb;have h1:=o7 h1;have h2:=o7 h2;subst h1;split at h
    ·rename_i e u1 r1 eG;split at h
     ·rename_i Xn u2 r2 hf abo;simp at h;obtain⟨rfl,rfl,_⟩:=h;obtain⟨q1,q2,q3⟩:=A4 abo
      grind[cJ]
     grind
    grind
   grind
  grind
def Yv {k:Bool}{es:List (List SC)}{c:SC}(h:Yl k es=some c):c.ao=true/\c.len=es.length/\∀i e,c.elem i=some e->es[i]? =some e:=by
 unfold Yl at h;split at h
 ·split at h
  ·rename_i l hl;simp at h;subst h;obtain⟨h1,h2⟩:=uL hl;refine⟨rfl,h1,λi e he=>?_⟩
   grind[SC.elem]
  grind
 ·simp at h;subst h;exact⟨rfl,rfl,λi e he=>he⟩
def F5 (hC:C.Ok)(hG:bE C F)(hR:ad F β N H w)(hf: ¬N fid){E:EF}{a:Act}(hE:dE F β N H w E a){o:Oper}{T:TypeId}{len:Nat}{parts:Array (Nat × Operand)}(ho:o.op= .buildSlice T len parts)
  (h:fw C fid o (C.ev E) H K): ∃v w',(Instr.buildSlice T len (parts.map λp=>(p.1,a.eval p.2))).run C.P w= .ok v w'/\bh F β N H fid K w v w':=by
 unfold fw at h;rw[ho]at h;simp only at h;obtain⟨hl,hp⟩:=C6 hG hR hE parts;split at h
 ·rename_i i hi;obtain⟨tf,d,z,hT⟩:=hC.get hi;split at h
  ·rename_i e bV;have hd:=dm (hT.b8.trans bV);split at h
   ·rename_i ie lE;obtain⟨ef,ed,ez,GV⟩:=hC.get lE;split at h
    ·rename_i hb;obtain⟨hb,h3⟩:=aH hb;obtain⟨h1,h2⟩:=aH hb;have h1:=fO h1;have h2:=fO h2;have h3:=o7 h3;split at h
     ·rename_i es u r hes;split at h
      ·rename_i c hc;obtain⟨q1,q2,q3⟩:=A4 hes;obtain⟨c1,c2,c3⟩:=Yv hc;have bA:es.length=len:=by grind
       have FB: ∃xm:Array Value,xm.size=len*ie.size/\∀cells,Instr.fill (λi=>some (i*ie.size,ie.size)) xm (parts.map λ(p:Nat × Operand)=>(p.1,a.eval p.2)).toList =some cells->
         (Instr.buildSlice T len (parts.map λ(p:Nat × Operand)=>(p.1,a.eval p.2))).run C.P w= .ok (.slice (some ⟨w.heap.size,0,none⟩) len len) (w.alloc (.cells cells e)):=by
        exact K34
       obtain⟨xm,hs0,bB⟩:=FB;have pG:(parts.map λ(p:Nat × Operand)=>(p.1,a.eval p.2)).toList.length =len:=by omega
       have O8: ∀(k:Nat) (p:Nat × Value),(parts.map λ(p:Nat × Operand)=>(p.1,a.eval p.2)).toList[k]? =some p->∃x e ue re,es[k]? =some e/\p.1=k/\x.2.length=ie.size/\aq F β N H w p.2 x/\ol e=true/\bS H ie.kinds x.2=some (e,ue,re)/\∀q∈ue,q∈u:=by
        intro k p hk;have uI:k<es.length:=by grind
        obtain⟨x,ue,re,a1,a2,a3,a4,a5⟩:=q3 k es[k] bq;obtain⟨b1,b2⟩:=hp k p _ hk a1;exact⟨x,es[k],ue,re,by grind,by omega,a2,b2 _ rfl,a3,a4,a5⟩
       obtain⟨arr',f1,f2,f3,f4⟩:=C7 (z:=ie.size) (parts:=(parts.map λ(p:Nat × Operand)=>(p.1,a.eval p.2)).toList) (n:=0) (arr:=xm) (λk p hk=>by
        obtain⟨x,e,ue,re,a1,a2,a3,a4,_⟩:=O8 k p hk
        exact⟨by omega,by rw[a4.cells.1,a3]⟩) bq
       refine⟨.slice (some ⟨w.heap.size,0,none⟩) len len,w.alloc (.cells arr' e),bB _ f1,?_⟩;have hg:ig C H u:=ig.ko q1;refine bh.new (b:=some w.heap.size) (hg.heap hR) hg.soft.tr hf (Below.oc w _) (by simp) h (λH1 xy _ t2=>?_) (λH1 xy=>cH ⟨.inr rfl,rfl,λnL z' n' hb wt=>?_⟩)
       ·have iF: ∀i e,c.elem i=some e->e.length=ie.size:=by
         grind[iu]
        refine⟨⟨h1,c1,iF⟩,.inr ⟨w.heap.size,len,by simp[cQ],gN.gG hR.below.size,arr',e,gO w _,by omega,h1,c1,by omega,iF,λi e j x he hx=>?_⟩⟩;have hei:=c3 i e he;have Uw:i< (parts.map λ(p:Nat × Operand)=>(p.1,a.eval p.2)).toList.length :=by grind
        obtain⟨x0,e0,ue,re,a1,a2,a3,a4,a5,a6,a7⟩:=O8 i _ (oX Uw);rw[hei]at a1;cases a1;have hjz:j<ie.size:=by grind
        have:=f3 i _ j (oX Uw) hjz;rw[j8]at this;rw[bL this];have ij:=iy hR hg.soft (f:=λk=>((parts.map λ(p:Nat × Operand)=>(p.1,a.eval p.2)).toList[i]).2.cells.getD k undef) (λk d hk=>a4.cells.2 k d hk) a6 (λq hq=>hg.frozen (a7 q hq) (cJ a6 q hq)) j x hx;exact(ij.flat (lP a5 j x hx)).mono t2.mv (Mem.le_refl _)
       ·exact aix
      grind
     grind
    grind
   grind
  grind
 grind
end
section
variable {C:bN}{F:gN}{β:Nat->Option Nat}{N:Nat->Prop}{H:HF}{fid:Nat}{K:j9}{w w':World}{P:Program}
def Yw {n:Int}(h0: -9223372036854775808<=n)(h1:n<=9223372036854775807):IntKind.i64.wrap n=n:=IntWalk.i64_in n ⟨h0,h1⟩
def wrap_small {n:Int}(h0:0<=n)(h1:n<=4294967296):IntKind.i64.wrap n=n:=Yw K0 K0
theorem PK (k:Bool):(AX k).flat =true:=by cases k<;>rfl
theorem qb: ∀ {ks:List Bool} {zs:List Value} {cs:List SC},qU ks (zs.map BN)=some cs->cs.length=zs.length/\ol cs=true/\∀(mv mr:Mem) (k:Nat) (c:SC),cs[k]? =some c->∃v,zs[k]? =some v/\dw mv mr v c
 |ks,[],cs,h=>by grind[qU,ol]
 |ks,z::zs,cs,h=>by
  rw[jw]at h
  cases hz:BN z with
  |nil=>
   rw[hz]at h;simp only[qU]at h;split at h
   ·rename_i ds hds;simp at h;subst h;obtain⟨h1,h2,h3⟩:=qb hds;have pY:z= .slice none 0 0:=by grind[BN]
    refine⟨by grind,(show(match(AX (ks.head?.getD false)).flat with|true=>ol ds|false=>false)=true by grind[PK]),λmv mr k c hk=>?_⟩
    cases k with
    |zero=>
     simp only[UL,lL]at hk;subst hk;refine⟨z,rfl,?_⟩;rw[pY];cases ks.head?.getD false<;>exact .empty _ _ rfl rfl
    |succ k=>simp_all
   grind
  |lit v=>
   rw[hz]at h;simp only[qU]at h;split at h
   ·rename_i hp;split at h
    ·rename_i ds hds;simp at h;subst h;obtain⟨h1,h2,h3⟩:=qb hds
     have pY:z=v:=by
      unfold BN at hz
      grind
     refine⟨by grind,by grind[ol,SC.flat],λmv mr k c hk=>?_⟩
     cases k with
     |zero=>simp at hk;subst hk;exact⟨z,rfl,by rw[pY];exact .lit hp⟩
     |succ k=>simp_all
    grind
   grind
theorem I8 (hC:C.Ok)(hR:ad F β N H w)(hf: ¬N fid){T:TypeId}{x y:DX}{v0 v1:Value}(hx:aq F β N H w v0 x)(hy:aq F β N H w v1 y)(h:lO C fid T x y K):
  ∃v w',(Instr.makeSlice T v0 v1).run C.P w= .ok v w'/\bh F β N H fid K w v w':=by
 unfold lO at h;split at h
 ·grind
 rename_i i hi;obtain⟨tf,d,z,hT⟩:=hC.get hi;split at h
 ·rename_i e k1 n k2 m bV;have hd:=dm (hT.b8.trans bV);obtain⟨rfl,_⟩:=hx.al.bw;obtain⟨rfl,_⟩:=hy.al.bw;split at h
  ·grind
  rename_i ie lE;obtain⟨ef,ed,ez,GV⟩:=hC.get lE;split at h
  ·rename_i hb;obtain⟨hb,hz3⟩:=aH hb;obtain⟨h1,h2⟩:=aH hb;have h1:=fO h1;have h2:=fO h2;have hz3:=o7 hz3;obtain⟨⟨g0,g1,g2⟩,h⟩:=h;have g3:m<=4294967296:=g2;have hzl:ez.cells.size=ie.size:=by rw[<- hz3,<- GV.xC];simp
   have anV: ¬((ie.bytes:Int)*m>2^48):=by
    have e:(2:Int)^48=281474976710656:=by decide
    rw[e];have:(ie.bytes:Int)*m<=4096*4294967296:=CV K0 g3 K0 K0;omega
   have ahE:ef.bytes=ie.bytes:=GV.bytes
   have bB: ∃arr:Array Value,arr.size=m.toNat*ie.size/\(∀o,o<arr.size->arr[o]? =ez.cells[o%ie.size]?)/\(Instr.makeSlice T (.int k1 n) (.int k2 m)).run C.P w= .ok (.slice (some ⟨w.heap.size,0,none⟩) n.toNat m.toNat) (w.alloc (.cells arr e)):=by
    refine⟨(Array.range (m.toNat*ie.size)).map (λx=>(if m.toNat*ie.size=0 then #[]else ez.cells)[x%(if m.toNat*ie.size=0 then #[]else ez.cells).size]!),by simp,λo ho=>?_,?_⟩
    ·simp at ho;have fh: ¬(m.toNat*ie.size=0):=by omega
     have O9:o%ie.size<ie.size:=s6 _ K0
     grind
    ·have e1:IntKind.i64.wrap n=n:=wrap_small g0 K0;have e2:IntKind.i64.wrap m=m:=wrap_small K0 g3;have c1: ¬m<0:=by omega
     have c2: ¬n<0:=by omega
     have c3: ¬n>m:=by omega
     simp only[Instr.makeSlice,eJ,hT.cU,hd,mw,asInt,asIntOf,lM,GV.XE,ahE,e1,e2,c1,c2,c3,anV,decide_false,LR,SW,sV,kM,run_askRoom,GV.iG];by_cases h0:m.toNat*ie.size=0
     ·simp[h0,newRow]
     ·simp[h0,GV.sS,newRow]
   obtain⟨arr,a1,a2,bB⟩:=bB
   have key: ∀(c:SC) (el:List SC),c.ao=true->c.len=n.toNat->(∀i e,c.elem i=some e->e=el)->el.length=ie.size->(∀(mv mr:Mem) (k:Nat) (x:SC),el[k]? =some x->∃v,ez.cells[k]? =some v/\dw mv mr v x)->
     K (bm (.own fid)) [(fid,some (.row true ie.size c))] []->bh F β N H fid K w (.slice (some ⟨w.heap.size,0,none⟩) n.toNat m.toNat) (w.alloc (.cells arr e)):=by
    intro c el cv cl ce cel cz hK;refine bh.new (u:=[]) (b:=some w.heap.size) hR Tr.refl hf (Below.oc w _) (by simp) hK (λH1 xy _ t2=>?_) (λH1 xy=>cH ⟨.inr rfl,rfl,λnL z' n' hb wt=>?_⟩)
    ·have iF: ∀i e,c.elem i=some e->e.length=ie.size:=λi e he=>by grind
     refine⟨⟨h1,cv,iF⟩,.inr ⟨w.heap.size,m.toNat,by simp[cQ],gN.gG hR.below.size,arr,e,gO w _,a1,h1,cv,by omega,iF,λi e' j x he hx=>?_⟩⟩;have:=ce i e' he;subst this;have hj:j<ie.size:=by grind
     obtain⟨v,v1,v2⟩:=cz (MV F (cQ β fid (some w.heap.size)) H1 (w.alloc (.cells arr e))) eV j x hx;have kH:i<n.toNat:=by rw[<- cl];exact SC.ip he
     have ak:i*ie.size+j<arr.size:=by
      rw[a1];have:(i+1)*ie.size<=m.toNat*ie.size:=kE _ K0
      grind
     grind[Nat.mul_comm,Nat.mul_add_mod,Nat.mod_eq_of_lt,mg]
    ·subst xy;rw[am]at hb;cases hb;cases wt;exact .inr ⟨w.heap.size,m.toNat,arr,e,by simp[cQ],by rw[cl],gO w _,a1⟩
   refine⟨_,_,bB,?_⟩;split at h
   ·split at h
    ·rename_i FB;have hzc:=GV.xC;rw[FB]at hzc
     have l7:ez.cells= #[.int .i64 0]:=by
      apply G7
      cases hl:ez.cells.toList with
      |nil=>grind
      |cons v t=>
       rw[hl]at hzc;simp at hzc;obtain⟨hv,rfl⟩:=hzc;unfold BN at hv
       grind
     refine key _ [.lit (.int .i64 0)] rfl Yi (λi e he=>?_) bq (λmv mr k x hk=>?_) h
     grind[SC.elem]
     ·exact aiW
    grind
   ·split at h
    ·rename_i zs hzs;rw[<- GV.xC]at hzs;obtain⟨b1,b2,b3⟩:=qb hzs
     refine key _ zs rfl Yi (λi e he=>?_) bq (λmv mr k x hk=>by
      simp_all) h
     grind[SC.elem]
    grind
  grind
 grind
end
section
variable {C:bN}{F:gN}{β:Nat->Option Nat}{N:Nat->Prop}{H:HF}{fid:Nat}{K:j9}{w w':World}{P:Program}
def xS (_hG:bE C F)(hR:ad F β N H w){b o:Nat}{v:Value}(h:MV F β H w b o=some v):rd w b o=some v:=by
 unfold MV at h;split at h
 grind
 ·exact(hR.sT b o v h).1
def Hd {mv:Mem}{c:SC}{z:Nat}{new:Array Value}(hz:0<z)(hs:new.size=c.len*z)(hl: ∀i e,c.elem i=some e->e.length=z)
  (hr: ∀(i:Nat) (e:List SC) (j:Nat) (x:SC),c.elem i=some e->e[j]? =some x->dw mv eV (new.getD (i*z+j) undef) x): ∀u∈new.toList,u.oneCell'=true:=by
 intro u hu;obtain⟨k,hk⟩:=UM.1 hu;have pF:new[k]? =some u:=by grind
 have ak:k<new.size:=(FT.1 pF).1;have hi:k/z<c.len:=by rw[XP hz];omega
 obtain⟨e,he⟩:=SC.oe hi;have hj:k%z<e.length:=by rw[hl _ e he];exact s6 _ hz
 have:=hr _ e (k%z) e[k%z] he bq
 grind[Nat.div_add_mod,mg,S6]
theorem gc (hG:bE C F)(hR:ad F β N H w){d:DC}{v:Value}{k:Bool}{c:SC}{u:Hp}{r:List Nat}{z:Nat}(hd:co F β N H w v d)(hs:bv H k d=some (c,u,r))(hv:c.ao=true)(hz:0<z)
  (hl: ∀i e,c.elem i=some e->e.length=z): ∃(a:Option Addr) (cap:Nat) (new:Array Value),v= .slice a c.len cap/\(Builtin.firstCells z c.len v).run P w= .ok new w/\new.size=c.len*z/\c.len<=cap/\
   ∀(i:Nat) (e:List SC) (j:Nat) (x:SC),c.elem i=some e->e[j]? =some x->dw (MV F β H w) eV (new.getD (i*z+j) undef) x:=by
 have ahs:c.len=0->∀(a:Option Addr) (cap:Nat),v= .slice a 0 cap->∃(a:Option Addr) (cap:Nat) (new:Array Value),v= .slice a c.len cap/\(Builtin.firstCells z c.len v).run P w= .ok new w/\new.size=c.len*z/\c.len<=cap/\
   ∀(i:Nat) (e:List SC) (j:Nat) (x:SC),c.elem i=some e->e[j]? =some x->dw (MV F β H w) eV (new.getD (i*z+j) undef) x:=by
  rintro h0 a cap rfl;refine⟨a,cap,#[],by rw[h0],?_,by grind,by omega,λi e j x he _=>?_⟩
  ·cases a<;>simp[Builtin.firstCells,h0,loadCells,loadCellsFrom]
  ·exact ab1
 cases d with
 |st c'=>
  simp[bv]at hs;obtain⟨rfl,_,_⟩:=hs;have hd:dw _ _ _ _:=hd
  cases hd with
  |lit=>grind[SC.ao]
  |empty a cap _ h0=>grind
  |view b o cap z' f _ fN wt fX sw hc hr=>
   obtain⟨e0,RP⟩:=SC.oe fN;have:z'=z:=by grind
   subst this;refine⟨_,cap,((List.range (c'.len*z')).map f).toArray,rfl,?_,by simp,fX,λi e j x he hx=>?_⟩
   ·exact SP w _ _ f (λj hj=>by rw[addr_add];exact xS hG hR (hc j hj))
   ·exact aid
  |ref=>grind[SC.ao]
  |err=>grind[SC.ao]
  |num=>grind[SC.ao]
  |raw=>grind[SC.ao]
  |any=>grind[SC.ao]
  |fn=>grind[SC.ao]
 |nil=>
  simp[bv]at hs;obtain⟨rfl,_,_⟩:=hs;have:v= .slice none 0 0:=hd;exact ahs Yh none 0 this
 |own id=>
  simp only[bv]at hs;split at hs
  ·rename_i m z' c' e;simp at hs;obtain⟨rfl,_,_⟩:=hs;obtain⟨_,⟨wt,_,sw⟩,hb⟩:=hR.rel id _ e
   rcases hd.2.2 _ z' c'.len e rfl with⟨_,h0,h1⟩|⟨b,cap,arr,T,h1,h2,h3,h4⟩
   grind
   ·by_cases h0:c'.len=0
    ·grind
    rcases hb with⟨q,_⟩|⟨b',jG,q1,q2,arr',T',q3,q4,q5,q6,q7,q8,q9⟩
    ·omega
    rw[h1]at q1;cases q1;rw[h3]at q3;cases q3;obtain⟨e0,RP⟩:=SC.oe (show 0<c'.len by omega);have:z'=z:=by grind
    subst this;have eB:c'.len*z'<=arr.size:=by rw[q4];exact kE _ q7
    have fX:cap=jG:=UI wt K0;subst fX;subst h2;refine⟨_,cap,((List.range (c'.len*z')).map λk=>arr.getD k undef).toArray,rfl,?_,by simp,q7,λi e j x he hx=>?_⟩
    ·exact SP w _ _ _ (λj hj=>by rw[addr_add,j8];exact fZ h3 K0)
    ·exact aid
  grind[SC.ao]
  grind
 |ptr id off=>grind[bv]
 |cE id z i off=>grind[bv]
 |sD g id=>grind[bv]
 |mp id=>grind[bv]
def SC.zM {c d r:SC}(h:c.cat d=some r):c.ao=true/\d.ao=true/\r.ao=true/\r.len=c.len+d.len/\∀i e,r.elem i=some e->(i<c.len->c.elem i=some e)/\(¬i<c.len->d.elem (i -c.len)=some e):=by
 unfold SC.cat at h;split at h
 ·exact aii
 ·exact aii
 grind
def gt {T T' ty e:TypeId}{tf:TypeInfo}{e':TypeId}{z bytes:Nat}{zv:Value}(hT:P.underlying T=some (.slice e))(fj:P.underlying T'=some (.slice e'))(hE:P.info? e=some tf)(hz:tf.size=z)(hb:tf.bytes=bytes)(hzv:tf.zero=some zv)
  {base a:Option Addr}{sLen sCap n O1:Nat}{new old:Array Value}(hby:bytes<=4096)(FK:sLen+n<=4294967296):
  (sLen+n<=sCap->(Builtin.firstCells z n (.slice a n O1)).run P w= .ok new w->∀w',(match base with|some a=>storeCells (a.add (sLen*z)) new.toList|none=>pure ()).run P w= .ok () w'->
   (Builtin.append_ #[T,T'] ty #[.slice base sLen sCap,.slice a n O1]).run P w= .ok (.slice base (sLen+n) sCap) w')/\
  (¬sLen+n<=sCap->(Builtin.firstCells z sLen (.slice base sLen sCap)).run P w.drew= .ok old w.drew->(Builtin.firstCells z n (.slice a n O1)).run P w.drew= .ok new w.drew->
   ∃dK rest,sLen+n<=dK/\rest.size=(dK -(sLen+n))*zv.cells.size/\(Builtin.append_ #[T,T'] ty #[.slice base sLen sCap,.slice a n O1]).run P w=
    .ok (.slice (some ⟨w.heap.size,0,none⟩) (sLen+n) dK) (w.drew.alloc (.cells (old++new++rest) e))):=by
 have Pf: ∀(h:sCap<sLen+n),¬(Builtin.nextslicecap (sLen+n) sCap*bytes>2^48):=by
  intro h;have e:(2:Nat)^48=281474976710656:=by decide
  have:(sLen+n)*bytes<=4294967296*4096:=X9 FK hby;have:=growslice_fits h (bytes:=bytes) K0;omega
 have ahC: ¬(((sLen+n:Nat):Int)>IntKind.i64.max):=by grind[IntKind.max_i64]
 constructor
 ·intro nq nh w' eG;simp only[Builtin.append_];simp only[Lz,UL,Sj,eJ,sY hT,mw,sY fj,sizeOf,typeInfo,AS,hE,hz,lM,sV,kM,Builtin.lenOf,nq,if_true,Bool.not_false,nh];exact aj9
 ·intro nq xn amN;obtain⟨k,hk⟩: ∃k,Question.cut (.appendCap (sLen+n) sCap e) (w.tape w.drawn (.appendCap (sLen+n) sCap e))=sLen+n+k:=⟨_,rfl⟩;refine⟨sLen+n+k,Builtin.zeroCells zv.cells (sLen+n+k -(sLen+n)),by omega,by simp[Builtin.zeroCells],?_⟩;have hq:(choose (.appendCap (sLen+n) sCap e)).run P w= .ok (sLen+n+k) w.drew:=ajl;have hzr:(zeroValue e).run P w.drew= .ok zv w.drew:=by simp[zeroValue,typeInfo,hE,hzv]
  simp only[Builtin.append_]
  simp only[Lz,UL,Sj,eJ,sY hT,mw,sY fj,sizeOf,typeInfo,AS,hE,hz,lM,sV,kM,Builtin.lenOf,nq,
   ahC,false_and,hb,Pf K0,hq,run_askRoom,xn,amN,Bool.not_false,if_true,hzr]
  simp[newRow];first|done|rfl
def Tr.del (id:Nat):Tr F β N H w β N (bn H id none) w where
 below:=jx.refl _ _
 mem:=λb o v _ hs e=>⟨λiP bx e' hb=>by
  by_cases h:iP=id
  grind[am]
  ·rw[az _ _ _ h]at e';exact hs iP bx e' hb,e⟩
 used:=λ_ h=>h
 kK:=λ_ _=>rfl
 keep:=λiP bx _ e=>by
  by_cases h:iP=id
  grind[am]
  ·rw[az _ _ _ h]at e;exact⟨bx,e,bx.fU⟩
 size:=λ_ _ _ _ arr _ _ _ _ _ _ h=>⟨arr,h,rfl⟩
 ax:=λ_ _ h=>h
def ad.del (hR:ad F β N H w)(id:Nat):ad F β N (bn H id none) w:=by
 have live: ∀ {k:Nat} {b0:cB},bn H id none k=some b0->H k=some b0:=by grind[am,az]
 exact hR.step (Tr.del id) (λ_=>False) (λi bx _ e=>⟨live e,(hR.rel i bx (live e)).1,λ_ _=>rfl⟩) (λ_ _ h=>h.elim) (λi j b x y hi hj=>hR.inj i j b x y (live hi) (live hj))
structure C8 (mv:Mem) (z:Nat) (c:SC) (arr:Array Value):Prop where
 size:arr.size=c.len*z
 zN: ∀i e,c.elem i=some e->e.length=z
 rep: ∀(i:Nat) (e:List SC) (j:Nat) (x:SC),c.elem i=some e->e[j]? =some x->dw mv eV (arr.getD (i*z+j) undef) x
def C8.cat {mv:Mem}{z:Nat}{c d r:SC}{a b rest:Array Value}(hc:C8 mv z c a)(hd:C8 mv z d b)(h:c.cat d=some r):
  (∀i e,r.elem i=some e->e.length=z)/\∀(i:Nat) (e:List SC) (j:Nat) (x:SC),r.elem i=some e->e[j]? =some x->dw mv eV ((a++b++rest).getD (i*z+j) undef) x:=by
 obtain⟨_,_,_,bA,iF⟩:=SC.zM h
 have uD: ∀i e,r.elem i=some e->e.length=z:=by
  intro i e he;obtain⟨h1,h2⟩:=iF i e he;by_cases hi:i<c.len
  ·exact hc.zN i e (h1 hi)
  ·exact hd.zN _ e (h2 hi)
 refine⟨uD,λi e j x he hx=>?_⟩;obtain⟨h1,h2⟩:=iF i e he;have hj:j<z:=by grind
 by_cases hi:i<c.len
 ·have ak:i*z+j<a.size:=by
   rw[hc.size];have:(i+1)*z<=c.len*z:=kE _ hi
   grind
  rw[bL (b:=a) (l:=i*z+j) bq];exact hc.rep i e j x (h1 hi) hx
 ·have hi2:=SC.ip (h2 hi);have e1:(i -c.len)*z+c.len*z=i*z:=by exact ab5
  have ak:(i -c.len)*z+j<b.size:=by
   rw[hd.size];have:(i -c.len+1)*z<=d.len*z:=kE _ hi2
   grind
  rw[bL (b:=b) (l:=(i -c.len)*z+j) (by
   rw[XI akv,XN (by rw[hc.size];omega),hc.size]
   grind)]
  exact hd.rep _ e j x (h2 hi) hx
def zY (hR:ad F β N H w)(hf: ¬N fid){z:Nat}{c d r:SC}{a b rest:Array Value}{e:TypeId}{dK:Nat}{m:Bool}{H0:HF}{u:Hp}{R:List Nat}(hz:0<z)(hc:C8 (MV F β H w.drew) z c a)(hd:C8 (MV F β H w.drew) z d b)(h:c.cat d=some r)
  (fX:r.len<=dK)(O6:rest.size=(dK -r.len)*z)(h0: ∀H1,H1=u.on H->H1=bn H0 fid (some (.row m z r)))(ht:Tr F β N H w.drew β N H0 w.drew)(UC:ad F β N H0 w.drew)
  (hK:K (bm (.own fid)) u R):bh F β N H fid K w (.slice (some ⟨w.heap.size,0,none⟩) r.len dK) (w.drew.alloc (.cells (a++b++rest) e)):=by
 obtain⟨_,_,hv,bA,_⟩:=SC.zM h;obtain⟨uD,ij⟩:=C8.cat (rest:=rest) hc hd h;have zK:Below w.heap.size w w.drew:=(Below.refl _ _).drew;have td:Tr F β N H w β N H w.drew:=Tr.grow hR zK;have sR:Below w.drew.heap.size w.drew (w.drew.alloc (.cells (a++b++rest) e)):=Below.oc _ _;have jt: ∀x,some w.heap.size=some x->w.drew.heap.size<=x:=λx hx=>by simp_all
 have t2:=Tr.new (w':=w.drew.alloc (.cells (a++b++rest) e)) UC sR hf (some w.heap.size) jt (.row m z r)
 have IG:(a++b++rest).size =dK*z:=by
  have e1:dK*z=(dK -r.len)*z+r.len*z:=by exact ab5
  exact ajT
 have uE:(w.drew.alloc (.cells (a++b++rest) e)).heap[w.heap.size]? =some (.cells (a++b++rest) e):=gO w.drew _
 have abu:ir F (cQ β fid (some w.heap.size)) (Fw.bf N fid) (bn H0 fid (some (.row m z r))) (w.drew.alloc (.cells (a++b++rest) e)) fid (.row m z r):=
  ⟨⟨hz,hv,uD⟩,.inr ⟨w.heap.size,dK,by simp[cQ],gN.gG hR.below.size,_,e,uE,IG,hz,hv,fX,uD,λi e' j x he hx=>(ij i e' j x he hx).mono (ht.trans t2).mv (Mem.le_refl _)⟩⟩
 have hH:=ad.new UC sR hf (some w.heap.size) jt (.row m z r) abu;exact K81
end
section
variable {C:bN}{F:gN}{β:Nat->Option Nat}{N:Nat->Prop}{H:HF}{fid:Nat}{K:j9}{w w':World}{P:Program}
def He (hR:ad F β N H w)(hf: ¬N fid){z id b cap:Nat}{c d r:SC}{arr new:Array Value}{T:TypeId}{m:Bool}{R:List Nat}(hb:H id=some (.row m z c))(xp:β id=some b)(lC:w.heap[b]? =some (.cells arr T))
  (np:arr.size=cap*z)(hd:C8 (MV F β H w) z d new)(h:c.cat d=some r)(eB:c.len+d.len<=cap)
  (hK:K (bm (.own fid)) [(fid,some (.row m z r)),(id,none)] R):bh F β N H fid K w (.slice (some ⟨b,0,none⟩) r.len cap) (w.setRow b (aO arr (c.len*z) new.toList)):=by
 obtain⟨_,_,hv,bA,_⟩:=SC.zM h;obtain⟨hn,⟨hz,hv0,sC⟩,gE⟩:=hR.rel id _ hb
 rcases gE with⟨q,_⟩|⟨b',jG,q1,q2,arr',T',q3,q4,q5,q6,q7,q8,q9⟩
 ·grind
 rw[xp]at q1;cases q1;rw[lC]at q3;cases q3;have fX:cap=jG:=UI hz K0;subst fX;have AP:new.toList.length=d.len*z:=by simpa using hd.size
 have Pf:c.len*z+d.len*z<=arr.size:=ajX;have Pg:(aO arr (c.len*z) new.toList).size =arr.size:=fk K0;have Xj:id≠fid:=λe=>hf (e▸hn);have uE:(w.setRow b (aO arr (c.len*z) new.toList)).heap[b]? =some (.cells (aO arr (c.len*z) new.toList) T):=IV w b arr _ T (0,0) lC;have live: ∀ {k:Nat} {b0:cB},k≠fid->bn (bn H id none) fid (some (.row m z r)) k=some b0->k≠id/\H k=some b0:=by grind[az,am]
 have hT:Tr F β N H w (cQ β fid (some b)) (Fw.bf N fid) (bn (bn H id none) fid (some (.row m z r))) (w.setRow b (aO arr (c.len*z) new.toList)):=by
  refine⟨jx.setRow (hR.fY hb xp).2 _,λb' o v _ hs e=>⟨λiP bx e' jV=>?_,?_⟩,λ_ h=>.inl h,λiP Lk=>it _ _ _ λe=>hf (e▸Lk),λiP blk' Lk e=>?_,λ_ _ _ b' xm T0 _ _ _ _ _ e=>?_,mf ⟨_,_,lC⟩ _⟩
  ·by_cases hk:iP=fid
   ·subst hk;rw[am]at e';cases e';rw[jy]at jV;cases jV;obtain⟨h1,h2⟩:=hs id _ hb xp;have:c.len*z<=r.len*z:=kE _ K0;exact⟨h1,by omega⟩
   ·exact afS
  ·by_cases hk:b'=b
   ·subst hk;obtain⟨_,h2⟩:=hs id _ hb xp;have hg:=gb (arr:=arr) (off:=c.len*z) (vs:=new.toList) K0 o;rw[if_pos h2]at hg
    grind[rd,World.cell?]
   exact ab4
  ·exact afG
  grind[setRow_other]
 have hc:C8 (MV F β H w) z c (arr.extract 0 (c.len*z)):=by
  refine⟨by grind,sC,λi e j x he hx=>?_⟩;have hj:j<z:=by grind
  have ak:i*z+j<c.len*z:=by
   have:(i+1)*z<=c.len*z:=kE _ (SC.ip he)
   grind
  grind[bL]
 obtain⟨uD,ij⟩:=C8.cat (rest:=arr.extract (c.len*z+d.len*z) arr.size) hc hd h
 have an3:aO arr (c.len*z) new.toList=arr.extract 0 (c.len*z)++new++arr.extract (c.len*z+d.len*z) arr.size:=by
  apply G7;have e1:arr.size=arr.toList.length:=by simp
  simp only[aO,Array.toList_append,Array.toList_extract,AP,e1]
  grind[List.take_of_length_le]
 have hH:ad F (cQ β fid (some b)) (Fw.bf N fid) (bn (bn H id none) fid (some (.row m z r))) (w.setRow b (aO arr (c.len*z) new.toList)):=by
  refine hR.step hT (λi=>i=fid) (λi bx hi e=>?_) (λi bx hi e=>?_) (λi j x y y' hi hj bi bj=>?_)
  ·exact K73
  ·subst hi;rw[am]at e;cases e;refine⟨.inr rfl,⟨hz,hv,uD⟩,.inr ⟨b,cap,by simp[cQ],q2,_,T,uE,by omega,hz,hv,by omega,uD,λi e' j x he hx=>?_⟩⟩;have:=(ij i e' j x he hx).mono hT.mv (Mem.le_refl _)
   grind
  ·exact K21
 refine⟨_,_,_,R,hK,hT,hH,cH ⟨.inr rfl,rfl,λnL z' n' jV wt=>?_⟩⟩;have:bn (bn H id none) fid (some (.row m z r)) fid=some nL:=jV;exact afD
def C9 (hf: ¬N fid){z:Nat}{r:SC}{m:Bool}{H0:HF}{u:Hp}{R:List Nat}(hz:0<z)(hv:r.ao=true)(h0:r.len=0)(hu: ∀i e,r.elem i=some e->e.length=z)
  (hH0: ∀H1,H1=u.on H->H1=bn H0 fid (some (.row m z r)))(ht:Tr F β N H w β N H0 w)(UC:ad F β N H0 w)(hK:K (bm (.own fid)) u R):bh F β N H fid K w (.slice none 0 0) w:=by
 have hw:Below w.heap.size w w:=Below.refl _ _;have t2:=Tr.new UC hw hf none (by simp) (.row m z r);have hH:=ad.new UC hw hf none (by simp) (.row m z r) ⟨⟨hz,hv,hu⟩,.inl ⟨by simp[cQ],h0⟩⟩;have hu1:=hH0 _ rfl;refine⟨cQ β fid none,_,u,R,hK,by rw[hu1];exact ht.trans t2,by grind,?_⟩;rw[hu1];refine cH ⟨.inr rfl,rfl,λnL z' n' hb wt=>?_⟩;exact ajj
def U7 (hC:C.Ok)(hG:bE C F)(hR:ad F β N H w)(hf: ¬N fid){T T' ty:TypeId}{i':TI}{e':TypeId}{x y:DX}{v0 v1:Value}(kH:C.ti T'=some i')(IK:i'.b8= .slice e')
  (hx:aq F β N H w v0 x)(hy:aq F β N H w v1 y)(h:qX C fid T x y H K):
  ∃v w',(Builtin.append_ #[T,T'] ty #[v0,v1]).run C.P w= .ok v w'/\bh F β N H fid K w v w':=by
 obtain⟨tf',d',zv',fj⟩:=hC.get kH;have xf:=dm (fj.b8.trans IK);have OX:C.P.underlying T'=some (.slice e'):=by rw[fj.IP,xf]
 unfold qX at h;split at h
 ·grind
 rename_i i hi;obtain⟨tf,d,zv,hT⟩:=hC.get hi;split at h
 ·rename_i e yc bV;have hd:=dm (hT.b8.trans bV);have hu:C.P.underlying T=some (.slice e):=by rw[hT.IP,hd]
  split at h
  ·grind
  rename_i ie lE;obtain⟨ef,ed,ez,hE⟩:=hC.get lE;split at h
  ·grind
  rename_i hb;obtain⟨hb,hzl⟩:=aH hb;obtain⟨h1,h2⟩:=aH hb;have hzl:=o7 hzl;have hzc:ez.cells.size=ie.size:=by exact aga
  have h1:=fO h1;have h2:=fO h2;split at h
  ·grind
  rename_i cy uy ry eG;have hyd:=hy.al;have zK:Below w.heap.size w w.drew:=(Below.refl _ _).drew;have td:Tr F β N H w β N H w.drew:=Tr.grow hR zK;have Pa:ad F β N H w.drew:=hR.grow zK;have abz:=td.ju hR hyd;split at h
  ·
   have Ca:v0= .slice none 0 0:=hx.al;subst Ca;split at h
   ·rename_i c' zF;obtain⟨hun,FK,h⟩:=h;obtain⟨_,hvy,Ps,bA,iF⟩:=SC.zM zF;have sC:(AX (C.kL e)).len =0:=by cases C.kL e<;>rfl
    have Pq: ∀i e,cy.elem i=some e->e.length=ie.size:=by
     intro i el he;refine xR hun i el ?_;unfold SC.cat at zF
     grind[SC.elem]
    by_cases GQ:cy.len=0
    ·obtain⟨a,cap,new,rfl,nh,IH,Xq,ij⟩:=gc hG hR (z:=ie.size) hyd eG hvy h1 Pq;have bB:=(gt (P:=C.P) (w:=w) (ty:=ty) (base:=none) (sLen:=0) (sCap:=0) (old:= #[]) hu OX hE.od hE.size hE.bytes hE.zero h2 (show 0+cy.len<=4294967296 by omega)).1 K0 nh w rfl;rw[GQ]at bB;refine⟨_,w,by rw[GQ];exact bB,?_⟩;exact C9 (u:=[(fid,some (.row true ie.size c'))]) hf h1 Ps K0 (xR hun) (λ_ h=>h) Tr.refl hR h
    ·obtain⟨a,cap,new,rfl,nh,IH,Xq,ij⟩:=gc hG Pa (z:=ie.size) abz eG hvy h1 Pq
     obtain⟨dK,rest,g1,g2,bB⟩:=(gt (P:=C.P) (w:=w) (ty:=ty) (base:=none) (sLen:=0) (sCap:=0) (old:= #[]) hu OX hE.od hE.size hE.bytes hE.zero h2 (show 0+cy.len<=4294967296 by
      have:c'.len<=4294967296:=FK
      omega)).2 K0 akw nh
     have aoe:0+cy.len=c'.len:=by omega
     rw[aoe]at bB g1 g2;refine⟨_,_,bB,?_⟩;refine zY (u:=[(fid,some (.row true ie.size c'))]) (c:=AX (C.kL e)) (d:=cy) (a:= #[]) (b:=new) hR hf h1 ⟨by grind,λi e he=>?_,λi e j x he _=>?_⟩ ⟨IH,Pq,ij⟩ zF K0 ?_ (λ_ h=>h) Tr.refl Pa h
     grind[SC.ip]
     grind[SC.ip]
     grind
   grind
  ·rename_i id;split at h
   ·rename_i m z c hbk;split at h
    ·rename_i c' pY zF;have pY:=o7 pY;subst pY;obtain⟨hun,FK,h⟩:=h;obtain⟨hvc,hvy,Ps,bA,iF⟩:=SC.zM zF;have Pq:=xR hun;obtain⟨hn,h1c,jq⟩:=hx.al;have hxd:co F β N H w v0 (.own id):=hx.al;obtain⟨_,⟨hz,_,sC⟩,gE⟩:=hR.rel id _ hbk;obtain⟨us,ahl⟩: ∃us,bv H false (.own id)=some (c,us,[id]):=by simp[bv,hbk]
     have abp:(∀i e,c'.elem i=some e->e.length=ie.size):=by grind
     have O4:c.len+cy.len<=4294967296:=by
      have:c'.len<=4294967296:=FK;omega
     have afq: ∀(base:Option Addr) (cap:Nat),v0= .slice base c.len cap->¬c.len+cy.len<=cap->∃v w',(Builtin.append_ #[T,T'] ty #[v0,v1]).run C.P w= .ok v w'/\bh F β N H fid K w v w':=by
      rintro base cap rfl hgt;obtain⟨a,O1,new,rfl,nh,IH,Xq,ij⟩:=gc hG Pa (z:=ie.size) abz eG hvy h1 Pq;obtain⟨a0,ahw,old,e0,xn,hos,amM,abv⟩:=gc hG Pa (z:=ie.size) (td.ju hR hxd) ahl hvc h1 sC;cases e0;obtain⟨dK,rest,g1,g2,bB⟩:=(gt (P:=C.P) (w:=w) (ty:=ty) (base:=base) (sLen:=c.len) (sCap:=cap) hu OX hE.od hE.size hE.bytes hE.zero h2 O4).2 hgt xn nh;rw[<- bA]at bB g1 g2;refine⟨_,_,bB,?_⟩;refine zY (u:=[(fid,some (.row m ie.size c')),(id,none)]) (H0:=bn H id none) hR hf h1 ⟨hos,sC,abv⟩ ⟨IH,Pq,ij⟩ zF g1 ?_ (λ_ h=>h) (Tr.del id) (Pa.del id) h
      grind
     rcases jq _ ie.size c.len hbk rfl with⟨b1,b2,rfl⟩|⟨b,cap,arr,T0,b1,rfl,b3,b4⟩
     ·by_cases GQ:cy.len=0
      ·obtain⟨a,cap,new,rfl,nh,IH,Xq,ij⟩:=gc hG hR (z:=ie.size) hyd eG hvy h1 Pq;have bB:=(gt (P:=C.P) (w:=w) (ty:=ty) (base:=none) (sLen:=0) (sCap:=0) (old:= #[]) hu OX hE.od hE.size hE.bytes hE.zero h2 (show 0+cy.len<=4294967296 by omega)).1 K0 nh w rfl;rw[GQ]at bB;refine⟨_,w,by rw[GQ];exact bB,?_⟩;exact C9 (u:=[(fid,some (.row m ie.size c')),(id,none)]) (H0:=bn H id none) hf h1 Ps K0 abp (λ_ h=>h) (Tr.del id) (hR.del id) h
      grind
     ·by_cases nq:c.len+cy.len<=cap
      ·obtain⟨a,O1,new,rfl,nh,IH,Xq,ij⟩:=gc hG hR (z:=ie.size) hyd eG hvy h1 Pq;have sQ:=Hd h1 IH Pq ij
       have Pf:c.len*ie.size+new.toList.length<=arr.size:=by
        have:new.toList.length=cy.len*ie.size:=by omega
        exact ajK
       have aml:=Sv C.P b (c.len*ie.size) T0 new.toList 0 arr w b3 K0 sQ
       have bB:=(gt (P:=C.P) (w:=w) (ty:=ty) (base:=some ⟨b,0,none⟩) (sLen:=c.len) (sCap:=cap) (old:= #[]) hu OX hE.od hE.size hE.bytes hE.zero h2 O4).1 nq nh (w.setRow b (aO arr (c.len*ie.size) new.toList)) (by
        simp only[addr_add,j8]
        grind[aO])
       rw[<- bA]at bB;exact⟨_,_,bB,He hR hf hbk b1 b3 b4 ⟨IH,Pq,ij⟩ zF nq h⟩
      grind
    grind
   grind
  grind
 grind
def tp {T T' ty e:TypeId}{tf:TypeInfo}{kq kn:IntKind}{z bytes:Nat}{zv:Value}(hT:P.underlying T=some (.slice e))(fj:P.underlying T'=some (.int kn))(hE:P.info? e=some tf)(hz:tf.size=z)(hb:tf.bytes=bytes)(hzv:tf.zero=some zv)
  {base:Option Addr}{sLen sCap n:Nat}{old:Array Value}(hby:bytes<=4096)(FK:sLen+n<=4294967296)(hz0:0<z):
  (sLen+n<=sCap->∀w',(match base with|some a=>storeCells (a.add (sLen*z)) (Builtin.zeroCells zv.cells n).toList |none=>pure ()).run P w= .ok () w'->
   (Builtin.append_ #[T,T'] ty #[.slice base sLen sCap,.int kq n]).run P w= .ok (.slice base (sLen+n) sCap) w')/\
  (¬sLen+n<=sCap->(Builtin.firstCells z sLen (.slice base sLen sCap)).run P w.drew= .ok old w.drew->
   ∃dK rest,sLen+n<=dK/\rest.size=(dK -(sLen+n))*zv.cells.size/\(Builtin.append_ #[T,T'] ty #[.slice base sLen sCap,.int kq n]).run P w=
    .ok (.slice (some ⟨w.heap.size,0,none⟩) (sLen+n) dK) (w.drew.alloc (.cells (old++Builtin.zeroCells zv.cells n++rest) e))):=by
 have Pf: ∀(h:sCap<sLen+n),¬(Builtin.nextslicecap (sLen+n) sCap*bytes>2^48):=by
  intro h;have e:(2:Nat)^48=281474976710656:=by decide
  have:(sLen+n)*bytes<=4294967296*4096:=X9 FK hby;have:=growslice_fits h (bytes:=bytes) K0;omega
 have ahC: ¬(((sLen+n:Nat):Int)>IntKind.i64.max):=by grind[IntKind.max_i64]
 have hw:IntKind.i64.wrap (n:Int)=n:=wrap_small K0 K0;have La: ¬((n:Int)<0):=by omega
 have h48: ¬((n:Int)*(bytes:Int)>2^48):=by
  have e:(2:Int)^48=281474976710656:=by decide
  rw[e];have:(n:Int)*(bytes:Int)<=4294967296*4096:=CV K0 K0 K0 K0;omega
 have hzr: ∀w,(zeroValue e).run P w= .ok zv w:=λw=>by simp[zeroValue,typeInfo,hE,hzv]
 have h0: ∀w:World,(if n*z=0 then pure #[]else(do pure (Builtin.zeroCells (<- zeroValue e).cells n):Sem (Array Value))).run P w= .ok (Builtin.zeroCells zv.cells n) w:=by
  intro w;by_cases h:n=0
  ·subst h;simp[Builtin.zeroCells]
  ·have: ¬n*z=0:=Nat.mul_ne_zero h K0;simp_all
 constructor
 ·intro nq w' eG;simp only[Builtin.append_];simp only[Lz,UL,Sj,eJ,sY hT,mw,sY fj,sizeOf,typeInfo,AS,hE,hz,hb,lM,if_true,asInt,asIntOf,hw,La,kM,h48,p8,nq,Bool.not_true,sV];rw[show((if n*z=0 then pure #[]else zeroValue e>>= λx=>pure (Builtin.zeroCells x.cells n):Sem (Array Value)).run P w)= .ok (Builtin.zeroCells zv.cells n) w from h0 w];exact aj9
 ·intro nq xn;obtain⟨k,hk⟩: ∃k,Question.cut (.appendCap (sLen+n) sCap e) (w.tape w.drawn (.appendCap (sLen+n) sCap e))=sLen+n+k:=⟨_,rfl⟩;refine⟨sLen+n+k,Builtin.zeroCells zv.cells (sLen+n+k -(sLen+n)),by omega,by simp[Builtin.zeroCells],?_⟩;have hq:(choose (.appendCap (sLen+n) sCap e)).run P w= .ok (sLen+n+k) w.drew:=ajl;simp only[Builtin.append_]
  simp only[Lz,UL,Sj,eJ,sY hT,mw,sY fj,sizeOf,typeInfo,AS,hE,hz,hb,lM,if_true,asInt,asIntOf,hw,La,kM,h48,p8,nq,Bool.not_true,sV,
   ahC,false_and,Pf K0,hq,run_askRoom,xn]
  rw[show((if n*z=0 then pure #[]else zeroValue e>>= λx=>pure (Builtin.zeroCells x.cells n):Sem (Array Value)).run P w.drew)= .ok (Builtin.zeroCells zv.cells n) w.drew from h0 w.drew];simp[hzr,newRow]
theorem Da (_hC:C.Ok){e:TypeId}{ie:TI}{ef:TypeInfo}{ed:TypeDesc}{ez:Value}(hE:L4 C.P e ie ef ed ez){n:Nat}{cy:SC}(aou:1<=ie.size)(hzc:ez.cells.size=ie.size)(h:IZ C e ie n=some cy)(mv:Mem):
  cy.ao=true/\cy.len=n/\C8 mv ie.size cy (Builtin.zeroCells ez.cells n):=by
 have key: ∀(c:SC) (el:List SC),c.ao=true->c.len=n->(∀i e,c.elem i=some e->e=el)->el.length=ie.size->(∀(mv mr:Mem) (k:Nat) (x:SC),el[k]? =some x->∃v,ez.cells[k]? =some v/\dw mv mr v x)->
   c.ao=true/\c.len=n/\C8 mv ie.size c (Builtin.zeroCells ez.cells n):=by
  intro c el cv cl ce cel cz;refine⟨cv,cl,by grind[Builtin.zeroCells],λi e he=>by grind,λi e j x he hx=>?_⟩;have:=ce i e he;subst this;have hj:j<ie.size:=by grind
  obtain⟨v,v1,v2⟩:=cz mv eV j x hx;have kH:i<n:=by rw[<- cl];exact SC.ip he
  have ak:i*ie.size+j<n*ie.size:=by
   have:(i+1)*ie.size<=n*ie.size:=kE _ K0
   grind
  have hm:(i*ie.size+j)%ie.size=j:=by grind[Nat.mul_comm,Nat.mul_add_mod,Nat.mod_eq_of_lt]
  rw[mg (v:=v) (by
   simp only[Builtin.zeroCells,hzc,Array.getElem?_map,Array.getElem?_range,ak,if_true,xJ,hm]
   grind)]
  exact v2
 unfold IZ at h;split at h
 ·split at h
  ·rename_i FB;simp at h;subst h;have aer:=hE.xC;rw[FB]at aer
   have l7:ez.cells= #[.int .i64 0]:=by
    apply G7
    cases hl:ez.cells.toList with
    |nil=>grind
    |cons v t=>
     rw[hl]at aer;simp at aer;obtain⟨hv,rfl⟩:=aer;unfold BN at hv
     grind
   refine key _ [.lit (.int .i64 0)] rfl Yi (λi e he=>?_) bq (λmv mr k x hk=>?_)
   grind[SC.elem]
   ·exact aiW
  grind
 ·split at h
  ·rename_i zs hzs;simp at h;subst h;rw[<- hE.xC]at hzs;obtain⟨b1,b2,b3⟩:=qb hzs
   refine key _ zs rfl Yi (λi e he=>?_) bq (λmv mr k x hk=>by
    simp_all)
   grind[SC.elem]
  grind
def PL (hC:C.Ok)(hG:bE C F)(hR:ad F β N H w)(hf: ¬N fid){T T' ty:TypeId}{i':TI}{k':IntKind}{x y:DX}{v0 v1:Value}(kH:C.ti T'=some i')(IK:i'.b8= .int k')
  (hx:aq F β N H w v0 x)(hy:aq F β N H w v1 y)(h:p9 C fid T x y H K):
  ∃v w',(Builtin.append_ #[T,T'] ty #[v0,v1]).run C.P w= .ok v w'/\bh F β N H fid K w v w':=by
 obtain⟨tf',d',zv',fj⟩:=hC.get kH;have xf:=rc (fj.b8.trans IK);have OX:C.P.underlying T'=some (.int k'):=by rw[fj.IP,xf]
 unfold p9 at h;split at h
 ·grind
 rename_i i hi;obtain⟨tf,d,zv,hT⟩:=hC.get hi;split at h
 ·rename_i e kq n bV;have hd:=dm (hT.b8.trans bV);have hu:C.P.underlying T=some (.slice e):=by rw[hT.IP,hd]
  obtain⟨rfl,_⟩:=hy.al.bw;split at h
  ·grind
  rename_i ie lE;obtain⟨ef,ed,ez,hE⟩:=hC.get lE;split at h
  ·grind
  rename_i hb;obtain⟨hb,hzl⟩:=aH hb;obtain⟨h1,h2⟩:=aH hb;have hzl:=o7 hzl;have hzc:ez.cells.size=ie.size:=by exact aga
  have h1:=fO h1;have h2:=fO h2;obtain⟨⟨GQ,hn1⟩,h⟩:=h;split at h
  ·grind
  rename_i cy hzr;obtain⟨m0,rfl⟩: ∃m:Nat,n=m:=⟨n.toNat,by omega⟩;rw[p8]at hzr;have zK:Below w.heap.size w w.drew:=(Below.refl _ _).drew;have td:Tr F β N H w β N H w.drew:=Tr.grow hR zK;have Pa:ad F β N H w.drew:=hR.grow zK;obtain⟨hvy,hly,hcd⟩:=Da hC hE h1 hzc hzr (MV F β H w.drew);obtain⟨_,_,R3⟩:=Da hC hE h1 hzc hzr (MV F β H w);split at h
  ·rename_i id;split at h
   ·rename_i m z c hbk;split at h
    ·rename_i c' pY zF;have pY:=o7 pY;subst pY;obtain⟨FK,h⟩:=h;obtain⟨hvc,_,Ps,bA,iF⟩:=SC.zM zF;obtain⟨hn,h1c,jq⟩:=hx.al;have hxd:co F β N H w v0 (.own id):=hx.al;obtain⟨_,⟨hz,_,sC⟩,gE⟩:=hR.rel id _ hbk;obtain⟨us,ahl⟩: ∃us,bv H false (.own id)=some (c,us,[id]):=by simp[bv,hbk]
     have O4:c.len+m0<=4294967296:=by
      have:c'.len<=4294967296:=FK;omega
     have abp:(∀i e,c'.elem i=some e->e.length=ie.size):=by
      intro i e he;obtain⟨g1,g2⟩:=iF i e he;by_cases hi:i<c.len
      grind
      ·exact R3.zN _ e (g2 hi)
     have afq: ∀(base:Option Addr) (cap:Nat),v0= .slice base c.len cap->¬c.len+m0<=cap->∃v w',(Builtin.append_ #[T,T'] ty #[v0,.int kq m0]).run C.P w= .ok v w'/\bh F β N H fid K w v w':=by
      rintro base cap rfl hgt;obtain⟨a0,ahw,old,e0,xn,hos,amM,abv⟩:=gc hG Pa (z:=ie.size) (td.ju hR hxd) ahl hvc h1 sC;cases e0;obtain⟨dK,rest,g1,g2,bB⟩:=(tp (P:=C.P) (w:=w) (ty:=ty) (kq:=kq) (base:=base) (sLen:=c.len) (sCap:=cap) hu OX hE.od hE.size hE.bytes hE.zero h2 O4 h1).2 hgt xn;have el:c.len+m0=c'.len:=by omega
      rw[el]at bB g1 g2;refine⟨_,_,bB,?_⟩;refine zY (u:=[(fid,some (.row m ie.size c')),(id,none)]) (H0:=bn H id none) hR hf h1 ⟨hos,sC,abv⟩ hcd zF g1 ?_ (λ_ h=>h) (Tr.del id) (Pa.del id) h
      grind
     rcases jq _ ie.size c.len hbk rfl with⟨b1,b2,rfl⟩|⟨b,cap,arr,T0,b1,rfl,b3,b4⟩
     ·by_cases O2:m0=0
      ·subst O2;have bB:=(tp (P:=C.P) (w:=w) (ty:=ty) (kq:=kq) (base:=none) (sLen:=0) (sCap:=0) (n:=0) (old:= #[]) hu OX hE.od hE.size hE.bytes hE.zero h2 K0 h1).1 K0 w rfl;refine⟨_,w,bB,?_⟩;exact C9 (u:=[(fid,some (.row m ie.size c')),(id,none)]) (H0:=bn H id none) hf h1 Ps K0 abp (λ_ h=>h) (Tr.del id) (hR.del id) h
      grind
     ·by_cases nq:c.len+m0<=cap
      ·have sQ: ∀u∈(Builtin.zeroCells ez.cells m0).toList,u.oneCell'=true:=Hd h1 R3.size R3.zN R3.rep
       have Pf:c.len*ie.size+(Builtin.zeroCells ez.cells m0).toList.length <=arr.size:=by
        have:(Builtin.zeroCells ez.cells m0).toList.length =cy.len*ie.size:=by simpa using R3.size
        rw[this,b4,<- SZ];exact kE _ K0
       have aml:=Sv C.P b (c.len*ie.size) T0 (Builtin.zeroCells ez.cells m0).toList 0 arr w b3 K0 sQ
       have bB:=(tp (P:=C.P) (w:=w) (ty:=ty) (kq:=kq) (base:=some ⟨b,0,none⟩) (sLen:=c.len) (sCap:=cap) (n:=m0) (old:= #[]) hu OX hE.od hE.size hE.bytes hE.zero h2 O4 h1).1 nq (w.setRow b (aO arr (c.len*ie.size) (Builtin.zeroCells ez.cells m0).toList)) (by
        simp only[addr_add,j8]
        grind[aO])
       have el:c.len+m0=c'.len:=by omega
       rw[el]at bB;exact⟨_,_,bB,He hR hf hbk b1 b3 b4 R3 zF K0 h⟩
      grind
    grind
   grind
  grind
 grind
def Yx {mv mr:Mem}{v x:Value}(h:dw mv mr v (.lit x)):v=x:=ai9
theorem A5: ∀ {es:List (List SC)} {l:List UInt8},mc es=some l->∀(i:Nat) (e:List SC),(SC.view es).elem i=some e->∃n,e= [.lit (.int .u8 n)]
 | [],_,_,i,e,he=>by grind[SC.elem]
 |x::es,l,h,i,e,he=>by
  unfold mc at h;split at h
  grind
  ·rename_i n r vG;cases vG;split at h
   ·rename_i l' sw
    cases i with
    |zero=>grind[SC.elem]
    |succ i=>exact A5 sw i e abS
   grind
  grind
theorem xT: ∀ {es:List (List SC)} {l:List UInt8},mc es=some l->∃ns:List Int,ns.length=es.length/\∀(k:Nat) (n:Int),ns[k]? =some n->(SC.view es).elem k=some [.lit (.int .u8 n)]
 | [],_,_=>⟨[],rfl,λk n h=>by grind⟩
 |x::es,l,h=>by
  unfold mc at h;split at h
  grind
  ·rename_i n r vG;cases vG;split at h
   ·rename_i l' sw;obtain⟨ns,h1,h2⟩:=xT sw;refine⟨n::ns,by grind,λk m hk=>?_⟩
    grind[SC.elem]
   grind
  grind
theorem L8: ∀(ns:List Int) (acc:ByteArray),ns.foldl (λr n=>r.push (UInt8.ofNat n.toNat)) acc=⟨acc.data++(ns.map λn=>UInt8.ofNat n.toNat).toArray⟩
 | [],acc=>by simp
 |n::ns,acc=>by
  rw[X5,L8 ns];simp_all
theorem Db: ∀ {es:List (List SC)} {l:List UInt8} {ns:List Int},mc es=some l->ns.length=es.length->(∀(k:Nat) (n:Int),ns[k]? =some n->(SC.view es).elem k=some [.lit (.int .u8 n)])->ns.map (λn=>UInt8.ofNat n.toNat)=l
 | [],l,ns,h,hl,_=>by grind[mc]
 |x::es,l,[],h,hl,_=>by grind
 |x::es,l,m::ns,h,hl,hn=>by
  unfold mc at h;split at h
  grind
  ·rename_i n r vG;cases vG;split at h
   ·rename_i l' sw;simp at h;subst h;have h0:=hn 0 m rfl;simp[SC.elem]at h0;subst h0;rw[jw,Db sw bq λk n hk=>by simpa [SC.elem]using hn (k+1) n bq]
   grind
  grind
theorem Yy (hC:C.Ok)(hG:bE C F)(hR:ad F β N H w){S T:TypeId}{x:DX}{v0:Value}(hx:aq F β N H w v0 x)(h:xO C S T x H K):
  ∃v,(convert S T v0).run C.P w= .ok v w/\bh F β N H fid K w v w:=by
 unfold xO at h;split at h
 ·rename_i i j hi hj;obtain⟨tf,d,z,hT⟩:=hC.get hi;obtain⟨tf',d',z',fj⟩:=hC.get hj;split at h
  ·rename_i k1 h1;split at h;case h_2=>grind
   rename_i k2 k3 n h2;have hd:=rc (hT.b8.trans h1);have xf:=rc (fj.b8.trans h2);obtain⟨rfl,_⟩:=hx.al.bw;refine⟨_,?_,bh.pure hR h (fT rfl)⟩;simp[convert,hT.cU,fj.cU,hd,xf,Conv.intToInt]
  ·rename_i h1;split at h;case h_2=>grind
   rename_i s h2;have hd:=me (hT.b8.trans h1);have xf:=me (fj.b8.trans h2);obtain⟨rfl,_⟩:=hx.al.bw;refine⟨_,?_,bh.pure hR h (fT rfl)⟩;simp[convert,hT.cU,fj.cU,hd,xf]
  ·rename_i e h1;split at h;case h_2=>grind
   rename_i dd h2;have hd:=dm (hT.b8.trans h1);have xf:=me (fj.b8.trans h2);split at h
   ·rename_i es uu rr hby eG;split at h
    ·rename_i l hl;unfold zU at hby;split at hby
     ·rename_i ie lE;obtain⟨ef,ed,ez,hE⟩:=hC.get lE;split at hby
      ·rename_i jd;have hz1:=o7 hby;have hed:=rc (hE.b8.trans jd);have hes: ∀i e,(SC.view es).elem i=some e->e.length=1:=λi e he=>by grind[A5]
       obtain⟨a,cap,new,rfl,bB,np,fX,ij⟩:=gc hG hR (z:=1) hx.al eG rfl K9 hes;obtain⟨ns,IH,hbs⟩:=xT hl
       have nh:new.toList=ns.map (Value.int .u8):=by
        apply LG;intro k;by_cases hk:k<es.length
        ·obtain⟨n,hn⟩: ∃n,ns[k]? =some n:=⟨ns[k]'K0,oX K0⟩;have he:=hbs k n hn;have:=ij k _ 0 _ he rfl;simp only[AT,CQ]at this;have xw:k<new.size:=by grind[SC.len]
         have hr2:=Yx this;simp_all
        grind[SC.len]
       have e1:(SC.view es).len =ns.length:=by grind[SC.len]
       refine⟨_,?_,bh.pure hR h (fT rfl)⟩;simp only[convert,eJ,hT.cU,fj.cU,hd,xf,mw]
       cases a with
       |none=>
        have:new= #[]:=by simpa [Builtin.firstCells]using bB.symm
        rw[this]at nh;have aob:ns= []:=by grind
        subst aob;have sC:l= []:=by grind[mc]
        subst sC;simp[hE.cU,hed,Conv.bytesToString];rfl
       |some a=>
        have afp:(loadCells a (SC.view es).len).run C.P w= .ok (ns.map (Value.int .u8)).toArray w:=by
         have:(ns.map (Value.int .u8)).toArray =new:=by grind
         rw[this];simpa [Builtin.firstCells]using bB
        have hb:=Db hl IH hbs;simp only[hE.cU,hed,mw];rw[e1]at afp ⊢;rw[run_bytesToString w a ns.length cap ns afp,L8,hb];simp
      grind
     grind
    grind
   grind
  grind
 grind
end
section
variable {C:bN}{F:gN}{β:Nat->Option Nat}{N:Nat->Prop}{H:HF}{fid:Nat}{K:j9}{w w':World}{P:Program}
theorem Hf: ∀ {ds:List (Option DV)} {l:List SV} {u:Hp} {r:List Nat},cD.firsts H ds=some (l,u,r)->(∀p∈u,md H p)/\l.length=ds.length/\
  ∀(j:Nat) (g:Bool) (cs:List SC),l[j]? =some (g,cs)->∃x ue re,ds[j]? =some (some (.val x))/\x.1=g/\bS H [] x.2=some (cs,ue,re)/\∀q∈ue,q∈u
 | [],l,u,r,h=>by grind[cD.firsts]
 |d::ds,l,u,r,h=>by
  unfold cD.firsts at h;split at h
  grind
  ·rename_i x xs vG;cases vG;split at h
   ·rename_i c u1 r1 h1;split at h
    ·rename_i cs u2 r2 h2;simp at h;obtain⟨rfl,rfl,_⟩:=h;obtain⟨q1,q2,q3⟩:=Hf h2;refine⟨λp hp=>?_,by grind,λj g c' hj=>?_⟩
     grind[cJ]
     ·cases j with
      |zero=>
       grind
      |succ j=>
       obtain⟨x',ue,re,a1,a2,a3,a4⟩:=q3 j g c' bq
       grind
    grind
   grind
  grind
def Ta (C:bN)(H:HF)(u:Hp)(d:Option DV)(cs:List SC):Prop:=
 (∃id,d=some (.val (false,[.ptr id 0]))/\(H id=some (.dZ cs)\/((id,some (.dZ cs))∈u/\∃t ds ue re,H id=some (.box t ds)/\bS H (C.kinds t) ds=some (cs,ue,re)/\∀q∈ue,q∈u)))\/
 d=some (.val (false,[.st (.ref cs)]))
def Ta.mono {u v:Hp}(h: ∀q∈u,q∈v){d:Option DV}{cs:List SC}(hc:Ta C H u d cs):Ta C H v d cs:=by
 rcases hc with⟨id,h1,h2|⟨h2,t,ds,ue,re,h3,h4,h5⟩⟩|h1
 ·exact .inl ⟨id,h1,.inl h2⟩
 ·exact .inl ⟨id,h1,.inr ⟨h _ h2,t,ds,ue,re,h3,h4,λq hq=>h _ (h5 q hq)⟩⟩
 ·exact .inr h1
theorem xU: ∀ {ds:List (Option DV)} {l:List (List SC)} {u:Hp} {r:List Nat},cD.capts C H ds=some (l,u,r)->ig C H u/\l.length=ds.length/\∀(j:Nat) (cs:List SC),l[j]? =some cs->∃d,ds[j]? =some d/\Ta C H u d cs
 | [],l,u,r,h=>by grind[cD.capts,ig]
 |d::ds,l,u,r,h=>by
  unfold cD.capts at h;split at h
  grind
  ·rename_i id xs vG;cases vG;split at h
   ·rename_i cs hb;split at h
    ·rename_i l2 u2 r2 h2;simp at h;obtain⟨rfl,rfl,_⟩:=h;obtain⟨q1,q2,q3⟩:=xU h2;refine⟨q1,by grind,λj c' hj=>?_⟩
     cases j with
     |zero=>simp at hj;subst hj;exact⟨_,rfl,.inl ⟨id,rfl,.inl hb⟩⟩
     |succ j=>grind
    grind
   ·rename_i t cs hb;split at h
    ·rename_i c u1 r1 h1;split at h
     ·rename_i l2 u2 r2 h2;simp at h;obtain⟨rfl,rfl,_⟩:=h;obtain⟨q1,q2,q3⟩:=xU h2
      have hg:ig C H ((id,some (.dZ c))::(u1++u2)):=by
       intro p hp;rcases dh.1 hp with rfl|hp
       ·exact .inr ⟨t,cs,c,u1,r1,hb,rfl,h1,λq hq=>i8 _ (gC.2 (.inl hq))⟩
       ·rcases gC.1 hp with hp|hp
        ·exact .inl (cJ h1 p hp)
        ·rcases q1 p hp with h|⟨t',xk,l',ul',rl',e1,e2,e3,e4⟩
         ·exact .inl h
         ·exact .inr ⟨t',xk,l',ul',rl',e1,e2,e3,λq hq=>i8 _ (gC.2 (.inr (e4 q hq)))⟩
      refine⟨hg,by grind,λj c' hj=>?_⟩
      cases j with
      |zero=>
       simp at hj;subst hj;exact⟨_,rfl,.inl ⟨id,rfl,.inr ⟨by simp,t,cs,u1,r1,hb,h1,λq hq=>i8 _ (gC.2 (.inl hq))⟩⟩⟩
      |succ j=>
       obtain⟨d',e1,e2⟩:=q3 j c' bq;exact⟨d',by grind,e2.mono λq hq=>i8 _ (gC.2 (.inr hq))⟩
     grind
    grind
   grind
  ·rename_i cs xs vG;cases vG;split at h
   ·rename_i l2 u2 r2 h2;simp at h;obtain⟨rfl,rfl,_⟩:=h;obtain⟨q1,q2,q3⟩:=xU h2;refine⟨q1,by grind,λj c' hj=>?_⟩
    cases j with
    |zero=>simp at hj;subst hj;exact⟨_,rfl,.inr rfl⟩
    |succ j=>grind
   grind
  grind
def Yz (hR:ad F β N H w){id b:Nat}{cs:List SC}(hb:H id=some (.dZ cs))(xp:β id=some b):dw (MV F β H w) (MR F β H w) (.pointer (some ⟨b,0,none⟩)) (.ref cs):=by
 obtain⟨_,b',arr,T,h1,h2,h3,h4,h5⟩:=hR.rel id _ hb;rw[xp]at h1;cases h1;refine .ref b 0 (λk=>arr.getD k undef) (λk hk=>?_) h5;rw[j8];unfold MR;rw[if_pos h2,qZ h2 (th hR (o5.refl H) hb xp k)]
 grind[fZ]
def L9 (hG:bE C F)(hR:ad F β N H w){E:EF}{a:Act}(hE:dE F β N H w E a){f:FuncId}{first bI:Array Operand}
  (h:cD C f (first.toList.map (C.ev E)) (bI.toList.map (C.ev E)) H K):
  ∃v,(Instr.makeFunc (.func f) (first.map a.eval) (bI.map a.eval)).run P w= .ok v w/\bh F β N H fid K w v w:=by
 unfold cD at h;split at h
 ·rename_i fs u1 r1 h1;split at h
  ·rename_i cs u2 r2 h2;obtain⟨p1,p2,p3⟩:=Hf h1;obtain⟨q1,q2,q3⟩:=xU h2;have hg:ig C H (u1++u2):=(ig.ko p1).append q1;have hH:=hg.heap hR
   have l6: ∀ {ue:Hp} {ks:List Bool} {ds:List DC} {l:List SC} {re:List Nat},bS H ks ds=some (l,ue,re)->(∀q∈ue,q∈u1++u2)->∀p∈ue,∃z c,p.2=some (.row false z c)/\(Hp.on (u1++u2) H) p.1=some (.row false z c):=
    λhs hq p hp=>hg.frozen (hq p hp) (cJ hs p hp)
   refine⟨_,rfl,bh.still hR hg h (cj.bf (cH ?_))⟩
   have uG: ∀(j:Nat) (g:Bool) (c:List SC),fs[j]? =some (g,c)->er (MV F β (Hp.on (u1++u2) H) w) (MR F β (Hp.on (u1++u2) H) w) ((first.map a.eval).getD j undef) (g,c):=by
    intro j g c hj;obtain⟨x,ue,re,e1,e2,e3,e4⟩:=p3 j g c hj;simp at e1;obtain⟨o,ho,oW⟩:=e1;have hx:aq F β N H w (a.eval o) x:=mA hG hR hE oW;have iQ:(first.map a.eval).getD j undef=a.eval o:=by simp_all
    rw[iQ];have hq: ∀q∈ue,q∈u1++u2:=λq hq=>gC.2 (.inl (e4 q hq));obtain⟨xg,xc⟩:=x;simp at e2;subst e2;cases xg
    ·obtain⟨d,hd,II⟩:=hx;simp at hd;subst hd;have hl:=iu e3;obtain⟨c0,rfl⟩: ∃c0,c= [c0]:=xG.1 K0;refine⟨c0,rfl,?_⟩
     exact iy hR hg.soft (f:=λ_=>a.eval o) (λk d' hk=>by
      grind) e3 (l6 e3 hq) 0 c0 rfl
    ·obtain⟨arr,h3,h4,h5⟩:=hx;refine⟨arr,h3,by grind[iu],?_⟩;exact iy hR hg.soft (f:=λk=>arr.getD k undef) h5 e3 (l6 e3 hq)
   refine .fn _ _ (λj=>match(first.map a.eval).getD j undef with| .agg arr=>arr|_=> #[]) bq bq (λj c hj=>?_) (λj c hj=>?_) (λj c hj=>?_) (λj c k x hj hk=>?_) (λj c hj=>?_)
   ·exact akr
   ·exact akr
   ·obtain⟨arr,h3,h4,_⟩:=uG j _ _ hj
    grind
   ·obtain⟨arr,h3,h4,h5⟩:=uG j _ _ hj
    grind
   ·obtain⟨d,e1,e2⟩:=q3 j c hj;simp at e1;obtain⟨o,ho,oW⟩:=e1;have iQ:(bI.map a.eval).getD j undef=a.eval o:=by simp_all
    rw[iQ];rcases e2 with⟨id,rfl,e2⟩|rfl
    ·have hx:aq F β N H w (a.eval o) _:=mA hG hR hE oW;obtain⟨hn,b,jt,hp⟩:=hx.al;rw[hp];refine Yz hH ?_ jt;rcases e2 with e2|⟨e2,t,ds,ue,re,e3,e4,e5⟩
     ·rcases hg.soft id with h|⟨_,_,_,h,_⟩|⟨_,_,_,h,_⟩
      grind
      grind
      grind
     ·exact hg.afw (gC.2 (.inr e2)) e3 e4
    ·have hx:aq F β N H w (a.eval o) _:=mA hG hR hE oW;exact dw.mono (o5.tr (N:=N) hg.soft).mv (o5.tr (N:=N) hg.soft).mr hx.al
  grind
 grind
end
section
variable {C:bN}{F:gN}{β:Nat->Option Nat}{N:Nat->Prop}{H:HF}{fid:Nat}{K:j9}{w w':World}{P:Program}
def vP (hG:bE C F)(hR:ad F β N H w):(MR F β H w).le (rd w):=by grind[I1]
theorem A6 {k:Bool}{d:DC}{c:SC}{u:Hp}{r:List Nat}(h:mZ C H k d=some (c,u,r)): ∀p∈u,md H p:=by
 cases d with
 |ptr id off=>
  grind[mZ,cJ]
 |st c'=>exact nw (d:=.st c') (k:=k) h
 |nil=>exact nw (d:=.nil) (k:=k) h
 |own id=>exact nw (d:=.own id) (k:=k) h
 |cE id z i off=>
  grind[mZ,cJ]
 |sD g id=>grind[mZ,bv]
 |mp id=>grind[mZ,bv]
def qc {cs:List SC}{b off:Nat}{mv:Mem}{arr:Array Value}{T:TypeId}(h3:w.heap[b]? =some (.cells arr T))(h4:arr.size=cs.length)(h5: ∀(k:Nat) (x:SC),cs[k]? =some x->dw mv (rd w) (arr.getD k undef) x):
  dw mv (rd w) (.pointer (some ⟨b,off,none⟩)) (.ref (cs.drop off)):=by
 refine .ref b off (λk=>arr.getD (off+k) undef) (λk hk=>fZ h3 bq) (λk x hx=>?_)
 grind
def xV {cs:List SC}{b o off:Nat}{mv:Mem}{arr:Array Value}{T:TypeId}(h3:w.heap[b]? =some (.cells arr T))(h4:o+cs.length<=arr.size)(h5: ∀(k:Nat) (x:SC),cs[k]? =some x->dw mv (rd w) (arr.getD (o+k) undef) x):
  dw mv (rd w) (.pointer (some ⟨b,o+off,none⟩)) (.ref (cs.drop off)):=by
 refine .ref b (o+off) (λk=>arr.getD (o+off+k) undef) (λk hk=>fZ h3 bq) (λk x hx=>?_)
 grind
theorem Ma (hG:bE C F)(hR:ad F β N H w){u0:Hp}(hg:ig C H u0){v:Value}{k:Bool}{d:DC}{c:SC}{u:Hp}{r:List Nat}(hd:co F β N H w v d)(h:mZ C H k d=some (c,u,r))(hu: ∀p∈u,p∈u0):
  dw (MV F β (u0.on H) w) (rd w) v c:=by
 have hH:=hg.heap hR;have l6: ∀p∈u,∃z c,p.2=some (.row false z c)/\(u0.on H) p.1=some (.row false z c):=λp hp=>hg.frozen (hu p hp) (A6 h p hp);have base:bv H k d=some (c,u,r)->dw (MV F β (u0.on H) w) (rd w) v c:=λh1=>(Ha hR hg.soft hd h1 l6).mono (Mem.le_refl _) (vP hG hH)
 cases d with
 |ptr id off=>
  obtain⟨hn,b,jt,rfl⟩:=hd;simp only[mZ]at h;split at h
  ·rename_i cs hb;simp at h;obtain⟨rfl,_,_⟩:=h;obtain⟨_,b',arr,T,h1,h2,h3,h4,h5⟩:=hR.rel id _ hb;rw[jt]at h1;cases h1;exact qc h3 h4 λk x hx=>(h5 k x hx).mono (o5.tr (N:=N) hg.soft).mv (Mem.le_trans (vP hG hR) (Mem.le_refl _))
  ·rename_i t cs hb;split at h
   ·rename_i l u1 r1 hs;simp at h;obtain⟨rfl,rfl,_⟩:=h;obtain⟨_,b',arr,T,h1,h2,h3,h4,h5⟩:=hR.rel id _ hb;rw[jt]at h1;cases h1;have:=iy hR hg.soft (f:=λk=>arr.getD k undef) h5 hs l6;exact qc h3 (by grind[iu]) λk x hx=>(this k x hx).mono (Mem.le_refl _) (vP hG hH)
   grind
  grind
 |st c'=>exact base h
 |nil=>exact base h
 |own id=>exact base h
 |sD g id=>exact base h
 |mp id=>exact base h
 |cE id z i off=>
  obtain⟨hn,b,jt,rfl⟩:=hd;simp only[mZ]at h;split at h
  ·rename_i z' l hb;split at h
   ·rename_i e pY iF;have pY:=o7 pY;subst pY;split at h
    ·rename_i cs u1 r1 hs;simp at h;obtain⟨rfl,rfl,_⟩:=h;obtain⟨_,⟨hz,hl⟩,q|⟨b',cap,arr,T,q1,q2,q3,q4,q5,q6⟩⟩:=hR.rel id _ hb
     grind
     ·rw[jt]at q1;cases q1;have bA:=hl i e iF;have hi:i<l.length:=(kp.1 iF).1;have:=iy hR hg.soft (f:=λk=>arr.getD (i*z+k) undef) (λk d hk=>q6 i e k d iF hk) hs l6;refine xV q3 ?_ λk x hx=>(this k x hx).mono (Mem.le_refl _) (vP hG hH);rw[iu hs,bA,q4];have:(i+1)*z<=cap*z:=kE _ K0
      grind
    grind
   grind
  ·rename_i m z' c0 hb;split at h
   ·rename_i e pY iF;have pY:=o7 pY;subst pY;simp at h;obtain⟨rfl,_,_⟩:=h;obtain⟨_,⟨hz,hv,hl⟩,q|⟨b',cap,q1,q2,arr,T,q3,q4,q5,q6,q7,q8,q9⟩⟩:=hR.rel id _ hb
    grind
    ·rw[jt]at q1;cases q1;have bA:=hl i e iF;have hi:=SC.ip iF;refine xV q3 ?_ λk x hx=>(q9 i e k x iF hx).mono (o5.tr (N:=N) hg.soft).mv (ec _);rw[bA,q4];have:(i+1)*z<=cap*z:=kE _ K0
     grind
   grind
  grind
theorem Dc: ∀ {ks:List Bool} {ds:List DC} {l:List SC} {u:Hp} {r:List Nat},om C H ks ds=some (l,u,r)->(∀p∈u,md H p)/\l.length=ds.length/\
  ∀(k:Nat) (c:SC),l[k]? =some c->∃d kb ue re,ds[k]? =some d/\mZ C H kb d=some (c,ue,re)/\∀q∈ue,q∈u
 |ks,[],l,u,r,h=>by grind[om]
 |ks,d::ds,l,u,r,h=>by
  simp only[om]at h;split at h
  ·rename_i c u1 r1 h1;split at h
   ·rename_i cs u2 r2 h2;simp at h;obtain⟨rfl,rfl,_⟩:=h;obtain⟨q1,q2,q3⟩:=Dc h2
    grind[A6]
   grind
  grind
theorem xW: ∀ {ts:List TypeId} {xs:List DX} {l:List SV} {u:Hp} {r:List Nat},o8 C H ts xs=some (l,u,r)->(∀p∈u,md H p)/\l.length=xs.length/\
  ∀(k:Nat) (g:Bool) (cs:List SC),l[k]? =some (g,cs)->∃x ks ue re,xs[k]? =some x/\x.1=g/\om C H ks x.2=some (cs,ue,re)/\∀q∈ue,q∈u
 |ts,[],l,u,r,h=>by grind[o8]
 |ts,x::xs,l,u,r,h=>by
  simp only[o8]at h;split at h
  ·rename_i c u1 r1 h1;split at h
   ·rename_i cs u2 r2 h2;simp at h;obtain⟨rfl,rfl,_⟩:=h;obtain⟨q1,q2,q3⟩:=xW h2;obtain⟨p1,_,_⟩:=Dc h1
    grind
   grind
  grind
theorem Hg (hG:bE C F)(hR:ad F β N H w){u0:Hp}(hg:ig C H u0){v:Value}{x:DX}{ks:List Bool}{cs:List SC}{u:Hp}{r:List Nat}(hx:aq F β N H w v x)(h:om C H ks x.2=some (cs,u,r))(hu: ∀p∈u,p∈u0):
  er (MV F β (u0.on H) w) (rd w) v (x.1,cs):=by
 obtain⟨q1,q2,q3⟩:=Dc h;obtain⟨g,ds⟩:=x;cases g
 ·obtain⟨d,hd,II⟩:=hx;simp at hd;subst hd;obtain⟨c0,rfl⟩: ∃c0,cs= [c0]:=xG.1 K0;obtain⟨d',kb,ue,re,a1,a2,a3⟩:=q3 0 c0 rfl;simp at a1;subst a1;exact⟨c0,rfl,Ma hG hR hg II a2 λq hq=>hu q (a3 q hq)⟩
 ·obtain⟨arr,h3,h4,h5⟩:=hx;refine⟨arr,h3,by grind,λk c hk=>?_⟩
  grind[Ma]
theorem xX: ∀ {ds:List (Option DV)} {xs:List DX},I0 ds=some xs->xs.length=ds.length/\∀(k:Nat) (x:DX),xs[k]? =some x->ds[k]? =some (some (.val x))
 | [],xs,h=>by grind[I0]
 |d::ds,xs,h=>by
  unfold I0 at h;split at h
  grind
  ·rename_i x r vG;cases vG;split at h
   ·rename_i l hl;simp at h;subst h;obtain⟨h1,h2⟩:=xX hl
    grind
   grind
  grind
def o4.append {mv mr:Mem}{a b:Array Value}{x y:List SV}(h:o4 mv mr a x)(k:o4 mv mr b y):o4 mv mr (a++b) (x++y):=by
 refine⟨by simp[h.1,k.1],λj z hz=>?_⟩;by_cases hj:j<x.length
 ·rw[UK hj]at hz;rw[bL (b:=a) (l:=j) (by rw[XI (by rw[h.1];exact hj)])];exact h.2 j z hz
 ·rw[XJ K0]at hz;rw[bL (b:=b) (l:=j -x.length) (by rw[XN (by rw[h.1];omega),h.1])];exact k.2 _ z hz
def eQ.later (hG:bE C F)(hR:ad F β N H w):eQ C.gl (rd w):=by
 intro g cs hm;obtain⟨h0,h9⟩:=hG.ok g cs hm;refine⟨λk x hx=>?_,λfN=>?_⟩
 ·obtain⟨v,h1,h2⟩:=h0 k x hx;exact⟨v,hR.below.rd (tk h1 (hG.UG g cs hm (Nat.lt_of_le_of_lt (dM _) (kp.1 hx).1))) h1,h2⟩
 ·obtain⟨v,h1,_⟩:=h0 0 cs[0] bq;have e:rd w g cs.length=rd F.w0 g cs.length:=Px (w:=F.w0) (a:=⟨g,cs.length,none⟩) (hR.below.block g (IS _ _ h1) (tk h1 (hG.UG g cs hm fN)))
  grind
def YA (hR:ad F β N H w)(hw:Below w.heap.size w w'):(dW (MV F β H w) w.heap.size w').le (MV F β H w'):=by
 intro b o v h;unfold dW at h;split at h
 ·rename_i hb;have FF:F.dD b:=gN.gG (o3 hR.below.size hb);rw[qZ FF];omega
  ·intro id bx e jt;have:=(hR.fY e jt).1;omega
 ·exact(Tr.grow hR hw).mv b o v h
theorem er.dyn {x:SV}{v:Value}(h:er (MV F β H w) (MR F β H w) v x):aq F β N H w v (dyn x):=by
 obtain⟨g,cs⟩:=x;cases g
 ·obtain⟨c,hc,hr⟩:=h;simp at hc;subst hc;exact⟨.st c,rfl,hr⟩
 ·obtain⟨arr,h1,h2,h3⟩:=h;refine⟨arr,h1,by grind[Fw.dyn],λk c hk=>?_⟩;simp only[Fw.dyn,gq]at hk
  cases hc:cs[k]? with
  |none=>grind
  |some x=>simp[hc]at hk;subst hk;exact h3 k x hc
theorem tq: ∀ {ks:List Bool} {ds:List DC} {l:List SC} {u:Hp},bS H ks ds=some (l,u,[])->u= []
 |_,[],_,_,h=>by grind[bS]
 |ks,d::ds,l,u,h=>by
  simp only[bS]at h;split at h
  ·rename_i c u1 r1 h1;split at h
   ·rename_i cs u2 r2 h2;simp only[lL,gr,List.append_eq_nil_iff]at h;obtain⟨_,rfl,rfl,rfl⟩:=h;rw[tq h2,zQ]
    cases d with
    |own id=>
     grind[bv]
    |st=>grind[bv]
    |nil=>grind[bv]
    |ptr=>grind[bv]
    |cE=>grind[bv]
    |sD=>grind[bv]
    |mp=>grind[bv]
   grind
  grind
theorem YB {k:Bool}{d:DC}{c c0:SC}{id iP z0:Nat}(h:mZ C H k d=some (c,[(id,some (.row false z0 c0))],[iP])):d= .own id/\H id=some (.row true z0 c0)/\c=c0:=by
 cases d with
 |st=>grind[mZ,bv]
 |nil=>grind[mZ,bv]
 |sD=>grind[mZ,bv]
 |mp=>grind[mZ,bv]
 |cE=>
  grind[mZ,tq]
 |own i=>
  simp only[mZ,bv]at h
  grind
 |ptr i off=>
  grind[mZ,tq]
theorem YC (hG:bE C F)(hR:ad F β N H w)(hf: ¬N fid){E:EF}{a:Act}(hE:dE F β N H w E a){o:Oper}{c:Call}{fo:Operand}(ho:o.op= .call c)(hc:c.callee= .value fo){Q:Exit->Act->World->Prop}
  {f:FuncId}{first:List SV}{bI:List (List SC)}{xs:List DX}{l:List SV}{u:Hp}{rs:List Nat}{r:ma}{R8:List TypeId}(KX:C.ev E fo=some (.val (false,[.st (.fn f first bI)])))(FM:I0 (c.args.toList.map (C.ev E))=some xs)
  (eG:o8 C H R8 xs=some (l,u,rs))(iX:akB C.P f (first++l++bI.map λcs=>(false,[.ref cs])) r)(hK:jb fid u rs K r):
  o.wp C.P a w (λa' w'=>∃v,a'=a.put o.dst v/\bh F β N H fid K w v w') Q:=by
 cases r with
 |one=>exact iX.elim
 |aJ=>exact iX.elim
 |own=>exact iX.elim
 |mix=>exact iX.elim
 |uK z c'=>
 obtain⟨c0,dJ,Xy,Ps,bA,uD,Ca,gE⟩:=iX;simp only[jb]at hK;split at hK;case h_2=>grind
 rename_i id z0 c1 iP;split at hK;case h_2=>grind
 rename_i jt;obtain⟨xA,hb2⟩:=aH jt;have xA:=o7 xA;have hb2:=o7 hb2;subst xA hb2;obtain⟨q1,q2,q3⟩:=xW eG;obtain⟨v1,v2⟩:=xX FM
 cases xs with
 |nil=>grind[o8]
 |cons x xs=>
 simp only[o8]at eG;split at eG;case h_2=>grind
 rename_i cc u1 r1 h1;split at eG;case h_2=>grind
 rename_i cs u2 r2 h2;simp only[lL,gr]at eG;obtain⟨rfl,hu,hr⟩:=eG;have hl:=aP List.length dJ;simp only[xI,kF,jf,zR]at hl;obtain rfl:first= []:=CG.1 K0
 obtain rfl:bI= []:=CG.1 K0;obtain rfl:cs= []:=CG.1 K0;obtain rfl:xs= []:=by grind
 simp[o8]at h2;obtain⟨rfl,rfl⟩:=h2;simp only[zQ]at hu hr;subst hu hr;simp at dJ;obtain⟨g,ds⟩:=x;simp only at dJ h1;obtain⟨rfl,rfl⟩:=dJ
 have hds: ∃d k,ds= [d]/\mZ C H k d=some (c0,[(id,some (.row false z c1))],[id]):=by
  cases ds with
  |nil=>grind[om]
  |cons d ds=>
   simp only[om]at h1;split at h1;case h_2=>cases h1
   rename_i ca ua ra ha;split at h1;case h_2=>cases h1
   rename_i cb ub rb hb;simp only[lL,gr,BL]at h1;obtain⟨⟨rfl,rfl⟩,e1,e2⟩:=h1
   cases ds with
   |nil=>
    grind[om]
   |cons d' ds=>
    grind[om]
 obtain⟨d,k,rfl,hs⟩:=hds;obtain⟨rfl,hid,rfl⟩:=YB hs;have l6:aq F β N H w (a.eval fo) _:=mA hG hR hE KX;have GO:dw (MV F β H w) (MR F β H w) (a.eval fo) (.fn f [] []):=l6.al;have FC:a.eval fo= .func (.func f) #[] #[]:=aip;have hd:=v2 0 _ rfl;simp at hd;obtain⟨oo,ho1,ho2⟩:=hd;have sQ:c.args.map a.eval= #[a.eval oo]:=by grind
 have jq:co F β N H w (a.eval oo) (.own id):=(mA hG hR hE ho2).al
 have bB:(execOp a.eval o).run C.P w= .ok (.enter f #[a.eval oo]) w:=by
  unfold iH at Xy;split at Xy
  ·rename_i fn GO;obtain⟨FE,mS⟩:=aH Xy;obtain⟨body,mS⟩:=qQ.1 mS;have xd:(fn.name=="runtime.NumGoroutine")=false:=by grind
   simp only[execOp,ho,resolve,hc,FC,Deferred.ofValue,eJ,lM,mw,invoke,callFunc,AS,GO,xd,mS,SF,sV,kM,sQ];simp
  grind
 unfold Oper.wp;rw[bB];obtain⟨hn,⟨hz,hv0,sC⟩,abu⟩:=hR.rel id _ hid;have Xj:id≠fid:=λe=>hf (e▸hn)
 rcases jq.2.2 _ _ _ hid rfl with⟨b0,b1,b2⟩|⟨b,cap,arr,T,b0,b1,b2,b3⟩
 ·show Calls C.P f #[a.eval oo] w _;rw[b2];refine(Ca b1 w).mono λe w1 he=>?_;obtain⟨rfl,sR⟩:=he;refine⟨_,rfl,?_⟩;have tG:=Tr.grow hR sR;have xy:=hR.grow sR;have live: ∀ {k:Nat} {b0:cB},k≠id->bn H id (some (.row true z c')) k=some b0->H k=some b0:=λhk h=>by grind[az]
  have t2:Tr F β N H w1 β N (bn H id (some (.row true z c'))) w1:=by
   refine⟨jx.refl _ _,λbb o v _ hs e=>⟨λiP bx e' hb=>?_,e⟩,λ_ h=>h,λ_ _=>rfl,λiP bx _ e=>?_,λ_ _ _ _ arr _ _ _ _ _ _ h=>⟨arr,h,rfl⟩,λ_ _ h=>h⟩
   ·by_cases h:iP=id
    grind
    ·exact hs iP bx (live h e') hb
   ·by_cases h:iP=id
    ·subst h;rw[am]at e;cases e;exact⟨_,hid,rfl,by omega⟩
    ·exact⟨bx,live h e,bx.fU⟩
  have hN:ad F β N (bn H id (some (.row true z c'))) w1:=by
   refine xy.step t2 (λi=>i=id) (λi bx hi e=>⟨live hi e,(xy.rel i bx (live hi e)).1,λ_ _=>rfl⟩) (λi bx hi e=>?_) (λi j bb x y hi hj bi bj=>?_)
   ·subst hi;rw[am]at e;cases e;exact⟨hn,⟨hz,Ps,uD⟩,.inl ⟨b0,by omega⟩⟩
   ·by_cases h1:i=id
    grind
    ·by_cases h2:j=id
     grind
     ·exact xy.inj i j bb x y (live h1 hi) (live h2 hj) bi bj
  exact aje
 ·have hbl:=hR.rel id _ hid
  rcases abu with⟨h3,_⟩|⟨b',jG,p1,p2,arr',T',r1,r2,r3,r4,r5,r6,r7⟩
  ·grind
  rw[b0]at p1;cases p1;rw[b2]at r1;cases r1;have fX:cap=jG:=UI hz K0;subst fX;show Calls C.P f #[a.eval oo] w _;rw[b1];refine(gE (MV F β H w) w b cap arr T b2 b3 r5 r7).mono λe w' he=>?_;obtain⟨rfl,w1,aei,sR,rfl,hs2,amR⟩:=he;refine⟨_,rfl,?_⟩;have tG:=Tr.grow hR sR;have xy:=hR.grow sR
  have xA:w1.heap[b]? =some (.cells arr T):=by
   rw[<- b2];exact sR.block _ (hR.fY hid b0).1
  have vr:(cB.row true z c0).zO (.row true z c'):=⟨rfl,by omega⟩;have eG: ∀o,(cB.row true z c0).sU o->(cB.row true z c').sU o/\aei[o]? =arr[o]? :=λo h=>by cases h.1
  have t2:=Tr.write (N:=N) xy hid b0 xA hs2 vr eG;have hN:=ad.write (N:=N) xy hid b0 xA hs2 vr eG ⟨⟨hz,Ps,uD⟩,.inr ⟨b,cap,b0,p2,aei,T,IV w1 b arr aei T (0,0) xA,by omega,hz,Ps,by omega,uD,λi e j x he hx=>(amR i e j x he hx).mono (tG.trans t2).mv (Mem.le_refl _)⟩⟩;exact aje
theorem Mb {mv mr mv' CD:Mem}{v:Value}{x:SV}(hl:xM x.2=true)(h:er mv mr v x):er mv' CD v x:=by
 have cell: ∀ {cs:List SC} {k:Nat} {c:SC} {v:Value},xM cs=true->cs[k]? =some c->dw mv mr v c->dw mv' CD v c:=by
  intro cs
  induction cs with
  |nil=>grind
  |cons d cs ih=>
   intro k c v hl hk hr
   cases d with
   |lit z=>
    cases k with
    |zero=>
     simp at hk;subst hk
     cases hr with
     |lit h=>exact .lit h
     |empty a cap hv=>grind[SC.ao]
     |view _ _ _ _ _ hv=>grind[SC.ao]
    |succ k=>grind[xM]
   |_=>grind[xM]
 unfold er at*;split
 grind
 ·rename_i hx;rw[if_neg hx]at h;obtain⟨c,h1,h2⟩:=h;exact⟨c,h1,cell (k:=0) hl bq h2⟩
theorem Hi: ∀ {l:List SV} {k:Nat} {x:SV},L3 l=true->l[k]? =some x->xM x.2=true
 | [],k,x,_,hk=>by grind
 |y::l,k,x,h,hk=>by
  unfold L3 at h;split at h
  ·cases k with
   |zero=>grind
   |succ k=>exact Hi h (by simpa using hk)
  grind
theorem Dd (hR:ad F β N H w)(hf: ¬N fid){u:Hp}{rs:List Nat}{r:ma}{v:Value}{w1:World}(hg:ig C H u)(sR:Below w.heap.size w w1)(lD:qT (MV F β (u.on H) w) w.heap.size w1 v r)(hK:jb fid u rs K r):
  bh F β N H fid K w v w1:=by
 have hH:=hg.heap hR;have tS:Tr F β N H w β N (u.on H) w:=hg.soft.tr;have tG:=Tr.grow hH sR;have xy:=hH.grow sR;have eB:=YA hH sR
 cases r with
 |one x=>
  simp only[jb]at hK
  cases hl:xM x.2 with
  |true=>
   rw[hl]at hK;exact⟨β,_,_,_,hK,(Tr.grow hR sR).bf,(hR.grow sR).bf,cj.bf (er.dyn (Mb hl lD))⟩
  |false=>
  rw[hl]at hK;refine⟨β,_,_,_,hK,(tS.trans tG).bf,xy.bf,cj.bf ?_⟩;exact er.dyn (lD.mono eB (ec _))
 |aJ lr=>
  obtain⟨arr,rfl,h2,h3⟩:=lD;simp only[jb]at hK
  cases hl:L3 lr with
  |true=>
   rw[hl]at hK;refine⟨β,_,_,_,hK,(Tr.grow hR sR).bf,(hR.grow sR).bf,cj.bf ⟨arr,rfl,by grind,λk x hx=>?_⟩⟩
   grind[er.dyn,Mb,Hi]
  |false=>
  rw[hl]at hK;refine⟨β,_,_,_,hK,(tS.trans tG).bf,xy.bf,cj.bf ⟨arr,rfl,by grind,λk x hx=>?_⟩⟩;rw[gq]at hx
  cases hy:lr[k]? with
  |none=>grind
  |some y=>
   rw[hy]at hx;cases hx;exact er.dyn ((h3 k _ hy).mono eB (ec _))
 |own z c=>
  rcases lD with⟨rfl,h0,hv,hz,hl⟩|⟨b,cap,rfl,hb,arr,T,r1,r2,r3,r4,r5,r6,r7⟩
  ·have t2:=Tr.new xy (Below.refl _ _) hf none (by simp) (.row true z c);have hN:=ad.new xy (Below.refl _ _) hf none (by simp) (.row true z c) ⟨⟨hz,hv,hl⟩,.inl ⟨by simp[cQ],h0⟩⟩;refine⟨_,_,_,_,hK,(tS.trans tG).trans t2,hN,cH ⟨.inr rfl,rfl,λnL z' n' hb wt=>?_⟩⟩;rw[Hp.on,am]at hb;cases hb;cases wt;exact .inl ⟨by simp[cQ],h0,rfl⟩
  ·have jt: ∀x,some b=some x->w.heap.size<=x:=λx hx=>by grind
   have t2:=Tr.new hH sR hf (some b) jt (.row true z c);have aej:((dW (MV F β (u.on H) w) w.heap.size w1).but b).le (MV F (cQ β fid (some b)) (bn (u.on H) fid (some (.row true z c))) w1):=K56;have hN:=ad.new hH sR hf (some b) jt (.row true z c) ⟨⟨r3,r4,r6⟩,.inr ⟨b,cap,by simp[cQ],gN.gG (o3 hH.below.size hb),arr,T,r1,r2,r3,r4,r5,r6,λi e j x he hx=>(r7 i e j x he hx).mono aej (Mem.le_refl _)⟩⟩;refine⟨_,_,_,_,hK,tS.trans t2,hN,cH ⟨.inr rfl,rfl,λnL z' n' jV wt=>?_⟩⟩;rw[Hp.on,am]at jV;cases jV;cases wt;exact ajU
 |uK z c=>exact lD.elim
 |mix t lr z c=>
  obtain⟨vo,m,hvo,lD⟩:=lD
  have key: ∃cM,Tr F β N H w cM (bf N fid) (bn (u.on H) fid (some (.row true z c))) w1/\ad F cM (bf N fid) (bn (u.on H) fid (some (.row true z c))) w1/\
    co F cM (bf N fid) (bn (u.on H) fid (some (.row true z c))) w1 vo (.own fid)/\m.le (MV F cM (bn (u.on H) fid (some (.row true z c))) w1):=by
   rcases hvo with⟨rfl,h0,hv,hz,hl,rfl⟩|⟨b,cap,rfl,hb,⟨arr,T,r1,r2,r3,r4,r5,r6,r7⟩,rfl⟩
   ·have t2:=Tr.new xy (Below.refl _ _) hf none (by simp) (.row true z c);have hN:=ad.new xy (Below.refl _ _) hf none (by simp) (.row true z c) ⟨⟨hz,hv,hl⟩,.inl ⟨by simp[cQ],h0⟩⟩;refine⟨_,(tS.trans tG).trans t2,hN,⟨.inr rfl,rfl,λnL z' n' hb wt=>?_⟩,Mem.le_trans eB t2.mv⟩;exact ajj
   ·have jt: ∀x,some b=some x->w.heap.size<=x:=λx hx=>by grind
    have t2:=Tr.new hH sR hf (some b) jt (.row true z c);have aej:((dW (MV F β (u.on H) w) w.heap.size w1).but b).le (MV F (cQ β fid (some b)) (bn (u.on H) fid (some (.row true z c))) w1):=K56;have hN:=ad.new hH sR hf (some b) jt (.row true z c) ⟨⟨r3,r4,r6⟩,.inr ⟨b,cap,by simp[cQ],gN.gG (o3 hH.below.size hb),arr,T,r1,r2,r3,r4,r5,r6,λi e j x he hx=>(r7 i e j x he hx).mono aej (Mem.le_refl _)⟩⟩;refine⟨_,tS.trans t2,hN,⟨.inr rfl,rfl,λnL z' n' jV wt=>?_⟩,aej⟩;rw[am]at jV;cases jV;cases wt;exact ajU
  obtain⟨cM,ht,hN,jq,hm⟩:=key
  have afu: ∀ {v:Value} {x:Bool × List (Option SC)},BM m vo v x->aq F cM (bf N fid) (bn (u.on H) fid (some (.row true z c))) w1 v (L2 fid x):=by
   rintro v ⟨g,cs⟩ hx
   have IE: ∀ {v:Value} {o:Option SC},PG m vo v o->co F cM (bf N fid) (bn (u.on H) fid (some (.row true z c))) w1 v (aeD fid o):=by
    intro v o hc
    cases o with
    |none=>have hc:v=vo:=hc;rw[hc];exact jq
    |some c=>exact dw.mono hm (ec _) hc
   cases g
   ·obtain⟨c,hc,hr⟩:=hx;simp at hc;subst hc;exact⟨_,rfl,IE hr⟩
   ·obtain⟨arr,h1,h2,h3⟩:=hx;refine⟨arr,h1,by grind[L2],λk c hk=>?_⟩
    grind[L2]
  cases t
  ·obtain⟨x,rfl,hx⟩:=lD;exact⟨cM,_,_,_,hK,ht,hN,afu hx⟩
  ·obtain⟨arr,rfl,h2,h3⟩:=lD;refine⟨cM,_,_,_,hK,ht,hN,⟨arr,rfl,by grind,λk x hx=>?_⟩⟩;rw[gq]at hx
   cases hy:lr[k]? with
   |none=>grind
   |some y=>rw[hy]at hx;cases hx;exact afu (h3 k _ hy)
theorem I9: ∀ {xs:List DX},okN xs=true->∀(k:Nat) (x:DX),xs[k]? =some x->(∃s,x=(false,[.st s]))\/x=(false,[.nil])
 | [],_,k,x,hk=>by grind
 |y::xs,h,k,x,hk=>by
  unfold okN at h;split at h
  grind
  ·rename_i s l hy;cases hy
   cases k with
   |zero=>grind
   |succ k=>exact I9 h k x bq
  ·rename_i l hy;cases hy
   cases k with
   |zero=>grind
   |succ k=>exact I9 h k x bq
  grind
theorem YD (hG:bE C F)(hR:ad F β N H w)(hf: ¬N fid){E:EF}{a:Act}(hE:dE F β N H w E a){o:Oper}{c:Call}{fo:Operand}(ho:o.op= .call c)(hc:c.callee= .value fo){Q:Exit->Act->World->Prop}
  {f:FuncId}{first:List SV}{bI:List (List SC)}{xs:List DX}(KX:C.ev E fo=some (.val (false,[.st (.fn f first bI)])))(FM:I0 (c.args.toList.map (C.ev E))=some xs)
  (h:wD C fid f first bI xs K):
  o.wp C.P a w (λa' w'=>∃v,a'=a.put o.dst v/\bh F β N H fid K w v w') Q:=by
 unfold wD at h;split at h;case h_2=>grind
 rename_i fC;obtain⟨r,iX,hK⟩:=h;have l6:aq F β N H w (a.eval fo) _:=mA hG hR hE KX;have GO:dw (MV F β H w) (MR F β H w) (a.eval fo) (.fn f [] []):=l6.al;have FC:a.eval fo= .func (.func f) #[] #[]:=aip;obtain⟨v1,v2⟩:=xX FM;have hg:ig C H []:=ig.ko (λp hp=>by cases hp);have wu:(MV F β H w).le (rd w):=λb o v h=>xS hG hR h
 have bB:(execOp a.eval o).run C.P w= .ok (.enter f (c.args.map a.eval)) w:=by
  have Xy:=iX.1;unfold iH at Xy;split at Xy
  ·rename_i fn GO;obtain⟨FE,mS⟩:=aH Xy;obtain⟨body,mS⟩:=qQ.1 mS;have xd:(fn.name=="runtime.NumGoroutine")=false:=by grind
   simp only[execOp,ho,resolve,hc,FC,Deferred.ofValue,eJ,lM,mw,invoke,callFunc,AS,GO,xd,mS,SF,sV,kM];simp
  grind
 unfold Oper.wp;rw[bB]
 have dJ: ∀k x,xs[k]? =some x->∃d,x=(false,[d])/\akD (MV F β H w) (rd w) ((c.args.map a.eval).getD k undef) d:=by
  intro k x hx;have hd:=v2 k x hx;simp at hd;obtain⟨oo,ho1,ho2⟩:=hd;have iQ:(c.args.map a.eval).getD k undef=a.eval oo:=by simp_all
  have hX:aq F β N H w (a.eval oo) x:=mA hG hR hE ho2;rw[iQ];rcases I9 fC k x hx with⟨s,rfl⟩|rfl
  ·exact⟨_,rfl,dw.mono (Mem.le_refl _) (vP hG hR) hX.al⟩
  ·exact⟨_,rfl,hX.al⟩
 refine(iX.2 _ w (c.args.map a.eval) wu (eQ.later hG hR) bq dJ).mono λe w1 he=>?_;obtain⟨v,rfl,sR,lD⟩:=he;exact⟨v,rfl,Dd (u:=[]) hR hf hg sR lD hK⟩
theorem De {mv mr:Mem}{vf:Value}{f:FuncId}{first:List SV}{bI:List (List SC)}(GO:dw mv mr vf (.fn f first bI)):
  ∃fv cv,vf= .func (.func f) fv cv/\o4 mv mr fv first/\o4 mv mr cv (bI.map λcs=>(false,[.ref cs])):=by
 cases GO with
 |empty a cap hv=>grind[SC.ao]
 |view _ _ _ _ _ hv=>grind[SC.ao]
 |fn fv cv ga h1 h2 hf1 hf0 hf2 hf3 Xq=>
  refine⟨fv,cv,rfl,⟨h1,λk x hx=>?_⟩,⟨by grind,λk x hx=>?_⟩⟩
  ·obtain⟨g,cs⟩:=x;cases g
   ·obtain⟨c0,rfl⟩:=hf0 k cs hx;exact⟨c0,rfl,hf1 k c0 hx⟩
   ·obtain⟨e1,e2⟩:=hf2 k cs hx;exact⟨ga k,e1,e2,λj y hy=>hf3 k cs j y hx hy⟩
  ·simp at hx;obtain⟨cs,UD,rfl⟩:=hx;exact⟨_,rfl,Xq k cs UD⟩
def U8 {P:Program}{g:FuncId}(h:iH P g=true)(args:Array Value)(w:World):(callFunc g args).run P w= .ok (.enter g args) w:=by
 unfold iH at h;split at h
 ·rename_i fn GO;obtain⟨FE,mS⟩:=aH h;obtain⟨body,mS⟩:=qQ.1 mS;have xd:(fn.name=="runtime.NumGoroutine")=false:=by grind
  simp only[callFunc,eJ,lM,mw,AS,GO,xd,mS,SF,sV,kM]
 grind
theorem acn (hG:bE C F)(hR:ad F β N H w)(hf: ¬N fid){E:EF}{a:Act}(hE:dE F β N H w E a){o:Oper}{c:Call}{fo:Operand}(ho:o.op= .call c)(hc:c.callee= .value fo){Q:Exit->Act->World->Prop}
  (h:jg C fid (C.ev E fo) (c.args.toList.map (C.ev E)) c.argTypes.toList H K):
  o.wp C.P a w (λa' w'=>∃v,a'=a.put o.dst v/\bh F β N H fid K w v w') Q:=by
 unfold jg at h;split at h
 ·rename_i f first bI xs KX FM
  split at h
  ·rename_i l u rs eG;obtain⟨r,iX,hK⟩:=h;rcases iX with iX|iX;case inr=>grind[YC]
   have l6:aq F β N H w (a.eval fo) _:=mA hG hR hE KX;obtain⟨q1,q2,q3⟩:=xW eG;obtain⟨v1,v2⟩:=xX FM;have hg:ig C H u:=ig.ko q1;have hH:=hg.heap hR;have wu:(MV F β (u.on H) w).le (rd w):=λb o v h=>xS hG hH h
   have dJ:o4 (MV F β (u.on H) w) (rd w) (c.args.map a.eval) l:=by
    refine⟨by grind,λk x hx=>?_⟩;obtain⟨g,cs⟩:=x;obtain⟨x,ks,ue,re,a1,a2,a3,a4⟩:=q3 k g cs hx;have hd:=v2 k x a1;simp at hd;obtain⟨oo,ho1,ho2⟩:=hd;have iQ:(c.args.map a.eval).getD k undef=a.eval oo:=by simp_all
    rw[iQ,<- a2];exact Hg hG hR hg (mA hG hR hE ho2) a3 a4
   have GO:dw (MV F β H w) (MR F β H w) (a.eval fo) (.fn f first bI):=l6.al;obtain⟨fv,cv,FC,uG,Uu⟩:=De GO;have tS:Tr F β N H w β N (u.on H) w:=hg.soft.tr
   have hall:o4 (MV F β (u.on H) w) (rd w) (fv++c.args.map a.eval++cv) (first++l++bI.map λcs=>(false,[.ref cs])):=
    ((uG.mono tS.mv (vP hG hR)).append dJ).append (Uu.mono tS.mv (vP hG hR))
   have R6:=iX.2 _ w _ wu (eQ.later hG hH) hall
   have bB:(execOp a.eval o).run C.P w= .ok (.enter f (fv++c.args.map a.eval++cv)) w:=by
    have Xy:=iX.1;exact K54
   unfold Oper.wp;rw[bB];refine R6.mono λe w1 he=>?_
   grind[Dd]
  grind
 grind
theorem U9 (hG:bE C F)(hR:ad F β N H w)(hf: ¬N fid){E:EF}{a:Act}(hE:dE F β N H w E a){o:Oper}{c:Call}{fo:Operand}(ho:o.op= .call c)(hc:c.callee= .value fo){nx:Bool}{Q:Exit->Act->World->Prop}
  (h:qY C fid nx (C.ev E fo) (c.args.toList.map (C.ev E)) c.argTypes.toList H K):
  o.wp C.P a w (λa' w'=>∃v,a'=a.put o.dst v/\bh F β N H fid K w v w') Q:=by
 unfold qY at h
 grind[acn,YD]
end
section
variable {C:bN}{F:gN}{β:Nat->Option Nat}{N:Nat->Prop}{H:HF}{fid:Nat}{K:j9}{w w':World}{P:Program}
theorem bJ {o:Oper}{a:Act}{v:Value}{next:Act->World->Prop}{Q:Exit->Act->World->Prop}(h:(execOp a.eval o).run P w= .ok (.value v) w')(hn:next (a.put o.dst v) w'):o.wp P a w next Q:=by
 unfold Oper.wp;rw[h];exact hn
def Df {o:Oper}{a:Act}{next:Act->World->Prop}{Q:Exit->Act->World->Prop}(h:(execOp a.eval o).run P w= .ok .skip w')(hn:next (a.put o.dst undef) w'):o.wp P a w next Q:=by
 unfold Oper.wp;rw[h];exact hn
theorem Mc {ds:List (Option DV)}{xs:List DX}(h:(ds.mapM λd=>match d with|some (.val x)=>some x|_=>none)=some xs):xs.length=ds.length/\∀(k:Nat) (x:DX),xs[k]? =some x->ds[k]? =some (some (.val x)):=by
 induction ds generalizing xs with
 |nil=>grind
 |cons d ds ih=>
  simp only[List.mapM_cons,Option.bind_eq_bind,Option.bind_eq_some_iff]at h
  grind
theorem YE (hC:C.Ok)(hG:bE C F)(hR:ad F β N H w)(hf: ¬N fid){E:EF}{a:Act}(hE:dE F β N H w E a){o:Oper}{Q:Exit->Act->World->Prop}(h:fw C fid o (C.ev E) H K):
  o.wp C.P a w (λa' w'=>∃v,a'=a.put o.dst v/\bh F β N H fid K w v w') Q:=by
 have ev: ∀ {x:Operand} {d:DV},C.ev E x=some d->cj F β N H w (a.eval x) d:=λh=>mA hG hR hE h
 cases ho:o.op with
 |move x=>
  exact aio
 |assign x=>
  exact aio
 |pick c x y=>
  unfold fw at h;rw[ho]at h;simp only at h;split at h
  ·rename_i t hc;have hcv:=(aq.al (ev hc)).bw.1;cases t
   ·simp only at h;split at h
    ·rename_i d hd;exact bJ (v:=a.eval y) akf ⟨_,rfl,bh.pure hR h (ev hd)⟩
    grind
   ·simp only at h;split at h
    ·rename_i d hd;exact bJ (v:=a.eval x) akf ⟨_,rfl,bh.pure hR h (ev hd)⟩
    grind
  grind
 |alloc T=>
  unfold fw at h;rw[ho]at h;simp only at h;split at h
  ·rename_i i hi;split at h
   ·rename_i cs hz;obtain⟨v,w',hr,hp⟩:=Yr (v0:=.tuple #[]) hC hR hf hi hz h;exact bJ G8 ⟨_,rfl,hp⟩
   grind
  grind
 |box T x=>
  unfold fw at h;rw[ho]at h;simp only at h;split at h
  ·rename_i d hd;obtain⟨v,w',hr,hp⟩:=agh (C:=C) hR hf (ev hd) h;exact bJ G8 ⟨_,rfl,hp⟩
  grind
 |build T parts=>
  obtain⟨v,hr,hp⟩:=Yt hC hG hR hE ho h;exact bJ G8 ⟨_,rfl,hp⟩
 |buildSlice T len parts=>
  obtain⟨v,w',hr,hp⟩:=F5 hC hG hR hf hE ho h;exact bJ G8 ⟨_,rfl,hp⟩
 |load T x=>
  unfold fw at h;rw[ho]at h;simp only at h;split at h
  ·rename_i d hd;obtain⟨v,hr,hp⟩:=S7 hC hG hR (ev hd) h;exact bJ G8 ⟨_,rfl,hp⟩
  grind
 |store T x y=>
  unfold fw at h;rw[ho]at h;simp only at h;split at h
  ·rename_i d e hd he;obtain⟨w',hr,hp⟩:=Yn hC hR (ev hd) (ev he) h;exact Df G8 ⟨_,rfl,hp⟩
  grind
 |fieldAddr T x n=>
  unfold fw at h;rw[ho]at h;simp only at h;split at h
  ·rename_i d hd;obtain⟨v,hr,hp⟩:=I3 hC hR (ev hd) h;exact bJ G8 ⟨_,rfl,hp⟩
  grind
 |indexAddr T x y=>
  unfold fw at h;rw[ho]at h;simp only at h;split at h
  ·rename_i d e hd he;obtain⟨v,hr,hp⟩:=I5 hC hG hR (ev hd) (ev he) h;exact bJ G8 ⟨_,rfl,hp⟩
  grind
 |index T x y=>
  unfold fw at h;rw[ho]at h;simp only at h;split at h
  ·rename_i d e hd he;obtain⟨v,hr,hp⟩:=Yp hC hR (ev hd) (ev he) h;exact bJ G8 ⟨_,rfl,hp⟩
  grind
 |field T x n=>
  unfold fw at h;rw[ho]at h;simp only at h;split at h
  ·rename_i d hd;obtain⟨v,hr,hp⟩:=Yq hC hR (ev hd) h;exact bJ G8 ⟨_,rfl,hp⟩
  grind
 |slice T x lo hi mx=>
  unfold fw at h;rw[ho]at h;simp only at h;split at h
  ·rename_i d hd;obtain⟨v,hr,hp⟩:=Yu hC hG hR hE (ev hd) h;exact bJ aiY ⟨_,rfl,hp⟩
  grind
 |binOp op T x y yT=>
  unfold fw at h;rw[ho]at h;simp only at h;split at h
  ·rename_i d e hd he;obtain⟨v,hr,hp⟩:=acm (xo:=x) (yo:=y) hC hR (ev hd) (ev he) h;refine bJ (w':=w) (v:=v) ?_ ⟨_,rfl,hp⟩;simp only[execOp,ho];rw[eJ,hr];rfl
  grind
 |unOp op T x=>
  unfold fw at h;rw[ho]at h;simp only at h;split at h
  ·rename_i d hd;obtain⟨v,hr,hp⟩:=agj (P:=C.P) hR (ev hd) h;exact bJ G8 ⟨_,rfl,hp⟩
  grind
 |convert s t x=>
  unfold fw at h;rw[ho]at h;simp only at h;split at h
  ·rename_i d hd;obtain⟨v,hr,hp⟩:=Yy hC hG hR (ev hd) h;exact bJ G8 ⟨_,rfl,hp⟩
  grind
 |extract t n=>
  unfold fw at h;rw[ho]at h;simp only at h;split at h
  ·rename_i l hl;split at h
   ·rename_i x hx;obtain⟨arr,h1,h2,h3⟩:=ev hl;have ak:n<arr.size:=by grind
    have hg:arr[n]? =some (arr.getD n undef):=by simp_all
    exact bJ (v:=arr.getD n undef) (by grind[execOp,Instr.extract,Sem.run_pure]) ⟨_,rfl,bh.pure hR h (h3 n x hx)⟩
   grind
  grind
 |makeFunc fn first bI=>
  cases fn with
  |func f=>
   unfold fw at h;rw[ho]at h;simp only at h;obtain⟨v,hr,hp⟩:=L9 (P:=C.P) hG hR hE h;exact bJ G8 ⟨_,rfl,hp⟩
  |_=>grind[fw]
 |makeSlice T x y=>
  unfold fw at h;rw[ho]at h;simp only at h;split at h
  ·rename_i d e hd he;obtain⟨v,w',hr,hp⟩:=I8 hC hR hf (ev hd) (ev he) h;exact bJ G8 ⟨_,rfl,hp⟩
  grind
 |call c=>
  cases hc:c.callee with
  |value fo=>
   grind[fw,U9]
  |invoke r m=>grind[fw]
  |builtin b=>
   unfold fw at h;rw[ho]at h;simp only[hc]at h
   have key: ∀ {v:Value} {w':World},(builtin b c.argTypes o.type (c.args.map λ| .const _=>true|_=>false) (c.args.map a.eval)).run C.P w= .ok (.value v) w'->bh F β N H fid K w v w'->
     o.wp C.P a w (λa' w'=>∃v,a'=a.put o.dst v/\bh F β N H fid K w v w') Q:=by
    grind[bJ,execOp,resolve,invoke]
   unfold eX at h;split at h
   ·
    rename_i t ts x vJ dJ;have h0:c.args.size=1:=by exact af1
    obtain⟨x0,RW⟩: ∃x0,c.args= #[x0]:=by
     have:c.args.toList.length=1:=by omega
     obtain⟨x0,h⟩:=xG.1 this
     grind
    have oW:C.ev E x0=some (.val x):=by grind
    have uE:c.argTypes[0]? =some t:=by
     have:=aP (·[0]?) vJ
     grind
    split at h
    grind
    ·rename_i i hi;obtain⟨tf,d,z,hT⟩:=hC.get hi;have hx:=ev oW;split at h
     ·rename_i e c0 bV;have hd:=dm (hT.b8.trans bV);split at h
      ·rename_i hv;obtain⟨a0,cap,oU,_⟩:=(aq.al hx).CF hv;exact K58
      grind
     ·rename_i e bV;have hd:=dm (hT.b8.trans bV);have oU:a.eval x0= .slice none 0 0:=aq.al hx;exact K58
     ·rename_i e id bV;have hd:=dm (hT.b8.trans bV);split at h
      ·rename_i m z' c0 hb;obtain⟨_,_,jq⟩:=aq.al hx
       have oU: ∃a0 cap,a.eval x0= .slice a0 c0.len cap:=by
        rcases jq _ z' c0.len hb rfl with⟨_,h2,h3⟩|⟨b,cap,arr,T,_,h2,_⟩
        grind
        grind
       obtain⟨a0,cap,oU⟩:=oU;exact K58
      ·rename_i z' l hb;obtain⟨_,_,jq⟩:=aq.al hx
       have oU: ∃a0 cap,a.eval x0= .slice a0 l.length cap:=by
        rcases jq _ z' l.length hb rfl with⟨_,h2,h3⟩|⟨b,cap,arr,T,_,h2,_⟩
        grind
        grind
       obtain⟨a0,cap,oU⟩:=oU;exact K58
      grind
     ·rename_i s bV;have hd:=me (hT.b8.trans bV);have oU:=(aq.al hx).bw.1;exact K58
     ·rename_i n e bV;have hd:=ku (hT.b8.trans bV);exact key (by simp[builtin,Builtin.len_,uE,RW,hT.cU,hd,goInt]) (bh.pure hR h (fT rfl))
     grind
   ·
    rename_i t t' x y vJ dJ;have h0:c.args.size=2:=by exact af1
    obtain⟨x0,x1,RW⟩: ∃x0 x1,c.args= #[x0,x1]:=aiZ;have oW:C.ev E x0=some (.val x)/\C.ev E x1=some (.val y):=by grind
    have uE:c.argTypes= #[t,t']:=by grind
    split at h
    ·rename_i i' kH;split at h
     ·rename_i e' bV;obtain⟨v,w',hr,hp⟩:=U7 (T:=t) (ty:=o.type) hC hG hR hf kH bV (ev oW.1) (ev oW.2) h;refine key (v:=v) (w':=w') ?_ hp;exact afz
     ·rename_i k' bV;obtain⟨v,w',hr,hp⟩:=PL (T:=t) (ty:=o.type) hC hG hR hf kH bV (ev oW.1) (ev oW.2) h;refine key (v:=v) (w':=w') ?_ hp;exact afz
     grind
    grind
   ·
    rename_i k n r dJ;split at h
    ·rename_i xs B9;obtain⟨m1,m2⟩:=Mc B9;obtain⟨x0,rest,jd⟩: ∃x0 rest,c.args.toList=x0::rest:=ajG;rw[jd]at dJ;simp at dJ;obtain⟨RP,her⟩:=dJ;have hv0:=(aq.al (ev RP)).bw.1;subst her
     obtain⟨v,hr,hp,hK⟩:=zX (P:=C.P) (w:=w) (H:=H) (β:=β) (N:=N) (F:=F) (vs:=rest.map a.eval) bq (λj x v e1 e2=>by
      have:=m2 j x e1;simp at this e2;obtain⟨o1,h1,h2⟩:=this;obtain⟨o2,h3,rfl⟩:=e2;rw[h1]at h3;cases h3
      exact ev h2) h
     refine key (v:=v) (w':=w) ?_ (bh.pure hR hK (fT hp));simp only[if_true]at hr;simp only[builtin,Builtin.max_,Array.toList_map,jd,jw,hv0,eJ,hr,mw];rfl
    grind
   ·
    rename_i k n r dJ;split at h
    ·rename_i xs B9;obtain⟨m1,m2⟩:=Mc B9;obtain⟨x0,rest,jd⟩: ∃x0 rest,c.args.toList=x0::rest:=ajG;rw[jd]at dJ;simp at dJ;obtain⟨RP,her⟩:=dJ;have hv0:=(aq.al (ev RP)).bw.1;subst her
     obtain⟨v,hr,hp,hK⟩:=zX (P:=C.P) (w:=w) (H:=H) (β:=β) (N:=N) (F:=F) (vs:=rest.map a.eval) bq (λj x v e1 e2=>by
      have:=m2 j x e1;simp at this e2;obtain⟨o1,h1,h2⟩:=this;obtain⟨o2,h3,rfl⟩:=e2;rw[h1]at h3;cases h3
      exact ev h2) h
     refine key (v:=v) (w':=w) ?_ (bh.pure hR hK (fT hp));simp only[sV,kM]at hr;simp only[builtin,Builtin.min_,Array.toList_map,jd,jw,hv0,eJ,hr,mw];rfl
    grind
   grind
 |_=>grind[fw]
end
end Go.Fw
namespace Go.Fw
section
variable {C:bN}{H H':HF}{fid:Nat}{K:j9}
theorem jh {k:Bool}{d:DC}{c:SC}{u:Hp}{r:List Nat}(h:bv H k d=some (c,u,r))(hH: ∀id∈r,H' id=H id):bv H' k d=some (c,u,r):=by
 cases d with
 |own id=>
  grind[bv]
 |sD g id=>grind[bv]
 |mp id=>grind[bv]
 |st c'=>grind[bv]
 |nil=>grind[bv]
 |ptr id off=>grind[bv]
 |cE id z i off=>grind[bv]
theorem fm: ∀ {ks:List Bool} {ds:List DC} {l:List SC} {u:Hp} {r:List Nat},bS H ks ds=some (l,u,r)->(∀id∈r,H' id=H id)->bS H' ks ds=some (l,u,r)
 |ks,[],l,u,r,h,_=>by grind[bS]
 |ks,d::ds,l,u,r,h,hH=>by
  simp only[bS]at h ⊢;split at h
  ·rename_i c u1 r1 h1;split at h
   ·rename_i cs u2 r2 h2;simp at h;obtain⟨rfl,rfl,rfl⟩:=h;rw[jh h1 λid hid=>hH id (gC.2 (.inl hid)),fm h2 λid hid=>hH id (gC.2 (.inr hid))]
   grind
  grind
theorem PM {k:Bool}{d:DC}{c:SC}{u:Hp}{r:List Nat}(h:mZ C H k d=some (c,u,r))(hH: ∀id∈r,H' id=H id):mZ C H' k d=some (c,u,r):=by
 cases d with
 |ptr id off=>
  grind[mZ,fm]
 |st c'=>exact jh (d:=.st c') (k:=k) h hH
 |nil=>exact jh (d:=.nil) (k:=k) h hH
 |own id=>exact jh (d:=.own id) (k:=k) h hH
 |sD g id=>grind[mZ,bv]
 |mp id=>grind[mZ,bv]
 |cE id z i off=>
  simp only[mZ]at h ⊢;split at h
  grind[fm]
  grind
  grind
theorem A7: ∀ {ks:List Bool} {ds:List DC} {l:List SC} {u:Hp} {r:List Nat},om C H ks ds=some (l,u,r)->(∀id∈r,H' id=H id)->om C H' ks ds=some (l,u,r)
 |ks,[],l,u,r,h,_=>by grind[om]
 |ks,d::ds,l,u,r,h,hH=>by
  simp only[om]at h ⊢;split at h
  ·rename_i c u1 r1 h1;split at h
   ·rename_i cs u2 r2 h2;simp at h;obtain⟨rfl,rfl,rfl⟩:=h;rw[PM h1 λid hid=>hH id (gC.2 (.inl hid)),A7 h2 λid hid=>hH id (gC.2 (.inr hid))]
   grind
  grind
theorem ji: ∀ {ts:List TypeId} {xs:List DX} {l:List SV} {u:Hp} {r:List Nat},o8 C H ts xs=some (l,u,r)->(∀id∈r,H' id=H id)->o8 C H' ts xs=some (l,u,r)
 |ks,[],l,u,r,h,_=>by grind[o8]
 |ks,d::ds,l,u,r,h,hH=>by
  simp only[o8]at h ⊢;split at h
  ·rename_i c u1 r1 h1;split at h
   ·rename_i cs u2 r2 h2;simp at h;obtain⟨rfl,rfl,rfl⟩:=h;rw[A7 h1 λid hid=>hH id (gC.2 (.inl hid)),ji h2 λid hid=>hH id (gC.2 (.inr hid))]
   grind
  grind
theorem tu {ks:List Bool}{z:Nat}: ∀ {ps:List (Nat × Option DV)} {n:Nat} {es:List (List SC)} {u:Hp} {r:List Nat},kP H ks z n ps=some (es,u,r)->(∀id∈r,H' id=H id)->kP H' ks z n ps=some (es,u,r)
 | [],n,es,u,r,h,_=>by grind[kP]
 |p::ps,n,es,u,r,h,hH=>by
  unfold kP at h ⊢;split at h;omega
  ·rename_i n0 i x rest vG;cases vG;split at h
   ·rename_i hb;split at h
    ·rename_i e u1 r1 eG;split at h
     ·rename_i Xn u2 r2 hf abo;simp at h;obtain⟨rfl,rfl,rfl⟩:=h;rw[fm eG λid hid=>hH id (gC.2 (.inl hid))];simp only;rw[hf,tu abo λid hid=>hH id (gC.2 (.inr hid))]
     grind
    grind
   omega
  omega
theorem xY: ∀ {ds:List (Option DV)} {l:List SV} {u:Hp} {r:List Nat},cD.firsts H ds=some (l,u,r)->(∀id∈r,H' id=H id)->cD.firsts H' ds=some (l,u,r)
 | [],l,u,r,h,_=>by grind[cD.firsts]
 |d::ds,l,u,r,h,hH=>by
  unfold cD.firsts at h ⊢;split at h;omega
  ·rename_i x xs vG;cases vG;split at h
   ·rename_i c u1 r1 h1;split at h
    ·rename_i cs u2 r2 h2;simp at h;obtain⟨rfl,rfl,rfl⟩:=h;rw[fm h1 λid hid=>hH id (gC.2 (.inl hid))];simp only;rw[xY h2 λid hid=>hH id (gC.2 (.inr hid))]
    grind
   grind
  omega
theorem pb: ∀ {ds:List (Option DV)} {l:List (List SC)} {u:Hp} {r:List Nat},cD.capts C H ds=some (l,u,r)->(∀id∈r,H' id=H id)->cD.capts C H' ds=some (l,u,r)
 | [],l,u,r,h,_=>by grind[cD.capts]
 |d::ds,l,u,r,h,hH=>by
  unfold cD.capts at h ⊢;split at h;omega
  ·rename_i id xs vG;cases vG;split at h
   ·rename_i cs hb;split at h
    ·rename_i l2 u2 r2 h2;simp at h;obtain⟨rfl,rfl,rfl⟩:=h;rw[hH id (by simp),hb];simp only;rw[pb h2 λj hj=>hH j bq]
    grind
   ·rename_i t cs hb;split at h
    ·rename_i c u1 r1 h1;split at h
     ·rename_i l2 u2 r2 h2;simp at h;obtain⟨rfl,rfl,rfl⟩:=h;rw[hH id (by simp),hb];simp only;rw[fm h1 λj hj=>hH j bq];simp only;rw[pb h2 λj hj=>hH j bq]
     grind
    grind
   grind
  ·rename_i cs xs vG;cases vG;split at h
   ·rename_i l2 u2 r2 h2;simp at h;obtain⟨rfl,rfl,rfl⟩:=h;rw[pb h2 hH]
   grind
  omega
def mB (f:HF->j9->Prop):Prop:=∀H K,f H K->∃r u R,K r u R/\∀(H':HF) (K':j9),(∀id∈R,H' id=H id)->K' r u R->f H' K'
def mB.const {f:j9->Prop}(h: ∀K,f K->∃r u R,K r u R/\∀K':j9,K' r u R->f K'):mB λ_ K=>f K:=λ_ K hK=>
 let⟨r,u,R,h1,h2⟩:=h K hK;⟨r,u,R,h1,λ_ K' _ h3=>h2 K' h3⟩
def PN (T:TypeId)(x:DX):mB (oq C T x):=by
 intro H K h;unfold oq at h;split at h
 ·grind
 rename_i i hi;split at h
 grind[oq]
 grind[oq]
 grind[oq]
 grind
def Md (T:TypeId)(x y:DX):mB (qW C T x y):=by
 intro H K h;unfold qW at h;split at h
 ·grind
 rename_i i hi;split at h
 ·grind
 rename_i bA;split at h
 ·rename_i id off;split at h
  grind[qW]
  grind
 ·rename_i id z n off;split at h
  ·rename_i z' c hb;split at h
   ·rename_i eB;split at h
    ·rename_i l r eG;split at h
     ·rename_i hf;obtain⟨e,he,h⟩:=h;split at h
      ·rename_i c' lq;refine⟨_,_,_,h,λH' K' hH hK=>?_⟩;simp only[qW,hi,bA,hH id (by simp),hb,eB,fm eG λj hj=>hH j bq,hf]
       grind
      grind
     grind
    grind
   grind
  grind[qW]
  grind
 grind
def BO (T:TypeId)(x:DX)(n:Nat):mB λ_ K=>ot C T x n K:=by
 refine mB.const λK h=>?_;unfold ot at h ⊢;split at h
 ·grind
 rename_i i hi;split at h
 ·rename_i fs bV;split at h
  ·rename_i o ft R9;split at h
   grind
   grind
  grind
 grind
def BQ (T:TypeId)(x y:DX):mB (eR C T x y):=by
 intro H K h;unfold eR at h;split at h
 ·grind
 rename_i i hi;split at h
 ·rename_i e k n bV;split at h
  ·grind
  rename_i ie lE;split at h
  ·rename_i id;split at h
   grind[eR]
   grind[eR]
   grind
  grind[eR]
  grind
 ·rename_i len e k n bV;split at h
  ·grind
  grind[eR]
 grind
theorem Dh {i:TI}{cs:List DC}{off:Nat}(h:C1 i cs off K): ∃r u R,K r u R/\∀K':j9,K' r u R->C1 i cs off K':=by grind[C1]
def Me (T:TypeId)(x y:DX):mB λ_ K=>s9 C T x y K:=by
 refine mB.const λK h=>?_;unfold s9 at h;split at h
 ·grind
 rename_i i hi;split at h
 ·rename_i len e k n bV;split at h
  ·grind
  rename_i ie lE;split at h
  grind[Dh,s9]
  grind
 grind[s9]
 grind
def Mf (T:TypeId)(x:DX)(n:Nat):mB λ_ K=>zT C T x n K:=by
 refine mB.const λK h=>?_;unfold zT at h;split at h
 ·grind
 rename_i i hi;split at h
 ·rename_i fs bV;split at h
  ·rename_i o ft R9;split at h
   ·rename_i fi kI;split at h
    grind[Dh,zT]
    grind
   grind
  grind
 grind
theorem zZ {d:Option (Option DV)}{GP:Nat}{K':Nat->Prop}(h:FZ d GP K'): ∃n,K' n/\∀K'':Nat->Prop,K'' n->FZ d GP K'':=by
 unfold FZ at h
 grind[FZ]
def Mg (T:TypeId)(x:DX)(lo hi:Option (Option DV)):mB (gL C T x lo hi):=by
 intro H K h;unfold gL at h;split at h
 ·grind
 rename_i i kH;split at h
 ·rename_i e bV;split at h
  ·grind
  rename_i ie lE;split at h
  ·rename_i c u r eG;split at h
   ·rename_i GW hv;obtain⟨l,h,hl⟩:=zZ h;obtain⟨hh,h,hh'⟩:=zZ h;obtain⟨h1,hu,h⟩:=h;refine⟨_,_,_,h,λH' K' hH hK=>?_⟩;simp only[gL,kH,bV,lE,fm eG hH]
    grind
   grind
  grind
 ·rename_i bV;split at h
  grind[zZ,gL]
  grind
 ·rename_i n e bV;split at h
  ·grind
  rename_i ie lE;split at h
  ·rename_i _l1 id off;split at h
   ·rename_i t cs hb;split at h
    ·rename_i l u r eG;split at h
     ·rename_i Pj eB;split at h
      ·rename_i ns IH;refine⟨_,_,_,h,λH' K' hH hK=>?_⟩;simp only[gL,kH,bV,lE,hH id (by simp),hb,fm eG λj hj=>hH j bq]
       grind
      grind
     grind
    grind
   ·rename_i l hb;split at h
    ·rename_i Pj eB;split at h
     grind[gL]
     grind
    grind
   grind
  grind
 grind
end
end Go.Fw
