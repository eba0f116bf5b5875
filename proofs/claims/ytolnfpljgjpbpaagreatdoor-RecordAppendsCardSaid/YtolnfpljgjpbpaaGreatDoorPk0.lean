import Derived.Below
import Derived.Deep.RegionLaw
import Derived.Ground.Names2Prog
import Derived.Ground.Names7Prog
import Derived.Ground.NamesProg
import Derived.IntWalk
import Derived.JoinedOf
import Derived.KernelRfl
import Derived.LaidLaws
import Derived.LaidMore
import Derived.LaidSub
import Derived.Laws.Append
import Derived.Laws.BytesString
import Derived.Laws.Cells
import Derived.Laws.CopyRow
import Derived.Laws.Entries
import Derived.Laws.IdiomCopy
import Derived.Laws.IdiomStrings
import Derived.Laws.StructEq
import Derived.Lay
import Derived.Lib.AppendIntMem
import Derived.Lib.AtoiAll
import Derived.Lib.AtoiAllCases
import Derived.Lib.ItoaNum
import Derived.Lib.Join
import Derived.Lib.SliceRun
import Derived.Lib.SmallJoins
import Derived.Lib.Split
import Derived.Lib.Strings
import Derived.Lib.Walk
import Derived.LoopIn
import Derived.LoopNIn
import Derived.MapKept
import Derived.OpenShut
import Derived.Orders
import Derived.OrdersIn
import Derived.OwnWalkIn
import Derived.ProofKit
import Derived.RangeFuncBound
import Derived.RangeFuncCalls
import Derived.RangeFuncFrom
import Derived.RangeFuncLeaves
import Derived.RangeFuncOwn
import Derived.Scope
import Derived.Shelf.LaysC
import Derived.Shelf.LaysM
import Derived.Shelf.Slices.Clone
import Derived.Shelf.Slices.Reverse
import Derived.Shelf.Sort.Plain
import Derived.Shelf.Spec.SlicesGrow
import Derived.Shelf.Strconv.AtoiAll
import Derived.Shelf.Strconv.Itoa3
import Derived.Shelf.Strings.Cut
import Derived.Shelf.Strings.OnBuilder
import Derived.Shelf.Strings.Prefix
import Derived.Shelf.Strings.Split
import Derived.Shelf.Vars
import Derived.Stop.Joined
import Derived.Tactics
import Derived.TacticsIn
import Derived.TacticsInMore
import Derived.WalkKit
import GoSem.ClaimGoes
set_option linter.all false
namespace Go
def fj:=@Nat.ne_of_beq_eq_false
def fM:=@Nat.le_of_ble_eq_true
def jX:=@List.getD_eq_getElem?_getD
def kF:=@List.getElem?_eq_some_iff
def eJ:=@decide_eq_false
def fh:=@decide_eq_true
def dz:=@Nat.zero_le
def o8:=@List.getElem?_eq_getElem
def my:=@Go.Result.andThen_ok
def pj:=@Nat.eq_of_beq_eq_true
def cF:=@List.mem_cons
def aP:=@congrArg
def eK:=@Go.Sem.run_bind
def gA:=@List.getElem?_map
def jt:=@List.mem_cons_of_mem
def jH:=@List.mem_of_getElem?
def dC:=@List.mem_map
def je:=@List.mem_cons_self
def kG:=@Nat.mul_le_mul_right
def ig:=@List.mem_append
def m7:=@Option.map_eq_some_iff
def dG:=@Nat.le_refl
def sT:=@Array.getD_eq_getD_getElem?
def jf:=@List.length_map
def pc:=@List.take_of_length_le
def jN:=@List.not_mem_nil
def ii:=@Prod.mk.injEq
def qW:=@Option.isSome_iff_exists
def kH:=@List.length_cons
def mA:=@List.mem_singleton
def lM:=@Option.some.injEq
def ju:=@List.map_cons
def mB:=@List.take_length
def lN:=@Go.Sem.run_pure
def pd:=@List.getElem_mem
def j9:=@Nat.zero_add
def xY:=@List.length_eq_one_iff
def tE:=@Bool.false_eq_true
def tH:=@List.length_append
def qX:=@List.cons_append
def qg:=@Option.some.inj
def tJ:=@Go.run_underlying
def tK:=@Int.toNat_natCast
def sU:=@Bool.and_eq_true
def Jj:=@List.eq_nil_of_length_eq_zero
def C7:=@Nat.lt_succ_iff_lt_or_eq
def GB:=@Array.getElem?_eq_some_iff
def wX:=@decide_eq_true_iff
def tM:=@List.all_eq_true
def C8:=@List.length_eq_zero_iff
def xZ:=@Bool.false_ne_true
def C9:=@List.getElem?_set_self
def vX:=@Option.getD_some
def Jk:=@Go.World.block_lt_of_cell?
def Ca:=@List.mem_of_mem_take
def pf:=@Nat.le_trans
def vY:=@Bool.eq_iff_iff
def ya:=@Option.map_some
def yb:=@List.append_nil
def Da:=@Go.World.var?_cell
def jO:=@or_false
def Ah:=@List.nodup_cons
def Ai:=@List.length_nil
def Aj:=@List.map_append
def PY:=@Classical.byContradiction
def Db:=@List.take_add_one
def Jl:=@List.mem_iff_getElem
def kM:=@if_false
def Cb:=@List.cons.injEq
def Dc:=@List.length_take
def GC:=@Function.comp_def
def PZ:=@Go.World.cell?_of_block
def UV:=@Nat.eq_of_mul_eq_mul_right
def UW:=@Go.World.putObj_heap_other
def XI:=@Int.mul_le_mul_of_nonneg_right
def UX:=@List.getElem?_append_left
def Dd:=@Int.emod_nonneg
def XJ:=@Int.mul_le_mul_of_nonneg_left
def LW:=@List.map_congr_left
def LX:=@List.length_pos_iff
def P0:=@List.length_singleton
def Jm:=@of_decide_eq_true
def De:=@Int.mul_nonneg
def GD:=@List.length_set
def UY:=@List.getElem?_cons_zero
def LY:=@Int.emod_lt_of_pos
def P1:=@List.getElem?_set_ne
def P2:=@List.mem_of_mem_drop
def Ak:=@List.map_map
def XK:=@Array.getElem?_append_left
def XL:=@List.getElem?_append_right
def LZ:=@List.nodup_append
def Df:=@not_not_intro
def XM:=@List.drop_eq_getElem_cons
def GF:=@List.drop_zero
def XN:=@Int.natAbs_ediv_le_natAbs
def UZ:=@List.mem_iff_getElem?
def U0:=@Array.getElem?_toList
def aft:=@List.exists_cons_of_length_eq_add_one
def Dh:=@List.map_nil
def tO:=@Nat.add_zero
def yd:=@Go.setRow_heap
def Di:=@Go.DataW.trod_int
def Sr:=@Int.mul_lt_mul_of_pos_right
def Hz:=@List.getElem?_drop
def L0:=@List.getElem?_toArray
def L1:=@Array.mem_of_getElem?
def L2:=@List.take_append_drop
def L3:=@List.length_filter_le
def L4:=@List.set_getElem_self
def HA:=@Go.DataW.agg.injEq
def Bh:=@Go.run_program
def Ss:=@Go.MapKept.run_getObj_map
def Su:=@Go.World.putObj_heap_same
def Sv:=@List.mem_or_eq_of_mem_set
def L5:=@Int.ediv_emod_unique
def Dj:=@Int.natAbs_zero
def HB:=@List.append_assoc
def XO:=@Array.getElem?_setIfInBounds_ne
def Sw:=@List.getElem?_cons_succ
def L6:=@List.getD_cons_zero
def HC:=@List.any_eq_true
def Dk:=@Int.mul_le_mul
def tQ:=@Nat.mod_lt
def Dl:=@List.take_zero
def Sx:=@Go.MapKept.run_findKey
def Sy:=@List.drop_of_length_le
def L7:=@List.getElem?_take
def XP:=@Go.ChangeSpec.witness_shaped
def HD:=@Int.natAbs_tmod
def XQ:=@Array.getElem?_append_right
def SA:=@Array.getElem?_append
def HE:=@UInt8.toNat_inj
def SD:=@List.set_append_right
def SE:=@Go.Lib.atoiAll_bounds
def SF:=@Int.emod_add_mul_ediv
def XR:=@List.idxOf_lt_length_of_mem
def XS:=@Go.returnsInHanded_of_calls
def Dm:=@Int.sign_zero
def L8:=@Classical.not_not
def XT:=@Go.OpenClaim.holds_of_wide
def SG:=@List.getElem?_append
def SH:=@Go.run_storeCells_at
def SI:=@Go.World.cells?_some
def SJ:=@Go.DataW.trod_struct
def SK:=@Array.getElem_modify
def SL:=@Classical.not_forall
def XU:=@List.pairwise_iff_getElem
def L9:=@List.drop_length
def Ma:=@Option.bind_some
def Mb:=@Bool.not_eq_true
def Bi:=@Nat.mul_one
def SM:=@Go.DataW.trod_array
def SN:=@List.getD_cons_succ
def SO:=@List.getElem_of_mem
def XV:=@Go.ChangeSpec.post_blind
def SP:=@Option.isNone_some
def ox:=@Ne.symm
def sE:=@and_true
def Mc:=@Int.ediv_nonneg
def SQ:=@List.set_cons_zero
def HG:=@List.map_take
def Md:=@List.nil_append
def SR:=@List.filter_append
def SU:=@Go.DataW.lit.injEq
def XW:=@Go.World.shaped_of_ZipB
def XX:=@Go.DataW.Whole.of_heap
def Dn:=@Int.one_mul
def SW:=@Array.size_append
def Bj:=@Nat.blt_eq
def SX:=@List.ext_getElem?
def SY:=@decide_eq_true_eq
def SZ:=@Option.isSome_map
def S3:=@Int.lt_trichotomy
def S4:=@Nat.lt_trichotomy
def Me:=@List.nodup_nil
def HH:=@Nat.sub_zero
def XY:=@Nat.div_lt_iff_lt_mul
def HI:=@Nat.sub_self
def S5:=@Go.run_loadCells
def S6:=@Go.grownBy_keeps
def S7:=@List.length_drop
def XZ:=@List.mem_append_left
def X0:=@Nat.pow_le_pow_right
def aeo:=@Int.gcd_pos_of_ne_zero_right
def Mf:=@Nat.add_assoc
def Mg:=@Bool.or_false
def Mh:=@Int.mul_assoc
def S8:=@Option.map_none
def Bk:=@Array.ext
def X3:=@List.drop_succ_cons
def X4:=@List.take_succ_cons
def X5:=@Go.World.laidAll_os
def aep:=@Int.sign_eq_neg_one_of_neg
def aeq:=@Int.lt_of_mul_lt_mul_right
def aer:=@Array.getElem_append_right
def X6:=@Nat.lt_of_lt_of_le
def X7:=@Nat.add_sub_cancel
def X8:=@List.set_cons_succ
def X9:=@Option.isSome_some
def Ya:=@Option.isSome_none
def Mi:=@List.set_set
def aes:=@Array.mapM_eq_mapM_toList
def aet:=@Array.getElem?_eq_getElem
def aeu:=@Array.getElem_append_left
def aev:=@Decidable.byContradiction
def Yb:=@List.flatten_cons
def HJ:=@Array.ext'
def Yc:=@List.any_eq_false
def S9:=@Bool.false_or
def Mj:=@List.map_id
def Yd:=@Int.ediv_le_self
def Ta:=@Nat.gcd_comm
def Ye:=@List.foldl_cons
def Yf:=@Bool.or_eq_true
def Tb:=@List.map_set
def Tc:=@Int.ne_of_gt
def Yg:=@List.findIdx_eq
def Yh:=@Bool.decide_and
def Do:=@true_and
def Yi:=@Nat.mul_le_mul
def Yj:=@Array.size_map
def Yk:=@List.drop_drop
def Yl:=@Int.natAbs_mul
def Td:=@Nat.add_mul
variable{p:Prop}
def K0 (h:p:=by omega):p:=h
def K1 (h:p:=by
 (try(refine tX 0 ?_;try exact Zt))
 (first|done|rfl|exact True.intro)):p:=h
def K2 (h:p:=by
 obtain⟨volt,earth,opens,hall,lots,units⟩:=s
 rcases Ku log with⟨g1,g2⟩|⟨j,g1,g2,g3⟩
 ·rw[g2]at C3;refine gF f35 hl ?_;repeat' ((first|(refine kO 7 rfl ?_;first|refine Rh (kl _ _) ?_)|refine tX 0 ?_|exact Zt|refine bR ?_ ?_<;>intro h)<;>(try conv=>whnf))
  rw[hf];repeat' ((first|(refine kO 7 rfl ?_;first|refine Rq (iT _) ?_|refine rG (λ_ z=>⟨_,wF C3,z⟩) ?_)|refine tX 0 ?_|exact Zt|refine bR ?_ ?_<;>intro h)<;>(try conv=>whnf))
  all_goals first|exact Zo|exact Ew
 ·rw[g3]at C3;have hN:dJ (((log.map cd).length :Int) -1) j:=⟨by omega⟩;generalize log.getD j ⟨0,[],[]⟩=le at*;obtain⟨lt,lw,lx⟩:=le;refine gF f35 hl ?_;repeat' ((first|(refine kO 7 rfl ?_;first|refine Rh (kl _ _) ?_)|refine tX 0 ?_|exact Zt|refine bR ?_ ?_<;>intro h)<;>(try conv=>whnf))
  all_goals rw[hf]
  all_goals
   repeat' ((first|(refine kO 7 rfl ?_;first|refine Rq (iT _) ?_|refine rG (λ_ z=>⟨_,wF C3,z⟩) ?_)|refine tX 0 ?_|exact Zt|refine bR ?_ ?_<;>intro h)<;>(try conv=>whnf))
   all_goals first|exact Zo|exact Ew):p:=h
def K3 (h:p:=by
 repeat' ((first|refine tX 0 ?_|exact Zt|refine bR ?_ ?_<;>intro h)<;>(try conv=>whnf))
 all_goals first|exact Zo|(exact rfl)):p:=h
def K4 (h:p:=by
 repeat((first|(refine kO 7 rfl ?_;first|refine rG (λ_ z=>⟨_,Nn (show(4:Int)≠0 by decide),z⟩) ?_)|refine tX 0 ?_|exact Zt);(try conv=>whnf))
 rw[vW];repeat((first|(refine kO 7 rfl ?_;first|refine rG (λ_ z=>⟨_,Nn (show(4:Int)≠0 by decide),z⟩) ?_)|refine tX 0 ?_|exact Zt);(try conv=>whnf))
 (first|done|rfl|exact True.intro)):p:=h
def K5 (h:p:=by(first|done|rfl|exact True.intro)):p:=h
def K6 (h:p:=by
 repeat' ((first|refine tX 0 ?_|exact Zt|refine bR ?_ ?_<;>intro h)<;>(try conv=>whnf))
 all_goals first|exact Zs|exact⟨m3,bq rfl rfl,_,rfl,rfl⟩):p:=h
def K7 (h:p:=by
 repeat' ((first|refine tX 0 ?_|exact Zt|refine bR ?_ ?_<;>intro h)<;>(try conv=>whnf))
 all_goals first|exact Ze|exact⟨m3,bq rfl rfl,_,rfl,rfl⟩):p:=h
def K8 (h:p:=by
 repeat' ((first|(refine kO 7 rfl ?_;first|refine rG (λ_ z=>⟨_,aN (by simp only[ab,jf];omega) _,z⟩) ?_|refine rG (λ_ z=>⟨_,bJ (by simp only[ab,jf];omega) _,z⟩) ?_|refine rG (λ_ z=>⟨_,wF rfl,z⟩) ?_)|refine tX 0 ?_|exact Zt|refine bR ?_ ?_<;>intro h)<;>(try conv=>whnf))
 all_goals exact Ew):p:=h
def dy (h:p:=by kernel_rfl):p:=h
def bw (h:p:=by grind):p:=h
def K12 (h:p:=by
 repeat' ((first|(refine kO 7 rfl ?_;first|refine gu (λ_ z=>⟨_,_,_,(AK hl (by grind[iB,jK]) ⟨_,_,rfl,rfl⟩ rfl),z⟩) ?_)|refine tX 0 ?_|exact Zt|refine bR ?_ ?_<;>intro h)<;>(try conv=>whnf))
 all_goals exact Ew):p:=h
def K13 (h:p:=by
 repeat' ((first|(refine kO 7 rfl ?_;first|refine Rq (eo _ _ _) ?_)|refine tX 0 ?_|exact Zt|refine bR ?_ ?_<;>intro h)<;>(try conv=>whnf))
 all_goals exact Z0):p:=h
def K14 (h:p:=by
 (try(refine tX 0 ?_;try exact Zt))
 refine af (ι:=Nat) (λi=>1<=i/\i<=a.length) (λi=>a.length -i) (λi=>⟨[(0,vL a),(1,vL b),(5,pO 0),(6,vI (GA a b i)),(7,vI i)],[(0,some (.row true 1 (.ints (Xq a b i))))],1⟩) 1 (ai (by rw[g5,e1,e2];kernel_rfl)) ⟨dG _,by omega⟩ ?_;clear d0' d1 d2 h e1 e2;rintro i ⟨xJ,hi⟩;have d0':=dig b i;have d1:=ha.get i;have d2:=hb.get i;have d3:=AH a b i;have d4:=CM a b i;have d5:=NC a b i
 (try(refine tX 0 ?_;try exact Zt))
 (refine bR ?_ ?_<;>intro h<;>(try conv=>whnf))
 ·have al:i<a.length:=by omega
  (try(refine tX 0 ?_;try exact Zt))
  (refine bR ?_ ?_<;>intro h<;>(try conv=>whnf))
  ·have f1:GA a b (i+1)=1:=if_pos h;have f2:sbD a b i=a.getD i 0 -b.getD i 0 -GA a b i+1000000000:=if_pos h
   (try(refine tX 0 ?_;try exact Zt))
   exact⟨i+1,⟨by omega,al⟩,by omega,ai (by rw[d5,f1,f2];kernel_rfl)⟩
  ·have f1:GA a b (i+1)=0:=if_neg h;have f2:sbD a b i=a.getD i 0 -b.getD i 0 -GA a b i:=if_neg h
   (try(refine tX 0 ?_;try exact Zt))
   exact⟨i+1,⟨by omega,al⟩,by omega,ai (by rw[d5,f1,f2];kernel_rfl)⟩
 ·obtain rfl:i=a.length:=by omega
  (try(refine tX 0 ?_;try exact Zt))
  rfl):p:=h
def bX (h:p:=by decide):p:=h
def K16 (h:p:=by
 repeat' ((first|(refine kO 7 rfl ?_;first|refine gu (λ_ z=>⟨_,_,_,(c0 _ _ ⟨_,_,rfl,rfl⟩ rfl),z⟩) ?_|refine rG (λ_ z=>⟨_,aN (by(simp[ab];done)) _,z⟩) ?_|refine rG (λ_ z=>⟨_,bJ (by(simp[ab];done)) _,z⟩) ?_|refine rG (λ_ z=>⟨_,aN (by simp only[ab,ju,kH];omega) _,z⟩) ?_|refine rG (λ_ z=>⟨_,bJ (by simp only[ab,ju,kH];omega) _,z⟩) ?_|refine rG (λ_ z=>⟨_,wF rfl,z⟩) ?_)|refine tX 0 ?_|exact Zt|refine bR ?_ ?_<;>intro h)<;>(try conv=>whnf))
 all_goals exact Ei):p:=h
def HK (h:p:=by simp only[execOp,ho,eK,hr,my];rfl):p:=h
def K18 (h:p:=by
 by_cases h1:i=fid
 ·by_cases h2:j=fid;omega
  ·exfalso;subst h1;rw[jw]at bi;cases bi;rw[it _ _ _ h2]at bj;obtain⟨h3,h4⟩:=live h2 hj;exact h3 (hR.inj j id b _ _ h4 hb bj xL)
 ·by_cases h2:j=fid
  ·exfalso;subst h2;rw[jw]at bj;cases bj;rw[it _ _ _ h1]at bi;obtain⟨h3,h4⟩:=live h1 hi;exact h3 (hR.inj i id b _ _ h4 hb bi xL)
  ·rw[it _ _ _ h1]at bi;rw[it _ _ _ h2]at bj
   exact hR.inj i j x _ _ (live h1 hi).2 (live h2 hj).2 bi bj):p:=h
def K19 (h:p:=by
 repeat' ((first|refine tX 0 ?_|exact Zt|refine bR ?_ ?_<;>intro h)<;>(try conv=>whnf))
 all_goals first|exact Zo|exact⟨i+1,al,by omega,ai (by rw[xR,lW];kernel_rfl)⟩):p:=h
theorem K20 (h:p:=by
 repeat' ((first|refine tX 0 ?_|exact Zt|refine bR ?_ ?_<;>intro h)<;>(try conv=>whnf))
 all_goals first
  |(exfalso;omega)
  |rfl):p:=h
def K22 (h:p:=by
 rw[aY hx h2 h4 (show aQ E p log ⟨volt,earth,opens,hall,lots,units⟩ _ 14 [x] n r=(_,_)from hq.trans ((if_neg xZ).trans (if_pos hh)))];refine gI f115 h3 hl rfl ?_;repeat' ((first|(refine kO 7 rfl ?_;first|refine gu (λ_ z=>⟨_,_,_,(c0 _ _ ⟨_,_,rfl,rfl⟩ rfl),z⟩) ?_|refine rG (λ_ z=>⟨_,bJ (Df hh) _,z⟩) ?_|refine rG (λ_ z=>⟨_,aN (by(simp[ab];done)) _,z⟩) ?_|refine rG (λ_ z=>⟨_,bJ (by simp only[ab,ju,kH];omega) _,z⟩) ?_|refine rG (λ_ z=>⟨_,wF rfl,z⟩) ?_|refine gu (λ_ z=>⟨_,_,_,(vH hM hp hr rfl rfl rfl (jR (by assumption)) rfl rfl rfl),z⟩) ?_)|refine tX 0 ?_|exact Zt|refine bR ?_ ?_<;>intro h)<;>(try conv=>whnf))
 all_goals exact Ei):p:=h
def K23 (h:p:=by
 repeat' ((first|(refine kO 7 rfl ?_;first|refine Rq (gj _) ?_|refine Rq (eo _ _ _) ?_)|refine tX 0 ?_|exact Zt|refine bR ?_ ?_<;>intro h)<;>(try conv=>whnf))
 all_goals exact Z0):p:=h
def K24 (h:p:=by
 repeat' ((first|refine tX 0 ?_|exact Zt|refine bR ?_ ?_<;>intro h)<;>(try conv=>whnf))
 all_goals first|exact Ze|exact⟨n,⟨by omega,hg⟩,by omega,ai (by rw[show((n:Int) -1)=(((n+1:Nat):Int) -1 -1)by omega];kernel_rfl)⟩):p:=h
def K25 (h:p:=by
 repeat' ((first|refine tX 0 ?_|exact Zt|refine bR ?_ ?_<;>intro h)<;>(try conv=>whnf))
 all_goals first|exact Zo|exact⟨i+1,al,by omega,ai (by rw[xR];kernel_rfl)⟩):p:=h
def K26 (h:p:=by
 refine gI f112 h3 hl rfl ?_;repeat' ((first|(refine kO 7 rfl ?_;first|refine gu (λ_ z=>⟨_,_,_,(c0 _ _ ⟨_,_,rfl,rfl⟩ rfl),z⟩) ?_|refine rG (λ_ z=>⟨_,bJ hh _,z⟩) ?_|refine rG (λ_ z=>⟨_,aN (by(simp[ab];done)) _,z⟩) ?_|refine rG (λ_ z=>⟨_,bJ (by(simp[ab];done)) _,z⟩) ?_|refine rG (λ_ z=>⟨_,aN (by simp only[ab,ju,kH];omega) _,z⟩) ?_|refine rG (λ_ z=>⟨_,bJ (by simp only[ab,ju,kH];omega) _,z⟩) ?_|refine rG (λ_ z=>⟨_,wF rfl,z⟩) ?_)|refine tX 0 ?_|exact Zt|refine bR ?_ ?_<;>intro h)<;>(try conv=>whnf))
 all_goals exact Ei):p:=h
def K27 (h:p:=by
 rw[h3]at hcc kI
 (try(refine tX 0 ?_;try exact Zt))
 rw[vW]
 (try(refine tX 0 ?_;try exact Zt))
 exact⟨i+1,⟨al,io kI⟩,by omega,fA (ks:=[1,2,8,14,15,16]) (m:=[(0,0)]) (n:=1) (by rw[wq,<- hpk];kernel_rfl)⟩):p:=h
def K28 (h:p:=by
 have hn: ¬(len*ie.size>2^24):=by omega
 refine⟨(Array.range (len*ie.size)).map (λx=>(if len*ie.size=0 then #[]else ez.cells)[x%(if len*ie.size=0 then #[]else ez.cells).size]!),by simp,λcells l7=>?_⟩;simp only[Instr.buildSlice,eK,hT.cX,hd,my,Hx.iH,hn,kM];by_cases h0:len*ie.size=0
 ·rw[if_pos h0]at l7;simp only[h0,if_true,eK,lN,my];rw[h0]at l7;rw[l7];simp[newRow]
 ·rw[if_neg h0]at l7;simp only[h0,kM,eK,Hx.tw,my,lN];rw[l7]
  simp[newRow]):p:=h
def K29 (h:p:=by
 refine gF f106 hl ?_;repeat' ((first|(refine kO 7 rfl ?_;first|refine rG (λ_ z=>⟨_,aN (by omega) _,z⟩) ?_|refine rG (λ_ z=>⟨_,bJ (by omega) _,z⟩) ?_|refine rG (λ_ z=>⟨_,wF rfl,z⟩) ?_)|refine tX 0 ?_|exact Zt|refine bR ?_ ?_<;>intro h)<;>(try conv=>whnf))
 all_goals exact Ew):p:=h
def K30 (h:p:=by
 refine gI f115 h3 hl rfl ?_;repeat' ((first|(refine kO 7 rfl ?_;first|refine gu (λ_ z=>⟨_,_,_,(c0 _ _ ⟨_,_,rfl,rfl⟩ rfl),z⟩) ?_|refine rG (λ_ z=>⟨_,aN hh _,z⟩) ?_|refine rG (λ_ z=>⟨_,aN (by(simp[ab];done)) _,z⟩) ?_|refine rG (λ_ z=>⟨_,bJ (by simp only[ab,ju,kH];omega) _,z⟩) ?_|refine rG (λ_ z=>⟨_,wF rfl,z⟩) ?_|refine gu (λ_ z=>⟨_,_,_,(vH hM hp hr rfl rfl rfl (jR (by assumption)) rfl rfl rfl),z⟩) ?_)|refine tX 0 ?_|exact Zt|refine bR ?_ ?_<;>intro h)<;>(try conv=>whnf))
 all_goals exact Ei):p:=h
def Lz (h:p:=by
 (try(refine tX 0 ?_;try exact Zt))
 rfl):p:=h
def K32 (h:p:=by
 repeat' ((first|(refine kO 7 rfl ?_;first|refine rG (λ_ z=>⟨_,aN hk _,z⟩) ?_|refine rG (λ_ z=>⟨_,bJ hk _,z⟩) ?_|refine rG (λ_ z=>⟨_,wF rfl,z⟩) ?_)|refine tX 0 ?_|exact Zt|refine bR ?_ ?_<;>intro h)<;>(try conv=>whnf))
 all_goals exact Ei):p:=h
def K33 (h:p:=by
 simp only[na]at hr;split at hr
 ·rename_i n hn;simp at hr;subst hr;have hm:=Aw hn;obtain⟨_,b,h1,h2⟩:=hd;exact⟨⟨_,hm⟩,b,by rw[h.kJ hm];exact h1,h2⟩
 grind):p:=h
def K34 (h:p:=by
 repeat' ((first|refine tX 0 ?_|exact Zt|refine bR ?_ ?_<;>intro h)<;>(try conv=>whnf))
 all_goals exact rfl):p:=h
def K35 (h:p:=by
 refine gH f135 ?_;repeat' ((first|refine tX 0 ?_|exact Zt|refine bR ?_ ?_<;>intro h)<;>(try conv=>whnf))
 all_goals first|exact Zs|exact⟨m0,bq rfl rfl,_,rfl,rfl⟩):p:=h
def K36 (h:p:=by
 (try(refine tX 0 ?_;try exact Zt))
 exact⟨i -1,⟨by omega,by omega⟩,by omega,ai (by rw[show i -1+1=i by omega];unfold Fe Ff;rw[s1,s2];kernel_rfl)⟩):p:=h
def K37 (h:p:=by
 (try(refine tX 0 ?_;try exact Zt))
 exact⟨i -1,⟨by omega,by omega⟩,by omega,ai (by rw[show i -1+1=i by omega];unfold Kx Ky;rw[s1,s2];kernel_rfl)⟩):p:=h
def K38 (h:p:=by
 rintro F nt a w ⟨N,⟨q1,q2,q0,β,q3,q4⟩,q5⟩
 have hg:ij {P:=default,gl:=[],ty:=[]} Hh.get [(id,some (.row false z c))]:=ij.ku λp hp=>by
  rw[mA]at hp;subst hp;exact⟨m,z,c,hb,rfl⟩
 have ht:Tr F β N Hh.get w β N (Hp.on [(id,some (.row false z c))] Hh.get) w:=hg.soft.tr;refine⟨N,⟨q1,q2,q0,β,?_,?_⟩,q5⟩
 ·have:=ht.env q4 q3;rwa [<- Hp.get_append]at this
 ·have:=hg.heap q4
  rwa [<- Hp.get_append]at this):p:=h
def K39 (h:p:=by
 refine sF f81 ?_;repeat((first|(refine kO 7 rfl ?_;first|refine rG (λ_ z=>⟨_,aN h1 _,z⟩) ?_)|refine tX 0 ?_|exact Zt);(try conv=>whnf))
 refine Ck hu rfl rfl rfl rfl rfl rfl (by simp;omega) ?_;conv=>whnf
 rw[z6]
 exact tL):p:=h
def K40 (h:p:=by
 rw[aY hx h2 h4 (show aQ E p log ⟨volt,earth,opens,hall,lots,units⟩ _ 14 [x] n r=(_,_)from hq.trans (if_pos rfl))];refine gI f115 h3 hl rfl ?_
 exact tL):p:=h
def K41 (h:p:=by repeat first|exact gY.base _|refine gY.step rfl ?_):p:=h
def K42 (h:p:=by
 repeat' ((first|(refine kO 7 rfl ?_;first|refine Rq (eo _ _ _) ?_)|refine tX 0 ?_|exact Zt|refine bR ?_ ?_<;>intro h)<;>(try conv=>whnf))
 all_goals first|exact Zo|exact mH (by unfold Zz;split<;>(try split)<;>omega)):p:=h
def K43 (h:p:=by
 repeat' split at h
 all_goals(simp only[ii]at h;obtain⟨rfl,h⟩:=h)
 all_goals first|exact hm|exact⟨hm.units,hm.lots,hm.opens,hm.unit⟩):p:=h
def K44 (h:p:=by
 repeat' ((first|refine tX 0 ?_|exact Zt|refine bR ?_ ?_<;>intro h)<;>(try conv=>whnf))
 all_goals first|exact Zo|(exact absurd h hx)|exact⟨i+1,⟨al,λhm=>(Gt.1 hm).elim dm λe=>hx e.symm⟩,by omega,Zc⟩):p:=h
def K45 (h:p:=by
 (refine bR ?_ ?_<;>intro h<;>(try conv=>whnf))
 ·(try(refine tX 0 ?_;try exact Zt))
  generalize (lo+hi+1)/2=mm at*;exact⟨(mm,hi),⟨⟨by omega,by omega,by omega⟩,by show y*mm<=_;omega,p5⟩,by omega,Zc⟩
 ·(try(refine tX 0 ?_;try exact Zt))
  generalize (lo+hi+1)/2=mm at*;refine⟨(lo,mm -1),⟨⟨by omega,by omega,by omega⟩,p4,?_⟩,by omega,Zc⟩;simp only
  rw[Int.sub_add_cancel];omega):p:=h
def wY (h:p:=by simp;omega):p:=h
def K47 (h:p:=by
 by_cases hz:(ws.take (w+1)).getD k []= []
 ·have Ad: []∈ws.take (w+1):=Ca (aht.2 (.inr hz.symm));rw[if_pos Ad];rw[hz]at R7;exact tL
 ·generalize (ws.take (w+1)).getD k []=y at*;repeat' ((first|refine tX 0 ?_|exact Zt|refine bR ?_ ?_<;>intro h)<;>(try conv=>whnf))
  all_goals first|exact Ze|exact⟨k+1,⟨sC,λhm=>(aht.1 hm).elim LH λe=>hz e.symm⟩,by omega,Zc⟩):p:=h
def K48 (h:p:=by
 unfold iI at XD;split at XD
 ·rename_i fn Cy;obtain⟨Gm,mW⟩:=aD XD;obtain⟨body,mW⟩:=qW.1 mW;have xI:(fn.name=="runtime.NumGoroutine")=false:=by grind
  simp only[execOp,ho,resolve,hc,Gi,Deferred.ofValue,eK,lN,my,invoke,callFunc,Bh,Cy,xI,mW,SP,tE,kM]
 grind):p:=h
theorem K49 (h:p:=by
 obtain⟨_,hB⟩:=hR.rel id bC e
 cases bC with
 |map es=>obtain⟨b',arr,T,q1,q2,q3,_⟩:=hB;grind
 |box t cs=>obtain⟨b',arr,T,q1,q2,q3,_⟩:=hB;grind
 |dX cs=>obtain⟨b',arr,T,q1,q2,q3,_⟩:=hB;grind
 |row m z c=>
  obtain⟨_,q1|⟨b',cap,q1,q2,arr,T,q3,_⟩⟩:=hB
  grind
  grind
 |az z l=>
  obtain⟨_,q1|⟨b',cap,arr,T,q1,q2,q3,_⟩⟩:=hB
  grind
  grind):p:=h
def K50 (h:p:=by
 intro b' o' v' h';unfold Mem.but at h';split at h'
 grind
 ·rename_i gk;unfold dV at h';split at h'
  ·rename_i hge;rw[ri (gG.gD (pf hH.below.size hge))];omega
   ·intro id bC e hid;by_cases Xl:id=fid
    grind[jw]
    ·rw[aG _ _ _ Xl]at e;rw[it _ _ _ Xl]at hid;have:=(hH.fY e hid).1;omega
  ·exact t2.mv b' o' v' h'):p:=h
theorem K51 (h:p:=by
 obtain rfl:i=l.length:=by omega
 rw[L9]at he;repeat' ((first|refine tX 0 ?_|exact Zt|refine bR ?_ ?_<;>intro h)<;>(try conv=>whnf))
 all_goals first
  |(exfalso;omega)
  |exact mH he):p:=h
def K52 (h:p:=by exact key (by simp[builtin,Builtin.len_,tm,Sm,hT.cX,hd,l8,goInt]) (bk.pure hR h (fS rfl))):p:=h
def K53 (h:p:=by
 refine aS ?_;(refine aR ?_;conv=>whnf);(try(refine tX 2 ?_;try exact Zt));refine aM ?_;(refine aR ?_;conv=>whnf);(try(refine tX 2 ?_;try exact Zt));refine⟨_,dk 6 rfl,?_⟩;repeat' ((first|refine tX 0 ?_|exact Zt|refine bR ?_ ?_<;>intro h)<;>(try conv=>whnf))
 all_goals first|(exact rfl)|(cases x<;>first|(exact rfl)|(exact absurd rfl h)|(cases h))|trace_state):p:=h
def K54 (h:p:=by
 have:(gw (aq (Fw.tag fid) 0) T' R).map Prod.fst=ah R++(ah T').map (aq (Fw.tag fid) 0):=by simp[gw,sG,GC]
 rw[this,LZ];refine⟨hR,?_,λa ha b hb R3=>?_⟩
 ·have Cu:=(nf.new eP hi).ok.news;have:(sG (ah T') (aq (Fw.tag fid) 0)).map Prod.snd=(ah T').map (aq (Fw.tag fid) 0):=by simp[sG,GC]
  grind
 grind):p:=h
def K55 (h:p:=by
 show Int.gcd y (x.tmod y)=_;rw[<- hg];show Nat.gcd y.natAbs (x.tmod y).natAbs =Nat.gcd x.natAbs y.natAbs
 rw[HD,Ta x.natAbs y.natAbs,Nat.gcd_rec y.natAbs x.natAbs,Ta]):p:=h
def K56 (h:p:=by
 intro d hd;have:d= .st (.lit (.pointer none)):=by simpa using hd
 subst this
 trivial):p:=h
def K57 (h:p:=by
 rw[if_neg h1]at c1 ⊢;refine gF f103 sP ?_;repeat' ((first|(refine kO 7 rfl ?_;first|refine gu (λ_ z=>⟨_,_,_,(c0 _ _ ⟨_,_,rfl,rfl⟩ rfl),z⟩) ?_|refine Rq (iT _) ?_|refine rG (λ_ z=>⟨_,wF (E:=4) rfl,z⟩) ?_)|refine tX 0 ?_|exact Zt|refine bR ?_ ?_<;>intro h)<;>(try conv=>whnf))
 all_goals first|exact Zo|exact Ew):p:=h
def K58 (h:p:=by
 repeat' ((first|(refine kO 7 rfl ?_;first|refine rG (λ_ z=>⟨_,wF rfl,z⟩) ?_)|refine tX 0 ?_|exact Zt|refine bR ?_ ?_<;>intro h)<;>(try conv=>whnf))
 all_goals exact Ew):p:=h
theorem K59 (h:p:=by
 repeat' ((first|refine tX 0 ?_|exact Zt|refine bR ?_ ?_<;>intro h)<;>(try conv=>whnf))
 all_goals first
  |(exfalso;omega)
  |exact⟨i+1,⟨al,by omega⟩,by omega,Zc⟩):p:=h
def K60 (h:p:=by
 by_cases hb:A<=p.eH -used
 all_goals
  repeat' ((first|(refine kO 7 rfl ?_;first|refine Rq cA ?_|refine rG (λ_ z=>⟨_,aN hb _,z⟩) ?_|refine rG (λ_ z=>⟨_,bJ hb _,z⟩) ?_|refine rG (λ_ z=>⟨_,wF rfl,z⟩) ?_)|refine tX 0 ?_|exact Zt|refine bR ?_ ?_<;>intro h)<;>(try conv=>whnf))
  all_goals exact Ei):p:=h
def P3 (h:p:=by rw[<- hn];kernel_rfl):p:=h
def K62 (h:p:=by
 refine gH f162 ?_;repeat' ((first|(refine kO 7 rfl ?_;first|refine gu (λ_ z=>⟨_,_,_,(cv _ _ _ _ _ rfl rfl rfl),z⟩) ?_|refine gu (λ_ z=>⟨_,_,_,(cr _ _ _ _ _ rfl rfl rfl),z⟩) ?_)|refine tX 0 ?_|exact Zt|refine bR ?_ ?_<;>intro h)<;>(try conv=>whnf))
 all_goals first|exact Zs|exact⟨m3,bq rfl rfl,_,rfl,rfl⟩):p:=h
def K63 (h:p:=by
 refine sF f157 ?_;repeat((first|(refine kO 7 rfl ?_;first|refine Rq (dt _ _ _) ?_)|refine tX 0 ?_|exact Zt);(try conv=>whnf))
 (first|done|rfl|exact True.intro)):p:=h
def K64 (h:p:=by
 repeat' ((first|refine tX 0 ?_|exact Zt|refine bR ?_ ?_<;>intro h)<;>(try conv=>whnf))
 all_goals first|exact Zo|exact gS (eJ λh=>h0 h.1).symm):p:=h
def K65 (h:p:=by
 obtain⟨h1,h2⟩:=live hi e;refine⟨h2,(hR.rel i bC h2).1,λb1 xQ=>setRow_other w b b1 _ λjq=>h1 ?_⟩;subst jq
 exact hR.inj i id b1 bC _ h2 hb xQ xL):p:=h
def K68 (h:p:=by repeat first|refine sL.step rfl ?_|exact sL.base _):p:=h
def K69 (h:p:=by
 have hz:=hz n hd;have hap:(l++[n]).length =l.length+1:=by simp
 repeat' ((first|refine tX 0 ?_|exact Zt|refine bR ?_ ?_<;>intro h)<;>(try conv=>whnf))
 all_goals first|exact Zo|(exact absurd rfl h)|(exact⟨(i+1,st,l++[n]),⟨⟨al,by dsimp only;omega⟩,hz⟩,by dsimp only;omega,Zc⟩)):p:=h
def K70 (h:p:=by
 repeat' split at h
 all_goals(simp only[ii]at h;obtain⟨rfl,h⟩:=h)
 all_goals first|exact hm|exact⟨hm.lots,hm.len,hm.gas,hm.used,hm.res⟩):p:=h
theorem K71 (h:p:=by
 cases d with
 |own k=>simp only[na];rw[oK hT hm hme]
 |ptr k o=>simp only[na];rw[oK hT hm hme]
 |cK k _ _ _=>simp only[na];rw[oK hT hm hme]
 |mp k=>simp only[na];rw[oK hT hm hme]
 |sS g k=>simp only[na];rw[oK hT hm hme]
 |st c=>rfl
 |nil=>rfl):p:=h
def K72 (h:p:=by
 refine gB f223 ?_;repeat' ((first|(refine kO 7 rfl ?_;first|refine gu (λ_ z=>⟨_,_,_,kX (c2 _) rfl,z⟩) ?_|refine gu (λ_ z=>⟨_,_,_,kX (c3 _) rfl,z⟩) ?_)|refine tX 0 ?_|exact Zt|refine bR ?_ ?_<;>intro h)<;>(try conv=>whnf))
 all_goals exact⟨rfl,rfl,_,rfl,rfl⟩):p:=h
def K73 (h:p:=by
 have hu:=h0 _ rfl;refine⟨cW β fid (some w.heap.size),_,u,R,hK,by rw[hu];exact(td.trans ht).trans t2,by grind,?_⟩;rw[hu];refine cM ⟨.inr rfl,rfl,λnQ z' n' hb wV=>?_⟩;rw[an]at hb;cases hb;cases wV
 exact .inr ⟨w.heap.size,dL,_,e,by simp[cW],rfl,tm,I7⟩):p:=h
def K74 (h:p:=by
 refine sF f152 ?_;repeat' ((first|refine tX 0 ?_|exact Zt|refine bR ?_ ?_<;>intro h)<;>(try conv=>whnf))
 all_goals first|exact Zo|(exact rfl)|(exact absurd h hp)|(exact absurd rfl (by assumption))|(exact mI (fh (by omega)))|(exact mI (eJ (by omega)))):p:=h
def K75 (h:p:=by
 (try(refine tX 0 ?_;try exact Zt))
 exact⟨(l++[(m:Int)%1000000000],m/1000000000),⟨g,by simp;omega,by simp;omega,by simp;omega,by simp;omega,by simp⟩,by simp only;omega,ai (by rw[show((m/1000000000:Nat):Int)=(m:Int)/1000000000 by omega];kernel_rfl)⟩):p:=h
def K76 (h:p:=by
 (try(refine tX 0 ?_;try exact Zt))
 exact⟨i+1,al,by omega,ai (by rw[hs];kernel_rfl)⟩):p:=h
def HL (h:p:=by assumption):p:=h
def K78 (h:p:=by
 refine gH f136 ?_;repeat' ((first|(refine kO 7 rfl ?_;first|refine gu (λ_ z=>⟨_,_,_,(cm _ _ _ _ _ rfl rfl rfl),z⟩) ?_)|refine tX 0 ?_|exact Zt|refine bR ?_ ?_<;>intro h)<;>(try conv=>whnf))
 all_goals first|exact Zs|exact⟨m3,bq rfl rfl,_,rfl,rfl⟩):p:=h
def K79 (h:p:=by
 repeat' ((first|refine tX 0 ?_|exact Zt|refine bR ?_ ?_<;>intro h)<;>(try conv=>whnf))
 all_goals first|exact Z0|(exact absurd hx h)):p:=h
def K80 (h:p:=by
 rw[mA]at hy;subst hy;intro d hd;rw[mA]at hd;subst hd
 trivial):p:=h
def K81 (h:p:=by
 obtain⟨_,b,h1,h2⟩:=h
 exact⟨(e8 id hm).2,b,by rw[(e8 id hm).1];exact h1,h2⟩):p:=h
def K82 (h:p:=by
 repeat' ((first|refine tX 0 ?_|exact Zt|refine bR ?_ ?_<;>intro h)<;>(try conv=>whnf))
 all_goals first|exact Zo|exact Ew):p:=h
def K83 (h:p:=by
 obtain⟨hn,b,h1,h2⟩:=h
 exact⟨t.used _ hn,b,by rw[t.kJ _ hn];exact h1,h2⟩):p:=h
def K84 (h:p:=by
 intro d hd;rw[mA]at hd;subst hd
 trivial):p:=h
def K85 (h:p:=by
 repeat' ((first|refine tX 0 ?_|exact Zt|refine bR ?_ ?_<;>intro h)<;>(try conv=>whnf))
 all_goals first|exact Zo|(exact absurd rfl h)|(exact⟨(i+1,n,[]),⟨⟨al,by simp⟩,by rw[h0];exact hz⟩,by dsimp only;omega,Zc⟩)):p:=h
def K86 (h:p:=by
 rw[if_pos hn]at e;refine⟨aq (Fw.tag fid) 0 n,b'.rn (aq (Fw.tag fid) 0),?_,?_,px UJ (eP.dQ n b' e)⟩
 grind[gw]
 ·rw[Hp.get_append,ur,if_pos (by show _∈ah _;grind[dp]),jQ hi n hn,e];rfl):p:=h
def K87 (h:p:=by
 subst h1;rw[an]at e;cases e;intro d hd;simp only[cF,jN,jO]at hd
 rcases hd with rfl|rfl|rfl|rfl|rfl|rfl|rfl|rfl|rfl|rfl|rfl|rfl|rfl<;>first|trivial|(show _∈_::_;simp)):p:=h
def K88 (h:p:=by
 repeat' ((first|(refine kO 7 rfl ?_;first|refine gu (λ_ z=>⟨_,_,_,(c3 _ _ ⟨_,_,rfl,rfl⟩ rfl),z⟩) ?_)|refine tX 0 ?_|exact Zt|refine bR ?_ ?_<;>intro h)<;>(try conv=>whnf))
 all_goals first|exact Zo|exact Ex):p:=h
def K89 (h:p:=by
 (try(refine tX 0 ?_;try exact Zt))
 grind):p:=h
def K90 (h:p:=by
 intro b2 o v' wW;unfold Mem.but;split
 ·rename_i hb2;subst hb2;exfalso;unfold MV at wW;rw[if_pos q2]at wW;split at wW
  ·rename_i hs;have:=hs id _ hb h1
   grind[cC.tC]
  grind
 ·exact yG Gj b2 o v' wW):p:=h
def K91 (h:p:=by
 (try(refine tX 0 ?_;try exact Zt))
 refine aA ?_
 (try(refine tX 0 ?_;try exact Zt))
 refine aA ?_
 exact tL):p:=h
def K92 (h:p:=by
 obtain⟨o,b0,h1,rfl,h3,rfl⟩:=(nf.new eP hi).heap id b e
 exact J2 (cC.dN mb (eP.dQ o b0 h3))):p:=h
def K93 (h:p:=by
 simp only[cV,cF,jN,jO]at hd
 rcases hd with rfl|rfl|rfl|rfl|rfl|rfl|rfl|rfl|rfl|rfl|rfl|rfl|rfl|rfl|rfl|rfl|rfl<;>first|trivial|(show _∈ah _;simp[lC])):p:=h
def Te (h:p:=by
 refine sF f208 ?_
 exact tL):p:=h
def K95 (h:p:=by
 rw[xi]at qU;simp only[cF]at qU;rcases qU with rfl|rfl|rfl|rfl|rfl|rfl|rfl|rfl|h'
 ·omega
 ·omega
 ·omega
 ·omega
 ·omega
 ·omega
 ·omega
 ·omega
 ·have:=xh hi h';omega):p:=h
def K96 (h:p:=by
 simp only[cV,cF,jN,jO]at hd
 rcases hd with rfl|rfl|rfl|rfl|rfl|rfl|rfl|rfl|rfl|rfl|rfl|rfl|rfl|rfl|rfl|rfl|rfl<;>first|trivial|(show _∈_::_;simp)):p:=h
def K97 (h:p:=by
 repeat' ((first|(refine kO 7 rfl ?_;first|refine rG (λ_ z=>⟨_,Nn (show(6:Int)≠0 by decide),z⟩) ?_)|refine tX 0 ?_|exact Zt|refine bR ?_ ?_<;>intro h)<;>(try conv=>whnf))
 all_goals exact Z0):p:=h
def K98 (h:p:=by
 simp only[builtin,tm,Sm,List.map_toArray,ju,Dh,eK,hr,my]
 rfl):p:=h
def K99 (h:p:=by
 repeat' ((first|refine tX 0 ?_|exact Zt|refine bR ?_ ?_<;>intro h)<;>(try conv=>whnf))
 all_goals exact Ew):p:=h
def afu (h:p:=by rw[show ws.getD i []=ws[i]by simp[jX,al]];exact pd al):p:=h
def ahB (h:p:=by
 (try(refine tX 0 ?_;try exact Zt))
 rw[e1];rw[f]
 (refine bR ?_ ?_<;>intro h<;>(try conv=>whnf))
 ·(try(refine tX 0 ?_;try exact Zt))
  rw[if_pos h]
 ·(try(refine tX 0 ?_;try exact Zt))
  rw[if_neg h]):p:=h
def afv (h:p:=by
 obtain⟨z,hz,rfl⟩:=m7.1 hp;obtain⟨h5,h6⟩:=oM.2 z hz
 rw[k2 _ h5,k3 _ h6]):p:=h
def afw (h:p:=by
 rw[an]at this;cases this;cases wV
 exact .inr ⟨b,cap,_,T,by simp[cW],rfl,tm,by omega⟩):p:=h
def ahC (h:p:=by
 obtain rfl:i=l.length:=by omega
 repeat' ((first|refine tX 0 ?_|exact Zt|refine bR ?_ ?_<;>intro h)<;>(try conv=>whnf))
 all_goals first|exact Zo|exact gS (fh ⟨h0,hp⟩).symm):p:=h
def afx (h:p:=by rwa [show(if b=true then(0:Int)else e)=if p then 0 else e from by simp only[BP.iff (b:=b)]]at h):p:=h
def ahD (h:p:=by
 unfold Go.Fw.Jf at h;simp only[sU]at h;have:=bY h.1.1;simp only[ju,Dh,Ah,cF,jN,jO,not_or]at this
 grind):p:=h
def vZ (h:p:=by grind[fk,Op.operands]):p:=h
def abW (h:p:=by
 obtain⟨d,e1,e2⟩:=JW hE e
 exact e8.wv (q3 s d e1) e2):p:=h
def amo (h:p:=by
 have:(gw (aq (Fw.tag fid) 0) T' R).map Prod.snd=ah R++ah T':=by simp[gw,sG,GC]
 rw[this,LZ]
 exact⟨hR,eP.nd,λa ha b hb R3=>by grind⟩):p:=h
def abX (h:p:=by
 rw[j9]
 grind[gb,Nat.lt_of_lt_of_le,Nat.mul_le_mul_right]):p:=h
def ahE (h:p:=by
 refine sF f209 ?_;repeat' ((first|(refine kO 7 rfl ?_;first|refine Rq (mS _ _ _) ?_)|refine tX 0 ?_|exact Zt|refine bR ?_ ?_<;>intro h)<;>(try conv=>whnf))
 all_goals exact Z0):p:=h
def ahF (h:p:=by
 repeat' ((first|refine tX 0 ?_|exact Zt|refine bR ?_ ?_<;>intro h)<;>(try conv=>whnf))
 all_goals first|(exact rfl)|(cases x<;>first|(exact rfl)|(exact absurd rfl h)|(cases h))):p:=h
def ahG (h:p:=by
 repeat' ((first|refine tX 0 ?_|exact Zt|refine bR ?_ ?_<;>intro h)<;>(try conv=>whnf))
 all_goals first|exact Zo|exact⟨i+1,hp,by omega,ai (by rw[z6];kernel_rfl)⟩):p:=h
def ahH (h:p:=by
 have:bt 0 us=bt 0 (us.take i)++(lC u (17+6*i) (19+6*i) (21+6*i)++bt (i+1) (us.drop (i+1))):=by
  conv=>lhs;rw[h1]
  rw[yZ,h2,j9];rfl
 grind):p:=h
def afy (h:p:=by
 generalize aH 32 s=l at*;have hn:(ab l).length =l.length:=by simp
 refine sF f61 ?_
 exact tA):p:=h
def ahI (h:p:=by
 repeat' ((first|(refine kO 7 rfl ?_;first|refine rG (λ_ z=>⟨_,wF rfl,z⟩) ?_)|refine tX 0 ?_|exact Zt|refine bR ?_ ?_<;>intro h)<;>(try conv=>whnf))
 all_goals exact Ei):p:=h
def ahJ (h:p:=by
 rcases Nat.lt_or_gt_of_ne hjn with Pt|hgt'
 ·have:(j+1)*z0<=n*z0:=kG _ Pt
  grind
 ·have:(n+1)*z0<=j*z0:=kG _ hgt'
  grind):p:=h
def ahK (h:p:=by
 show if iQ=id then Q .normal a w else Q (.exit iQ) a w
 split at h
 ·rename_i e;rw[if_pos (pj e)];grind
 ·rename_i e
  rw[if_neg (λe'=>by simp_all)];grind):p:=h
def ahL (h:p:=by
 obtain⟨o,n⟩:=q;obtain⟨h1,rfl⟩:=TJ.1 h;show tag n<n'
 rw[hT.tag h1];exact h0):p:=h
def ahM (h:p:=by
 refine rG (r:=lit (.int .i64 (l.length:Nat))) (u:=[]) (R:=[]) (λK hK=>?_) h2;unfold fk;rw[ho];simp only[hc,ha,hx];unfold eV;simp only[hi,hk,SC.ao]
 exact hK):p:=h
def afz (h:p:=by
 have hk:iQ≠fid:=λe=>hf (e▸LG)
 exact⟨blk',(live hk e).2,blk'.fU⟩):p:=h
def ahN (h:p:=by
 refine sF f14 ?_;repeat' ((first|(refine kO 7 rfl ?_;first|refine Rw (c2 _ _) ?_)|refine tX 0 ?_|exact Zt|refine bR ?_ ?_<;>intro h)<;>(try conv=>whnf))
 all_goals rfl):p:=h
def ahO (h:p:=by rw[vY];simp only[wX,sU];unfold jJ;constructor<;>(intro h;refine⟨?_,?_⟩<;>first|omega|exact hp)):p:=h
def afA (h:p:=by simp[Instr.sliceAt,hT.cX,hd,Instr.sureAddr,Instr.sliceBounds,Hx.iH,Addr.add]):p:=h
def ahP (h:p:=by
 refine rG (r:=lit (.int .i64 (l.length:Nat))) (u:=[]) (R:=[id]) (λK hK=>?_) h2;unfold fk;rw[ho];simp only[hc,ha,hx];unfold eV;simp only[hi,hk,hH]
 exact hK):p:=h
def Dp (h:p:=by
 refine sF f143 ?_
 exact tL):p:=h
def ahQ (h:p:=by
 intro p hp;rcases cF.1 hp with rfl|hp
 ·exact .inr ⟨t,cs,l,u,r,hb,rfl,eG,λq hq=>jt _ hq⟩
 ·exact .inl (cO eG p hp)):p:=h
def afB (h:p:=by
 intro d hd;rw[mA]at hd;subst hd
 exact hT.xW):p:=h
theorem ahR (h:p:=by
 match vs,hl with
 | [],_=>rfl
 | [v],hl=>
  exfalso;have:l.length=1:=by grind
  obtain⟨y,rfl⟩:=xY.1 this
  grind
 |_::_::_,_=>rfl):p:=h
def ahS (h:p:=by
 refine⟨.inr rfl,by rw[Ct];rfl,λnQ z' n' hb wV=>?_⟩;rw[aG _ _ _ (ox gk),io]at hb;cases hb;cases wV
 exact .inl ⟨by simp[cW],h0,Ct⟩):p:=h
def ahT (h:p:=by
 repeat' ((first|refine tX 0 ?_|exact Zt|refine bR ?_ ?_<;>intro h)<;>(try conv=>whnf))
 all_goals first|exact Zo|(exact rfl)|(exact absurd (by assumption) hp)):p:=h
def afC (h:p:=by
 (try(refine tX 0 ?_;try exact Zt))
 rw[if_neg h];(first|done|rfl|exact True.intro)):p:=h
def abY (h:p:=by unfold lC;dsimp only;rw[<- nq];kernel_rfl):p:=h
def P4 (h:p:=by rw[Hp.au,an]):p:=h
theorem ahU (h:p:=by
 have e1:lo.map a.eval=none:=by cases lo with|none=>rfl|some x=>grind
 have e2:hi.map a.eval=none:=by cases hi with|none=>rfl|some x=>grind
 grind):p:=h
def P5 (h:p:=by
 refine gI f111 h3 hl rfl ?_
 exact tL):p:=h
def afD (h:p:=by
 obtain⟨rfl,_⟩:=hx.am.bB
 exact⟨_,rfl,bk.pure hR h (fS rfl)⟩):p:=h
def amp (h:p:=by
 simp only[Bi,tO];rw[sT,hg]
 exact .lit rfl):p:=h
def ahV (h:p:=by
 have hj:j<z':=by grind
 have al:i*z'+j<c'.len*z':=by
  have:(i+1)*z'<=c'.len*z':=kG _ (SC.ip he)
  grind
 simp_all):p:=h
def abZ (h:p:=by have:scB 1000000000000 (iW ch):=hS;omega):p:=h
def ahW (h:p:=by
 obtain⟨is,hd⟩:=Va (hT.b8.trans bW);unfold Op.equal Op.maxDepth Op.equalIn
 simp only[eK,hT.cX,hd,my,lN]):p:=h
def ahX (h:p:=by
 rw[aY hx h2 h4 (show aQ E p log ⟨volt,earth,opens,hall,lots,units⟩ _ 3 [x,y] n r=(_,_)from if_pos hm)];refine gI f104 h3 hl rfl ?_
 exact tL):p:=h
def ahY (h:p:=by
 rename_i xs ys;simp at h;subst h;refine⟨rfl,rfl,rfl,by simp[SC.len],λi e he=>?_⟩;simp only[SC.elem,SC.len,SG]at he ⊢
 grind):p:=h
def ahZ (h:p:=by
 rw[gA,m7]at hk;obtain⟨x0,Sm,rfl⟩:=hk
 exact e8.sD (hv k x0 Sm) (nX (Cv x0 (jH Sm)))):p:=h
def ah0 (h:p:=by
 subst h2;unfold wd;rw[ex];simp only[Dm,Dj,di,Int.add_zero];refine sF f383 ?_
 (try(refine tX 0 ?_;try exact Zt))
 rw[ex];rfl):p:=h
def ah1 (h:p:=by
 rw[XM hi];show(if l[i]≠0 then l[i]else fs (l.drop (i+1)))=_
 rw[show l.getD i 0=l[i]by simp[jX,hi]]):p:=h
def ah2 (h:p:=by
 have qU:=Qo e;have e3:a2.tmps.getD s undef=a.tmps.getD s undef:=(u3 s qU).trans ((p3 s qU).trans (alS s qU));have:=u1.env s dv e
 grind):p:=h
theorem ah3 (h:p:=by
 clear hx
 induction x with
 |nil=>rfl
 |cons d x ih=>
  simp only[eX]
  rw[key d je,ih λd hd=>key d (jt _ hd)]):p:=h
def ah4 (h:p:=by
 unfold fk at h;rw[ho]at h;simp only at h;split at h
 ·rename_i d hd;exact bN (by simp[execOp,ho]) ⟨_,rfl,bk.pure hR h (ev hd)⟩
 grind):p:=h
theorem ah5 (h:p:=by
 generalize a.eval fo=vf at Cy
 cases Cy with
 |empty a cap hv=>grind[SC.ao]
 |view _ _ _ _ _ hv=>grind[SC.ao]
 |fn fv cv ga h1 h2=>
  grind):p:=h
def ah6 (h:p:=by
 rw[aY hx h2 h4 (show aQ E p log ⟨volt,earth,opens,hall,lots,units⟩ _ 16 [x] n r=(_,_)from rfl)];refine gI f117 h3 hl rfl ?_
 exact tL):p:=h
def ah7 (h:p:=by
 obtain rfl:i=p.aa.length:=by omega
 rw[show(cU p.aa).take p.aa.length=cU p.aa from pc (by simp[cU])]
 exact tA):p:=h
def Ym (h:p:=by grind[Nat.eq_of_mul_eq_mul_right]):p:=h
def afE (h:p:=by rwa [if_neg (λhb=>hp ((BP.iff (b:=b)).1 hb))]at h):p:=h
def ah8 (h:p:=by
 intro e he;rcases ig.1 he with he|he
 ·obtain⟨w,_,rfl⟩:=dC.1 he;rfl
 ·rw[mA]at he;subst he;rfl):p:=h
def ah9 (h:p:=by
 rw[Ej xJ al];intro b jW;rcases ig.1 jW with jW|jW
 ·exact xF b jW
 ·rw[mA]at jW;subst jW;exact hx):p:=h
def U1 (h:p:=by rw[<- hrl];kernel_rfl):p:=h
def aia (h:p:=by
 have hk:=Hp.dU e;have:k=11\/k=13\/k=15:=by simpa [lC,ah]using hk
 rcases this with rfl|rfl|rfl<;>(cases e;trivial)):p:=h
def aib (h:p:=by
 rw[ho]at h;simp only at h ⊢;rw[he m (by grind[Op.operands]),he k (by grind[Op.operands]),he v (by grind[Op.operands])];split at h
 grind
 omega):p:=h
theorem aic (h:p:=by
 cases h with
 |empty _ _ hv=>grind[SC.ao]
 |view _ _ _ _ _ hv=>grind[SC.ao]
 |ref b o f hc hr=>exact .ref b o f (by simp) (by simp)):p:=h
def U2 (h:p:=by cases d<;>simp[eB]at h;grind):p:=h
def aid (h:p:=by
 subst xS;rw[an]at hb;cases hb;cases wV
 exact .inr ⟨w.heap.size,len,arr',e,by simp[cW],by grind,gK w _,by omega⟩):p:=h
def U3 (h:p:=by have:=(s.getD i 0).toNat_lt;omega):p:=h
def ab0 (h:p:=by simp only[qX];grind[cE,mN]):p:=h
def U4 (h:p:=by
 refine gI f113 h3 hl rfl ?_
 exact tL):p:=h
def aie (h:p:=by
 have:k=11\/k=13\/k=15:=by simpa [lC,ah]using hk
 rcases this with rfl|rfl|rfl<;>exact⟨by decide,by decide,rfl⟩):p:=h
theorem aif (h:p:=by
 refine⟨λk x hk=>?_,λ_=>e2⟩
 match k,hk with
 |0,hk=>cases hk;exact⟨_,e,.err ⟨u,v,rfl⟩⟩
 |k+1,hk=>cases hk):p:=h
def aig (h:p:=by
 obtain rfl:i=ch.length:=by omega
 (try(refine tX 0 ?_;try exact Zt))
 rw[he,L9];(first|done|rfl|exact True.intro)):p:=h
def aih (h:p:=by
 repeat' ((first|refine tX 0 ?_|exact Zt|refine bR ?_ ?_<;>intro h)<;>(try conv=>whnf))
 all_goals first|(exact rfl)|trace_state):p:=h
def afF (h:p:=by rw[vY];simp only[wX];omega):p:=h
def afG (h:p:=by exact⟨β,_,_,_,h,eP.bg,hH.bg,⟨#[],rfl,rfl,by simp⟩⟩):p:=h
def Yn (h:p:=by exact⟨q0,.inl ⟨by grind,q1.2⟩⟩):p:=h
def aii (h:p:=by
 have:=h4 (ws.getD 0 []) (by rw[show ws.getD 0 []=ws[0]by simp[jX,h6]];exact pd h6)
 omega):p:=h
def aij (h:p:=by
 intro k n y c hn;have:0<=(n:Int)/\(n:Int)<=(y:Int):=⟨by omega,by omega⟩
 simp[Instr.sliceBound,asIntOf,this]):p:=h
def aik (h:p:=by
 (try(refine tX 0 ?_;try exact Zt))
 exact⟨i+1,⟨⟨by omega,al⟩,alZ⟩,by omega,ai (by rw[hv];kernel_rfl)⟩):p:=h
def ail (h:p:=by simp only[qX];rw[cE c1,cE c2,cE c3,cE c4,cE c5,cE c6,cE c7,mN]):p:=h
def aim (h:p:=by
 have hk:=(kF.1 hx).1;have qU:k<ds.length:=by omega
 have hd:ds[k]? =some ds[k]:=by grind
 grind):p:=h
def Yo (h:p:=by simp[sG,GC]):p:=h
def ain (h:p:=by
 unfold gw
 exact ig.2 (.inl (jZ.2 ⟨hk,rfl⟩))):p:=h
def afH (h:p:=by
 by_cases hjn:j=n
 ·rw[if_pos hjn]at hj;grind[iq]
 grind):p:=h
def ab1 (h:p:=by rw[wq,lW];kernel_rfl):p:=h
def afI (h:p:=by rw[nn];exact zj (by rw[ma Cw];simp)):p:=h
theorem aio (h:p:=by
 match vs,hl,q2 with
 | [v],_,_=>exact⟨_,h,UO 0 y rfl⟩
 | [],hl,q2=>grind
 |_::_::_,hl,q2=>grind):p:=h
theorem aip (h:p:=by
 cases h2 with
 |num h=>exact h
 |empty a cap hv=>simp[SC.ao]at hv
 |view _ _ _ _ _ hv=>simp[SC.ao]at hv):p:=h
def aiq (h:p:=by simp only[qX];rw[cE b1,cE b2,cE b3,cE b4,cE b5,cE b6,mN]):p:=h
def air (h:p:=by
 have:10*0+(b.toNat -48)<=fD 0 (b::r'):=Ay (acc:=10*0+(b.toNat -48)) (l:=r')
 grind[dq]):p:=h
def afJ (h:p:=by
 rw[it _ _ _ hk]at jW
 exact hs iQ bC (live hk e').2 jW):p:=h
def U5 (h:p:=by exact .inl ⟨by decide,rfl⟩):p:=h
def amq (h:p:=by
 rw[this,Ak];have e:(B ∘ λx:ByteArray=>x.data.toList)=id:=by funext x;exact acR x
 simp_all):p:=h
def ais (h:p:=by
 rw[h2]at h5;unfold wN;rw[h5];show(if b=true\/0<=v then some v else none).isSome =true
 rw[if_pos h1];rfl):p:=h
def ait (h:p:=by
 obtain⟨h0,h⟩:=h;have h1: ¬b<0:=by omega
 refine⟨_,?_,?_,h⟩
 ·simp[binOp,Op.shift,h1]
 ·rfl):p:=h
def ab2 (h:p:=by unfold Cm at hb0;rw[ea]at hb0;exact hb0):p:=h
def afK (h:p:=by
 refine gI f104 h3 hl rfl ?_
 exact tL):p:=h
def aiu (h:p:=by
 have hm:(if false=true\/0<=n then some n else none)=some m:=hm;split at hm
 ·cases hm;rfl
 ·cases hm):p:=h
def ab3 (h:p:=by grind[SC.elem]):p:=h
def afL (h:p:=by
 intro d hd;obtain⟨c,_,rfl⟩:=dC.1 hd
 trivial):p:=h
def aiv (h:p:=by
 cases x<;>cases y<;>cases z<;>first|(exact absurd ⟨⟨rfl,rfl⟩,rfl⟩ hall)|skip
 all_goals exact tA):p:=h
def aiw (h:p:=by
 have io:=vP dm gk
 (try(refine tX 0 ?_;try exact Zt))
 generalize (wg.getD k 0).toNat =x at*
 exact tL):p:=h
def aix (h:p:=by
 obtain⟨N,⟨_,_,_,β,hE,hR⟩,_⟩:=hr;have:=mC hG hR hE hb
 exact(ar.am this).bB.1):p:=h
def aiy (h:p:=by rw[show((l.length:Int) -1+1).toNat =l.length by omega,Kv,Kv];kernel_rfl):p:=h
theorem aiz (h:p:=by
 match ps,hp2 with
 | [],_=>rfl
 | [_],_=>rfl
 |_::_::_::_,_=>rfl
 | [_,_],h=>exact absurd rfl h):p:=h
def aiA (h:p:=by exact ZB (Ki hn hg (Int.gcd_dvd_left ..)) (Ki ⟨by omega,by omega⟩ hg (Int.gcd_dvd_right ..))):p:=h
def aiB (h:p:=by rw[show ps.getD i []=ps[i]by simp[jX,al]];exact pd al):p:=h
def amr (h:p:=by rwa [show LA (aq (tag fid) 1) (.val (dyn (I z)))= .val (dyn (I z))from aP DV.val (J5 _ _)]at g):p:=h
theorem ams (h:p:=by
 cases h2 with
 |num h=>exact h
 |empty a cap hv=>grind[SC.ao]
 |view _ _ _ _ _ hv=>grind[SC.ao]):p:=h
def afM (h:p:=by rwa [if_pos ((BP.iff (b:=b)).2 hp)]at h):p:=h
def Mk (h:p:=by exact⟨q0,.inl q1⟩):p:=h
def aiC (h:p:=by rw[Hp.au];exact λs dv e=>hs.wv (q3 s dv e)):p:=h
theorem aiD (h:p:=by
 cases k with
 |zero=>simp at hk;subst hk;exact⟨.int .i64 0,by grind,.lit rfl⟩
 |succ k=>grind):p:=h
def aiE (h:p:=by
 rintro⟨a,b,c,d⟩ h;obtain⟨e1,e2,e3,e4⟩:=Ks h
 rw[k1 _ e1,k2 _ e2,k3 _ e3,k4 _ e4]):p:=h
def aiF (h:p:=by simp only[execOp,ho,eK,S8,hr,my];rfl):p:=h
theorem aiG (h:p:=by
 have:c.args.toList.length=2:=by omega
 match hl:c.args.toList,this with
 | [x0,x1],_=>grind):p:=h
theorem aiH (h:p:=by
 cases h with
 |empty a cap hv h0=>exact .empty a cap hv h0
 |view _ _ _ _ _ hv fL=>grind[SC.len]):p:=h
def ab4 (h:p:=by rw[<- EY];simp[*]):p:=h
def aiI (h:p:=by exact cM (.fn #[] #[] (λ_=> #[]) rfl rfl (by simp) (by simp) (by simp) (by simp) (by simp))):p:=h
def aiJ (h:p:=by
 unfold fk;rw[ho];simp only[hc,hx];show K (lit (.int .i64 (if b>a then b else a))) [] []
 grind):p:=h
def aiK (h:p:=by
 unfold Op.equal Op.maxDepth
 exact Mu (n:=9999) (c:=.bool) rfl hT.Jd (hT.b8.trans bW)):p:=h
def aiL (h:p:=by exact(PZ (w:=w) (a:=⟨b,o,none⟩) (Ac.below.block b (al h1) h1)).symm):p:=h
def aiM (h:p:=by
 obtain rfl:i=p.aa.length:=by omega
 rw[pc (dG _)]
 exact tA):p:=h
def Yp (h:p:=by unfold gok;omega):p:=h
def ab5 (h:p:=by rw[<- hb];kernel_rfl):p:=h
def U6 (h:p:=by simpa using h):p:=h
def aiN (h:p:=by
 (try(refine tX 0 ?_;try exact Zt))
 rw[he,if_pos h];(first|done|rfl|exact True.intro)):p:=h
def U7 (h:p:=by
 refine sF f203 ?_
 exact tL):p:=h
theorem aiO (h:p:=by
 cases h with
 |lit h=>rfl
 |empty a cap hv h0=>cases hv
 |view b o cap z f hv=>cases hv):p:=h
def aiP (h:p:=by
 simp only[jX,Hz]
 rw[show 1+(i -1)=i by omega]):p:=h
def afN (h:p:=by
 rw[fh hx]at hp1;rw[nP hx]
 exact tL):p:=h
def aiQ (h:p:=by
 rw[Hz]at hc;simp at e;subst e;have:=q5 _ _ hc
 simpa using this.flat rfl):p:=h
def aiR (h:p:=by
 simp only[jY,h1,h2,h3,h4,h5,h6,h7,fq,eX,na,id1,id2,id3,id4]
 rfl):p:=h
def amt (h:p:=by
 intro d hd;have:d= .ptr 1 0:=by simpa using hd
 subst this
 exact(cN p l hu).xW):p:=h
def aiS (h:p:=by simp[jX,h]):p:=h
def ab6 (h:p:=by have:=h n hn;omega):p:=h
def Yq (h:p:=by cases k<;>rfl):p:=h
def Yr (h:p:=by have:=hS.units;omega):p:=h
def aiT (h:p:=by exact⟨β,_,_,_,hK,(tG.trans t2).bg,hN.bg,⟨#[],rfl,rfl,by simp⟩⟩):p:=h
def amu (h:p:=by
 intro hm;have hm:n∈ah (cT (aq (Fw.tag fid) 0) T'):=hm
 grind[dp]):p:=h
def ab7 (h:p:=by unfold maxLen;omega):p:=h
def afO (h:p:=by unfold iB jK at hx;omega):p:=h
def aiU (h:p:=by
 intro d hd;have:d= .st (.view (l.map cd)):=by simpa using hd
 subst this
 trivial):p:=h
def ab8 (h:p:=by simpa using hi):p:=h
def aiV (h:p:=by
 (try(refine tX 0 ?_;try exact Zt))
 generalize (s.getD 1 0).toNat =c at*
 exact tL):p:=h
def aiW (h:p:=by
 rw[hs];refine⟨by rw[nz.eq];omega,⟨by omega,by grind⟩,u,?_⟩
 simp_all):p:=h
def aiX (h:p:=by
 rw[hs];refine⟨by rw[nz.eq];omega,⟨by grind,by omega⟩,u,?_⟩
 simp_all):p:=h
def aiY (h:p:=by
 rw[an]at hb;cases hb;cases wV
 exact .inl ⟨by simp[cW],h0,rfl⟩):p:=h
def aiZ (h:p:=by
 rw[dp]at hid;obtain⟨k,hk,rfl⟩:=dC.1 hid
 exact mb k hk):p:=h
def ai0 (h:p:=by
 rw[run_choose];simp only[Question.forced,tE,kM,hk]
 rfl):p:=h
def ai1 (h:p:=by
 show -9223372036854775807<=x.tmod y/\x.tmod y<=9223372036854775807
 omega):p:=h
def ai2 (h:p:=by have:=(kF.1 Hq).1;have h17:k+1<17:=this;omega):p:=h
def Ys (h:p:=by simp[SC.len]):p:=h
def afP (h:p:=by grind[yK,tT,i64_in]):p:=h
def ai3 (h:p:=by
 have hid:id∈ah (cT (aq (Fw.tag fid) 0) T'):=hid
 grind[dp]):p:=h
def ab9 (h:p:=by rw[kI];exact h3):p:=h
def ai4 (h:p:=by
 by_cases he:E.2=0
 ·rw[if_pos he];exact tL
 ·rw[if_neg he]
  exact tL):p:=h
def ai5 (h:p:=by intro x hx;simp at hx;rcases hx with rfl|rfl<;>rfl):p:=h
def afQ (h:p:=by
 unfold dyn;simp only[Ak]
 congr 1):p:=h
def aca (h:p:=by dsimp only;omega):p:=h
def Yt (h:p:=by
 refine sF f254 ?_
 exact tL):p:=h
def ai6 (h:p:=by
 rw[aG _ _ _ hi]at e
 exact⟨e,(hN.rel i b0 e).1,λ_ _=>rfl⟩):p:=h
def ai7 (h:p:=by rw[tH,P0];omega):p:=h
def afR (h:p:=by have:=aP List.length dM;grind):p:=h
def ai8 (h:p:=by
 obtain rfl:k=3:=by omega
 exact absurd (hkk.symm.trans (hkn dm)) h3):p:=h
def ai9 (h:p:=by simp[Instr.indexAt,asIntOf,hT.cX,hd,h2,hE.iH,addr_add]):p:=h
def aja (h:p:=by rw[show(l++[r]).take (w+1)=l by rw[<- al];simp];simp;omega):p:=h
def acb (h:p:=by rw[jf,aaF]):p:=h
def ajb (h:p:=by
 rw[bP e1]
 exact(q7 j e k x he hk).mono eP.mv (Mem.le_refl _)):p:=h
def ajc (h:p:=by
 (try(refine tX 0 ?_;try exact Zt))
 rw[Int.neg_mul,Dn];rfl):p:=h
def acd (h:p:=by rw[hgl];omega):p:=h
def U8 (h:p:=by simp[h]):p:=h
def afS (h:p:=by rw[e1,e2];kernel_rfl):p:=h
def ajd (h:p:=by
 rw[Zi,Zi,show(a==b)=decide (a=b)by grind]
 exact hK):p:=h
def aje (h:p:=by have:=aeo n (show d≠0 by omega);omega):p:=h
def ajf (h:p:=by
 refine(L5 hy).2 ⟨by omega,by omega,?_⟩
 grind):p:=h
def afT (h:p:=by
 rw[eJ hx]at hp1
 exact tL):p:=h
def ajg (h:p:=by
 have:id=fid:=by simpa using hid
 rw[this]):p:=h
def ajh (h:p:=by
 rw[tO]at this;rw[<- this,<- Array.foldl_toList]
 simp):p:=h
theorem aji (h:p:=by
 cases hl:c.args.toList with
 |nil=>grind
 |cons x0 rest=>grind):p:=h
def ajj (h:p:=by
 refine⟨[.lit (.int .i64 (l.getD n 0))],?_,hK⟩
 grind[SC.elem]):p:=h
def ajk (h:p:=by first|exact lvM h1|exact uvM λ_=>rfl):p:=h
def ajl (h:p:=by first|exact lvM h4|exact uvM λ_=>rfl):p:=h
def ace (h:p:=by have:=SC.ip he;omega):p:=h
def ajm (h:p:=by rw[this,b4,<- Td];exact kG _ nB):p:=h
def ajn (h:p:=by
 rw[UX hkp]at hk;have:=hr.2 k c hk
 grind):p:=h
def ajo (h:p:=by simp only[ii]at h;obtain⟨rfl,h⟩:=h;exact hm):p:=h
def acf (h:p:=by grind[jI]):p:=h
def ajp (h:p:=by cases h):p:=h
def afU (h:p:=by grind[lU]):p:=h
def amv (h:p:=by
 rcases h with h|h
 ·exact h.2 mv w vs hm hG ha
 ·exact h.elim):p:=h
def ajq (h:p:=by
 obtain rfl:i=ps.length:=by omega
 rw[gP dm]
 exact tA):p:=h
def acg (h:p:=by grind[maxLen]):p:=h
def ach (h:p:=by grind[rd,cell_setRow_other]):p:=h
def afV (h:p:=by simp[Op.equalIn,tJ hu]):p:=h
def aci (h:p:=by rw[<- Td];grind):p:=h
def amw (h:p:=by
 have:=px (ρ:=λk=>k) jo g2
 grind[cC.LN]):p:=h
def afW (h:p:=by
 refine gI f114 h3 hl rfl ?_
 exact tL):p:=h
def acj (h:p:=by rw[q1];rfl):p:=h
def ajr (h:p:=by
 obtain rfl:k=res.length:=by omega
 rw[OF]
 exact tL):p:=h
def ajs (h:p:=by(conv=>rhs;rw[<- nq]);kernel_rfl):p:=h
def ajt (h:p:=by
 rw[aG _ _ _ h]at e
 exact⟨blk',e,blk'.fU⟩):p:=h
def aju (h:p:=by
 show(if(index s [32]== -1)=true then _ else _)=_
 grind):p:=h
def ajv (h:p:=by
 simp only[SW,hc.size,hd.size,PD]
 grind):p:=h
def ajw (h:p:=by exact .inr ⟨b,cap,arr,T,by simp[cW],rfl,r1,r2⟩):p:=h
theorem ajx (h:p:=by
 cases r with
 |vh z c=>exact hm.elim
 |_=>exact hs.elim):p:=h
def ack (h:p:=by
 refine sF f201 ?_
 exact tL):p:=h
def acl (h:p:=by
 refine sF f262 ?_
 exact tL):p:=h
def acm (h:p:=by
 refine sF f355 ?_
 exact tL):p:=h
def acn (h:p:=by
 refine sF f182 ?_
 exact tA):p:=h
def ajy (h:p:=by
 rw[hx]at hc;generalize t.bv.getD i []=y at*
 exact tL):p:=h
def ajz (h:p:=by rw[nA,<- Td];exact kG _ eA):p:=h
theorem ajA (h:p:=by
 cases qs with
 |nil=>simp at ha;omega
 |cons a b=>simp):p:=h
def ajB (h:p:=by have:=(CV hP h).1.units;omega):p:=h
def ajC (h:p:=by rw[hs];exact λt e=>(hd t e).1):p:=h
theorem ajD (h:p:=by
 induction n with
 |zero=>rfl
 |succ n ih=>grind[cY]):p:=h
def amx (h:p:=by exact⟨_,rfl,Below.refl _ _,⟨_,rfl,.lit rfl⟩⟩):p:=h
theorem ajE (h:p:=by
 cases qs with
 |nil=>simp at ha;omega
 |cons a b=>rfl):p:=h
def amy (h:p:=by
 have:=tM.1 hn q h
 rwa [Bj]at this):p:=h
def aco (h:p:=by exact PF S a w' eL hr):p:=h
def ajF (h:p:=by
 obtain⟨h5,h6⟩:=oM.2 p hp
 rw[k2 _ h5,k3 _ h6]):p:=h
theorem ajG (h:p:=by
 induction n with
 |zero=>rfl
 |succ n ih=>grind[aW]):p:=h
def ajH (h:p:=by dsimp only;rw[e1,e2];kernel_rfl):p:=h
def afX (h:p:=by
 rw[hm];refine sF f90 ?_
 exact tA):p:=h
def acp (h:p:=by
 refine sF f32 ?_
 exact tA):p:=h
def acq (h:p:=by
 refine sF f97 ?_
 exact tL):p:=h
def afY (h:p:=by simp only;omega):p:=h
def afZ (h:p:=by rw[kI];decide):p:=h
def ajI (h:p:=by rw[<- e];exact(hT.lt id hid).2):p:=h
def ajJ (h:p:=by
 rw[bP e1]
 exact eP.jr hR (q7 j e k x he hk)):p:=h
theorem ajK (h:p:=by
 cases base with
 |none=>simp_all
 |some b=>simp_all):p:=h
def af0 (h:p:=by rw[<- hzl,<- hE.xT];simp):p:=h
def af1 (h:p:=by
 rw[this]
 exact .lit rfl):p:=h
def ajL (h:p:=by rw[jf];kernel_rfl):p:=h
def ajM (h:p:=by rw[bs,bs];omega):p:=h
def acr (h:p:=by grind[cE,mN]):p:=h
def ajN (h:p:=by rintro⟨a',w',h⟩;exact h):p:=h
def ajO (h:p:=by rw[Gp];exact dG _):p:=h
def ajP (h:p:=by simp[execOp,ho,hcv,asBool]):p:=h
def af2 (h:p:=by simpa using hl):p:=h
def ajQ (h:p:=by
 rcases h with h|h
 grind
 ·rw[h,jP];grind):p:=h
def ajR (h:p:=by
 rw[Hp.au,xS]
 exact t3.env hN (t2.env q4 q3)):p:=h
def af3 (h:p:=by simpa using h5):p:=h
def ajS (h:p:=by exact eG (es:=[]) (.empty _ _ rfl rfl) (by simp)):p:=h
def ajT (h:p:=by
 obtain⟨h1,h2⟩:=aD h
 grind[MT]):p:=h
def acs (h:p:=by simp[bt,lC,ah]):p:=h
def ajU (h:p:=by have:=h4 b (by simp);omega):p:=h
def ajV (h:p:=by have:=h4 a (by simp);omega):p:=h
def ajW (h:p:=by grind[SC.len]):p:=h
def ajX (h:p:=by grind[jG]):p:=h
def ajY (h:p:=by
 rw[eS h6];generalize jb ru=e at*
 exact tL):p:=h
def ajZ (h:p:=by
 have ea:Cl s=0:=by unfold Cl;grind
 grind):p:=h
def aj0 (h:p:=by cases hb;obtain⟨_,b,_,rfl⟩:=h1;grind):p:=h
def aj1 (h:p:=by
 obtain⟨c0,h3,h4⟩:=u6 j _ _ hj
 grind):p:=h
def aj2 (h:p:=by
 rename_i anG;split at h
 grind[lP]
 grind):p:=h
def aj3 (h:p:=by obtain⟨m,z,c,rfl⟩:=uB e;trivial):p:=h
def aj4 (h:p:=by
 rw[bP e]
 exact eP.jr hR (h5 k x hk)):p:=h
def aj5 (h:p:=by simp;rw[hc.size];omega):p:=h
def aj6 (h:p:=by simp[Builtin.firstCells]):p:=h
def aj7 (h:p:=by subst h5;rw[an]at e;cases e;trivial):p:=h
def aj8 (h:p:=by subst h7;rw[an]at e;cases e;trivial):p:=h
def aj9 (h:p:=by subst h3;rw[an]at e;cases e;trivial):p:=h
end Go
namespace Go.Fw
open Go.RowKit (Below)
inductive SC where
 |lit (v:Value)
 |ints (xs:List Int)
 |view (es:List (List SC))
 |ref (cs:List SC)
 |fn (f:FuncId) (first:List (Bool × List SC)) (bM:List (List SC))
 |err
 |num (k:IntKind)
 |raw (v:Value)
 |any
 deriving Inhabited
abbrev SV:=Bool × List SC
namespace SC
def ao:SC->Bool
 | .ints _| .view _=>true
 |_=>false
def len:SC->Nat
 | .ints xs=>xs.length
 | .view es=>es.length
 |_=>0
def elem:SC->Nat->Option (List SC)
 | .ints xs,i=>(xs[i]?).map λn=>[.lit (.int .i64 n)]
 | .view es,i=>es[i]?
 |_,_=>none
end SC
theorem SC.ip {c:SC}{i:Nat}{e:List SC}(h:c.elem i=some e):i<c.len:=by
 cases c<;>simp[SC.elem,SC.len]at h ⊢
 grind
 grind
def SC.ow {c:SC}{i:Nat}(h:i<c.len): ∃e,c.elem i=some e:=by
 cases c<;>simp[SC.elem,SC.len]at h ⊢;simp_all;simp_all
def plain:Value->Bool
 | .bool _| .int _ _| .float _ _| .complex _ _ _| .string _| .nilFunc | .nilIface | .pointer none| .map none| .chan none=>true
 |_=>false
abbrev Mem:=Nat->Nat->Option Value
def Mem.le (m m':Mem):Prop:=∀b o v,m b o=some v->m' b o=some v
def eU:Mem:=λ_ _=>none
def rd (w:World):Mem:=λb o=>w.cell? ⟨b,o,none⟩
def Mem.le_refl (m:Mem):m.le m:=λ_ _ _ h=>h
def Mem.le_trans {a b c:Mem}(h:a.le b)(k:b.le c):a.le c:=λx y v e=>k x y v (h x y v e)
def dZ (m:Mem):eU.le m:=λ_ _ _ h=>by grind[eU]
inductive dw (mv:Mem):Mem->Value->SC->Prop
 |lit {mr:Mem} {v:Value} (h:plain v=true):dw mv mr v (.lit v)
 |empty {mr:Mem} {c:SC} (a:Option Addr) (cap:Nat) (hv:c.ao=true) (h0:c.len=0):dw mv mr (.slice a 0 cap) c
 |view {mr:Mem} {c:SC} (b o cap z:Nat) (f:Nat->Value) (hv:c.ao=true) (fL:0<c.len) (hz:0<z) (fZ:c.len<=cap)
   (hl: ∀i e,c.elem i=some e->e.length=z) (hc: ∀k,k<c.len*z->mv b (o+k)=some (f k))
   (hr: ∀(i:Nat) (e:List SC) (j:Nat) (x:SC),c.elem i=some e->e[j]? =some x->dw mv eU (f (i*z+j)) x):dw mv mr (.slice (some ⟨b,o,none⟩) c.len cap) c
 |ref {mr:Mem} {cs:List SC} (b o:Nat) (f:Nat->Value) (hc: ∀k,k<cs.length->mr b (o+k)=some (f k))
   (hr: ∀(k:Nat) (x:SC),cs[k]? =some x->dw mv mr (f k) x):dw mv mr (.pointer (some ⟨b,o,none⟩)) (.ref cs)
 |err {mr:Mem} {v:Value} (h: ∃T x,v= .iface T x):dw mv mr v .err
 |num {mr:Mem} {v:Value} {k:IntKind} (h: ∃m,v= .int k m):dw mv mr v (.num k)
 |raw {mr:Mem} {v:Value} (h:v.oneCell'=true):dw mv mr v (.raw v)
 |any {mr:Mem} {v:Value} (h:v.oneCell'=true):dw mv mr v .any
 |fn {mr:Mem} {f:FuncId} {first:List (Bool × List SC)} {bM:List (List SC)} (fv cv:Array Value) (ga:Nat->Array Value) (h1:fv.size=first.length) (h2:cv.size=bM.length)
   (hf1: ∀(j:Nat) (c:SC),first[j]? =some (false,[c])->dw mv mr (fv.getD j undef) c) (hf0: ∀(j:Nat) (cs:List SC),first[j]? =some (false,cs)->∃c,cs= [c])
   (hf2: ∀(j:Nat) (cs:List SC),first[j]? =some (true,cs)->fv.getD j undef= .agg (ga j)/\(ga j).size =cs.length)
   (hf3: ∀(j:Nat) (cs:List SC) (k:Nat) (x:SC),first[j]? =some (true,cs)->cs[k]? =some x->dw mv mr ((ga j).getD k undef) x)
   (Xo: ∀(j:Nat) (cs:List SC),bM[j]? =some cs->dw mv mr (cv.getD j undef) (.ref cs)):dw mv mr (.func (.func f) fv cv) (.fn f first bM)
def dw.mono {mv mr mv' CY:Mem}(hv:mv.le mv')(hr:mr.le CY){v:Value}{c:SC}(h:dw mv mr v c):dw mv' CY v c:=by
 induction h generalizing CY with
 |lit h=>exact .lit h
 |empty a cap hv h0=>exact .empty a cap hv h0
 |view b o cap z f h1 h2 h3 h4 hl hc _ ih=>exact .view b o cap z f h1 h2 h3 h4 hl (λk hk=>hv _ _ _ (hc k hk)) λi e j x he hx=>ih i e j x he hx (Mem.le_refl _)
 |ref b o f hc _ ih=>exact .ref b o f (λk hk=>hr _ _ _ (hc k hk)) λk x hx=>ih k x hx hr
 |err h=>exact .err h
 |num h=>exact .num h
 |raw h=>exact .raw h
 |any h=>exact .any h
 |fn fv cv ga h1 h2 _ hf0 hf2 _ _ i1 i3 ic=>exact .fn fv cv ga h1 h2 (λj c hc=>i1 j c hc hr) hf0 hf2 (λj cs k x h1 h2=>i3 j cs k x h1 h2 hr) λj cs hc=>ic j cs hc hr
def SC.flat:SC->Bool
 | .ref _| .fn _ _ _=>false
 |_=>true
theorem dw.flat {mv mr CY:Mem}{v:Value}{c:SC}(h:dw mv mr v c)(hf:c.flat=true):dw mv CY v c:=by
 cases h with
 |lit h=>exact .lit h
 |empty a cap hv h0=>exact .empty a cap hv h0
 |view b o cap z f h1 h2 h3 h4 hl hc hr=>exact .view b o cap z f h1 h2 h3 h4 hl hc hr
 |ref b o f hc _=>grind[SC.flat]
 |err h=>exact .err h
 |num h=>exact .num h
 |raw h=>exact .raw h
 |any h=>exact .any h
 |fn=>grind[SC.flat]
def er (mv mr:Mem)(v:Value)(x:SV):Prop:=
 if x.1 then ∃arr,v= .agg arr/\arr.size=x.2.length/\∀k c,x.2[k]? =some c->dw mv mr (arr.getD k undef) c
 else ∃c,x.2= [c]/\dw mv mr v c
def er.mono {mv mr mv' CY:Mem}(hv:mv.le mv')(hr:mr.le CY){v:Value}{x:SV}(h:er mv mr v x):er mv' CY v x:=by
 unfold er at*;split
 ·rename_i hx;rw[if_pos hx]at h;obtain⟨arr,h1,h2,h3⟩:=h;exact⟨arr,h1,h2,λk c hc=>(h3 k c hc).mono hv hr⟩
 ·rename_i hx;rw[if_neg hx]at h;obtain⟨c,h1,h2⟩:=h;exact⟨c,h1,h2.mono hv hr⟩
def pg (mv mr:Mem)(vs:Array Value)(l:List SV):Prop:=vs.size=l.length/\∀k x,l[k]? =some x->er mv mr (vs.getD k undef) x
def pg.mono {mv mr mv' CY:Mem}(hv:mv.le mv')(hr:mr.le CY){vs:Array Value}{l:List SV}(h:pg mv mr vs l):pg mv' CY vs l:=
 ⟨h.1,λk x hx=>(h.2 k x hx).mono hv hr⟩
def Ml (w:World)(mv:Mem)(b z:Nat)(c:SC)(cap:Nat):Prop:=
 ∃arr T,w.heap[b]? =some (.cells arr T)/\arr.size=cap*z/\0<z/\c.ao=true/\c.len<=cap/\(∀i e,c.elem i=some e->e.length=z)/\
  ∀i e j x,c.elem i=some e->e[j]? =some x->dw mv eU (arr.getD (i*z+j) undef) x
inductive mc where
 |one (x:SV)
 |aI (l:List SV)
 |own (z:Nat) (c:SC)
 |mix (t:Bool) (l:List (Bool × List (Option SC))) (z:Nat) (c:SC)
 |vh (z:Nat) (c:SC)
def P6 (m:Mem)(vo v:Value):Option SC->Prop
 |some c=>dw m eU v c
 |none=>v=vo
def Cc (m:Mem)(vo v:Value)(x:Bool × List (Option SC)):Prop:=
 if x.1 then ∃arr,v= .agg arr/\arr.size=x.2.length/\∀k c,x.2[k]? =some c->P6 m vo (arr.getD k undef) c
 else ∃c,x.2= [c]/\P6 m vo v c
def Cc.mono {m m':Mem}(h:m.le m'){vo v:Value}{x:Bool × List (Option SC)}(hx:Cc m vo v x):Cc m' vo v x:=by
 have key: ∀ {v:Value} {c:Option SC},P6 m vo v c->P6 m' vo v c:=by
  intro v c hc
  cases c with
  |none=>exact hc
  |some c=>exact dw.mono h (Mem.le_refl _) hc
 unfold Cc at*
 grind
def dV (mv:Mem)(n:Nat)(w':World):Mem:=λb o=>if n<=b then rd w' b o else mv b o
def Mem.but (m:Mem)(b:Nat):Mem:=λb' o=>if b'=b then none else m b' o
def qY (mv:Mem)(n:Nat)(w':World)(v:Value):mc->Prop
 | .one x=>er (dV mv n w') eU v x
 | .aI l=>∃arr,v= .tuple arr/\pg (dV mv n w') eU arr l
 | .own z c=>(v= .slice none 0 0/\c.len=0/\c.ao=true/\0<z/\∀i e,c.elem i=some e->e.length=z)\/
   ∃b cap,v= .slice (some ⟨b,0,none⟩) c.len cap/\n<=b/\Ml w' ((dV mv n w').but b) b z c cap
 | .mix t l z c=>∃vo m,((vo= .slice none 0 0/\c.len=0/\c.ao=true/\0<z/\(∀i e,c.elem i=some e->e.length=z)/\m=dV mv n w')\/
   ∃b cap,vo= .slice (some ⟨b,0,none⟩) c.len cap/\n<=b/\Ml w' ((dV mv n w').but b) b z c cap/\m=(dV mv n w').but b)/\
   if t then ∃arr,v= .tuple arr/\arr.size=l.length/\∀k x,l[k]? =some x->Cc m vo (arr.getD k undef) x else ∃x,l= [x]/\Cc m vo v x
 | .vh _ _=>False
abbrev tR:=List (Nat × List SC)
def eQ (gl:tR)(m:Mem):Prop:=∀g cs,(g,cs)∈gl->(∀k x,cs[k]? =some x->∃v,m g k=some v/\dw eU eU v x)/\(0<cs.length->m g cs.length=none)
def iI (P:Program)(f:FuncId):Bool:=
 match P.funcs[f]? with
 |some fn=> !(fn.name=="runtime.NumGoroutine")&&fn.body.isSome
 |none=>false
def aka (P:Program)(gl:tR)(f:FuncId)(args:List SV)(r:mc):Prop:=
 iI P f=true/\∀(mv:Mem) (w:World) (vs:Array Value),mv.le (rd w)->eQ gl (rd w)->pg mv (rd w) vs args->
  Calls P f vs w λe w'=>∃v,e= .returned v/\Below w.heap.size w w'/\qY mv w.heap.size w' v r
def akb (P:Program)(f:FuncId)(args:List SV):mc->Prop
 | .vh z c'=>∃c,args= [(false,[c])]/\iI P f=true/\c'.ao=true/\c'.len=c.len/\(∀i e,c'.elem i=some e->e.length=z)/\
   (c.len=0->∀w,Calls P f #[.slice none 0 0] w λe w'=>e= .returned (.tuple #[])/\Below w.heap.size w w')/\
   ∀(mv:Mem) (w:World) (b cap:Nat) (arr:Array Value) (T:TypeId),w.heap[b]? =some (.cells arr T)->arr.size=cap*z->c.len<=cap->
    (∀i e j x,c.elem i=some e->e[j]? =some x->dw mv eU (arr.getD (i*z+j) undef) x)->
    Calls P f #[.slice (some ⟨b,0,none⟩) c.len cap] w λe w'=>e= .returned (.tuple #[])/\∃w1 arr',Below w.heap.size w w1/\w'=w1.setRow b arr'/\arr'.size=arr.size/\
     ∀i e j x,c'.elem i=some e->e[j]? =some x->dw mv eU (arr'.getD (i*z+j) undef) x
 |_=>False
def nR (P:Program)(gl:tR)(f:FuncId)(args:List SV)(r:mc):Prop:=aka P gl f args r\/akb P f args r
def nR.pure {P:Program}{gl:tR}{f:FuncId}{args:List SV}{x:SV}(h:nR P gl f args (.one x)):aka P gl f args (.one x):=h.elim id λh=>h.elim
end Go.Fw
namespace Go.Fw
inductive DC where
 |st (c:SC)
 |ptr (id off:Nat)
 |own (id:Nat)
 |cK (id z i off:Nat)
 |nil
 |mp (id:Nat)
 |sS (f:Nat) (id:Nat)
 deriving Inhabited
abbrev DX:=Bool × List DC
inductive DV where
 |val (x:DX)
 |aI (l:List DX)
 deriving Inhabited
inductive cC where
 |box (t:TypeId) (cs:List DC)
 |dX (cs:List SC)
 |row (m:Bool) (z:Nat) (c:SC)
 |az (z:Nat) (l:List (List DC))
 |map (es:List (ByteArray × SV))
 deriving Inhabited
def cC.sz:cC->Option (Nat × Nat)
 | .row _ z c=>some (z,c.len)
 | .az z l=>some (z,l.length)
 |_=>none
abbrev Hp:=List (Nat × Option cC)
def Hp.get:Hp->Nat->Option cC
 | [],_=>none
 |(j,b)::H,i=>match Nat.beq i j with
  |true=>b
  |false=>Hp.get H i
abbrev HF:=Nat->Option cC
abbrev EF:=Nat->Option DV
abbrev dS:=List (Nat × Option DV)
def dS.get:dS->Nat->Option DV
 | [],_=>none
 |(j,b)::H,i=>match Nat.beq i j with
  |true=>b
  |false=>dS.get H i
inductive Bl where
 |int (k:IntKind)|bool|str|slice (e:TypeId)|array (n:Nat) (e:TypeId)|struct (fs:List (Nat × TypeId))|ptr (e:TypeId)|func|iface|map (k e:TypeId)|other
 deriving Inhabited
def cL:Bl->Bool
 | .struct _=>true
 | .array _ _=>true
 |_=>false
inductive ZC where
 |lit (v:Value)
 |nil
 deriving Inhabited
structure TI where
 b8:Bl
 size:Nat
 bytes:Nat
 zero:List ZC
 kinds:List Bool
 eqs:Option (List Bl)
 deriving Inhabited
def eB:TypeDesc->Bl
 | .int k=>.int k
 | .bool =>.bool
 | .string =>.str
 | .slice e=>.slice e
 | .array n e=>.array n e
 | .struct fs=>.struct (fs.toList.map λf=>(f.offset,f.type))
 | .pointer e=>.ptr e
 | .func _ _ _=>.func
 | .interface _=>.iface
 | .map k e=>.map k e
 |_=>.other
def Cd:Value->ZC
 | .slice none 0 0=>.nil
 |v=>.lit v
def kN (P:Program):Nat->TypeId->Option (List Bl)
 |0,_=>none
 |d+1,t=>match P.info? t,P.underlying t with
  |some i,some .bool =>if i.size=1 then some [.bool]else none
  |some i,some (.int k)=>if i.size=1 then some [.int k]else none
  |some i,some .string =>if i.size=1 then some [.str]else none
  |some i,some (.struct fs)=>match P.stoodInHeld t,fs.toList.foldl (λacc f=>match acc with
    |none=>none
    |some l=>match f.name != "_"&&f.offset==l.length,kN P d f.type with
     |true,some l'=>some (l++l')
     |_,_=>none) (some [])with
   |false,some l=>if l.length=i.size then some l else none
   |_,_=>none
  |some i,some (.array n e)=>match kN P d e with
   |some l=>if n*l.length=i.size then some (List.replicate n l).flatten else none
   |none=>none
  |_,_=>none
def akc (P:Program)(t:TypeId):Option (Bl × Nat × Nat × List ZC × Option (List Bl)):=
 match P.info? t,P.underlying t with
 |some i,some d=>match i.zero,(match d with| .struct fs=>fs.toList.all λf=>(P.info? f.type).isSome |_=>true)with
  |some v,true=>some (eB d,i.size,i.bytes,v.cells.toList.map Cd,if P.eqGuardType P.depth t then none else kN P 8 t)
  |_,_=>none
 |_,_=>none
structure bS where
 P:Program
 gl:tR
 ty:List (Nat × TI)
 nx:List Nat:=[]
 deep:List Nat:=[]
 mz:List (Nat × Bool):=[]
 hx:List Nat:=[]
 fx:List Nat:=[]
 sx:List (Nat × String):=[]
def Yu (P:Program)(t:TypeId):Option Bool:=match P.info? t with
 |some i=>match i.zero with
  |some (.agg _)=>some true
  |some v=>match v.oneCell' with
   |true=>some false
   |false=>none
  |none=>none
 |none=>none
def Mm:List (Nat × TI)->Nat->Option TI
 | [],_=>none
 |(j,b)::H,i=>match Nat.beq i j with
  |true=>some b
  |false=>Mm H i
def bS.ti (C:bS)(t:TypeId):Option TI:=Mm C.ty t
structure bS.Ok (C:bS):Prop where
 mixed:C.P.follows .mixedOrders =true
 ty:(C.ty.map λp=>akc C.P p.1)=C.ty.map λp=>some (p.2.b8,p.2.size,p.2.bytes,p.2.zero,p.2.eqs)
 mz:(C.mz.map λp=>Yu C.P p.1)=C.mz.map λp=>some p.2
def bS.kK (C:bS)(e:TypeId):Bool:=
 match C.ti e with
 |some i=>match i.b8 with
  | .int .i64 =>true
  |_=>false
 |none=>false
def bS.kinds (C:bS)(t:TypeId):List Bool:=
 match C.ti t with
 |some i=>i.kinds
 |none=>[]
def Bm:Bool->SC
 |true=>.ints []
 |false=>.view []
def bz (H:HF)(k:Bool):DC->Option (SC × Hp × List Nat)
 | .st c=>some (c,[],[])
 | .nil =>some (Bm k,[],[])
 | .own id=>match H id with
  |some (.row m z c)=>some (c,(match m with|true=>[(id,some (.row false z c))]|false=>[]),[id])
  |some (.az _ _)=>some (.any,[],[id])
  |_=>none
 |_=>none
def bO (H:HF):List Bool->List DC->Option (List SC × Hp × List Nat)
 |_,[]=>some ([],[],[])
 |ks,d::ds=>match bz H (ks.headD false) d with
  |some (c,u,r)=>match bO H ks.tail ds with
   |some (cs,u',r')=>some (c::cs,u++u',r++r')
   |none=>none
  |none=>none
def oy:List SC->Bool
 | []=>true
 |c::cs=>match c.flat with
  |true=>oy cs
  |false=>false
def m8 (C:bS)(H:HF)(k:Bool):DC->Option (SC × Hp × List Nat)
 | .ptr id off=>match H id with
  |some (.dX cs)=>some (.ref (cs.drop off),[],[id])
  |some (.box t cs)=>match bO H (C.kinds t) cs with
   |some (l,u,r)=>some (.ref (l.drop off),u,id::r)
   |none=>none
  |_=>none
 | .cK id z i off=>match H id with
  |some (.az z' l)=>match Nat.beq z z',l[i]? with
   |true,some e=>match bO H [] e with
    |some (cs,u,r)=>some (.ref (cs.drop off),u,id::r)
    |none=>none
   |_,_=>none
  |some (.row _ z' c)=>match Nat.beq z z',c.elem i with
   |true,some e=>some (.ref (e.drop off),[],[id])
   |_,_=>none
  |_=>none
 |d=>bz H k d
def oz (C:bS)(H:HF):List Bool->List DC->Option (List SC × Hp × List Nat)
 |_,[]=>some ([],[],[])
 |ks,d::ds=>match m8 C H (ks.headD false) d with
  |some (c,u,r)=>match oz C H ks.tail ds with
   |some (cs,u',r')=>some (c::cs,u++u',r++r')
   |none=>none
  |none=>none
def pl (C:bS)(H:HF):List TypeId->List DX->Option (List SV × Hp × List Nat)
 |_,[]=>some ([],[],[])
 |ts,x::xs=>match oz C H (C.kinds (ts.headD 0)) x.2 with
  |some (c,u,r)=>match pl C H ts.tail xs with
   |some (cs,u',r')=>some ((x.1,c)::cs,u++u',r++r')
   |none=>none
  |none=>none
def dyn (x:SV):DX:=(x.1,x.2.map .st)
def bh (c:DC):DV:=.val (false,[c])
def lit (v:Value):DV:=.val (false,[.st (.lit v)])
def Jn:Value->Option DV
 | .slice none 0 0=>some (bh .nil)
 | .func (.func f) a b=>match a.toList,b.toList with
  | [],[]=>some (bh (.st (.fn f [] [])))
  |_,_=>none
 |v=>match plain v with
  |true=>some (lit v)
  |false=>none
def yf:tR->Nat->Option (List SC)
 | [],_=>none
 |(j,b)::H,i=>match Nat.beq i j with
  |true=>some b
  |false=>yf H i
def bS.ev (C:bS)(E:EF):Operand->Option DV
 | .tmp t=>E t
 | .const v=>Jn v
 | .global g=>match yf C.gl g with
  |some cs=>some (bh (.st (.ref cs)))
  |none=>none
 | .func f=>some (bh (.st (.fn f [] [])))
def iq {α:Type}(cs:List α)(off:Nat)(xs:List α):List α:=cs.take off++xs++cs.drop (off+xs.length)
def ZC.dyn:ZC->Option DC
 | .nil =>some .nil
 | .lit v=>match plain v with
  |true=>some (.st (.lit v))
  |false=>none
def Dq:List ZC->Option (List DC)
 | []=>some []
 |z::zs=>match z.dyn with
  |some d=>match Dq zs with
   |some ds=>some (d::ds)
   |none=>none
  |none=>none
def qZ:List Bool->List ZC->Option (List SC)
 |_,[]=>some []
 |ks,.nil ::zs=>match qZ ks.tail zs with
  |some ds=>some (Bm (ks.headD false)::ds)
  |none=>none
 |ks,.lit v::zs=>match plain v with
  |true=>match qZ ks.tail zs with
   |some ds=>some (.lit v::ds)
   |none=>none
  |false=>none
def HM (PE:Nat->Option (Nat × Nat))(cells:List DC):List (Nat × Option DV)->Option (List DC)
 | []=>some cells
 |(i,some (.val x))::rest=>match PE i with
  |some (off,size)=>match Nat.beq x.2.length size&&Nat.ble (off+size) cells.length with
   |true=>HM PE (iq cells off x.2) rest
   |false=>none
  |none=>none
 |_=>none
def kP (H:HF)(ks:List Bool)(z:Nat):Nat->List (Nat × Option DV)->Option (List (List SC) × Hp × List Nat)
 |_,[]=>some ([],[],[])
 |n,(i,some (.val x))::rest=>match Nat.beq i n&&Nat.beq x.2.length z with
  |true=>match bO H ks x.2 with
   |some (e,u,r)=>match oy e,kP H ks z (n+1) rest with
    |true,some (es,u',r')=>some (e::es,u++u',r++r')
    |_,_=>none
   |none=>none
  |false=>none
 |_,_=>none
def wZ:List (List SC)->Option (List Int)
 | []=>some []
 | [.lit (.int .i64 n)]::r=>match wZ r with
  |some l=>some (n::l)
  |none=>none
 |_=>none
def Yv (k:Bool)(es:List (List SC)):Option SC:=
 match k with
 |true=>match wZ es with
  |some l=>some (.ints l)
  |none=>none
 |false=>some (.view es)
def SC.cat:SC->SC->Option SC
 | .ints xs,.ints ys=>some (.ints (xs++ys))
 | .view xs,.view ys=>some (.view (xs++ys))
 |_,_=>none
def SC.Ag:SC->Nat->Prop
 | .ints _,z=>z=1
 | .view es,z=>∀e,e∈es->e.length=z
 |_,_=>False
def SC.xX:SC->Nat->List SC->Option SC
 | .ints xs,i,[.lit (.int .i64 n)]=>some (.ints (xs.set i n))
 | .view es,i,e=>some (.view (es.set i e))
 |_,_,_=>none
def SC.sub:SC->Nat->Nat->SC
 | .ints xs,l,h=>.ints ((xs.take h).drop l)
 | .view es,l,h=>.view ((es.take h).drop l)
 |c,_,_=>c
def xP:Nat:=4294967296
def Tf:Bl->Value->Value->Option Bool
 | .int _,.int k a,.int k' b=>match decide (k=k')with
  |true=>some (a==b)
  |false=>none
 | .bool,.bool a,.bool b=>some (a==b)
 | .str,.string a,.string b=>some (a==b)
 |_,_,_=>none
def md:List Bl->List DC->List DC->Option Bool
 | [],[],[]=>some true
 |c::cs,.st (.lit a)::xs,.st (.lit b)::ys=>match Tf c a b with
  |some p=>match md cs xs ys with
   |some q=>some (p&&q)
   |none=>none
  |none=>none
 |_,_,_=>none
def tT (op:BinOp)(k:IntKind)(a b:Int)(K:Value->Prop):Prop:=
 match op with
 | .add =>K (.int k (k.wrap (a+b)))
 | .sub =>K (.int k (k.wrap (a -b)))
 | .mul =>K (.int k (k.wrap (a*b)))
 | .quo =>b≠0/\K (.int k (k.wrap (a.tdiv b)))
 | .rem =>b≠0/\K (.int k (a.tmod b))
 | .and =>K (.int k (k.wrap (BitVec.ofInt k.bits a &&& BitVec.ofInt k.bits b).toNat))
 | .or =>K (.int k (k.wrap (BitVec.ofInt k.bits a ||| BitVec.ofInt k.bits b).toNat))
 | .xor =>K (.int k (k.wrap (BitVec.ofInt k.bits a^^^BitVec.ofInt k.bits b).toNat))
 | .andNot =>K (.int k (k.wrap (BitVec.ofInt k.bits a &&& ~~~BitVec.ofInt k.bits b).toNat))
 | .eql =>K (.bool (a==b))
 | .neq =>K (.bool (a != b))
 | .lss =>K (.bool (decide (a<b)))
 | .leq =>K (.bool (decide (a<=b)))
 | .gtr =>K (.bool (decide (a>b)))
 | .geq =>K (.bool (decide (a>=b)))
 |_=>False
def w5 (op:BinOp)(a b:ByteArray)(K:Value->Prop):Prop:=
 match op with
 | .add =>a.size+b.size<=2^40/\K (.string (a++b))
 | .eql =>K (.bool (a.toList==b.toList))
 | .neq =>K (.bool !(a.toList==b.toList))
 | .lss =>K (.bool (Op.bytesLess a.toList b.toList))
 | .leq =>K (.bool (Op.bytesLess a.toList b.toList || a.toList==b.toList))
 | .gtr =>K (.bool !(Op.bytesLess a.toList b.toList || a.toList==b.toList))
 | .geq =>K (.bool !(Op.bytesLess a.toList b.toList))
 |_=>False
def rc (op:BinOp):Value->Value->(Value->Prop)->Prop
 | .int k a,.int k' b,K=>match op with
  | .shl =>0<=b/\K (.int k (k.wrap (a*2^(min b.toNat k.bits))))
  | .shr =>0<=b/\K (.int k (a.fdiv (2^(min b.toNat k.bits))))
  |op=>match decide (k=k')with
   |true=>tT op k a b K
   |false=>False
 | .string a,.string b,K=>w5 op a b K
 |_,_,_=>False
def lO:Operand->Bool
 | .const _=>true
 |_=>false
def Mn:DC->Option Bool
 | .ptr _ _=>some true
 | .cK _ _ _ _=>some true
 | .st (.ref _)=>some true
 | .st (.lit (.pointer none))=>some false
 |_=>none
def Mo (C:bS)(nc:Bool)(op:BinOp)(T:TypeId)(x y:DX)(K:DV->Prop):Prop:=
 match x,y with
 |(false,[.st (.lit (.bool a))]),(false,[.st (.lit (.bool b))])=>match C.ti T with
  |some i=>match i.b8,op with
   | .bool,.eql =>K (lit (.bool (a==b)))
   | .bool,.neq =>K (lit (.bool !(a==b)))
   |_,_=>False
  |none=>False
 |(false,[.st (.lit .nilIface)]),(false,[.st (.lit .nilIface)])=>match C.ti T,nc with
  |some i,true=>match i.b8,op with
   | .iface,.eql =>K (lit (.bool true))
   | .iface,.neq =>K (lit (.bool false))
   |_,_=>False
  |_,_=>False
 |(false,[.st .err]),(false,[.st (.lit .nilIface)])=>match C.ti T with
  |some i=>match i.b8,op with
   | .iface,.eql =>K (lit (.bool false))
   | .iface,.neq =>K (lit (.bool true))
   |_,_=>False
  |none=>False
 |(false,[d]),(false,[.st (.lit (.pointer none))])=>match Mn d,C.ti T with
  |some b,some i=>match i.b8,op with
   | .ptr _,.eql =>K (lit (.bool !b))
   | .ptr _,.neq =>K (lit (.bool b))
   |_,_=>False
  |_,_=>False
 |(false,[.st (.lit a)]),(false,[.st (.lit b)])=>rc op a b λv=>K (lit v)
 |(true,xs),(true,ys)=>match C.ti T with
  |some i=>match cL i.b8 with
   |true=>match i.eqs,op with
    |some l,.eql =>match md l xs ys with
     |some b=>K (lit (.bool b))
     |none=>False
    |some l,.neq =>match md l xs ys with
     |some b=>K (lit (.bool !b))
     |none=>False
    |_,_=>False
   |false=>False
  |none=>False
 |_,_=>False
def PM (op:UnOp)(x:DX)(K:DV->Prop):Prop:=
 match op,x with
 | .neg,(false,[.st (.lit (.int k n))])=>K (lit (.int k (k.wrap (0 -n))))
 | .xor,(false,[.st (.lit (.int k n))])=>K (lit (.int k (k.wrap (BitVec.ofInt k.bits (if k.signed then -1 else k.max)^^^BitVec.ofInt k.bits n).toNat)))
 | .not,(false,[.st (.lit (.bool b))])=>K (lit (.bool !b))
 |_,_=>False
abbrev ka:=DV->Hp->List Nat->Prop
def oA (C:bS)(T:TypeId)(x:DX)(H:HF)(K:ka):Prop:=
 match C.ti T with
 |none=>False
 |some i=>
  match x with
  |(false,[.ptr id off])=>match H id with
   |some (.box _ cs)=>match Nat.ble (off+i.size) cs.length&&(cL i.b8 || Nat.beq i.size 1)with
    |true=>K (.val (cL i.b8,(cs.drop off).take i.size)) [] [id]
    |false=>False
   |some (.dX cs)=>match Nat.ble (off+i.size) cs.length&&(cL i.b8 || Nat.beq i.size 1)with
    |true=>K (.val (cL i.b8,((cs.drop off).take i.size).map .st)) [] [id]
    |false=>False
   |_=>False
  |(false,[.st (.ref cs)])=>match Nat.ble i.size cs.length&&(cL i.b8 || Nat.beq i.size 1)with
   |true=>K (.val (cL i.b8,(cs.take i.size).map .st)) [] []
   |false=>False
  |(false,[.cK id z n off])=>match H id with
   |some (.row _ z' c)=>match Nat.beq z z'&&Nat.ble (off+i.size) z&&(cL i.b8 || Nat.beq i.size 1)with
    |true=>∃e,c.elem n=some e/\K (.val (cL i.b8,((e.drop off).take i.size).map .st)) [] [id]
    |false=>False
   |some (.az z' l)=>match Nat.beq z z'&&Nat.ble (off+i.size) z&&(cL i.b8 || Nat.beq i.size 1)with
    |true=>∃e,l[n]? =some e/\K (.val (cL i.b8,(e.drop off).take i.size)) [] [id]
    |false=>False
   |_=>False
  |_=>False
def rf (C:bS)(T:TypeId)(x v:DX)(H:HF)(K:ka):Prop:=
 match C.ti T with
 |none=>False
 |some i=>match Nat.beq v.2.length i.size with
  |false=>False
  |true=>match x with
   |(false,[.ptr id off])=>match H id with
    |some (.box t cs)=>match Nat.ble (off+i.size) cs.length with
     |true=>K (.aI []) [(id,some (.box t (iq cs off v.2)))] [id]
     |false=>False
    |_=>False
   |(false,[.cK id z n off])=>match H id with
    |some (.row true z' c)=>match Nat.beq z z'&&Nat.ble (off+i.size) z with
     |true=>match bO H i.kinds v.2 with
      |some (l,[],r)=>match oy l with
       |true=>∃e,c.elem n=some e/\match c.xX n (iq e off l)with
        |some c'=>K (.aI []) [(id,some (.row true z' c'))] (id::r)
        |none=>False
       |false=>False
      |_=>False
     |false=>False
    |some (.az z' l)=>match Nat.beq z z'&&Nat.ble (off+i.size) z with
     |true=>∃e,l[n]? =some e/\K (.aI []) [(id,some (.az z' (l.set n (iq e off v.2))))] [id]
     |false=>False
    |_=>False
   |_=>False
def oB (C:bS)(T:TypeId)(x:DX)(f:Nat)(K:ka):Prop:=
 match C.ti T with
 |none=>False
 |some i=>match i.b8 with
  | .struct fs=>match fs[f]? with
   |some (o,ft)=>match C.ti ft with
    |some fi=>match Nat.ble 1 fi.size with
     |true=>match x with
      |(false,[.ptr id off])=>K (bh (.ptr id (off+o))) [] []
      |(false,[.st (.ref cs)])=>K (bh (.st (.ref (cs.drop o)))) [] []
      |(false,[.cK id z n off])=>K (bh (.cK id z n (off+o))) [] []
      |_=>False
     |false=>False
    |none=>False
   |none=>False
  |_=>False
def eR (C:bS)(T:TypeId)(x ix:DX)(H:HF)(K:ka):Prop:=
 match C.ti T with
 |none=>False
 |some i=>match i.b8,ix with
  | .slice e,(false,[.st (.lit (.int _ n))])=>match C.ti e with
   |none=>False
   |some ie=>match x with
    |(false,[.own id])=>match H id with
     |some (.row _ z c)=>match Nat.beq z ie.size with
      |true=>(0<=n/\n<c.len)/\K (bh (.cK id z n.toNat 0)) [] [id]
      |false=>False
     |some (.az z l)=>match Nat.beq z ie.size with
      |true=>(0<=n/\n<l.length)/\K (bh (.cK id z n.toNat 0)) [] [id]
      |false=>False
     |_=>False
    |(false,[.st c])=>match c.ao with
     |true=>0<=n/\∃el,c.elem n.toNat=some el/\el.length=ie.size/\K (bh (.st (.ref el))) [] []
     |false=>False
    |_=>False
  | .array len e,(false,[.st (.lit (.int _ n))])=>match C.ti e with
   |none=>False
   |some ie=>match x with
    |(false,[.ptr id off])=>(0<=n/\n<len)/\K (bh (.ptr id (off+n.toNat*ie.size))) [] []
    |(false,[.st (.ref cs)])=>(0<=n/\n<len)/\K (bh (.st (.ref (cs.drop (n.toNat*ie.size))))) [] []
    |_=>False
  |_,_=>False
def act (i:TI):Bool:=cL i.b8
def Dr (i:TI)(cs:List DC)(off:Nat)(K:ka):Prop:=
 match Nat.ble (off+i.size) cs.length&&(act i || Nat.beq i.size 1)with
 |true=>K (.val (act i,(cs.drop off).take i.size)) [] []
 |false=>False
def tU (C:bS)(T:TypeId)(x ix:DX)(K:ka):Prop:=
 match C.ti T with
 |none=>False
 |some i=>match i.b8,ix with
  | .array len e,(false,[.st (.lit (.int _ n))])=>match C.ti e with
   |none=>False
   |some ie=>match x with
    |(true,cs)=>(0<=n/\n<len)/\Dr ie cs (n.toNat*ie.size) K
    |_=>False
  | .str,(false,[.st (.lit (.int _ n))])=>match x with
   |(false,[.st (.lit (.string s))])=>0<=n/\∃b,s[n.toNat]? =some b/\K (lit (.int .u8 (b.toNat:Nat))) [] []
   |_=>False
  |_,_=>False
def Al (C:bS)(T:TypeId)(x:DX)(f:Nat)(K:ka):Prop:=
 match C.ti T with
 |none=>False
 |some i=>match i.b8 with
  | .struct fs=>match fs[f]? with
   |some (o,ft)=>match C.ti ft with
    |some fi=>match x with
     |(true,cs)=>Dr fi cs o K
     |_=>False
    |none=>False
   |none=>False
  |_=>False
def Gz (d:Option (Option DV))(Hv:Nat)(K:Nat->Prop):Prop:=
 match d with
 |none=>K Hv
 |some (some (.val (false,[.st (.lit (.int _ n))])))=>0<=n/\K n.toNat
 |_=>False
def gm (C:bS)(T:TypeId)(x:DX)(lo hi:Option (Option DV))(H:HF)(K:ka):Prop:=
 match C.ti T with
 |none=>False
 |some i=>match i.b8 with
  | .slice e=>match C.ti e with
   |none=>False
   |some ie=>match bO H i.kinds x.2 with
    |some ([c],u,r)=>match x.1,c.ao with
     |false,true=>Gz lo 0 λl=>Gz hi c.len λh=>(l<=h/\h<=c.len)/\c.Ag ie.size/\K (bh (.st (c.sub l h))) u r
     |_,_=>False
    |_=>False
  | .str =>match x with
   |(false,[.st (.lit (.string s))])=>Gz lo 0 λl=>Gz hi s.size λh=>(l<=h/\h<=s.size)/\K (lit (.string (s.extract l h))) [] []
   |_=>False
  | .array n e=>match C.ti e with
   |none=>False
   |some ie=>match x,lo,hi with
    |(false,[.ptr id off]),none,none=>match H id with
     |some (.box t cs)=>match bO H (C.kinds t) cs with
      |some (l,u,r)=>match C.kK e,Nat.beq ie.size 1&&Nat.ble (off+n) l.length&&Nat.ble 1 n with
       |true,true=>match wZ (((l.drop off).take n).map λc=>[c])with
        |some ns=>K (bh (.st (.ints ns))) ((id,some (.dX l))::u) (id::r)
        |none=>False
       |_,_=>False
      |none=>False
     |some (.dX l)=>match C.kK e,Nat.beq ie.size 1&&Nat.ble (off+n) l.length&&Nat.ble 1 n with
       |true,true=>match wZ (((l.drop off).take n).map λc=>[c])with
        |some ns=>K (bh (.st (.ints ns))) [] [id]
        |none=>False
       |_,_=>False
     |_=>False
    |_,_,_=>False
  |_=>False
def cJ (C:bS)(f:FuncId)(first bM:List (Option DV))(H:HF)(K:ka):Prop:=
 let rec firsts:List (Option DV)->Option (List SV × Hp × List Nat)
  | []=>some ([],[],[])
  |some (.val x)::xs=>match bO H [] x.2 with
   |some (c,u,r)=>match firsts xs with
    |some (cs,u',r')=>some ((x.1,c)::cs,u++u',r++r')
    |none=>none
   |none=>none
  |_=>none
 let rec capts:List (Option DV)->Option (List (List SC) × Hp × List Nat)
  | []=>some ([],[],[])
  |some (.val (false,[.ptr id 0]))::xs=>match H id with
   |some (.dX cs)=>match capts xs with
    |some (l,u',r')=>some (cs::l,u',id::r')
    |none=>none
   |some (.box t cs)=>match bO H (C.kinds t) cs with
    |some (c,u,r)=>match capts xs with
     |some (l,u',r')=>some (c::l,(id,some (.dX c))::(u++u'),id::(r++r'))
     |none=>none
    |none=>none
   |_=>none
  |some (.val (false,[.st (.ref cs)]))::xs=>match capts xs with
    |some (l,u',r')=>some (cs::l,u',r')
    |none=>none
  |_=>none
 match firsts first with
 |some (a,u,r)=>match capts bM with
  |some (b,u',r')=>K (bh (.st (.fn f a b))) (u++u') (r++r')
  |none=>False
 |none=>False
def lP (C:bS)(fid:Nat)(T:TypeId)(l c:DX)(K:ka):Prop:=
 match C.ti T with
 |none=>False
 |some i=>match i.b8,l,c with
  | .slice e,(false,[.st (.lit (.int _ n))]),(false,[.st (.lit (.int _ m))])=>match C.ti e with
   |none=>False
   |some ie=>match Nat.ble 1 ie.size&&Nat.ble ie.bytes 4096&&Nat.beq ie.zero.length ie.size with
    |true=>(0<=n/\n<=m/\m<=xP)/\match C.kK e with
     |true=>match ie.zero with
      | [.lit (.int .i64 0)]=>K (bh (.own fid)) [(fid,some (.row true ie.size (.ints (List.replicate n.toNat 0))))] []
      |_=>False
     |false=>match qZ ie.kinds ie.zero with
      |some z=>K (bh (.own fid)) [(fid,some (.row true ie.size (.view (List.replicate n.toNat z))))] []
      |none=>False
    |false=>False
  |_,_,_=>False
def rg (C:bS)(fid:Nat)(T:TypeId)(x y:DX)(H:HF)(K:ka):Prop:=
 match C.ti T with
 |none=>False
 |some i=>match i.b8,y with
  | .slice e,(false,[yc])=>match C.ti e with
   |none=>False
   |some ie=>match Nat.ble 1 ie.size&&Nat.ble ie.bytes 4096&&Nat.beq ie.zero.length ie.size with
    |false=>False
    |true=>match bz H (C.kK e) yc with
     |none=>False
     |some (cy,_,ry)=>match x with
      |(false,[.nil])=>match SC.cat (Bm (C.kK e)) cy with
       |some c'=>c'.Ag ie.size/\c'.len<=xP/\K (bh (.own fid)) [(fid,some (.row true ie.size c'))] ry
       |none=>False
      |(false,[.own id])=>match H id with
       |some (.row m z c)=>match Nat.beq z ie.size,SC.cat c cy with
        |true,some c'=>cy.Ag z/\c'.len<=xP/\K (bh (.own fid)) [(fid,some (.row m z c')),(id,none)] (id::ry)
        |_,_=>False
       |_=>False
      |_=>False
  |_,_=>False
def Jo (C:bS)(e:TypeId)(ie:TI)(n:Nat):Option SC:=
 match C.kK e with
 |true=>match ie.zero with
  | [.lit (.int .i64 0)]=>some (.ints (List.replicate n 0))
  |_=>none
 |false=>match qZ ie.kinds ie.zero with
  |some z=>some (.view (List.replicate n z))
  |none=>none
def qh (C:bS)(fid:Nat)(T:TypeId)(x y:DX)(H:HF)(K:ka):Prop:=
 match C.ti T with
 |none=>False
 |some i=>match i.b8,y with
  | .slice e,(false,[.st (.lit (.int _ n))])=>match C.ti e with
   |none=>False
   |some ie=>match Nat.ble 1 ie.size&&Nat.ble ie.bytes 4096&&Nat.beq ie.zero.length ie.size with
    |false=>False
    |true=>(0<=n/\n<=xP)/\match Jo C e ie n.toNat with
     |none=>False
     |some cy=>match x with
      |(false,[.own id])=>match H id with
       |some (.row m z c)=>match Nat.beq z ie.size,SC.cat c cy with
        |true,some c'=>c'.len<=xP/\K (bh (.own fid)) [(fid,some (.row m z c')),(id,none)] [id]
        |_,_=>False
       |_=>False
      |_=>False
  |_,_=>False
def tV (afh:Bool)(k:IntKind)(a:Int):List DX->(Value->Prop)->Prop
 | [],K=>K (.int k a)
 |(false,[.st (.lit (.int k' b))])::r,K=>match decide (k=k')with
  |true=>tV afh k (match afh with|true=>if b>a then b else a|false=>if b<a then b else a) r K
  |false=>False
 |_,_=>False
def eV (C:bS)(fid:Nat)(b:Builtin)(R5:List TypeId)(args:List (Option DV))(H:HF)(K:ka):Prop:=
 match b,R5,args with
 | .len,t::_,[some (.val x)]=>match C.ti t with
  |none=>False
  |some i=>match i.b8,x with
   | .slice _,(false,[.st c])=>match c.ao with
    |true=>K (lit (.int .i64 (c.len:Nat))) [] []
    |false=>False
   | .slice _,(false,[.nil])=>K (lit (.int .i64 0)) [] []
   | .slice _,(false,[.own id])=>match H id with
    |some (.row _ _ c)=>K (lit (.int .i64 (c.len:Nat))) [] [id]
    |some (.az _ l)=>K (lit (.int .i64 (l.length:Nat))) [] [id]
    |_=>False
   | .str,(false,[.st (.lit (.string s))])=>K (lit (.int .i64 (s.size:Nat))) [] []
   | .array n _,_=>K (lit (.int .i64 (n:Nat))) [] []
   |_,_=>False
 | .append,[t,t'],[some (.val x),some (.val y)]=>match C.ti t' with
  |some i'=>match i'.b8 with
   | .slice _=>rg C fid t x y H K
   | .int _=>qh C fid t x y H K
   |_=>False
  |none=>False
 | .max,_,some (.val (false,[.st (.lit (.int k a))]))::r=>match r.mapM λd=>match d with|some (.val x)=>some x|_=>none with
  |some xs=>tV true k a xs λv=>K (lit v) [] []
  |none=>False
 | .min,_,some (.val (false,[.st (.lit (.int k a))]))::r=>match r.mapM λd=>match d with|some (.val x)=>some x|_=>none with
  |some xs=>tV false k a xs λv=>K (lit v) [] []
  |none=>False
 |_,_,_=>False
def aew (C:bS)(f:FuncId)(args:List SV)(K:mc->Prop):Prop:=∃r,nR C.P C.gl f args r/\K r
def Jp:List (Option DV)->Option (List DX)
 | []=>some []
 |some (.val x)::r=>match Jp r with
  |some l=>some (x::l)
  |none=>none
 |_=>none
def aex (fid:Nat):Option SC->DC
 |some c=>.st c
 |none=>.own fid
def Mp (fid:Nat)(x:Bool × List (Option SC)):DX:=(x.1,x.2.map (aex fid))
def yg:List SC->Bool
 | []=>true
 | .lit _::cs=>yg cs
 |_=>false
def Mq:List SV->Bool
 | []=>true
 |x::l=>match yg x.2 with
  |true=>Mq l
  |false=>false
def Tg (b:Bool)(u:Hp):Hp:=match b with
 |true=>[]
 |false=>u
def i8 (fid:Nat)(u:Hp)(rs:List Nat)(K:ka):mc->Prop
 | .one x=>K (.val (dyn x)) (Tg (yg x.2) u) rs
 | .aI l=>K (.aI (l.map dyn)) (Tg (Mq l) u) rs
 | .own z c=>K (bh (.own fid)) ((fid,some (.row true z c))::u) rs
 | .mix true l z c=>K (.aI (l.map (Mp fid))) ((fid,some (.row true z c))::u) rs
 | .mix false [x] z c=>K (.val (Mp fid x)) ((fid,some (.row true z c))::u) rs
 | .mix false _ _ _=>False
 | .vh z c=>match u,rs with
  | [(id,some (.row false z' _))],[iQ]=>match Nat.beq id iQ&&Nat.beq z z' with
   |true=>K (.aI []) [(id,some (.row true z c))] [id]
   |false=>False
  |_,_=>False
def yh (n:Nat):List Nat->Bool
 | []=>false
 |m::l=>match Nat.beq n m with
  |true=>true
  |false=>yh n l
def akd (mv mr:Mem)(v:Value):DC->Prop
 | .st c=>dw mv mr v c
 | .nil =>v= .slice none 0 0
 |_=>False
def ake (P:Program)(gl:tR)(f:FuncId)(args:List DX)(r:mc):Prop:=
 iI P f=true/\∀(mv:Mem) (w:World) (vs:Array Value),mv.le (rd w)->eQ gl (rd w)->vs.size=args.length->(∀k x,args[k]? =some x->∃d,x=(false,[d])/\akd mv (rd w) (vs.getD k undef) d)->
  Calls P f vs w λe w'=>∃v,e= .returned v/\Go.RowKit.Below w.heap.size w w'/\qY mv w.heap.size w' v r
def okN:List DX->Bool
 | []=>true
 |(false,[.st _])::xs=>okN xs
 |(false,[.nil])::xs=>okN xs
 |_=>false
def w6 (C:bS)(fid:Nat)(f:FuncId)(first:List SV)(bM:List (List SC))(xs:List DX)(K:ka):Prop:=
 match first,bM,okN xs with
 | [],[],true=>∃r,ake C.P C.gl f xs r/\i8 fid [] [] K r
 |_,_,_=>False
def jg (C:bS)(fid:Nat)(fv:Option DV)(args:List (Option DV))(R5:List TypeId)(H:HF)(K:ka):Prop:=
 match fv,Jp args with
 |some (.val (false,[.st (.fn f first bM)])),some xs=>match pl C H R5 xs with
  |some (l,u,rs)=>aew C f (first++l++bM.map λcs=>(false,[.ref cs])) (i8 fid u rs K)
  |none=>False
 |_,_=>False
def amz (C:bS):Operand->Bool
 | .func f=>yh f C.nx
 | .const (.func (.func f) _ _)=>yh f C.nx
 |_=>false
def rh (C:bS)(fid:Nat)(nx:Bool)(fv:Option DV)(args:List (Option DV))(R5:List TypeId)(H:HF)(K:ka):Prop:=
 match nx with
 |true=>match fv,Jp args with
  |some (.val (false,[.st (.fn f first bM)])),some xs=>w6 C fid f first bM xs K
  |_,_=>False
 |false=>jg C fid fv args R5 H K
def me:List (List SC)->Option (List UInt8)
 | []=>some []
 | [.lit (.int .u8 n)]::r=>match me r with
  |some l=>some (UInt8.ofNat n.toNat::l)
  |none=>none
 |_=>none
def Am (C:bS)(e:TypeId):Bool:=match C.ti e with
 |some ie=>match ie.b8 with
  | .int .u8 =>Nat.beq ie.size 1
  |_=>false
 |none=>false
def yi (C:bS)(src dst:TypeId)(x:DX)(H:HF)(K:ka):Prop:=
 match C.ti src,C.ti dst with
 |some i,some j=>match i.b8 with
  | .int _=>match j.b8,x with
   | .int k,(false,[.st (.lit (.int _ n))])=>K (lit (.int k (k.wrap n))) [] []
   |_,_=>False
  | .str =>match j.b8,x with
   | .str,(false,[.st (.lit (.string s))])=>K (lit (.string s)) [] []
   |_,_=>False
  | .slice e=>match j.b8,x with
   | .str,(false,[d])=>match Am C e,bz H false d with
    |true,some (.view es,_,r)=>match me es with
     |some l=>K (lit (.string ⟨l.toArray⟩)) [] r
     |none=>False
    |_,_=>False
   |_,_=>False
  |_=>False
 |_,_=>False
def fk (C:bS)(fid:Nat)(o:Oper)(ev:Operand->Option DV)(H:HF)(K:ka):Prop:=
 match o.op with
 | .move x=>match ev x with
  |some v=>K v [] []
  |none=>False
 | .assign x=>match ev x with
  |some v=>K v [] []
  |none=>False
 | .pick c a b=>match ev c with
  |some (.val (false,[.st (.lit (.bool t))]))=>match t with
   |true=>match ev a with
    |some v=>K v [] []
    |none=>False
   |false=>match ev b with
    |some v=>K v [] []
    |none=>False
  |_=>False
 | .alloc T=>match C.ti T with
  |some i=>match Dq i.zero with
   |some cs=>K (bh (.ptr fid 0)) [(fid,some (.box T cs))] []
   |none=>False
  |none=>False
 | .box T x=>match ev x with
  |some (.val x)=>K (bh (.ptr fid 0)) [(fid,some (.box T x.2))] []
  |_=>False
 | .build T parts=>match C.ti T with
  |some i=>match Dq i.zero with
   |some zs=>match i.b8 with
    | .struct fs=>match HM (λn=>match fs[n]? with|some (o,ft)=>(match C.ti ft with|some fi=>some (o,fi.size)|none=>none)|none=>none) zs (parts.toList.map λp=>(p.1,ev p.2))with
     |some cs=>K (.val (true,cs)) [] []
     |none=>False
    | .array _ e=>match C.ti e with
     |some ie=>match HM (λn=>some (n*ie.size,ie.size)) zs (parts.toList.map λp=>(p.1,ev p.2))with
      |some cs=>K (.val (true,cs)) [] []
      |none=>False
     |none=>False
    |_=>False
   |none=>False
  |none=>False
 | .buildSlice T len parts=>match C.ti T with
  |some i=>match i.b8 with
   | .slice e=>match C.ti e with
    |some ie=>match Nat.ble 1 ie.size&&Nat.ble (len*ie.size) 16777216&&Nat.beq parts.size len with
     |true=>match kP H ie.kinds ie.size 0 (parts.toList.map λp=>(p.1,ev p.2))with
      |some (es,u,r)=>match Yv (C.kK e) es with
       |some c=>K (bh (.own fid)) ((fid,some (.row true ie.size c))::u) r
       |none=>False
      |none=>False
     |false=>False
    |none=>False
   |_=>False
  |none=>False
 | .load T a=>match ev a with
  |some (.val x)=>oA C T x H K
  |_=>False
 | .store T a v=>match ev a,ev v with
  |some (.val x),some (.val y)=>rf C T x y H K
  |_,_=>False
 | .fieldAddr T a f=>match ev a with
  |some (.val x)=>oB C T x f K
  |_=>False
 | .indexAddr T a ix=>match ev a,ev ix with
  |some (.val x),some (.val y)=>eR C T x y H K
  |_,_=>False
 | .index T a ix=>match ev a,ev ix with
  |some (.val x),some (.val y)=>tU C T x y K
  |_,_=>False
 | .field T a f=>match ev a with
  |some (.val x)=>Al C T x f K
  |_=>False
 | .slice T x lo hi mx=>match ev x,mx with
  |some (.val x),none=>gm C T x (lo.map ev) (hi.map ev) H K
  |_,_=>False
 | .binOp op T a b _=>match ev a,ev b with
  |some (.val x),some (.val y)=>Mo C (lO a || lO b) op T x y λv=>K v [] []
  |_,_=>False
 | .unOp op _ a=>match ev a with
  |some (.val x)=>PM op x λv=>K v [] []
  |_=>False
 | .convert s d a=>match ev a with
  |some (.val x)=>yi C s d x H K
  |_=>False
 | .extract t ix=>match ev t with
  |some (.aI l)=>match l[ix]? with
   |some x=>K (.val x) [] []
   |none=>False
  |_=>False
 | .makeFunc (.func f) first bM=>cJ C f (first.toList.map ev) (bM.toList.map ev) H K
 | .makeSlice T l c=>match ev l,ev c with
  |some (.val x),some (.val y)=>lP C fid T x y K
  |_,_=>False
 | .call c=>match c.callee with
  | .value f=>rh C fid (amz C f) (ev f) (c.args.toList.map ev) c.argTypes.toList H K
  | .builtin b=>eV C fid b c.argTypes.toList (c.args.toList.map ev) H K
  |_=>False
 |_=>False
open Go.RowKit (Below)
open Classical
def br (H:HF)(f:Nat)(b:Option cC):HF:=λi=>if i=f then b else H i
def Hp.on:Hp->HF->HF
 | [],H=>H
 |(j,b)::u,H=>br (Hp.on u H) j b
def cC.tC:cC->Nat->Prop
 | .box _ _,_=>False
 | .dX _,_=>True
 | .row m z c,o=>m=false/\o<c.len*z
 | .az _ _,_=>False
 | .map _,_=>False
structure gG where
 w0:World
 PL:Mem
 own:Nat->Prop
 fixed:List (Nat × Value):=[]
 db:Nat:=0
 mr0:Mem:=rd w0
abbrev gG.base (F:gG):Nat:=F.w0.heap.size
def gG.dE (F:gG)(b:Nat):Prop:=F.base<=b\/F.own b
def gG.gD {F:gG}{b:Nat}(h:F.base<=b):F.dE b:=.inl h
structure jv (m:Nat->Prop) (w w':World):Prop where
 os:w'.os=w.os
 tape:w'.tape=w.tape
 output:w'.output=w.output
 size:w.heap.size<=w'.heap.size
 block: ∀k,k<w.heap.size->¬m k->w'.heap[k]? =w.heap[k]?
theorem jv.refl (m:Nat->Prop)(w:World):jv m w w:=⟨rfl,rfl,rfl,dG _,λ_ _ _=>rfl⟩
def jv.trans {m:Nat->Prop}{a b c:World}(h:jv m a b)(k:jv m b c):jv m a c:=
 ⟨k.os.trans h.os,k.tape.trans h.tape,k.output.trans h.output,pf h.size k.size,λi hi hm=>(k.block i (X6 hi h.size) hm).trans (h.block i hi hm)⟩
def jv.LM {m:Nat->Prop}{w w':World}(h:Below w.heap.size w w'):jv m w w':=⟨h.os,h.tape,h.output,h.size,λk hk _=>h.block k hk⟩
def jv.mono {m m':Nat->Prop}{w w':World}(h:jv m w w')(hm: ∀b,b<w.heap.size->m b->m' b):jv m' w w':=⟨h.os,h.tape,h.output,h.size,λk hk hn=>h.block k hk λe=>hn (hm k hk e)⟩
def jv.below {m:Nat->Prop}{w w':World}(h:jv m w w')(hm: ∀b,b<w.heap.size->¬m b):Below w.heap.size w w':=⟨h.os,h.tape,h.output,h.size,λk hk=>h.block k hk (hm k hk)⟩
def fR (β:Nat->Option Nat)(H:HF)(b o:Nat):Prop:=∀id bC,H id=some bC->β id=some b->bC.tC o
noncomputable def MV (F:gG)(β:Nat->Option Nat)(H:HF)(w:World):Mem:=λb o=>if F.dE b then(if fR β H b o then rd w b o else none)else F.PL b o
noncomputable def MR (F:gG)(β:Nat->Option Nat)(H:HF)(w:World):Mem:=λb o=>if F.dE b then MV F β H w b o else F.mr0 b o
section
variable (F:gG)(β:Nat->Option Nat)(N:Nat->Prop)(H:HF)(w:World)
def U9 (v:Value)(id z n:Nat):Prop:=
 (β id=none/\n=0/\v= .slice none 0 0)\/
  ∃b cap arr T,β id=some b/\v= .slice (some ⟨b,0,none⟩) n cap/\w.heap[b]? =some (.cells arr T)/\arr.size=cap*z
def cw (v:Value):DC->Prop
 | .st c=>dw (MV F β H w) (MR F β H w) v c
 | .nil =>v= .slice none 0 0
 | .ptr id off=>N id/\∃b,β id=some b/\v= .pointer (some ⟨b,off,none⟩)
 | .own id=>N id/\v.oneCell'=true/\∀bC z n,H id=some bC->bC.sz=some (z,n)->U9 β w v id z n
 | .cK id z i off=>N id/\∃b,β id=some b/\v= .pointer (some ⟨b,i*z+off,none⟩)
 | .mp id=>N id/\∃b,β id=some b/\v= .map (some b)
 | .sS g id=>N id/\∃b,β id=some b/\v= .func (.func g) #[] #[.pointer (some ⟨b,0,none⟩)]
def ar (v:Value)(x:DX):Prop:=
 if x.1 then ∃arr,v= .agg arr/\arr.size=x.2.length/\∀k c,x.2[k]? =some c->cw F β N H w (arr.getD k undef) c
 else ∃c,x.2= [c]/\cw F β N H w v c
def co (v:Value):DV->Prop
 | .val x=>ar F β N H w v x
 | .aI l=>∃arr,v= .tuple arr/\arr.size=l.length/\∀k x,l[k]? =some x->ar F β N H w (arr.getD k undef) x
def ir (id:Nat):cC->Prop
 | .box _ cs=>∃b arr T,β id=some b/\F.dE b/\w.heap[b]? =some (.cells arr T)/\arr.size=cs.length/\∀k x,cs[k]? =some x->cw F β N H w (arr.getD k undef) x
 | .dX cs=>∃b arr T,β id=some b/\F.dE b/\w.heap[b]? =some (.cells arr T)/\arr.size=cs.length/\∀k x,cs[k]? =some x->dw (MV F β H w) (MR F β H w) (arr.getD k undef) x
 | .row _ z c=>(0<z/\c.ao=true/\∀i e,c.elem i=some e->e.length=z)/\
   ((β id=none/\c.len=0)\/∃b cap,β id=some b/\F.dE b/\Ml w (MV F β H w) b z c cap)
 | .az z l=>(0<z/\∀(i:Nat) (e:List DC),l[i]? =some e->e.length=z)/\
   ((β id=none/\l.length=0)\/∃b cap arr T,β id=some b/\F.dE b/\w.heap[b]? =some (.cells arr T)/\arr.size=cap*z/\l.length<=cap/\
    ∀(i:Nat) (e:List DC) (k:Nat) (x:DC),l[i]? =some e->e[k]? =some x->cw F β N H w (arr.getD (i*z+k) undef) x)
 | .map es=>∃b arr alI,β id=some b/\F.dE b/\w.heap[b]? =some (.map arr alI)/\arr.size=es.length/\
   ∀(i:Nat) (k:ByteArray) (x:SV) (e:MapEntry),es[i]? =some (k,x)->arr[i]? =some e->e.key= .string k/\er (MV F β H w) (MR F β H w) e.val x
structure ad:Prop where
 rel: ∀id bC,H id=some bC->N id/\ir F β N H w id bC
 inj: ∀i j b x y,H i=some x->H j=some y->β i=some b->β j=some b->i=j
 below:jv F.dE F.w0 w
 tD: ∀b o v,F.PL b o=some v->rd w b o=some v/\(F.dE b->fR β H b o)
def dH (E:EF)(a:Act):Prop:=∀s dv,E s=some dv->co F β N H w (a.tmps.getD s undef) dv
end
def cC.Ae:cC->cC->Prop
 | .box _ _,.box _ _=>True
 | .box _ _,.dX _=>True
 | .dX _,.dX _=>True
 | .row _ z c,.row _ z' c'=>z=z'/\c.len=c'.len
 | .az z l,.az z' l'=>z=z'/\l.length=l'.length
 | .map _,.map _=>True
 |_,_=>False
theorem cC.Sn {a b:cC}(h:a.Ae b):b.sz=a.sz:=by cases a<;>cases b<;>simp[cC.Ae,cC.sz]at h ⊢ <;>(grind)
def cC.fU (b:cC):b.Ae b:=by cases b<;>simp[cC.Ae]
structure Tr (F:gG) (β:Nat->Option Nat) (N:Nat->Prop) (H:HF) (w:World) (cQ:Nat->Option Nat) (N':Nat->Prop) (H':HF) (w':World):Prop where
 below:jv F.dE w w'
 mem: ∀b o v,F.dE b->fR β H b o->rd w b o=some v->fR cQ H' b o/\rd w' b o=some v
 used: ∀id,N id->N' id
 kJ: ∀id,N id->cQ id=β id
 keep: ∀id blk',N id->H' id=some blk'->∃bC,H id=some bC/\bC.Ae blk'
 size: ∀id blk' zn b arr T,N id->H' id=some blk'->blk'.sz=some zn->β id=some b->F.dE b->w.heap[b]? =some (.cells arr T)->∃arr',w'.heap[b]? =some (.cells arr' T)/\arr'.size=arr.size
 av: ∀(k:Nat) (x:Option (List Deferred)),w.heap[k]? =some (.deferred x)->w'.heap[k]? =some (.deferred x)
section
variable {F:gG}{β cQ:Nat->Option Nat}{N N':Nat->Prop}{H H':HF}{w w':World}
theorem Tr.refl:Tr F β N H w β N H w:=
 ⟨jv.refl _ _,λ_ _ _ _ h e=>⟨h,e⟩,λ_ h=>h,λ_ _=>rfl,λ_ b _ e=>⟨b,e,b.fU⟩,λ_ _ _ _ arr _ _ _ _ _ _ h=>⟨arr,h,rfl⟩,λ_ _ h=>h⟩
def Below.ahA {B:Nat}(h:Below B w w'){b o:Nat}(hb:b<B):rd w' b o=rd w b o:=h.cell hb
theorem jv.rd {m:Nat->Prop}(h:jv m w w'){b o:Nat}{v:Value}(hb: ¬m b)(e:rd w b o=some v):rd w' b o=some v:=by
 have al:=Jk _ _ e;exact(PZ (w:=w) (a:=⟨b,o,none⟩) (h.block b al hb)).trans e
def Tr.mv (t:Tr F β N H w cQ N' H' w'):(MV F β H w).le (MV F cQ H' w'):=by
 intro b o v h;unfold MV at*;by_cases hb:F.dE b
 ·simp only[hb,if_true]at h ⊢;by_cases hs:fR β H b o
  ·simp only[hs,if_true]at h;obtain⟨h1,h2⟩:=t.mem b o v hb hs h
   grind
  grind
 grind
def Tr.mr (t:Tr F β N H w cQ N' H' w'):(MR F β H w).le (MR F cQ H' w'):=by
 intro b o v h;unfold MR at*;by_cases hb:F.dE b
 ·simp only[hb,if_true]at h ⊢;exact t.mv b o v h
 grind
def Tr.tD (t:Tr F β N H w cQ N' H' w')(h: ∀b o v,F.PL b o=some v->rd w b o=some v/\(F.dE b->fR β H b o)): ∀b o v,F.PL b o=some v->rd w' b o=some v/\(F.dE b->fR cQ H' b o):=by
 intro b o v e;obtain⟨h1,h2⟩:=h b o v e;by_cases hb:F.dE b
 ·obtain⟨h3,h4⟩:=t.mem b o v hb (h2 hb) h1
  grind
 ·exact⟨t.below.rd hb h1,λh=>absurd h hb⟩
theorem Tr.jr (t:Tr F β N H w cQ N' H' w')(hR:ad F β N H w){v:Value}{d:DC}(h:cw F β N H w v d):cw F cQ N' H' w' v d:=by
 cases d with
 |st c=>exact dw.mono t.mv t.mr h
 |nil=>exact h
 |ptr id off=>
  exact K83
 |own id=>
  obtain⟨hn,h1c,h⟩:=h;refine⟨t.used _ hn,h1c,λblk' z n hb hz=>?_⟩;obtain⟨bC,e,hl⟩:=t.keep id _ hn hb;have eb:=t.kJ id hn;have hz0:=hz;rw[cC.Sn hl]at hz;have h:=h _ _ _ e hz;unfold U9 at*;rw[eb]
  rcases h with⟨h1,h2,h3⟩|⟨b,cap,arr,T,h1,h2,h3,h4⟩
  grind
  ·have Gp:F.dE b:=by
    obtain⟨_,jW⟩:=hR.rel id _ e
    cases bC with
    |row m z c=>
     obtain⟨_,jW|⟨b',jD,q1,q2,q3⟩⟩:=jW
     grind
     grind
    |az z l=>
     obtain⟨_,jW|⟨b',jD,arr',T',q1,q2,q3⟩⟩:=jW
     grind
     grind
    |box _ _=>grind[cC.sz]
    |dX _=>grind[cC.sz]
    |map _=>grind[cC.sz]
   obtain⟨arr',e',es⟩:=t.size id _ _ b arr T hn hb hz0 h1 Gp h3
   grind
 |cK id z i off=>
  exact K83
 |sS g id=>
  exact K83
 |mp id=>
  exact K83
def Tr.sD (t:Tr F β N H w cQ N' H' w')(hR:ad F β N H w){v:Value}{d:DX}(h:ar F β N H w v d):ar F cQ N' H' w' v d:=by
 unfold ar at*;split
 ·rename_i hx;rw[if_pos hx]at h;obtain⟨arr,h1,h2,h3⟩:=h;exact⟨arr,h1,h2,λk c hc=>t.jr hR (h3 k c hc)⟩
 ·rename_i hx;rw[if_neg hx]at h;obtain⟨c,h1,h2⟩:=h;exact⟨c,h1,t.jr hR h2⟩
theorem Tr.wv (t:Tr F β N H w cQ N' H' w')(hR:ad F β N H w){v:Value}{d:DV}(h:co F β N H w v d):co F cQ N' H' w' v d:=by
 cases d with
 |val x=>exact t.sD hR h
 |aI l=>
  obtain⟨arr,h1,h2,h3⟩:=h;exact⟨arr,h1,h2,λk c hc=>t.sD hR (h3 k c hc)⟩
def Tr.env (t:Tr F β N H w cQ N' H' w')(hR:ad F β N H w){E:EF}{a:Act}(h:dH F β N H w E a):dH F cQ N' H' w' E a:=
 λs dv e=>t.wv hR (h s dv e)
theorem ad.step (hR:ad F β N H w)(t:Tr F β N H w cQ N' H' w')(T:Nat->Prop)
  (hu: ∀id bC,¬T id->H' id=some bC->H id=some bC/\N id/\∀b,β id=some b->w'.heap[b]? =w.heap[b]?)
  (ht: ∀id bC,T id->H' id=some bC->N' id/\ir F cQ N' H' w' id bC)
  (hi: ∀i j b x y,H' i=some x->H' j=some y->cQ i=some b->cQ j=some b->i=j):ad F cQ N' H' w':=by
 refine⟨λid bC e=>?_,hi,hR.below.trans t.below,t.tD hR.tD⟩;by_cases hT:T id
 grind
 ·obtain⟨e0,Ht,hw⟩:=hu id bC hT e;have eb:=t.kJ id Ht;obtain⟨hn,hb⟩:=hR.rel id bC e0;refine⟨t.used _ hn,?_⟩
  cases bC with
  |box ty cs=>
   obtain⟨b,arr,T',h1,h2,h3,h4,h5⟩:=hb;exact⟨b,arr,T',by grind,h2,by grind,h4,λk x hx=>t.jr hR (h5 k x hx)⟩
  |dX cs=>
   obtain⟨b,arr,T',h1,h2,h3,h4,h5⟩:=hb;exact⟨b,arr,T',by grind,h2,by grind,h4,λk x hx=>(h5 k x hx).mono t.mv t.mr⟩
  |row m z c=>
   obtain⟨h0,h1|⟨b,cap,h1,h2,arr,T',q1,q2,q3,q4,q5,q6,q7⟩⟩:=hb
   ·exact⟨h0,.inl ⟨by grind,h1.2⟩⟩
   ·exact⟨h0,.inr ⟨b,cap,by grind,h2,arr,T',by grind,q2,q3,q4,q5,q6,λi e j x he hx=>(q7 i e j x he hx).mono t.mv (Mem.le_refl _)⟩⟩
  |az z l=>
   obtain⟨h0,h1|⟨b,cap,arr,T',h1,h2,q1,q2,q3,q4⟩⟩:=hb
   ·exact⟨h0,.inl ⟨by grind,h1.2⟩⟩
   ·exact⟨h0,.inr ⟨b,cap,arr,T',by grind,h2,by grind,q2,q3,λi e j x he hx=>t.jr hR (q4 i e j x he hx)⟩⟩
  |map es=>
   obtain⟨b,arr,ck,h1,h2,h3,h4,h5⟩:=hb;exact⟨b,arr,ck,by grind,h2,by grind,h4,λi k x e hi he=>let⟨a1,a2⟩:=h5 i k x e hi he;⟨a1,a2.mono t.mv t.mr⟩⟩
def Th (h:Below w.heap.size w w'){b o:Nat}{v:Value}(e:rd w b o=some v):rd w' b o=some v:=by rw[Below.ahA h (Jk _ _ e)];exact e
def kQ {b:Nat}{o:Obj}(e:w.heap[b]? =some o):b<w.heap.size:=(GB.1 e).1
def Tr.grow (_hR:ad F β N H w)(h:Below w.heap.size w w'):Tr F β N H w β N H w' where
 below:=.LM h
 mem:=λ_ _ _ _ hs e=>⟨hs,Th h e⟩
 used:=λ_ h=>h
 kJ:=λ_ _=>rfl
 keep:=λ_ b _ e=>⟨b,e,b.fU⟩
 size:=λ_ _ _ b arr T _ _ _ _ _ e=>⟨arr,by rw[h.block b (kQ e)];exact e,rfl⟩
 av:=λk o e=>by rw[h.block k (kQ e)];exact e
theorem ad.fY (hR:ad F β N H w){id b:Nat}{bC:cC}(e:H id=some bC)(hb:β id=some b):b<w.heap.size/\F.dE b:=by
 obtain⟨_,h⟩:=hR.rel id bC e
 cases bC with
 |box ty cs=>obtain⟨b',arr,T',h1,h2,h3,_⟩:=h;grind
 |dX cs=>obtain⟨b',arr,T',h1,h2,h3,_⟩:=h;grind
 |row m z c=>
  obtain⟨_,h1|⟨b',cap,h1,h2,arr,T',q1,_⟩⟩:=h
  grind
  grind
 |az z l=>
  obtain⟨_,h1|⟨b',cap,arr,T',h1,h2,q1,_⟩⟩:=h
  grind
  grind
 |map es=>obtain⟨b',arr,T',h1,h2,h3,_⟩:=h;grind
def ad.grow (hR:ad F β N H w)(h:Below w.heap.size w w'):ad F β N H w':=
 hR.step (Tr.grow hR h) (λ_=>False) (λid bC _ e=>⟨e,(hR.rel id bC e).1,λb hb=>h.block b (hR.fY e hb).1⟩) (λ_ _ h=>h.elim) hR.inj
theorem an (H:HF)(f:Nat)(b:Option cC):br H f b f=b:=by simp[br]
theorem aG (H:HF)(f:Nat)(b:Option cC){i:Nat}(h:i≠f):br H f b i=H i:=by simp[br,h]
theorem Hp.au (j:Nat)(b:Option cC)(H:Hp):Hp.get ((j,b)::H)=br H.get j b:=by
 funext i;by_cases h:i=j
 ·subst h;simp[Hp.get,br]
 grind[Nat.eq_of_beq_eq_true,Hp.get,br]
theorem Hp.get_append (u H:Hp):Hp.get (u++H)=u.on H.get:=by
 induction u with
 |nil=>rfl
 |cons p u ih=>rw[qX,Hp.au,ih];rfl
theorem Hp.UT (u u':Hp)(H:HF):Hp.on (u++u') H=u.on (u'.on H):=by
 induction u with
 |nil=>rfl
 |cons p u ih=>rw[qX];show br _ _ _=br _ _ _;rw[ih]
def tag (id:Nat):Nat:=match Nat.beq (id%2) 0 with
 |true=>id/2
 |false=>id/8589934592
def jP (n:Nat):tag (2*n)=n:=by
 have h:2*n%2=0:=by omega
 unfold tag;simp_all
theorem af4 (id:Nat):tag id<=id:=by grind[tag]
def bg (N:Nat->Prop)(f:Nat):Nat->Prop:=λid=>N id\/tag id=tag f
def cW (β:Nat->Option Nat)(f:Nat)(b:Option Nat):Nat->Option Nat:=λid=>if id=f then b else β id
theorem jw (β:Nat->Option Nat)(f:Nat)(b:Option Nat):cW β f b f=b:=by simp[cW]
def it (β:Nat->Option Nat)(f:Nat)(b:Option Nat){i:Nat}(h:i≠f):cW β f b i=β i:=by simp[cW,h]
def Tr.new (_hR:ad F β N H w)(h:Below w.heap.size w w'){f:Nat}(hf: ¬N f)(b:Option Nat)(hb: ∀x,b=some x->w.heap.size<=x)(bC:cC):
  Tr F β N H w (cW β f b) (bg N f) (br H f (some bC)) w' where
 below:=.LM h
 mem:=λb' o v _ hs e=>by
  refine⟨λid blk' e' jW=>?_,Th h e⟩;by_cases hid:id=f
  ·subst hid;rw[jw]at jW;have:=hb _ jW;have:=Jk _ _ e
   grind
  ·rw[aG _ _ _ hid]at e';rw[it _ _ _ hid]at jW;exact hs id blk' e' jW
 used:=λ_ h=>.inl h
 kJ:=λid hn=>it _ _ _ λe=>hf (e▸hn)
 keep:=λid b' hn e=>by
  have hid:id≠f:=λe=>hf (e▸hn);rw[aG _ _ _ hid]at e;exact⟨b',e,b'.fU⟩
 size:=λ_ _ _ b arr T _ _ _ _ _ e=>⟨arr,by rw[h.block b (kQ e)];exact e,rfl⟩
 av:=λk o e=>by rw[h.block k (kQ e)];exact e
def ad.new (hR:ad F β N H w)(h:Below w.heap.size w w'){f:Nat}(hf: ¬N f)(b:Option Nat)(hb: ∀x,b=some x->w.heap.size<=x)(bC:cC)
  (hrel:ir F (cW β f b) (bg N f) (br H f (some bC)) w' f bC):ad F (cW β f b) (bg N f) (br H f (some bC)) w':=by
 refine hR.step (Tr.new hR h hf b hb bC) (λid=>id=f) (λid blk' hid e=>?_) (λid blk' hid e=>?_) (λi j x y z hi hj bi bj=>?_)
 ·rw[aG _ _ _ hid]at e;exact⟨e,(hR.rel id blk' e).1,λb hb=>h.block b (hR.fY e hb).1⟩
 ·subst hid;rw[an]at e;cases e;exact⟨.inr rfl,hrel⟩
 ·by_cases h1:i=f
  ·by_cases h2:j=f
   grind
   ·exfalso;subst h1;rw[aG _ _ _ h2]at hj;rw[jw]at bi;rw[it _ _ _ h2]at bj;have:=(hR.fY hj bj).1
    grind
  ·by_cases h2:j=f
   ·exfalso;subst h2;rw[aG _ _ _ h1]at hi;rw[jw]at bj;rw[it _ _ _ h1]at bi;have:=(hR.fY hi bi).1
    grind
   ·rw[aG _ _ _ h1]at hi;rw[aG _ _ _ h2]at hj;rw[it _ _ _ h1]at bi;rw[it _ _ _ h2]at bj;exact hR.inj i j x y z hi hj bi bj
def Tr.trans {amh:Nat->Option Nat}{N'':Nat->Prop}{H'':HF}{w'':World}(t:Tr F β N H w cQ N' H' w')(u:Tr F cQ N' H' w' amh N'' H'' w''):Tr F β N H w amh N'' H'' w'' where
 below:=t.below.trans u.below
 mem:=λb o v hb hs e=>let⟨h1,h2⟩:=t.mem b o v hb hs e;u.mem b o v hb h1 h2
 used:=λid h=>u.used id (t.used id h)
 kJ:=λid h=>(u.kJ id (t.used id h)).trans (t.kJ id h)
 keep:=λid PH hn e=>by
  obtain⟨blk',e',sP⟩:=u.keep id PH (t.used id hn) e;obtain⟨bC,e0,hl⟩:=t.keep id blk' hn e';refine⟨bC,e0,?_⟩;cases bC<;>cases blk'<;>cases PH<;>simp[cC.Ae]at* <;>(grind)
 size:=λid PH zn b arr T hn e0 ez eb hb e=>by
  obtain⟨blk',ek,hl⟩:=u.keep id PH (t.used id hn) e0;obtain⟨arr',e',s'⟩:=t.size id blk' zn b arr T hn ek (by grind[cC.Sn]) eb hb e;obtain⟨anE,e'',s''⟩:=u.size id PH zn b arr' T (t.used id hn) e0 ez ((t.kJ id hn).trans eb) hb e'
  grind
 av:=λk o e=>u.av k o (t.av k o e)
end
end Go.Fw
namespace Go.Fw
open Go.RowKit (Below)
section
variable {C:bS}{F:gG}{β cQ:Nat->Option Nat}{N N':Nat->Prop}{H H':HF}{w w':World}
def ph (H H':HF):Prop:=∀id,H' id=H id\/(∃m z c,H id=some (.row m z c)/\H' id=some (.row false z c))\/∃t cs l,H id=some (.box t cs)/\H' id=some (.dX l)
theorem ph.refl (H:HF):ph H H:=λ_=>.inl rfl
def ph.live (h:ph H H'){id:Nat}{x:cC}(e:H' id=some x): ∃y,H id=some y/\y.Ae x:=by
 rcases h id with h|⟨m,z,c,h1,h2⟩|⟨t,cs,l,h1,h2⟩
 ·exact⟨x,by grind,x.fU⟩
 ·rw[h2]at e;cases e;exact⟨_,h1,rfl,rfl⟩
 ·rw[h2]at e;cases e;exact⟨_,h1,trivial⟩
def ph.tr (h:ph H H'):Tr F β N H w β N H' w where
 below:=jv.refl _ _
 mem:=λb o v _ hs e=>by
  refine⟨λid bC e' hb=>?_,e⟩;rcases h id with h|⟨m,z,c,h1,h2⟩|⟨t,cs,l,h1,h2⟩
  ·exact hs id bC bw hb
  ·have:=hs id _ h1 hb;rw[h2]at e';cases e';exact⟨rfl,this.2⟩
  ·rw[h2]at e';cases e';trivial
 used:=λ_ h=>h
 kJ:=λ_ _=>rfl
 keep:=λid blk' _ e=>let⟨y,e1,hl⟩:=h.live e;⟨y,e1,hl⟩
 size:=λ_ _ _ _ arr _ _ _ _ _ _ h=>⟨arr,h,rfl⟩
 av:=λ_ _ h=>h
def P7 (hR:ad F β N H w)(h:ph H H'){id b z:Nat}{c:SC}(e:H' id=some (.row false z c))(hb:β id=some b){o:Nat}(ho:o<c.len*z):fR β H' b o:=by
 intro iQ bC e' jW;obtain⟨y,ey,_⟩:=h.live e;obtain⟨y',ey',_⟩:=h.live e';have:iQ=id:=hR.inj iQ id b y' y ey' ey jW hb;subst this;rw[e]at e';cases e';exact⟨rfl,ho⟩
def tZ (hR:ad F β N H w)(h:ph H H'){id b:Nat}{cs:List SC}(e:H' id=some (.dX cs))(hb:β id=some b)(o:Nat):fR β H' b o:=by
 intro iQ bC e' jW;obtain⟨y,ey,_⟩:=h.live e;obtain⟨y',ey',_⟩:=h.live e';have:iQ=id:=hR.inj iQ id b y' y ey' ey jW hb;subst this;rw[e]at e';cases e';trivial
def ri {b o:Nat}(hb:F.dE b)(hs:fR β H b o):MV F β H w b o=rd w b o:=by
 unfold MV
 grind
theorem gb {arr:Array Value}{T:TypeId}{b o:Nat}(h:w.heap[b]? =some (.cells arr T))(ho:o<arr.size):rd w b o=some (arr.getD o undef):=by simp[rd,World.cell?,h,Array.getD,ho]
def Yw (hR:ad F β N H w)(h:ph H H'){id z:Nat}{c:SC}{v:Value}(e:H' id=some (.row false z c))(hv:U9 β w v id z c.len)
  (gC:ir F β N H w id (.row false z c)):dw (MV F β H' w) (MR F β H' w) v c:=by
 obtain⟨⟨hz,abx,hl⟩,hr⟩:=gC;by_cases h0:c.len=0
 ·rcases hv with⟨_,_,rfl⟩|⟨b,cap,arr,T,h1,rfl,h3,h4⟩
  ·exact .empty _ _ abx h0
  ·rw[h0];exact .empty _ _ abx h0
 rcases hv with⟨_,h0',_⟩|⟨b,cap,arr,T,h1,rfl,h3,h4⟩
 ·omega
 rcases hr with⟨_,h0'⟩|⟨b',jD,q1,q2,arr',T',q3,q4,q5,q6,q7,q8,q9⟩
 ·omega
 rw[h1]at q1;cases q1;rw[h3]at q3;cases q3;have eA:c.len*z<=arr.size:=by rw[q4];exact kG _ q7
 have fZ:cap=jD:=UV hz K0;subst fZ;refine .view b 0 cap z (λk=>arr.getD k undef) abx K0 hz q7 hl (λk hk=>?_) (λi el j x he hx=>?_)
 ·rw[j9,ri q2 (P7 hR h e h1 hk)]
  grind[gb]
 ·exact(q9 i el j x he hx).mono (ph.tr (N:=N) h).mv (Mem.le_refl _)
def mf (H:HF)(p:Nat × Option cC):Prop:=∃m z c,H p.1=some (.row m z c)/\p.2=some (.row false z c)
theorem nD {k:Bool}{d:DC}{c:SC}{u:Hp}{r:List Nat}(h:bz H k d=some (c,u,r)): ∀p∈u,mf H p:=by
 cases d with
 |st c'=>grind[bz]
 |nil=>grind[bz]
 |own id=>
  simp only[bz]at h;split at h
  ·rename_i m z c' e;simp at h;obtain⟨rfl,rfl,rfl⟩:=h;cases m
   ·simp
   ·intro p hp;simp at hp;subst hp;exact⟨_,_,_,e,rfl⟩
  grind
  grind
 |ptr id off=>grind[bz]
 |cK id z i off=>grind[bz]
 |sS g id=>grind[bz]
 |mp id=>grind[bz]
theorem HN (hR:ad F β N H w)(hS:ph H H'){v:Value}{k:Bool}{d:DC}{c:SC}{u:Hp}{r:List Nat}(hd:cw F β N H w v d)
  (h:bz H k d=some (c,u,r))(hu: ∀p∈u,∃z c,p.2=some (.row false z c)/\H' p.1=some (.row false z c)):dw (MV F β H' w) (MR F β H' w) v c:=by
 cases d with
 |st c'=>
  simp[bz]at h;obtain⟨rfl,_,_⟩:=h;exact dw.mono (ph.tr (N:=N) hS).mv (ph.tr (N:=N) hS).mr hd
 |nil=>
  simp[bz]at h;obtain⟨rfl,_,_⟩:=h;have:v= .slice none 0 0:=hd;subst this;cases k
  ·exact .empty _ _ rfl rfl
  ·exact .empty _ _ rfl rfl
 |own id=>
  simp only[bz]at h;split at h
  ·rename_i m z c' e;simp at h;obtain⟨rfl,PK,rfl⟩:=h;obtain⟨hn,_,hd⟩:=hd;have hv:=hd _ _ _ e rfl;have hb:=(hR.rel id _ e).2
   have e':H' id=some (.row false z c'):=by
    cases m
    ·rcases hS id with h|⟨m,z1,c1,h1,h2⟩|⟨t,cs,l,h1,h2⟩
     grind
     grind
     grind
    ·subst PK;obtain⟨z1,c1,h1,h2⟩:=hu (id,some (.row false z c')) (by simp)
     grind
   refine Yw hR hS e' hv ?_;exact hb
  ·simp at h;obtain⟨rfl,_,_⟩:=h;exact .any hd.2.1
  grind
 |ptr id off=>grind[bz]
 |cK id z i off=>grind[bz]
 |sS g id=>grind[bz]
 |mp id=>grind[bz]
theorem cO: ∀ {ks:List Bool} {ds:List DC} {l:List SC} {u:Hp} {r:List Nat},bO H ks ds=some (l,u,r)->∀p∈u,mf H p
 |ks,[],l,u,r,h=>by grind[bO]
 |ks,d::ds,l,u,r,h=>by
  simp only[bO]at h;split at h
  ·rename_i c u1 r1 h1;split at h
   ·rename_i cs u2 r2 h2;simp at h;obtain⟨_,rfl,_⟩:=h;intro p hp;rcases ig.1 hp with hp|hp
    grind[nD]
    ·exact cO h2 p hp
   grind
  grind
theorem iu: ∀ {ks:List Bool} {ds:List DC} {l:List SC} {u:Hp} {r:List Nat},bO H ks ds=some (l,u,r)->l.length=ds.length
 |ks,[],l,u,r,h=>by grind[bO]
 |ks,d::ds,l,u,r,h=>by
  simp only[bO]at h;split at h
  ·split at h
   ·rename_i cs u2 r2 h2;simp at h;obtain⟨rfl,_,_⟩:=h;simp[iu h2]
   grind
  grind
theorem iy (hR:ad F β N H w)(hS:ph H H'): ∀ {ks:List Bool} {ds:List DC} {l:List SC} {u:Hp} {r:List Nat} {f:Nat->Value},(∀k d,ds[k]? =some d->cw F β N H w (f k) d)->
  bO H ks ds=some (l,u,r)->(∀p∈u,∃z c,p.2=some (.row false z c)/\H' p.1=some (.row false z c))->∀k c,l[k]? =some c->dw (MV F β H' w) (MR F β H' w) (f k) c
 |ks,[],l,u,r,f,_,h,_=>by grind[bO]
 |ks,d::ds,l,u,r,f,hf,h,hu=>by
  simp only[bO]at h;split at h
  ·rename_i c u1 r1 h1;split at h
   ·rename_i cs u2 r2 h2;simp at h;obtain⟨rfl,rfl,_⟩:=h;intro k x hx
    cases k with
    |zero=>
     simp at hx;subst hx;exact HN hR hS (hf 0 d rfl) h1 λp hp=>hu p (ig.2 (.inl hp))
    |succ k=>
     simp at hx;exact iy hR hS (f:=λk=>f (k+1)) (λk d hd=>hf (k+1) d bw) h2 (λp hp=>hu p (ig.2 (.inr hp))) k x hx
   grind
  grind
def akf (C:bS)(H:HF)(u:Hp)(p:Nat × Option cC):Prop:=
 mf H p\/∃t cs l ul rl,H p.1=some (.box t cs)/\p.2=some (.dX l)/\bO H (C.kinds t) cs=some (l,ul,rl)/\∀q∈ul,q∈u
def ij (C:bS)(H:HF)(u:Hp):Prop:=∀p∈u,akf C H u p
theorem yj (u:Hp)(H:HF)(id:Nat):(u.on H id=H id/\∀p∈u,p.1≠id)\/∃p∈u,p.1=id/\u.on H id=p.2:=by
 induction u with
 |nil=>exact .inl ⟨rfl,by simp⟩
 |cons q u ih=>
  obtain⟨j,b⟩:=q;by_cases h:id=j
  ·exact .inr ⟨(j,b),by simp,h.symm,by simp[Hp.on,br,h]⟩
  ·have he:Hp.on ((j,b)::u) H id=Hp.on u H id:=by show br _ _ _ id=_;simp[br,h]
   grind
def ij.soft {u:Hp}(h:ij C H u):ph H (u.on H):=by
 intro id
 rcases yj u H id with⟨h1,_⟩|⟨p,hp,rfl,h1⟩
 grind
 ·rcases h p hp with⟨m,z,c,e1,e2⟩|⟨t,cs,l,ul,rl,e1,e2,_⟩
  grind
  grind
def ij.frozen {u:Hp}(h:ij C H u){p:Nat × Option cC}(hp:p∈u)(hf:mf H p): ∃z c,p.2=some (.row false z c)/\u.on H p.1=some (.row false z c):=by
 obtain⟨m,z,c,e1,e2⟩:=hf;refine⟨z,c,e2,?_⟩
 rcases yj u H p.1 with⟨_,h1⟩|⟨q,hq,hqp,h1⟩
 grind
 ·rcases h q hq with⟨m',z',c',q1,q2⟩|⟨t,cs,l,ul,rl,q1,_⟩
  grind
  grind
def ij.heap {u:Hp}(hR:ad F β N H w)(h:ij C H u):ad F β N (u.on H) w:=by
 have hS:=h.soft;have hT:Tr F β N H w β N (u.on H) w:=hS.tr;refine hR.step hT (λid=>u.on H id≠H id) (λid bC hid e=>?_) (λid bC hid e=>?_) (λi j b x y hi hj bi bj=>?_)
 ·have:u.on H id=H id:=PY hid;have e':H id=some bC:=by grind
  exact⟨e',(hR.rel id bC e').1,λ_ _=>rfl⟩
 ·rcases yj u H id with⟨h1,_⟩|⟨p,hp,rfl,h1⟩
  grind
  ·rcases h p hp with⟨m,z,c,e1,e2⟩|⟨t,cs,l,ul,rl,e1,e2,e3,e4⟩
   ·rw[h1,e2]at e;cases e;obtain⟨hn,h0,hb⟩:=hR.rel _ _ e1;refine⟨hn,h0,?_⟩;rcases hb with hb|⟨b,cap,q1,q2,arr,T,q3,q4,q5,q6,q7,q8,q9⟩
    grind
    ·exact .inr ⟨b,cap,q1,q2,arr,T,q3,q4,q5,q6,q7,q8,λi e j x he hx=>(q9 i e j x he hx).mono hT.mv (Mem.le_refl _)⟩
   ·rw[h1,e2]at e;cases e;obtain⟨hn,b,arr,T,q1,q2,q3,q4,q5⟩:=hR.rel _ _ e1;refine⟨hn,b,arr,T,q1,q2,q3,by grind[iu],?_⟩;exact iy hR hS q5 e3 λq hq=>h.frozen (e4 q hq) (cO e3 q hq)
 ·obtain⟨x',tu,_⟩:=hS.live hi;obtain⟨y',hy',_⟩:=hS.live hj;exact hR.inj i j b x' y' tu hy' bi bj
def ij.afs {u:Hp}(h:ij C H u){id:Nat}{t:TypeId}{ds:List DC}{l:List SC}{ue:Hp}{re:List Nat}(hp:(id,some (.dX l))∈u)(hb:H id=some (.box t ds))
  (hs:bO H (C.kinds t) ds=some (l,ue,re)):u.on H id=some (.dX l):=by
 rcases yj u H id with⟨_,h1⟩|⟨q,hq,hqp,h1⟩
 grind
 ·rcases h q hq with⟨m',z',c',q1,q2⟩|⟨t',cs,l',ul,rl,q1,q2,q3,_⟩
  grind
  grind
def ij.ku {u:Hp}(h: ∀p∈u,mf H p):ij C H u:=λp hp=>.inl (h p hp)
def ij.append {u v:Hp}(h:ij C H u)(k:ij C H v):ij C H (u++v):=by
 intro p hp;rcases ig.1 hp with hp|hp
 ·rcases h p hp with h|⟨t,cs,l,ul,rl,e1,e2,e3,e4⟩
  ·exact .inl h
  ·exact .inr ⟨t,cs,l,ul,rl,e1,e2,e3,λq hq=>ig.2 (.inl (e4 q hq))⟩
 ·rcases k p hp with h|⟨t,cs,l,ul,rl,e1,e2,e3,e4⟩
  ·exact .inl h
  ·exact .inr ⟨t,cs,l,ul,rl,e1,e2,e3,λq hq=>ig.2 (.inr (e4 q hq))⟩
end
def HO: ∀ {l:List (Nat × TI)} {t:Nat} {i:TI},Mm l t=some i->(t,i)∈l
 | [],_,_,h=>by grind[Mm]
 |(j,b)::l,t,i,h=>by
  simp only[Mm]at h;split at h;simp_all
  ·exact jt _ (HO h)
structure Mr (P:Program) (t:TypeId) (i:TI) (f:TypeInfo) (d:TypeDesc) (v:Value):Prop where
 ou:P.info? t=some f
 Jd:P.underlying t=some d
 b8:eB d=i.b8
 size:f.size=i.size
 bytes:f.bytes=i.bytes
 zero:f.zero=some v
 xT:v.cells.toList.map Cd=i.zero
 eqs:(if P.eqGuardType P.depth t then none else kN P 8 t)=i.eqs
 fields: ∀fs,d= .struct fs->∀g∈fs.toList,(P.info? g.type).isSome =true
theorem bS.Ok.get {C:bS}(h:C.Ok){t:TypeId}{i:TI}(e:C.ti t=some i): ∃f d v,Mr C.P t i f d v:=by
 have hm:=HO e;obtain⟨k,hk⟩:=UZ.1 hm;have hty:=aP (·[k]?) h.ty;simp only[gA,hk,ya,lM]at hty;unfold akc at hty;split at hty
 ·rename_i f d hf hd;split at hty
  ·rename_i v hz hall;simp only[lM,ii]at hty;obtain⟨h1,h2,h3,h4,h5⟩:=hty;refine⟨f,d,v,hf,hd,h1,h2,h3,hz,h4,h5,?_⟩
   grind
  grind
 grind
section
variable {P:Program}{t:TypeId}{i:TI}{f:TypeInfo}{d:TypeDesc}{v:Value}
def Mr.cX (h:Mr P t i f d v)(w:World):(underlying t).run P w= .ok d w:=tJ h.Jd w
def Mr.iH (h:Mr P t i f d v)(w:World):(sizeOf t).run P w= .ok i.size w:=by simp[sizeOf,typeInfo,h.ou,h.size]
def Mr.XF (h:Mr P t i f d v)(w:World):(typeInfo t).run P w= .ok f w:=by simp[typeInfo,h.ou]
def Mr.tw (h:Mr P t i f d v)(w:World):(zeroValue t).run P w= .ok v w:=by simp[zeroValue,typeInfo,h.ou,h.zero]
def Mr.Hy (h:Mr P t i f d v)(w:World):(isAgg t).run P w= .ok (cL i.b8) w:=by
 rw[<- h.b8];cases d<;>simp[isAgg,h.cX,eB,cL]
def dn {e:TypeId}(h:eB d= .slice e):d= .slice e:=by exact U2
def kv {n:Nat}{e:TypeId}(h:eB d= .array n e):d= .array n e:=by exact U2
def rj {k:IntKind}(h:eB d= .int k):d= .int k:=by exact U2
def Ms (h:eB d= .bool):d= .bool :=by cases d<;>simp[eB]at h;rfl
def Va (h:eB d= .iface): ∃m,d= .interface m:=by exact U2
def mg (h:eB d= .str):d= .string :=by cases d<;>simp[eB]at h;rfl
def rk {fs:List (Nat × TypeId)}(h:eB d= .struct fs): ∃gs,d= .struct gs/\gs.toList.map (λf=>(f.offset,f.type))=fs:=U2
end
theorem Ti {mv mr:Mem}{v:Value}{c:SC}(h:dw mv mr v c):v.oneCell'=true:=by
 cases h with
 |lit h=>cases ‹Value› <;>simp[plain]at h<;>rfl
 |empty=>rfl
 |view=>rfl
 |ref=>rfl
 |err h=>obtain⟨T,x,rfl⟩:=h;rfl
 |num h=>obtain⟨m,rfl⟩:=h;rfl
 |raw h=>exact h
 |any h=>exact h
 |fn=>rfl
def HP {v:Value}(h:v.oneCell'=true):v.cells= #[v]:=by cases v<;>simp[Value.oneCell']at h<;>rfl
section
variable (C:bS)(F:gG)(β:Nat->Option Nat)(N:Nat->Prop)(H:HF)(fid:Nat)(K:ka)
def bk (w:World)(v:Value)(w':World):Prop:=
 ∃cQ r u R,K r u R/\Tr F β N H w cQ (bg N fid) (u.on H) w'/\ad F cQ (bg N fid) (u.on H) w'/\co F cQ (bg N fid) (u.on H) w' v r
end
section
variable {C:bS}{F:gG}{β:Nat->Option Nat}{N:Nat->Prop}{H:HF}{fid:Nat}{K:ka}{w w':World}
theorem cw.bg {f:Nat}{v:Value}{d:DC}(h:cw F β N H w v d):cw F β (bg N f) H w v d:=by
 cases d with
 |st c=>exact h
 |nil=>exact h
 |ptr id off=>exact⟨.inl h.1,h.2⟩
 |own id=>exact⟨.inl h.1,h.2⟩
 |cK id z i off=>exact⟨.inl h.1,h.2⟩
 |sS g id=>exact⟨.inl h.1,h.2⟩
 |mp id=>exact⟨.inl h.1,h.2⟩
def Tr.bg {cQ:Nat->Option Nat}{H':HF}{f:Nat}(t:Tr F β N H w cQ N H' w'):Tr F β N H w cQ (bg N f) H' w':=
 ⟨t.below,t.mem,λ_ h=>.inl h,t.kJ,t.keep,t.size,t.av⟩
theorem ir.bg {f id:Nat}{b:cC}(h:ir F β N H w id b):ir F β (bg N f) H w id b:=by
 cases b with
 |box t cs=>obtain⟨b,arr,T,h1,h2,h3,h4,h5⟩:=h;exact⟨b,arr,T,h1,h2,h3,h4,λk x hx=>(h5 k x hx).bg⟩
 |dX cs=>exact h
 |row m z c=>exact h
 |az z l=>
  obtain⟨q0,q1|⟨b,cap,arr,T,q1,q2,q3,q4,q5,q6⟩⟩:=h
  ·exact Mk
  ·exact⟨q0,.inr ⟨b,cap,arr,T,q1,q2,q3,q4,q5,λi e k x hi hx=>(q6 i e k x hi hx).bg⟩⟩
 |map es=>exact h
def ad.bg {f:Nat}(h:ad F β N H w):ad F β (bg N f) H w:=
 ⟨λid bC e=>let⟨a,b⟩:=h.rel id bC e;⟨.inl a,b.bg⟩,h.inj,h.below,h.tD⟩
def bk.still (hR:ad F β N H w){u:Hp}(hg:ij C H u){R:List Nat}{r:DV}{v:Value}(hK:K r u R)
  (hv:co F β (Fw.bg N fid) (u.on H) w v r):bk F β N H fid K w v w:=
 ⟨β,r,u,R,hK,hg.soft.tr.bg,(hg.heap hR).bg,hv⟩
def ar.bg {f:Nat}{v:Value}{d:DX}(h:ar F β N H w v d):ar F β (Fw.bg N f) H w v d:=by
 unfold ar at*;split
 ·rename_i hx;rw[if_pos hx]at h;obtain⟨arr,h1,h2,h3⟩:=h;exact⟨arr,h1,h2,λk c hc=>(h3 k c hc).bg⟩
 ·rename_i hx;rw[if_neg hx]at h;obtain⟨c,h1,h2⟩:=h;exact⟨c,h1,h2.bg⟩
theorem co.bg {f:Nat}{v:Value}{d:DV}(h:co F β N H w v d):co F β (Fw.bg N f) H w v d:=by
 cases d with
 |val x=>exact ar.bg h
 |aI l=>obtain⟨arr,h1,h2,h3⟩:=h;exact⟨arr,h1,h2,λk c hc=>(h3 k c hc).bg⟩
def bk.pure (hR:ad F β N H w){R:List Nat}{r:DV}{v:Value}(hK:K r [] R)(hv:co F β N H w v r):bk F β N H fid K w v w:=
 ⟨β,r,[],R,hK,(ph.refl H).tr.bg,hR.bg,hv.bg⟩
theorem fS {v:Value}(h:plain v=true):co F β N H w v (lit v):=⟨.st (.lit v),rfl,.lit h⟩
def cM {v:Value}{d:DC}(h:cw F β N H w v d):co F β N H w v (bh d):=⟨d,rfl,h⟩
def ar.am {v:Value}{d:DC}(h:ar F β N H w v (false,[d])):cw F β N H w v d:=by
 obtain⟨c,h1,h2⟩:=h
 grind
def ar.Cz {v:Value}{cs:List DC}(h:ar F β N H w v (true,cs)): ∃arr,v= .agg arr/\arr.size=cs.length/\∀k c,cs[k]? =some c->cw F β N H w (arr.getD k undef) c:=h
theorem cw.abV {v:Value}(h:cw F β N H w v (.st .err)): ∃T x,v= .iface T x:=by
 have h:dw _ _ v .err :=h
 cases h with
 |empty a cap hv=>grind[SC.ao]
 |view _ _ _ _ _ hv=>grind[SC.ao]
 |err h=>exact h
theorem cw.bB {v x:Value}(h:cw F β N H w v (.st (.lit x))):v=x/\plain x=true:=by
 cases h with
 |lit h=>grind
 |empty a cap hv=>grind[SC.ao]
 |view _ _ _ _ _ hv=>grind[SC.ao]
structure bH (C:bS) (F:gG):Prop where
 ok:eQ C.gl (rd F.w0)
 mv:F.PL.le (rd F.w0)
 UU: ∀g cs,(g,cs)∈C.gl->0<cs.length->¬F.own g
 rok:eQ C.gl F.mr0
 rle:F.mr0.le (rd F.w0)
 mvr:F.PL.le F.mr0
theorem Bn: ∀ {l:tR} {t:Nat} {i:List SC},yf l t=some i->(t,i)∈l
 | [],_,_,h=>by grind[yf]
 |(j,b)::l,t,i,h=>by
  simp only[yf]at h;split at h;simp_all
  ·exact jt _ (Bn h)
def uc {b o:Nat}{v:Value}(e:rd F.w0 b o=some v)(hn: ¬F.own b): ¬F.dE b:=by
 have hb:b<F.base:=Jk _ _ e;rintro(h|h)
 ·omega
 grind
def af5 {b o:Nat}{v:Value}(e:F.mr0 b o=some v)(hm: ¬F.dE b):MR F β H w b o=some v:=by
 unfold MR
 grind
theorem Jq {C:bS}(hG:bH C F)(hR:ad F β N H w):(MR F β H w).le (rd w):=by
 intro b o v h;unfold MR at h;split at h
 ·unfold MV at h
  grind
 ·rename_i hb;exact hR.below.rd hb (hG.rle b o v h)
def eQ.mr {C:bS}(hG:bH C F):eQ C.gl (MR F β H w):=by
 intro g cs hm;obtain⟨h0,h9⟩:=hG.rok g cs hm
 have hn:0<cs.length->¬F.dE g:=λfL=>by
  obtain⟨v,h1,_⟩:=h0 0 cs[0] bw;exact uc (hG.rle g 0 v h1) (hG.UU g cs hm fL)
 refine⟨λk x hx=>?_,λfL=>?_⟩
 ·obtain⟨v,h1,h2⟩:=h0 k x hx;exact⟨v,af5 h1 (hn (Nat.lt_of_le_of_lt (dz _) (kF.1 hx).1)),h2⟩
 ·unfold MR
  grind
def P8 {v:Value}{d:DV}(h:Jn v=some d):co F β N H w v d:=by
 unfold Jn at h;split at h
 ·simp at h;subst h;exact cM rfl
 ·split at h
  ·rename_i a b _ _ ha hb;simp at h;subst h;have ha:a= #[]:=by grind
   have hb:b= #[]:=by grind
   subst ha;subst hb;exact aiI
  grind
 grind[fS]
theorem mC (hG:bH C F)(_hR:ad F β N H w){E:EF}{a:Act}(hE:dH F β N H w E a){x:Operand}{d:DV}(h:C.ev E x=some d):co F β N H w (a.eval x) d:=by
 cases x with
 |tmp t=>exact hE t d h
 |const v=>exact P8 h
 |global g=>
  simp only[bS.ev]at h;split at h
  ·rename_i cs hc;simp at h;subst h;have hm:=Bn hc;have e8:=(eQ.mr (β:=β) (H:=H) (w:=w) hG g cs hm).1;refine cM ?_;refine .ref g 0 (λk=>((MR F β H w g k).getD undef)) (λk hk=>?_) (λk x hx=>?_)
   ·obtain⟨v,h1,_⟩:=e8 k cs[k] bw
    grind
   ·obtain⟨v,h1,h2⟩:=e8 k x hx;rw[h1];exact h2.mono (dZ _) (dZ _)
  grind
 |func f=>
  simp[bS.ev]at h;subst h;exact aiI
end
section
variable {C:bS}{F:gG}{β:Nat->Option Nat}{N:Nat->Prop}{H:HF}{fid:Nat}{K:ka}{w w':World}{P:Program}
def addr_add (b o n:Nat):(⟨b,o,none⟩:Addr).add n=⟨b,o+n,none⟩:=Addr.add_lit b o n
def Ds (ag:Bool)(n:Nat)(f:Nat->Value):Value:=if ag then .agg ((List.range n).map f).toArray else f 0
theorem Mt {t:TypeId}{i:TI}{tf:TypeInfo}{d:TypeDesc}{z:Value}(hT:Mr P t i tf d z){b off:Nat}{f:Nat->Value}
  (hc: ∀k,k<i.size->rd w b (off+k)=some (f k))(hs:(cL i.b8 || Nat.beq i.size 1)=true):(loadVar t ⟨b,off,none⟩).run P w= .ok (Ds (cL i.b8) i.size f) w:=by
 unfold loadVar Ds;simp only[eK,hT.Hy,my];cases XC:cL i.b8
 ·simp only[XC,S9]at hs;have h1:i.size=1:=pj hs;have:=hc 0 K0;simp only[rd,tO]at this;simp[this]
 ·simp only[if_true,eK,hT.iH,my];rw[S5 w _ _ f (λj hj=>by rw[addr_add];exact hc j hj)];simp
def rm {f:Nat->Value}{cs:List DC}{off n:Nat}{ag:Bool}(UM: ∀k c,cs[k]? =some c->cw F β N H w (f k) c)(hl:off+n<=cs.length)
  (hs:(ag || Nat.beq n 1)=true):ar F β N H w (Ds ag n λk=>f (off+k)) (ag,(cs.drop off).take n):=by
 cases ag
 ·simp only[S9]at hs;have h1:n=1:=pj hs;subst h1;refine⟨cs[off],?_,?_⟩
  grind[List.drop_eq_getElem_cons]
  ·exact UM off _ (by simp)
 ·refine⟨_,rfl,by grind,λk c hc=>?_⟩;rw[L7]at hc;simp_all
theorem Dt {f:Nat->Value}{cs:List SC}{off n:Nat}{ag:Bool}(UM: ∀k c,cs[k]? =some c->dw (MV F β H w) (MR F β H w) (f k) c)(hl:off+n<=cs.length)
  (hs:(ag || Nat.beq n 1)=true):ar F β N H w (Ds ag n λk=>f (off+k)) (ag,((cs.drop off).take n).map .st):=by
 have:=rm (N:=N) (f:=f) (cs:=cs.map .st) (off:=off) (n:=n) (ag:=ag) (λk c hc=>by
  rw[gA]at hc
  cases hk:cs[k]? with
  |none=>simp[hk]at hc
  |some x=>simp[hk]at hc;subst hc;exact UM k x hk) bw hs
 simp_all
def aD {a b:Bool}(h:(a&&b)=true):a=true/\b=true:=by grind
theorem Tj (hC:C.Ok)(hG:bH C F)(hR:ad F β N H w){T:TypeId}{x:DX}{v0:Value}(hx:ar F β N H w v0 x)(h:oA C T x H K):
  ∃v,(Instr.loadAt T v0).run C.P w= .ok v w/\bk F β N H fid K w v w:=by
 unfold oA at h;split at h
 ·grind
 rename_i i hi;obtain⟨tf,d,z,hT⟩:=hC.get hi
 have bE: ∀ {b o:Nat} {f:Nat->Value},(∀k,k<i.size->rd w b (o+k)=some (f k))->(cL i.b8 || Nat.beq i.size 1)=true->
   (Instr.loadAt T (.pointer (some ⟨b,o,none⟩))).run C.P w= .ok (Ds (cL i.b8) i.size f) w:=by
  grind[Instr.loadAt,Instr.sureAddr,Mt]
 split at h
 ·
  rename_i id off;obtain⟨hn,b,jq,rfl⟩:=hx.am;split at h
  ·rename_i t cs hb;obtain⟨_,b',arr,T',h1,h2,h3,h4,h5⟩:=hR.rel id _ hb;rw[jq]at h1;cases h1;split at h
   ·rename_i eA;obtain⟨eA,hs⟩:=aD eA;have eA:=fM eA
    exact⟨_,bE (f:=λk=>arr.getD (off+k) undef) (λk hk=>gb h3 K0) hs,
     bk.pure hR h (rm (f:=λk=>arr.getD k undef) (λk c hc=>h5 k c hc) eA hs)⟩
   grind
  ·rename_i cs hb;obtain⟨_,b',arr,T',h1,h2,h3,h4,h5⟩:=hR.rel id _ hb;rw[jq]at h1;cases h1;split at h
   ·rename_i eA;obtain⟨eA,hs⟩:=aD eA;have eA:=fM eA
    exact⟨_,bE (f:=λk=>arr.getD (off+k) undef) (λk hk=>gb h3 K0) hs,
     bk.pure hR h (Dt (f:=λk=>arr.getD k undef) (λk c hc=>h5 k c hc) eA hs)⟩
   grind
  grind
 ·
  rename_i cs;have hp:=hx.am;split at h
  ·rename_i eA;obtain⟨eA,hs⟩:=aD eA;have eA:=fM eA
   cases hp with
   |empty a cap hv=>grind[SC.ao]
   |view _ _ _ _ _ hv=>grind[SC.ao]
   |ref b o f hc hr=>
    have Jb: ∀k,k<cs.length->rd w b (o+k)=some (f k):=by
     intro k hk;exact Jq hG hR _ _ _ (hc k hk)
    have:=Dt (N:=N) (f:=f) (off:=0) (n:=i.size) (cs:=cs) (ag:=cL i.b8) hr K0 hs;refine⟨_,bE (f:=f) (λk hk=>Jb k K0) hs,bk.pure hR h ?_⟩;show ar _ _ _ _ _ _ _
    grind
  grind
 ·
  rename_i id z0 n off;obtain⟨hn,b,jq,rfl⟩:=hx.am;split at h
  ·rename_i m z' c hb;split at h
   ·rename_i eA;obtain⟨eA,hs⟩:=aD eA;obtain⟨qf,eA⟩:=aD eA;have eA:=fM eA;have qf:=pj qf;subst qf;obtain⟨e,he,h⟩:=h;obtain⟨_,⟨hz,hv,hl⟩,gC⟩:=hR.rel id _ hb
    rcases gC with⟨h1,_⟩|⟨b',cap,h1,h2,arr,T',q1,q2,q3,q4,q5,q6,q7⟩
    ·grind
    rw[jq]at h1;cases h1;have iG:=hl n e he;have al:=SC.ip he
    have Ad:n*z0+z0<=arr.size:=by
     rw[q2];have:(n+1)*z0<=cap*z0:=kG _ K0
     grind
    exact⟨_,bE (f:=λk=>arr.getD (n*z0+(off+k)) undef) (λk hk=>by grind[gb]) hs,
     bk.pure hR h (Dt (f:=λk=>arr.getD (n*z0+k) undef) (λk c hc=>(q7 n e k c he hc).mono (Mem.le_refl _) (dZ _)) K0 hs)⟩
   grind
  ·rename_i z' l hb;split at h
   ·rename_i eA;obtain⟨eA,hs⟩:=aD eA;obtain⟨qf,eA⟩:=aD eA;have eA:=fM eA;have qf:=pj qf;subst qf;obtain⟨e,he,h⟩:=h;obtain⟨_,⟨hz,hl⟩,gC⟩:=hR.rel id _ hb
    rcases gC with⟨h1,_⟩|⟨b',cap,arr,T',h1,h2,q1,q2,q3,q4⟩
    ·grind
    rw[jq]at h1;cases h1;have iG:=hl n e he;have al:=(kF.1 he).1
    have Ad:n*z0+z0<=arr.size:=by
     rw[q2];have:(n+1)*z0<=cap*z0:=kG _ K0
     grind
    exact⟨_,bE (f:=λk=>arr.getD (n*z0+(off+k)) undef) (λk hk=>by grind[gb]) hs,
     bk.pure hR h (rm (f:=λk=>arr.getD (n*z0+k) undef) (λk c hc=>q4 n e k c he hc) K0 hs)⟩
   grind
  grind
 grind
theorem Du {mv mr:Mem}{cs:List SC}{b o:Nat}(h:dw mv mr (.pointer (some ⟨b,o,none⟩)) (.ref cs))(n:Nat):dw mv mr (.pointer (some ⟨b,o+n,none⟩)) (.ref (cs.drop n)):=by
 cases h with
 |ref _ _ f hc hr=>
  refine .ref b (o+n) (λk=>f (n+k)) (λk hk=>?_) (λk x hx=>?_)
  grind
  grind
theorem Jr {mv mr:Mem}{v:Value}{cs:List SC}(h:dw mv mr v (.ref cs)): ∃b o,v= .pointer (some ⟨b,o,none⟩):=by
 cases h with
 |ref b o f hc hr=>grind
 |empty a cap hv=>grind[SC.ao]
 |view _ _ _ _ _ hv=>grind[SC.ao]
theorem Js (hC:C.Ok)(hR:ad F β N H w){T:TypeId}{x:DX}{v0:Value}{n:Nat}(hx:ar F β N H w v0 x)(h:oB C T x n K):
  ∃v,(Instr.fieldAt T v0 n).run C.P w= .ok v w/\bk F β N H fid K w v w:=by
 unfold oB at h;split at h
 ·grind
 rename_i i hi;obtain⟨tf,d,z,hT⟩:=hC.get hi;split at h
 ·rename_i fs bW;obtain⟨gs,hd,hgs⟩:=rk (hT.b8.trans bW);split at h
  ·rename_i o ft Sb;split at h
   ·rename_i fi kI;obtain⟨ff,fd,fz,hF⟩:=hC.get kI;split at h
    ·rename_i nA;have nA:=fM nA;rw[<- hgs,gA]at Sb
     cases hg:gs.toList[n]? with
     |none=>grind
     |some g=>
      simp[hg]at Sb;obtain⟨ho,hft⟩:=Sb;have UL:gs[n]? =some g:=by grind
      have bE: ∀b off,(Instr.fieldAt T (.pointer (some ⟨b,off,none⟩)) n).run C.P w= .ok (.pointer (some ⟨b,off+o,none⟩)) w:=by
       intro b off;have gk: ¬fi.size=0:=by omega
       simp[Instr.fieldAt,hT.cX,hd,UL,Instr.sureAddr,fieldPlace,hft,hF.iH,gk,addr_add,ho]
      split at h
      ·rename_i id off;obtain⟨hn,b,jq,rfl⟩:=hx.am;exact⟨_,bE b off,bk.pure hR h (cM ⟨hn,b,jq,rfl⟩)⟩
      ·rename_i cs;obtain⟨b,off,rfl⟩:=Jr hx.am;exact⟨_,bE b off,bk.pure hR h (cM (Du hx.am o))⟩
      ·rename_i id z0 m off;obtain⟨hn,b,jq,rfl⟩:=hx.am;exact⟨_,bE b _,bk.pure hR h (cM ⟨hn,b,jq,by grind⟩)⟩
      grind
    grind
   grind
  grind
 grind
def jv.setRow {m:Nat->Prop}{b:Nat}(hb:m b)(arr:Array Value):jv m w (w.setRow b arr):=
 ⟨rfl,rfl,rfl,by simp,λk _ hk=>setRow_other w b k arr (λe=>hk (e▸hb))⟩
def mh {b:Nat}(lF: ∃arr T,w.heap[b]? =some (.cells arr T))(arr':Array Value)(k:Nat)(x:Option (List Deferred))(e:w.heap[k]? =some (.deferred x)):(w.setRow b arr').heap[k]? =some (.deferred x):=by grind[setRow_other]
def Tr.write (hR:ad F β N H w){id b:Nat}{bC blk':cC}{arr arr':Array Value}{T:TypeId}(hb:H id=some bC)(xL:β id=some b)
  (lF:w.heap[b]? =some (.cells arr T))(nA:arr'.size=arr.size)(hl:bC.Ae blk')(eG: ∀o,bC.tC o->blk'.tC o/\arr'[o]? =arr[o]?):
  Tr F β N H w β N (br H id (some blk')) (w.setRow b arr') where
 av:=mh ⟨_,_,lF⟩ arr'
 below:=jv.setRow (hR.fY hb xL).2 arr'
 mem:=λb' o v _ hs e=>by
  refine⟨λiQ nQ e' jW=>?_,?_⟩
  ·by_cases h:iQ=id
   ·subst h;rw[an]at e';cases e';exact(eG o (hs iQ bC hb jW)).1
   ·rw[aG _ _ _ h]at e';exact hs iQ nQ e' jW
  ·by_cases h:b'=b
   ·subst h;have:=(eG o (hs id bC hb xL)).2;simp only[rd,World.cell?,lF]at e;simp only[rd,World.cell?,yd w b' arr arr' T (0,0) lF]
    grind
   exact ach
 used:=λ_ h=>h
 kJ:=λ_ _=>rfl
 keep:=λiQ nQ _ e=>by
  by_cases h:iQ=id
  grind[an]
  ·rw[aG _ _ _ h]at e;exact⟨nQ,e,nQ.fU⟩
 size:=λ_ _ _ b' xM T0 _ _ _ _ _ e=>by grind[setRow_heap,setRow_other]
def ad.write (hR:ad F β N H w){id b:Nat}{bC blk':cC}{arr arr':Array Value}{T:TypeId}(hb:H id=some bC)(xL:β id=some b)
  (lF:w.heap[b]? =some (.cells arr T))(nA:arr'.size=arr.size)(hl:bC.Ae blk')(eG: ∀o,bC.tC o->blk'.tC o/\arr'[o]? =arr[o]?)
  (hrel:ir F β N (br H id (some blk')) (w.setRow b arr') id blk'):ad F β N (br H id (some blk')) (w.setRow b arr'):=by
 refine hR.step (Tr.write hR hb xL lF nA hl eG) (λi=>i=id) (λi b0 hi e=>?_) (λi b0 hi e=>?_) (λi j x y z hi hj bi bj=>?_)
 ·rw[aG _ _ _ hi]at e;refine⟨e,(hR.rel i b0 e).1,λb1 h1=>setRow_other w b b1 arr' λh=>hi ?_⟩;subst h;exact hR.inj i id b1 b0 bC e hb h1 xL
 ·subst hi;rw[an]at e;cases e;exact⟨(hR.rel i bC hb).1,hrel⟩
 ·have live: ∀ {k:Nat} {b0:cC},br H id (some blk') k=some b0->∃b1,H k=some b1:=by
   grind[aG]
  obtain⟨b1,h1⟩:=live hi;obtain⟨b2,h2⟩:=live hj;exact hR.inj i j x b1 b2 h1 h2 bi bj
theorem cw.one_cell {v:Value}{c:DC}(h:cw F β N H w v c):v.oneCell'=true:=by
 cases c with
 |st c=>exact Ti h
 |nil=>have:v= .slice none 0 0:=h;subst this;rfl
 |ptr id off=>obtain⟨_,b,_,rfl⟩:=h;rfl
 |cK id z i off=>obtain⟨_,b,_,rfl⟩:=h;rfl
 |sS g id=>obtain⟨_,b,_,rfl⟩:=h;rfl
 |mp id=>obtain⟨_,b,_,rfl⟩:=h;rfl
 |own id=>exact h.2.1
theorem ar.cells {v:Value}{x:DX}(h:ar F β N H w v x):v.cells.size=x.2.length/\∀k c,x.2[k]? =some c->cw F β N H w (v.cells.getD k undef) c:=by
 obtain⟨ag,cs⟩:=x;cases ag
 ·obtain⟨c,h0,hc⟩:=h;simp at h0;subst h0;rw[HP hc.one_cell];refine⟨rfl,λk c' hk=>?_⟩
  cases k with
  |zero=>simp_all
  |succ k=>grind
 ·obtain⟨arr,rfl,h2,h3⟩:=h;exact⟨h2,h3⟩
def ar.cells_one {v:Value}{x:DX}(h:ar F β N H w v x): ∀u∈v.cells.toList,u.oneCell'=true:=by
 intro u hu;obtain⟨k,hk⟩:=UZ.1 hu;have qU:v.cells[k]? =some u:=by grind
 obtain⟨h1,h2⟩:=h.cells;have al:k<v.cells.size:=(GB.1 qU).1;have:=h2 k x.2[k] bw;have e:v.cells.getD k undef=u:=by simp_all
 rw[e]at this;exact this.one_cell
def aO (arr:Array Value)(off:Nat)(vs:List Value):Array Value:=(arr.toList.take off++vs++arr.toList.drop (off+vs.length)).toArray
theorem fm {arr:Array Value}{off:Nat}{vs:List Value}(h:off+vs.length<=arr.size):(aO arr off vs).size =arr.size:=by grind[aO]
def rp {α:Type}{l:List α}{off:Nat}{vs:List α}(h:off+vs.length<=l.length)(k:Nat):
  (iq l off vs)[k]? =if k<off then l[k]? else if k<off+vs.length then vs[k -off]? else l[k]? :=by
 unfold iq
 grind
def gc {arr:Array Value}{off:Nat}{vs:List Value}(h:off+vs.length<=arr.size)(k:Nat):
  (aO arr off vs)[k]? =if k<off then arr[k]? else if k<off+vs.length then vs[k -off]? else arr[k]? :=by
 grind[aO]
theorem mi {arr:Array Value}{k:Nat}{v:Value}(h:arr[k]? =some v):arr.getD k undef=v:=by simp_all
theorem bP {a b:Array Value}{k l:Nat}(h:a[k]? =b[l]?):a.getD k undef=b.getD l undef:=by simp_all
theorem Jt {t:TypeId}{i:TI}{tf:TypeInfo}{d:TypeDesc}{z v:Value}(hT:Mr P t i tf d z){b off:Nat}{arr:Array Value}{T:TypeId}
  (lF:w.heap[b]? =some (.cells arr T))(hv:v.cells.size=i.size)(h1: ∀u∈v.cells.toList,u.oneCell'=true)(eA:off+i.size<=arr.size):
  (storeVar t ⟨b,off,none⟩ v).run P w= .ok () (w.setRow b (aO arr off v.cells.toList)):=by
 unfold storeVar;simp only[eK,hT.iH,my,hv,ne_eq,not_true_eq_false,kM]
 grind[run_storeCells_at,aO]
def SC.LQ {c c':SC}{n:Nat}{e:List SC}(h:c.xX n e=some c'):c'.len=c.len/\c'.ao=c.ao:=by
 unfold SC.xX at h
 grind[SC.len,SC.ao]
def SC.qV {c c':SC}{n:Nat}{e:List SC}(h:c.xX n e=some c')(hn:n<c.len)(j:Nat):c'.elem j=if j=n then some e else c.elem j:=by
 unfold SC.xX at h
 grind[SC.len,SC.elem]
theorem lQ: ∀ {l:List SC},oy l=true->∀(k:Nat) (x:SC),l[k]? =some x->x.flat=true
 | [],_,k,x,h=>by grind
 |c::cs,hf,k,x,h=>by
  simp only[oy]at hf;split at hf
  ·rename_i hc
   cases k with
   |zero=>grind
   |succ k=>exact lQ hf k x bw
  grind
def Yx (hC:C.Ok)(hR:ad F β N H w){T:TypeId}{x y:DX}{v0 v1:Value}(hx:ar F β N H w v0 x)(hy:ar F β N H w v1 y)(h:rf C T x y H K):
  ∃w',(Instr.storeAt T v0 v1).run C.P w= .ok () w'/\bk F β N H fid K w undef w':=by
 unfold rf at h;split at h
 ·grind
 rename_i i hi;obtain⟨tf,d,z,hT⟩:=hC.get hi;obtain⟨hc1,Xt⟩:=hy.cells;have tk:=hy.cells_one;split at h
 ·grind
 rename_i bD;have bD:=pj bD
 have bE: ∀ {b off:Nat} {arr:Array Value} {T0:TypeId},w.heap[b]? =some (.cells arr T0)->off+i.size<=arr.size->
   (Instr.storeAt T (.pointer (some ⟨b,off,none⟩)) v1).run C.P w= .ok () (w.setRow b (aO arr off v1.cells.toList)):=by
  grind[Instr.storeAt,Instr.sureAddr,Jt]
 have abD:v1.cells.toList.length=i.size:=by grind
 split at h
 ·rename_i id off;obtain⟨hn,b,jq,rfl⟩:=hx.am;split at h
  ·rename_i t cs hb;obtain⟨_,b',arr,T',h1,h2,h3,h4,h5⟩:=hR.rel id _ hb;rw[jq]at h1;cases h1;split at h
   ·rename_i eA;have eA:=fM eA;refine⟨_,bE h3 K0,?_⟩;have nA:(aO arr off v1.cells.toList).size =arr.size:=fm K0;have eG: ∀o,(cC.box t cs).tC o->(cC.box t (iq cs off y.2)).tC o/\(aO arr off v1.cells.toList)[o]? =arr[o]? :=λo h=>h.elim;have eP:=Tr.write (N:=N) (blk':=.box t (iq cs off y.2)) hR hb jq h3 nA trivial eG;have hH:=ad.write (N:=N) (blk':=.box t (iq cs off y.2)) hR hb jq h3 nA trivial eG ⟨b,_,T',jq,h2,yd w b arr _ T' (0,0) h3,by grind[iq],λk x hk=>?_⟩
    ·exact afG
    ·rw[rp K0]at hk;have e:=gc (arr:=arr) (off:=off) (vs:=v1.cells.toList) K0 k;rw[abD]at e;by_cases k1:k<off
     ·simp only[k1,if_true]at hk e;exact aj4
     ·by_cases k2:k<off+i.size
      ·have k2':k<off+y.2.length:=by omega
       simp only[k1,kM,k2,if_true,k2']at hk e;rw[bP (b:=v1.cells) (l:=k -off) bw];exact eP.jr hR (Xt _ x hk)
      ·have k2': ¬k<off+y.2.length:=by omega
       simp only[k1,kM,k2,k2']at hk e;exact aj4
   grind
  grind
 ·rename_i id z0 n off;obtain⟨hn,b,jq,rfl⟩:=hx.am;split at h
  ·rename_i z' c hb;split at h
   ·rename_i eA;obtain⟨qf,eA⟩:=aD eA;have eA:=fM eA;have qf:=pj qf;subst qf;split at h
    ·rename_i l r anp;split at h
     ·rename_i ov;obtain⟨e,he,h⟩:=h;split at h
      ·rename_i c' nq;obtain⟨_,⟨hz,hv,hl⟩,gC⟩:=hR.rel id _ hb
       rcases gC with⟨h1,_⟩|⟨b',cap,h1,h2,arr,T',q1,q2,q3,q4,q5,q6,q7⟩
       ·grind
       rw[jq]at h1;cases h1;have iG:=hl n e he;have al:=SC.ip he
       have Ad:n*z0+z0<=arr.size:=by
        rw[q2];have:(n+1)*z0<=cap*z0:=kG _ K0
        grind
       refine⟨_,bE q1 K0,?_⟩;obtain⟨jc,hcv⟩:=SC.LQ nq;have nA:(aO arr (n*z0+off) v1.cells.toList).size =arr.size:=fm K0;have eG: ∀o,(cC.row true z0 c).tC o->(cC.row true z0 c').tC o/\(aO arr (n*z0+off) v1.cells.toList)[o]? =arr[o]? :=λo h=>by cases h.1
       have vW:(cC.row true z0 c).Ae (.row true z0 c'):=⟨rfl,jc.symm⟩;have eP:=Tr.write (N:=N) hR hb jq q1 nA vW eG;have wu:l.length=i.size:=by grind[iu]
       have hlr:=iy hR (ph.refl H) (f:=λk=>v1.cells.getD k undef) Xt anp (λp hp=>by cases hp)
       have hbl:ir F β N (br H id (some (.row true z0 c'))) (w.setRow b (aO arr (n*z0+off) v1.cells.toList)) id (.row true z0 c'):=by
        refine⟨⟨hz,by grind,λj e' hj=>?_⟩,.inr ⟨b,cap,jq,h2,_,T',yd w b arr _ T' (0,0) q1,by omega,q3,by grind,by omega,λj e' hj=>?_,λj e' k x hj hk=>?_⟩⟩
        ·rw[SC.qV nq al]at hj;exact afH
        ·rw[SC.qV nq al]at hj;exact afH
        ·have e1:=gc (arr:=arr) (off:=n*z0+off) (vs:=v1.cells.toList) K0 (j*z0+k);rw[abD]at e1;rw[SC.qV nq al]at hj;by_cases hjn:j=n
         ·subst hjn;rw[if_pos rfl]at hj;cases hj;rw[rp K0,wu]at hk;by_cases k1:k<off
          ·rw[if_pos k1]at hk;rw[if_pos K0]at e1;exact ajb
          ·by_cases k2:k<off+i.size
           ·rw[if_neg k1,if_pos k2]at hk;rw[if_neg K0,if_pos K0]at e1;rw[bP (b:=v1.cells) (l:=k -off) bw];exact((hlr _ x hk).flat (lQ ov _ x hk)).mono eP.mv (Mem.le_refl _)
           ·rw[if_neg k1,if_neg k2]at hk;rw[if_neg K0,if_neg K0]at e1;exact ajb
         ·rw[if_neg hjn]at hj;have hkz:k<z0:=by grind
          have e2:(aO arr (n*z0+off) v1.cells.toList)[j*z0+k]? =arr[j*z0+k]? :=ahJ;rw[bP e2];exact(q7 j e' k x hj hk).mono eP.mv (Mem.le_refl _)
       have hH:=ad.write (N:=N) hR hb jq q1 nA vW eG hbl;exact afG
      grind
     grind
    grind
   grind
  ·rename_i z' l hb;split at h
   ·rename_i eA;obtain⟨qf,eA⟩:=aD eA;have eA:=fM eA;have qf:=pj qf;subst qf;obtain⟨e,he,h⟩:=h;obtain⟨_,⟨hz,hl⟩,gC⟩:=hR.rel id _ hb
    rcases gC with⟨h1,_⟩|⟨b',cap,arr,T',h1,h2,q1,q2,q5,q7⟩
    ·grind
    rw[jq]at h1;cases h1;have iG:=hl n e he;have al:=(kF.1 he).1
    have Ad:n*z0+z0<=arr.size:=by
     rw[q2];have:(n+1)*z0<=cap*z0:=kG _ K0
     grind
    refine⟨_,bE q1 K0,?_⟩;have nA:(aO arr (n*z0+off) v1.cells.toList).size =arr.size:=fm K0;have eG: ∀o,(cC.az z0 l).tC o->(cC.az z0 (l.set n (iq e off y.2))).tC o/\(aO arr (n*z0+off) v1.cells.toList)[o]? =arr[o]? :=λo h=>h.elim;have vW:(cC.az z0 l).Ae (.az z0 (l.set n (iq e off y.2))):=⟨rfl,(GD ..).symm⟩;have eP:=Tr.write (N:=N) hR hb jq q1 nA vW eG;have nq: ∀j,(l.set n (iq e off y.2))[j]? =if j=n then some (iq e off y.2)else l[j]? :=by grind
    have hbl:ir F β N (br H id (some (.az z0 (l.set n (iq e off y.2))))) (w.setRow b (aO arr (n*z0+off) v1.cells.toList)) id (.az z0 (l.set n (iq e off y.2))):=by
     refine⟨⟨hz,λj e' hj=>?_⟩,.inr ⟨b,cap,_,T',jq,h2,yd w b arr _ T' (0,0) q1,by omega,by grind,λj e' k x hj hk=>?_⟩⟩
     ·rw[nq]at hj;exact afH
     ·have e1:=gc (arr:=arr) (off:=n*z0+off) (vs:=v1.cells.toList) K0 (j*z0+k);rw[abD]at e1;rw[nq]at hj;by_cases hjn:j=n
      ·subst hjn;rw[if_pos rfl]at hj;cases hj;rw[rp K0,bD]at hk;by_cases k1:k<off
       ·rw[if_pos k1]at hk;rw[if_pos K0]at e1;exact ajJ
       ·by_cases k2:k<off+i.size
        ·rw[if_neg k1,if_pos k2]at hk;rw[if_neg K0,if_pos K0]at e1;rw[bP (b:=v1.cells) (l:=k -off) bw];exact eP.jr hR (Xt _ x hk)
        ·rw[if_neg k1,if_neg k2]at hk;rw[if_neg K0,if_neg K0]at e1;exact ajJ
      ·rw[if_neg hjn]at hj;have hkz:k<z0:=by grind
       have e2:(aO arr (n*z0+off) v1.cells.toList)[j*z0+k]? =arr[j*z0+k]? :=ahJ;rw[bP e2];exact eP.jr hR (q7 j e' k x hj hk)
    have hH:=ad.write (N:=N) hR hb jq q1 nA vW eG hbl;exact afG
   grind
  grind
 grind
end
section
variable {C:bS}{F:gG}{β:Nat->Option Nat}{N:Nat->Prop}{H:HF}{fid:Nat}{K:ka}{w w':World}{P:Program}
def uf (hG:bH C F)(_hR:ad F β N H w):(MV F β H w).le (MR F β H w):=by
 intro b o v h;unfold MR;by_cases hb:F.dE b
 grind
 ·rw[if_neg hb];unfold MV at h;rw[if_neg hb]at h;exact hG.mvr b o v h
theorem dw.C5 {mv mr:Mem}{v:Value}{c:SC}(h:dw mv mr v c)(hv:c.ao=true): ∃a cap,v= .slice a c.len cap/\c.len<=cap:=by
 cases h with
 |lit=>grind[SC.ao]
 |empty a cap _ h0=>simp_all
 |view b o cap z f _ _ _ fZ=>grind
 |ref=>grind[SC.ao]
 |err=>grind[SC.ao]
 |num=>grind[SC.ao]
 |raw=>grind[SC.ao]
 |any=>grind[SC.ao]
 |fn=>grind[SC.ao]
theorem dw.XE {mv mr:Mem}(eA:mv.le mr){v:Value}{c:SC}(h:dw mv mr v c)(hv:c.ao=true){n:Nat}{el:List SC}(he:c.elem n=some el):
  ∃b o cap,v= .slice (some ⟨b,o,none⟩) c.len cap/\dw mv mr (.pointer (some ⟨b,o+n*el.length,none⟩)) (.ref el):=by
 cases h with
 |lit=>grind[SC.ao]
 |empty a cap _ h0=>have:=SC.ip he;omega
 |view b o cap z f _ fL hz fZ hl hc hr=>
  have wV:=hl n el he;subst wV;refine⟨b,o,cap,rfl,.ref b _ (λk=>f (n*el.length+k)) (λk hk=>?_) λk x hx=>(hr n el k x he hx).mono (Mem.le_refl _) (dZ _)⟩;have al:=SC.ip he;rw[Mf];refine eA _ _ _ (hc _ ?_);have:(n+1)*el.length<=c.len*el.length:=kG _ al
  grind
 |ref=>grind[SC.ao]
 |err=>grind[SC.ao]
 |num=>grind[SC.ao]
 |raw=>grind[SC.ao]
 |any=>grind[SC.ao]
 |fn=>grind[SC.ao]
def Ju (hC:C.Ok)(hG:bH C F)(hR:ad F β N H w){T:TypeId}{x y:DX}{v0 v1:Value}(hx:ar F β N H w v0 x)(hy:ar F β N H w v1 y)(h:eR C T x y H K):
  ∃v,(Instr.indexAt T v0 v1).run C.P w= .ok v w/\bk F β N H fid K w v w:=by
 unfold eR at h;split at h
 ·grind
 rename_i i hi;obtain⟨tf,d,z,hT⟩:=hC.get hi;split at h
 ·rename_i e k n bW;have hd:=dn (hT.b8.trans bW);obtain⟨rfl,_⟩:=hy.am.bB;split at h
  ·grind
  rename_i ie l5;obtain⟨ef,ed,ez,hE⟩:=hC.get l5
  have bE: ∀(b o len cap:Nat),0<=n->n.toNat<len->(Instr.indexAt T (.slice (some ⟨b,o,none⟩) len cap) (.int k n)).run C.P w= .ok (.pointer (some ⟨b,o+n.toNat*ie.size,none⟩)) w:=by
   intro b o len cap h0 h1;have h2:0<=n/\n< (len:Int):=⟨h0,by omega⟩;exact ai9
  split at h
  ·rename_i id;obtain⟨hn,_,hp⟩:=hx.am;split at h
   ·rename_i m z0 c hb;split at h
    ·rename_i hz;have hz:=pj hz;obtain⟨⟨h0,h1⟩,h⟩:=h
     rcases hp _ z0 c.len hb rfl with⟨_,h2,_⟩|⟨b,cap,arr,T',jq,rfl,_,_⟩
     ·omega
     ·refine⟨_,bE b 0 c.len cap h0 K0,bk.pure hR h (cM ⟨hn,b,jq,?_⟩)⟩
      grind
    grind
   ·rename_i z0 l hb;split at h
    ·rename_i hz;have hz:=pj hz;obtain⟨⟨h0,h1⟩,h⟩:=h
     rcases hp _ z0 l.length hb rfl with⟨_,h2,_⟩|⟨b,cap,arr,T',jq,rfl,_,_⟩
     ·omega
     ·refine⟨_,bE b 0 l.length cap h0 K0,bk.pure hR h (cM ⟨hn,b,jq,?_⟩)⟩
      grind
    grind
   grind
  ·rename_i c;split at h
   ·rename_i hv;obtain⟨h0,el,he,bD,h⟩:=h;obtain⟨b,o,cap,rfl,hr⟩:=dw.XE (uf hG hR) hx.am hv he;refine⟨_,bE b o c.len cap h0 (SC.ip he),bk.pure hR h (cM ?_)⟩;rw[<- bD];exact hr
   grind
  grind
 ·rename_i len e k n bW;have hd:=kv (hT.b8.trans bW);obtain⟨rfl,_⟩:=hy.am.bB;split at h
  ·grind
  rename_i ie l5;obtain⟨ef,ed,ez,hE⟩:=hC.get l5
  have bE: ∀(b o:Nat),0<=n->n< (len:Int)->(Instr.indexAt T (.pointer (some ⟨b,o,none⟩)) (.int k n)).run C.P w= .ok (.pointer (some ⟨b,o+n.toNat*ie.size,none⟩)) w:=by
   intro b o h0 h1;have h2:0<=n/\n< (len:Int):=⟨h0,h1⟩;simp[Instr.indexAt,asIntOf,hT.cX,hd,h2,hE.iH,addr_add,Instr.sureAddr]
  split at h
  ·rename_i id off;obtain⟨hn,b,jq,rfl⟩:=hx.am;obtain⟨⟨h0,h1⟩,h⟩:=h;exact⟨_,bE b off h0 h1,bk.pure hR h (cM ⟨hn,b,jq,rfl⟩)⟩
  ·rename_i cs;obtain⟨b,o,rfl⟩:=Jr hx.am;obtain⟨⟨h0,h1⟩,h⟩:=h;exact⟨_,bE b o h0 h1,bk.pure hR h (cM (Du hx.am _))⟩
  grind
 grind
def Yy {t:TypeId}{i:TI}{tf:TypeInfo}{d:TypeDesc}{z:Value}(hT:Mr P t i tf d z){arr:Array Value}{off:Nat}(eA:off+i.size<=arr.size)(hs:(cL i.b8 || Nat.beq i.size 1)=true):
  (part t arr off).run P w= .ok (Ds (cL i.b8) i.size λk=>arr.getD (off+k) undef) w:=by
 unfold part Ds;simp only[eK,hT.Hy,my];cases XC:cL i.b8
 ·simp only[XC,S9]at hs;have h1:i.size=1:=pj hs;have al:off<arr.size:=by omega
  simp_all
 ·simp only[if_true,eK,hT.iH,my,lN];congr 2;apply Bk
  grind
  ·intro k h1 h2;have:off+k<arr.size:=by grind
   simp_all
def Tk (hR:ad F β N H w){t:TypeId}{i:TI}{tf:TypeInfo}{d:TypeDesc}{z:Value}(hT:Mr P t i tf d z){arr:Array Value}{cs:List DC}{off:Nat}
  (nA:arr.size=cs.length)(UM: ∀k c,cs[k]? =some c->cw F β N H w (arr.getD k undef) c)(h:Dr i cs off K):
  ∃v,(part t arr off).run P w= .ok v w/\bk F β N H fid K w v w:=by
 unfold Dr at h;split at h
 ·rename_i eA;obtain⟨eA,hs⟩:=aD eA;have eA:=fM eA;exact⟨_,Yy hT K0 hs,bk.pure hR h (rm (f:=λk=>arr.getD k undef) UM eA hs)⟩
 grind
def Yz (hC:C.Ok)(hR:ad F β N H w){T:TypeId}{x y:DX}{v0 v1:Value}(hx:ar F β N H w v0 x)(hy:ar F β N H w v1 y)(h:tU C T x y K):
  ∃v,(Instr.index T v0 v1).run C.P w= .ok v w/\bk F β N H fid K w v w:=by
 unfold tU at h;split at h
 ·grind
 rename_i i hi;obtain⟨tf,d,z,hT⟩:=hC.get hi;split at h
 ·rename_i len e k n bW;have hd:=kv (hT.b8.trans bW);obtain⟨rfl,_⟩:=hy.am.bB;split at h
  ·grind
  rename_i ie l5;obtain⟨ef,ed,ez,hE⟩:=hC.get l5;split at h
  ·rename_i cs;obtain⟨arr,rfl,h2,h3⟩:=hx.Cz;obtain⟨h0,h⟩:=h;obtain⟨v,hr,hp⟩:=Tk (fid:=fid) hR hE h2 h3 h;refine⟨v,?_,hp⟩;simp[Instr.index,asIntOf,hT.cX,hd,h0,hE.iH,hr]
  grind
 ·rename_i k n bW;have hd:=mg (hT.b8.trans bW);obtain⟨rfl,_⟩:=hy.am.bB;split at h
  ·rename_i s;obtain⟨rfl,_⟩:=hx.am.bB;obtain⟨h0,b,hb,h⟩:=h;refine⟨_,?_,bk.pure hR h (fS rfl)⟩;simp[Instr.index,asIntOf,hT.cX,hd,h0,hb]
  grind
 grind
theorem YA (hC:C.Ok)(hR:ad F β N H w){T:TypeId}{x:DX}{v0:Value}{n:Nat}(hx:ar F β N H w v0 x)(h:Al C T x n K):
  ∃v,(Instr.field T v0 n).run C.P w= .ok v w/\bk F β N H fid K w v w:=by
 unfold Al at h;split at h
 ·grind
 rename_i i hi;obtain⟨tf,d,z,hT⟩:=hC.get hi;split at h
 ·rename_i fs bW;obtain⟨gs,hd,hgs⟩:=rk (hT.b8.trans bW);split at h
  ·rename_i o ft Sb;split at h
   ·rename_i fi kI;obtain⟨ff,fd,fz,hF⟩:=hC.get kI;rw[<- hgs,gA]at Sb
    cases hg:gs.toList[n]? with
    |none=>grind
    |some g=>
     simp[hg]at Sb;obtain⟨ho,hft⟩:=Sb;have UL:gs[n]? =some g:=by grind
     split at h
     ·rename_i cs;obtain⟨arr,rfl,h2,h3⟩:=hx.Cz;obtain⟨v,hr,hp⟩:=Tk (fid:=fid) hR hF h2 h3 h;refine⟨v,?_,hp⟩;simp[Instr.field,hT.cX,hd,UL,asAgg,hft,ho,hr]
     grind
   grind
  grind
 grind
def Below.ot (w:World)(o:Obj):Below w.heap.size w (w.alloc o):=(Below.refl _ _).alloc (dG _) o
def gK (w:World)(o:Obj):(w.alloc o).heap[w.heap.size]? =some o:=by
 show(w.heap.push o)[w.heap.size]? =some o;simp
def bk.new {u:Hp}(Xj:ad F β N (u.on H) w)(t1:Tr F β N H w β N (u.on H) w)(hf: ¬N fid){bC:cC}{R:List Nat}{r:DV}{v:Value}{b:Option Nat}(hw:Below w.heap.size w w')(hb: ∀x,b=some x->w.heap.size<=x)
  (hK:K r ((fid,some bC)::u) R)
  (hrel: ∀(H1:HF),H1=br (u.on H) fid (some bC)->Tr F β N H w (cW β fid b) (bg N fid) H1 w'->Tr F β N (u.on H) w (cW β fid b) (bg N fid) H1 w'->ir F (cW β fid b) (bg N fid) H1 w' fid bC)
  (hv: ∀(H1:HF),H1=br (u.on H) fid (some bC)->co F (cW β fid b) (bg N fid) H1 w' v r):bk F β N H fid K w v w':=by
 have t2:=Tr.new Xj hw hf b hb bC;have t:=t1.trans t2;exact⟨_,r,_,R,hK,t,ad.new Xj hw hf b hb bC (hrel _ rfl t t2),hv _ rfl⟩
theorem aey {v:Value}{d:DC}(h:(Cd v).dyn =some d):cw F β N H w v d:=by
 unfold Cd at h;split at h
 ·simp[ZC.dyn]at h;subst h;rfl
 ·simp only[ZC.dyn]at h;split at h
  ·rename_i hp;simp at h;subst h;exact .lit hp
  grind
theorem Dv: ∀ {zs:List Value} {cs:List DC},Dq (zs.map Cd)=some cs->cs.length=zs.length/\∀(k:Nat) (c:DC),cs[k]? =some c->∃v,zs[k]? =some v/\(Cd v).dyn =some c
 | [],cs,h=>by grind[Dq]
 |z::zs,cs,h=>by
  simp only[ju,Dq]at h;split at h
  ·rename_i d hd;split at h
   ·rename_i ds hds;simp at h;subst h;obtain⟨h1,h2⟩:=Dv hds
    grind
   grind
  grind
def YB (hC:C.Ok)(hR:ad F β N H w)(hf: ¬N fid){T:TypeId}{i:TI}{cs:List DC}{v0:Value}(hi:C.ti T=some i)(hz:Dq i.zero=some cs)(h:K (bh (.ptr fid 0)) [(fid,some (.box T cs))] []):
  ∃v w',(Instr.alloc T true v0).run C.P w= .ok v w'/\bk F β N H fid K w v w':=by
 obtain⟨tf,d,z,hT⟩:=hC.get hi;rw[<- hT.xT]at hz;obtain⟨hl,hc⟩:=Dv hz;refine⟨.pointer (some ⟨w.heap.size,0,none⟩),w.alloc (.cells z.cells T),by simp[Instr.alloc,hT.tw,newVar,newRow],?_⟩;refine bk.new (u:=[]) (b:=some w.heap.size) hR Tr.refl hf (Below.ot w _) (by simp) h (λH1 _ t _=>?_) (λH1 _=>cM ⟨.inr rfl,w.heap.size,by simp[cW],rfl⟩);refine⟨w.heap.size,z.cells,T,by simp[cW],gG.gD hR.below.size,gK w _,by grind,λk c hk=>?_⟩
 grind[mi,aey]
def af6 (hR:ad F β N H w)(hf: ¬N fid){T:TypeId}{x:DX}{v0:Value}(hx:ar F β N H w v0 x)(h:K (bh (.ptr fid 0)) [(fid,some (.box T x.2))] []):
  ∃v w',(Instr.box T v0).run C.P w= .ok v w'/\bk F β N H fid K w v w':=by
 obtain⟨h1,h2⟩:=hx.cells;refine⟨.pointer (some ⟨w.heap.size,0,none⟩),w.alloc (.cells v0.cells T),by simp[Instr.box,newVar,newRow],?_⟩;refine bk.new (u:=[]) (b:=some w.heap.size) hR Tr.refl hf (Below.ot w _) (by simp) h (λH1 _ t _=>?_) (λH1 _=>cM ⟨.inr rfl,w.heap.size,by simp[cW],rfl⟩);exact⟨w.heap.size,v0.cells,T,by simp[cW],gG.gD hR.below.size,gK w _,h1,λk c hk=>t.jr hR (h2 k c hk)⟩
theorem An (off:Nat): ∀(l:List Value) (j:Nat) (cs:Array Value),off+j+l.length<=cs.size->
  (l.zipIdx j).foldl (λcs (p:Value × Nat)=>cs.setIfInBounds (off+p.2) p.1) cs=aO cs (off+j) l
 | [],j,cs,_=>by simp[aO]
 |v::l,j,cs,h=>by
  simp only[List.zipIdx_cons,Ye];rw[An off l (j+1) _ bw];unfold aO;congr 1;have e:=list_seg_step cs.toList (off+j) v l K0;simpa [Array.toList_setIfInBounds,Mf]using e
theorem Jv {PE place':Nat->Option (Nat × Nat)}(hpp: ∀n x,PE n=some x->place' n=some x): ∀ {parts:List (Nat × Value)} {ps:List (Nat × Option DV)} {arr:Array Value} {cells:List DC} {cs:List DC},parts.length=ps.length->
  (∀(k:Nat) (p:Nat × Value) (q:Nat × Option DV),parts[k]? =some p->ps[k]? =some q->p.1=q.1/\∀d,q.2=some d->co F β N H w p.2 d)->arr.size=cells.length->(∀(k:Nat) (c:DC),cells[k]? =some c->cw F β N H w (arr.getD k undef) c)->
  HM PE cells ps=some cs->∃arr',Instr.fill place' arr parts=some arr'/\arr'.size=cs.length/\∀(k:Nat) (c:DC),cs[k]? =some c->cw F β N H w (arr'.getD k undef) c
 | [],[],arr,cells,cs,_,_,hs,hc,h=>by
  simp[HM]at h;subst h;exact⟨arr,rfl,hs,hc⟩
 | [],_::_,_,_,_,h,_,_,_,_=>by grind
 |_::_,[],_,_,_,h,_,_,_,_=>by grind
 |(i,v)::parts,(j,d)::ps,arr,cells,cs,hl,hp,hs,hc,h=>by
  obtain⟨PS,hd⟩:=hp 0 _ _ rfl rfl;simp at PS;subst PS;unfold HM at h;split at h
  grind
  ·rename_i n x rest wt;cases wt;have hx:ar F β N H w v x:=hd _ rfl;obtain⟨c1,c2⟩:=hx.cells;split at h
   ·rename_i off size pN;split at h
    ·rename_i eA;obtain⟨hl1,eA⟩:=aD eA;have hl1:=pj hl1;have eA:=fM eA;have hlc:v.cells.toList.length=x.2.length:=by omega
     have PA:v.cells.zipIdx.foldl (λcs (p:Value × Nat)=>cs.setIfInBounds (off+p.2) p.1) arr=aO arr off v.cells.toList:=by
      have:=An off v.cells.toList 0 arr K0;exact ajh
     have abz:=Jv hpp (parts:=parts) (ps:=ps) (arr:=aO arr off v.cells.toList) (cells:=iq cells off x.2) (cs:=cs) bw
      (λk p q h1 h2=>hp (k+1) p q bw bw) (by grind[fm,iq]) (λk c hk=>?_) h
     ·obtain⟨arr',e1,e2,e3⟩:=abz;refine⟨arr',?_,e2,e3⟩;have g1: ¬(v.cells.size≠size):=by omega
      have g2: ¬(off+v.cells.size>arr.size):=by omega
      simp only[Instr.fill,hpp _ _ pN,g1,g2,decide_false,Mg,tE,kM]
      grind
     ·have e:=gc (arr:=arr) (off:=off) (vs:=v.cells.toList) K0 k;rw[hlc]at e;rw[rp K0]at hk;by_cases k1:k<off
      ·simp only[k1,if_true]at hk e
       grind[bP]
      ·by_cases k2:k<off+x.2.length
       ·simp only[k1,kM,k2,if_true]at hk e
        grind[bP]
       ·simp only[k1,kM,k2]at hk e
        grind[bP]
    grind
   grind
  grind
end
section
variable {C:bS}{F:gG}{β:Nat->Option Nat}{N:Nat->Prop}{H:HF}{fid:Nat}{K:ka}{w w':World}{P:Program}
theorem ww {α γ:Type}{g:α->Sem γ}{h:α->γ}: ∀ {l:List α},(∀x∈l,(g x).run P w= .ok (h x) w)->(l.mapM g).run P w= .ok (l.map h) w
 | [],_=>by simp
 |x::l,hl=>by
  have h1:=hl x (by simp);have h2:=ww (l:=l) λy hy=>hl y bw;simp_all
def YC {α γ:Type}{g:α->Sem γ}{h:α->γ}{l:Array α}(hl: ∀x∈l.toList,(g x).run P w= .ok (h x) w):(l.mapM g).run P w= .ok (l.map h) w:=by
 rw[aes,Sem.run_map,ww hl];simp
 grind
def Dw (hG:bH C F)(hR:ad F β N H w){E:EF}{a:Act}(hE:dH F β N H w E a)(parts:Array (Nat × Operand)):
  ((parts.map λp=>(p.1,a.eval p.2)).toList.length =(parts.toList.map λp=>(p.1,C.ev E p.2)).length)/\
  ∀(k:Nat) (p:Nat × Value) (q:Nat × Option DV),(parts.map λp=>(p.1,a.eval p.2)).toList[k]? =some p->(parts.toList.map λp=>(p.1,C.ev E p.2))[k]? =some q->
   p.1=q.1/\∀d,q.2=some d->co F β N H w p.2 d:=by
 grind[mC]
theorem YD (hC:C.Ok)(hG:bH C F)(hR:ad F β N H w){E:EF}{a:Act}(hE:dH F β N H w E a){o:Oper}{T:TypeId}{parts:Array (Nat × Operand)}(ho:o.op= .build T parts)
  (h:fk C fid o (C.ev E) H K): ∃v,(Instr.build T (parts.map λp=>(p.1,a.eval p.2))).run C.P w= .ok v w/\bk F β N H fid K w v w:=by
 unfold fk at h;rw[ho]at h;simp only at h;obtain⟨hl,hp⟩:=Dw hG hR hE parts;split at h
 ·rename_i i hi;obtain⟨tf,d,z,hT⟩:=hC.get hi;split at h
  ·rename_i zs hz;rw[<- hT.xT]at hz;obtain⟨z1,z2⟩:=Dv hz;have hz3: ∀(k:Nat) (c:DC),zs[k]? =some c->cw F β N H w (z.cells.getD k undef) c:=by grind[mi,aey]
   have hz4:z.cells.size=zs.length:=by grind
   split at h
   ·rename_i fs bW;obtain⟨gs,hd,hgs⟩:=rk (hT.b8.trans bW);split at h
    ·rename_i cs Px
     have ael:(gs.mapM λf=>do pure (f.offset,<- sizeOf f.type):Sem _).run C.P w= .ok (gs.map λf=>(f.offset,C.P.cellsOf f.type)) w:=by
      refine YC λf hf=>?_;have:=hT.fields gs hd f hf;obtain⟨fi,kI⟩:=qW.1 this;simp[sizeOf,typeInfo,kI,Program.cellsOf]
     obtain⟨arr',e1,e2,e3⟩:=Jv (place':=((gs.map λf=>(f.offset,C.P.cellsOf f.type))[·]?)) (by
      intro n x hx;split at hx
      ·rename_i o ft Sb;rw[<- hgs,gA]at Sb
       cases hg:gs.toList[n]? with
       |none=>grind
       |some g=>
        simp[hg]at Sb;obtain⟨h1,h2⟩:=Sb;split at hx
        ·rename_i fi kI;simp at hx;subst hx;obtain⟨ff,fd,fz,hF⟩:=hC.get kI;have UL:gs[n]? =some g:=by grind
         simp[UL,Program.cellsOf,h2,h1,hF.ou,hF.size]
        grind
      grind) hl hp hz4 hz3 Px
     refine⟨.agg arr',?_,bk.pure hR h ⟨arr',rfl,e2,e3⟩⟩;simp only[Instr.build,eK,hT.tw,my,hT.cX,hd,ael];simp_all
    grind
   ·rename_i n e bW;have hd:=kv (hT.b8.trans bW);split at h
    ·rename_i ie l5;obtain⟨ef,ed,ez,Hx⟩:=hC.get l5;split at h
     ·rename_i cs Px;obtain⟨arr',e1,e2,e3⟩:=Jv (λ_ _ h=>h) hl hp hz4 hz3 Px;refine⟨.agg arr',?_,bk.pure hR h ⟨arr',rfl,e2,e3⟩⟩;simp only[Instr.build,eK,hT.tw,my,hT.cX,hd,Hx.iH];simp_all
     grind
    grind
   grind
  grind
 grind
theorem Vc {op:BinOp}{k:IntKind}{a b:Int}{K':Value->Prop}(h:tT op k a b K')(hs:op≠ .shl)(hs':op≠ .shr)(T:TypeId):
  ∃v,(binOp op T (.int k a) (.int k b)).run P w= .ok v w/\plain v=true/\K' v:=by
 cases op<;>simp only[tT]at h<;>first
  |exact(hs rfl).elim
  |exact(hs' rfl).elim
  |exact h.elim
  |(refine⟨_,?_,?_,h⟩<;>simp[binOp,Op.intArith,Op.intBits,Op.intCmp,plain];done)
  |(obtain⟨h0,h⟩:=h;refine⟨_,?_,?_,h⟩<;>simp[binOp,Op.intDiv,h0,plain];done)
  |skip
theorem Vd {op:BinOp}{a b:ByteArray}{K':Value->Prop}(h:w5 op a b K')(T:TypeId):
  ∃v,(binOp op T (.string a) (.string b)).run P w= .ok v w/\plain v=true/\K' v:=by
 cases op<;>simp only[w5]at h<;>first
  |exact h.elim
  |(refine⟨_,?_,?_,h⟩<;>simp[binOp,Op.stringOp,plain];done)
  |(obtain⟨h0,h⟩:=h
    refine⟨_,?_,?_,h⟩
    ·have h1: ¬(((a.size+b.size:Nat):Int)>IntKind.i64.max):=by
      grind[IntKind.max_i64]
     simp only[binOp,Op.stringOp,h1,kM];rfl
    ·rfl)
  |skip
def Ve {op:BinOp}{x y:Value}{K':Value->Prop}(h:rc op x y K')(T:TypeId):
  ∃v,(binOp op T x y).run P w= .ok v w/\plain v=true/\K' v:=by
 unfold rc at h;split at h
 ·rename_i k a k' b;split at h
  ·exact ait
  ·exact ait
  ·rename_i hs hs';split at h
   ·rename_i hk;simp at hk;subst hk;exact Vc h K0 K0 T
   grind
 ·exact Vd h T
 grind
theorem Mu {t:TypeId}{c:Bl}{a b:Value}{p:Bool}{d:TypeDesc}{n:Nat}(h:Tf c a b=some p)(hu:P.underlying t=some d)(hd:eB d=c):(Op.equalIn (n+1) t a b).run P w= .ok p w:=by
 unfold Tf at h;split at h
 ·split at h
  ·rename_i k1 a k2 b hk;simp at hk;subst hk;simp at h;subst h;have:=rj hd;subst this;exact afV
  grind
 ·simp at h;subst h;have:=Ms hd;subst this;exact afV
 ·simp at h;subst h;have:=mg hd;subst this;exact afV
 grind
def gL:List Bl->List Value->List Value->Option Bool
 | [],[],[]=>some true
 |c::cs,a::xs,b::ys=>match Tf c a b with
  |some p=>match gL cs xs ys with
   |some q=>some (p&&q)
   |none=>none
  |none=>none
 |_,_,_=>none
theorem pQ: ∀ {l1 l2:List Bl} {x1 y1 x2 y2:List Value} {p:Bool},x1.length=l1.length->y1.length=l1.length->gL (l1++l2) (x1++x2) (y1++y2)=some p->
  ∃a b,gL l1 x1 y1=some a/\gL l2 x2 y2=some b/\p=(a&&b)
 | [],l2,x1,y1,x2,y2,p,h1,h2,h=>by
  have:x1= []:=C8.1 h1;have:y1= []:=C8.1 h2;subst x1;subst y1;exact⟨true,p,rfl,h,by simp⟩
 |c::l1,l2,x::x1,y::y1,x2,y2,p,h1,h2,h=>by
  simp only[qX,gL]at h;split at h
  ·rename_i p0 Gj;split at h
   ·rename_i q0 hq0;simp at h;subst h;obtain⟨a,b,e1,e2,rfl⟩:=pQ bw bw hq0
    grind[gL]
   grind
  grind
 |c::l1,l2,[],y1,x2,y2,p,h1,h2,h=>by grind
 |c::l1,l2,x::x1,[],x2,y2,p,h1,h2,h=>by grind
def cut (arr:Array Value)(off n:Nat):List Value:=(arr.toList.drop off).take n
def rq (arr:Array Value)(off m n:Nat):cut arr off (m+n)=cut arr off m++cut arr (off+m) n:=by grind[cut,List.drop_drop]
def CA {arr:Array Value}{off n:Nat}(h:off+n<=arr.size):(cut arr off n).length =n:=by grind[cut]
def acu (P:Program)(w:World)(m:Nat)(t:TypeId)(l:List Bl):Prop:=
 ∀(xs ys:Array Value) (off:Nat) (p:Bool),off+l.length<=xs.size->off+l.length<=ys.size->gL l (cut xs off l.length) (cut ys off l.length)=some p->
  ∃a b,(part t xs off).run P w= .ok a w/\(part t ys off).run P w= .ok b w/\(Op.equalIn m t a b).run P w= .ok p w
def qi (P:Program)(n:Nat)(acc:Option (List Bl))(f:Field):Option (List Bl):=
 match acc with
 |none=>none
 |some l=>match f.name != "_"&&f.offset==l.length,kN P n f.type with
  |true,some l'=>some (l++l')
  |_,_=>none
theorem GG (P:Program)(n:Nat)(fs:List Field):fs.foldl (qi P n) none=none:=by
 induction fs with
 |nil=>rfl
 |cons f fs ih=>grind[qi]
theorem Bp {n m:Nat}(ih: ∀t l,kN P n t=some l->acu P w m t l): ∀(fs:List Field) (l0 l:List Bl),fs.foldl (qi P n) (some l0)=some l->
  ∃l1,l=l0++l1/\∀(xs ys:Array Value) (p:Bool),l.length<=xs.size->l.length<=ys.size->gL l1 (cut xs l0.length l1.length) (cut ys l0.length l1.length)=some p->
   (Op.eqFields m xs ys fs).run P w= .ok p w
 | [],l0,l,h=>by
  simp at h;subst h;refine⟨[],by simp,λxs ys p _ _ hp=>?_⟩;simp[cut,gL]at hp;subst hp;rfl
 |f::fs,l0,l,h=>by
  simp only[Ye]at h
  cases eG:qi P n (some l0) f with
  |none=>grind[GG]
  |some l2=>
   rw[eG]at h;obtain⟨l1,rfl,hl⟩:=Bp ih fs l2 l h;simp only[qi]at eG;split at eG
   ·rename_i l' Gm hlv;simp at eG Gm;subst eG;refine⟨l'++l1,by simp,λxs ys p hx hy hp=>?_⟩;have tu:l0.length+l'.length<=xs.size:=by grind
    have hy':l0.length+l'.length<=ys.size:=by grind
    rw[tH,rq,rq]at hp;obtain⟨a,b,e1,e2,rfl⟩:=pQ (CA tu) (CA hy') hp;obtain⟨u,v,r1,r2,r3⟩:=ih f.type l' hlv xs ys l0.length a tu hy' e1;have PD:=hl xs ys b hx hy bw;have hn:f.name≠"_":=Gm.1;have ho:f.offset=l0.length:=Gm.2;simp only[Op.eqFields];rw[if_pos hn,ho];simp only[eK,r1,my,r2,r3];cases a
    ·simp
    grind
   grind
theorem w7 {n:Nat}{t:TypeId}{l:List Bl}(h:kN P n t=some l): ∃i d,P.info? t=some i/\P.underlying t=some d/\i.size=l.length/\(cL (eB d)=false->l= [eB d]):=by
 cases n with
 |zero=>grind[kN]
 |succ n=>
  unfold kN at h;split at h
  grind[eB]
  grind[eB]
  grind[eB]
  grind[eB,cL]
  ·refine⟨_,_,by assumption,by assumption,?_,by simp[eB,cL]⟩;split at h
   ·split at h
    ·simp at h;subst h;simp_all
    grind
   grind
  grind
def nU {t:TypeId}{i:TypeInfo}{d:TypeDesc}(hi:P.info? t=some i)(hd:P.underlying t=some d)(arr:Array Value){off:Nat}(al:cL (eB d)=false->off<arr.size):
  (part t arr off).run P w= .ok (if cL (eB d)then .agg (arr.extract off (off+i.size))else arr.getD off undef) w:=by
 have XC:(isAgg t).run P w= .ok (cL (eB d)) w:=by cases d<;>simp[isAgg,tJ hd,eB,cL]
 unfold part;simp only[eK,XC,my];cases h:cL (eB d);simp_all
 ·simp[sizeOf,typeInfo,hi]
theorem ug (arr:Array Value)(off n o k:Nat)(h:o+k<=n):cut (arr.extract off (off+n)) o k=cut arr (off+o) k:=by
 unfold cut;apply SX
 grind
theorem wx {m e:Nat}{l:List Bl}{xs ys:Array Value}(hs:(sizeOf e).run P w= .ok l.length w)(ih:acu P w m e l): ∀(n j:Nat) (p:Bool),(j+n)*l.length<=xs.size->(j+n)*l.length<=ys.size->
  gL (List.replicate n l).flatten (cut xs (j*l.length) (n*l.length)) (cut ys (j*l.length) (n*l.length))=some p->
  ∃r,(forIn (List.range' j n) (none,()) (λi (__s:Option Bool × Unit)=>(do
       let __do_lift <- part e xs (i*l.length);let __do_lift_1 <- part e ys (i*l.length);let __do_lift <- Op.equalIn m e __do_lift __do_lift_1
       if(!__do_lift)=true then pure (ForInStep.done (some false,()))else pure (ForInStep.yield (none,())):Sem (ForInStep (Option Bool × Unit))))).run P w= .ok r w/\
   (match r.1 with|some r=>r|none=>true)=p
 |0,j,p,_,_,hp=>by
  simp[cut,gL]at hp;simp_all
 |n+1,j,p,hx,hy,hp=>by
  have e1:(n+1)*l.length=l.length+n*l.length:=by grind
  have e2:(j+(n+1))*l.length=j*l.length+(l.length+n*l.length):=by grind
  rw[List.replicate_succ,Yb,e1,rq,rq]at hp;obtain⟨a,b,g1,g2,rfl⟩:=pQ (CA K0) (CA K0) hp;obtain⟨u,v,r1,r2,r3⟩:=ih xs ys (j*l.length) a K0 K0 g1;have e3:j*l.length+l.length=(j+1)*l.length:=by grind
  rw[e3]at g2;obtain⟨r,q1,q2⟩:=wx hs ih n (j+1) b bw bw g2;rw[List.range'_succ,List.forIn_cons];simp only[eK,r1,my,r2,r3];cases a;simp_all;simp_all
theorem Tl: ∀(n:Nat) (t:TypeId) (l:List Bl),kN P n t=some l->∀m,n<=m->acu P w m t l
 |0,t,l,h,m,_=>by grind[kN]
 |n+1,t,l,h,0,hm=>by omega
 |n+1,t,l,h,m+1,hm=>by
  intro xs ys off p hx hy hp;obtain⟨i,d,hi,hd,XC,ano⟩:=w7 h;have ih: ∀t l,kN P n t=some l->acu P w m t l:=λt l hl=>Tl n t l hl m K0
  have anv:cL (eB d)=false->∃a b,(part t xs off).run P w= .ok a w/\(part t ys off).run P w= .ok b w/\(Op.equalIn (m+1) t a b).run P w= .ok p w:=by
   intro hc;have hl:=ano hc;subst hl;simp at hx hy;refine⟨_,_,nU hi hd xs (λ_=>by omega),nU hi hd ys (λ_=>by omega),?_⟩
   have c1:cut xs off 1= [xs.getD off undef]:=by
    unfold cut;rw[XM bw];simp[Array.getD,show off<xs.size by omega]
   have c2:cut ys off 1= [ys.getD off undef]:=by
    unfold cut;rw[XM bw];simp[Array.getD,show off<ys.size by omega]
   simp only[P0,c1,c2,gL]at hp;split at hp
   ·rename_i q hq;simp at hp;subst hp;simp only[hc,tE,kM]
    grind[Mu]
   grind
  cases jc:cL (eB d)with
  |false=>grind
  |true=>
   have nA:=XC;refine⟨_,_,nU hi hd xs bw,nU hi hd ys bw,?_⟩;simp only[jc,if_true];have sx:(xs.extract off (off+i.size)).size =l.length:=by grind
   have sy:(ys.extract off (off+i.size)).size =l.length:=by grind
   unfold kN at h;rw[hi,hd]at h
   cases d with
   |struct fs=>
    simp only at h;split at h
    ·rename_i l' eG PA;split at h
     ·simp at h;subst h;have ahf:fs.toList.foldl (qi P n) (some [])=some l':=PA;obtain⟨l1,e1,hl1⟩:=Bp ih fs.toList [] l' ahf
      grind[Program.fieldsOf,run_equalIn_struct,ug]
     grind
    grind
   |array k e=>
    simp only at h;split at h
    ·rename_i l' hlv;split at h
     ·rename_i sC;simp at h;subst h;obtain⟨ie,de,l5,hde,alD,Gp⟩:=w7 hlv;have Xs:(sizeOf e).run P w= .ok ie.size w:=by simp[sizeOf,typeInfo,l5]
      rw[alD]at Xs;simp only[Op.equalIn,eK,tJ hd,my,Xs];have wu:(List.replicate k l').flatten.length =k*l'.length:=by omega
      rw[wu]at sx sy hp;have hx2:off+k*l'.length<=xs.size:=by grind
      have hy2:off+k*l'.length<=ys.size:=by omega
      obtain⟨r,q1,q2⟩:=wx (xs:=xs.extract off (off+i.size)) (ys:=ys.extract off (off+i.size)) Xs (ih e l' hlv) k 0 p bw bw
       (by rw[Nat.zero_mul,ug _ _ _ _ _ K0,ug _ _ _ _ _ K0];omega)
      rw[Std.Legacy.Range.forIn_eq_forIn_range'];simp only[Std.Legacy.Range.size,HH,X7,Nat.div_one,q1,my];rw[<- q2]
      cases r with
      |mk r1 r2=>cases r1<;>rfl
     grind
    grind
   |_=>simp[eB,cL]at jc
end
section
variable {C:bS}{F:gG}{β:Nat->Option Nat}{N:Nat->Prop}{H:HF}{fid:Nat}{K:ka}{w w':World}{P:Program}
theorem yk: ∀ {l:List Bl} {xs ys:List DC} {a b:List Value} {p:Bool},a.length=xs.length->b.length=ys.length->
  (∀(k:Nat) (c:DC) (v:Value),xs[k]? =some c->a[k]? =some v->cw F β N H w v c)->(∀(k:Nat) (c:DC) (v:Value),ys[k]? =some c->b[k]? =some v->cw F β N H w v c)->
  md l xs ys=some p->gL l a b=some p
 | [],[],[],a,b,p,ha,hb,_,_,h=>by
  have:a= []:=C8.1 ha;have:b= []:=C8.1 hb;subst a;subst b;exact h
 |c::l,x::xs,y::ys,a,b,p,ha,hb,h1,h2,h=>by
  obtain⟨u,a,rfl⟩:=aft ha;obtain⟨v,b,rfl⟩:=aft hb;unfold md at h;split at h
  grind
  ·rename_i l1 l2 l3 e1 e2 e3;cases e1;cases e2;cases e3;obtain⟨rfl,_⟩:=(h1 0 _ u rfl rfl).bB;obtain⟨rfl,_⟩:=(h2 0 _ v rfl rfl).bB;split at h
   ·rename_i p0 Gj;split at h
    ·rename_i q0 hq0;have:=yk (a:=a) (b:=b) bw bw (λk c v e1 e2=>h1 (k+1) c v bw bw) (λk c v e1 e2=>h2 (k+1) c v bw bw) hq0
     grind[gL]
    grind
   grind
  grind
 | [],_::_,_,_,_,_,_,_,_,_,h=>by grind[md]
 | [],[],_::_,_,_,_,_,_,_,_,h=>by grind[md]
 |_::_,[],_,_,_,_,_,_,_,_,h=>by grind[md]
 |_::_,_::_,[],_,_,_,_,_,_,_,h=>by grind[md]
theorem pm {op:BinOp}{T:TypeId}{x y:Operand}{a b:Value}(h: ∃f:Bool,f=true/\(match a with| .nilIface =>false| .agg _=>false|_=>true)=f):eqGuard op T x y a b=pure ():=by
 obtain⟨f,rfl,h⟩:=h;cases a<;>simp at h<;>cases op<;>cases b<;>rfl
def Bq {op:BinOp}{T:TypeId}{x y:Operand}(h:(lO x || lO y)=true):eqGuard op T x y .nilIface .nilIface =pure ():=by cases x<;>cases y<;>simp[lO]at h<;>cases op<;>rfl
def Br {op:BinOp}{T U:TypeId}{x y:Operand}{u:Value}:eqGuard op T x y (.iface U u) .nilIface =pure ():=by cases op<;>rfl
def af7 {T:TypeId}(hT: ∃i d,P.info? T=some i/\P.underlying T=some d/\cL (eB d)=true){l:List Bl}(hl:kN P 8 T=some l){a b:Array Value}{p:Bool}(ha:a.size=l.length)(hb:b.size=l.length)
  (h:gL l a.toList b.toList=some p):(Op.equal T (.agg a) (.agg b)).run P w= .ok p w:=by
 obtain⟨i,d,hi,hd,XC⟩:=hT;obtain⟨i',d',lA,xG,nA,_⟩:=w7 hl;rw[hi]at lA;cases lA;rw[hd]at xG;cases xG;have c1:cut a 0 l.length=a.toList:=by grind[cut,List.take_of_length_le]
 have c2:cut b 0 l.length=b.toList:=by grind[cut,List.take_of_length_le]
 obtain⟨u,v,h1,h2,h3⟩:=Tl (w:=w) 8 T l hl Op.maxDepth bX a b 0 p K0 K0 bw;rw[nU hi hd a bw]at h1;rw[nU hi hd b bw]at h2;simp only[XC,if_true,Result.ok.injEq,sE]at h1 h2;have ea:a.extract 0 (0+i.size)=a:=by grind
 have eb:b.extract 0 (0+i.size)=b:=by grind
 rw[ea]at h1;rw[eb]at h2;subst h1;subst h2;exact h3
theorem acv (hC:C.Ok)(hR:ad F β N H w){op:BinOp}{T:TypeId}{x y:DX}{xo yo:Operand}{v0 v1:Value}(hx:ar F β N H w v0 x)(hy:ar F β N H w v1 y)(h:Mo C (lO xo || lO yo) op T x y λv=>K v [] []):
  ∃v,(do eqGuard op T xo yo v0 v1;binOp op T v0 v1:Sem Value).run C.P w= .ok v w/\bk F β N H fid K w v w:=by
 unfold Mo at h;split at h
 ·rename_i a b;obtain⟨rfl,_⟩:=hx.am.bB;obtain⟨rfl,_⟩:=hy.am.bB;split at h
  ·rename_i i hi;obtain⟨tf,d,z,hT⟩:=hC.get hi;split at h
   ·rename_i bW;refine⟨_,?_,bk.pure hR h (fS rfl)⟩;rw[pm ⟨true,rfl,rfl⟩];have e:(Op.equal T (.bool a) (.bool b)).run C.P w= .ok (a==b) w:=aiK;simp only[eK,lN,my];show(do pure (.bool (<- Op.equal T (.bool a) (.bool b))):Sem Value).run C.P w=_;simp_all
   ·rename_i bW;refine⟨_,?_,bk.pure hR h (fS rfl)⟩;rw[pm ⟨true,rfl,rfl⟩];have e:(Op.equal T (.bool a) (.bool b)).run C.P w= .ok (a==b) w:=aiK;simp only[eK,lN,my];show(do pure (.bool (!(<- Op.equal T (.bool a) (.bool b)))):Sem Value).run C.P w=_;simp_all
   grind
  grind
 ·obtain⟨rfl,_⟩:=hx.am.bB;obtain⟨rfl,_⟩:=hy.am.bB;split at h
  ·rename_i i hi alY;obtain⟨tf,d,z,hT⟩:=hC.get hi;have key:i.b8= .iface ->(Op.equal T .nilIface .nilIface).run C.P w= .ok true w:=λbW=>by exact ahW
   split at h
   ·rename_i bW;refine⟨_,?_,bk.pure hR h (fS rfl)⟩;rw[Bq alY];simp only[eK,lN,my];show(do pure (.bool (<- Op.equal T .nilIface .nilIface)):Sem Value).run C.P w=_;simp_all
   ·rename_i bW;refine⟨_,?_,bk.pure hR h (fS rfl)⟩;rw[Bq alY];simp only[eK,lN,my];show(do pure (.bool (!(<- Op.equal T .nilIface .nilIface))):Sem Value).run C.P w=_;simp_all
   grind
  grind
 ·obtain⟨U,u,rfl⟩:=hx.am.abV;obtain⟨rfl,_⟩:=hy.am.bB;split at h
  ·rename_i i hi;obtain⟨tf,d,z,hT⟩:=hC.get hi;have key:i.b8= .iface ->(Op.equal T (.iface U u) .nilIface).run C.P w= .ok false w:=λbW=>by exact ahW
   split at h
   ·rename_i bW;refine⟨_,?_,bk.pure hR h (fS rfl)⟩;rw[Br];simp only[eK,lN,my];show(do pure (.bool (<- Op.equal T (.iface U u) .nilIface)):Sem Value).run C.P w=_;simp_all
   ·rename_i bW;refine⟨_,?_,bk.pure hR h (fS rfl)⟩;rw[Br];simp only[eK,lN,my];show(do pure (.bool (!(<- Op.equal T (.iface U u) .nilIface))):Sem Value).run C.P w=_;simp_all
   grind
  grind
 ·rename_i dd;obtain⟨rfl,_⟩:=hy.am.bB;split at h
  ·rename_i b i hb hi;obtain⟨tf,d,z,hT⟩:=hC.get hi
   obtain⟨p,rfl,hp⟩: ∃p:Option Addr,v0= .pointer p/\p.isSome=b:=by
    have h1:=hx.am;unfold Mn at hb;split at hb
    ·exact aj0
    ·exact aj0
    ·cases hb
     cases h1 with
     |empty a cap hv=>grind[SC.ao]
     |view _ _ _ _ _ hv=>grind[SC.ao]
     |ref b o f hc hr=>grind
    ·cases hb;obtain⟨rfl,_⟩:=h1.bB;grind
    grind
   have key: ∀e,i.b8= .ptr e->(Op.equal T (.pointer p) (.pointer none)).run C.P w= .ok (!b) w:=λe bW=>by
    obtain⟨d',hd⟩: ∃e',d= .pointer e':=by
     have:=hT.b8.trans bW;cases d<;>simp[eB]at this
     grind
    unfold Op.equal Op.maxDepth Op.equalIn;subst hp;cases p<;>simp[eK,hT.cX,hd,my,lN]
   have hg: ∀op,eqGuard op T xo yo (.pointer p) (.pointer none)=pure ():=λop=>pm ⟨true,rfl,rfl⟩;split at h
   ·rename_i bW;refine⟨_,?_,bk.pure hR h (fS rfl)⟩;rw[hg];simp only[eK,lN,my];show(do pure (.bool (<- Op.equal T (.pointer p) (.pointer none))):Sem Value).run C.P w=_;simp_all
   ·rename_i bW;refine⟨_,?_,bk.pure hR h (fS rfl)⟩;rw[hg];simp only[eK,lN,my];show(do pure (.bool (!(<- Op.equal T (.pointer p) (.pointer none)))):Sem Value).run C.P w=_;simp_all
   grind
  grind
 ·rename_i a b hnb hnc hnp;obtain⟨rfl,_⟩:=hx.am.bB;obtain⟨rfl,_⟩:=hy.am.bB;obtain⟨v,hr,hp,hk⟩:=Ve (P:=C.P) (w:=w) h T;refine⟨v,?_,bk.pure hR hk (fS hp)⟩;have hg:eqGuard op T xo yo v0 v1=pure ():=by grind[pm,rc]
  grind
 ·rename_i xs ys;obtain⟨a,rfl,a1,a2⟩:=hx.Cz;obtain⟨b,rfl,b1,b2⟩:=hy.Cz;split at h
  ·rename_i i hi;obtain⟨tf,d,z,hT⟩:=hC.get hi;split at h;rotate_left
   ·grind
   rename_i anH
   have key: ∀ {l:List Bl} {p:Bool},i.eqs=some l->md l xs ys=some p->C.P.eqGuardType C.P.depth T=false/\(Op.equal T (.agg a) (.agg b)).run C.P w= .ok p w:=by
    intro l p he hp;have hq:=hT.eqs;rw[he]at hq;split at hq
    grind
    ·rename_i hg;refine⟨by grind,?_⟩
     have pb:=yk (a:=a.toList) (b:=b.toList) K0 K0 (λk c v e1 e2=>by
      have:=a2 k c e1;rwa [mi (by simpa using e2)]at this) (λk c v e1 e2=>by
      grind[mi]) hp
     have bD: ∀ {l:List Bl} {a b:List Value} {p:Bool},gL l a b=some p->a.length=l.length/\b.length=l.length:=by
      intro l
      induction l with
      |nil=>grind[gL]
      |cons c l ih=>
       intro a b p h
       cases a with
       |nil=>grind[gL]
       |cons x a=>cases b with
        |nil=>grind[gL]
        |cons y b=>
         grind[gL]
     obtain⟨l1,l2⟩:=bD pb;exact af7 ⟨_,_,hT.ou,hT.Jd,by rw[hT.b8];omega⟩ hq K0 K0 pb
   split at h
   ·rename_i l he;split at h
    ·rename_i p hp;obtain⟨hg,hr⟩:=key he hp;refine⟨_,?_,bk.pure hR h (fS rfl)⟩;have e:(eqGuard .eql T xo yo (.agg a) (.agg b)).run C.P w= .ok () w:=by simp[eqGuard,hg]
     simp only[eK,e,my];show(do pure (.bool (<- Op.equal T (.agg a) (.agg b))):Sem Value).run C.P w=_;simp_all
    grind
   ·rename_i l he;split at h
    ·rename_i p hp;obtain⟨hg,hr⟩:=key he hp;refine⟨_,?_,bk.pure hR h (fS rfl)⟩;have e:(eqGuard .neq T xo yo (.agg a) (.agg b)).run C.P w= .ok () w:=by simp[eqGuard,hg]
     simp only[eK,e,my];show(do pure (.bool (!(<- Op.equal T (.agg a) (.agg b)))):Sem Value).run C.P w=_;simp_all
    grind
   grind
  grind
 grind
end
section
variable {C:bS}{F:gG}{β:Nat->Option Nat}{N:Nat->Prop}{H:HF}{fid:Nat}{K:ka}{w w':World}{P:Program}
def af8 (hR:ad F β N H w){op:UnOp}{x:DX}{v0:Value}(hx:ar F β N H w v0 x)(h:PM op x λv=>K v [] []):
  ∃v,(Op.unary op v0).run P w= .ok v w/\bk F β N H fid K w v w:=by
 unfold PM at h;split at h
 ·exact afD
 ·exact afD
 ·exact afD
 grind
theorem Ao {mx:Bool}{k:IntKind}: ∀ {xs:List DX} {vs:List Value} {a:Int} {K':Value->Prop},vs.length=xs.length->(∀(j:Nat) (x:DX) (v:Value),xs[j]? =some x->vs[j]? =some v->ar F β N H w v x)->
  tV mx k a xs K'->∃v,(vs.foldlM (if mx then Builtin.max2 else Builtin.min2) (.int k a)).run P w= .ok v w/\plain v=true/\K' v
 | [],vs,a,K',hl,_,h=>by
  have:vs= []:=C8.1 hl;subst this;exact⟨_,rfl,rfl,h⟩
 |x::xs,vs,a,K',hl,hv,h=>by
  obtain⟨v,vs,rfl⟩:=aft hl;unfold tV at h;split at h
  grind
  ·rename_i k' b r wt;cases wt;split at h
   ·rename_i hk;simp at hk;subst hk;obtain⟨rfl,_⟩:=(hv 0 _ v rfl rfl).am.bB;obtain⟨u,h1,h2,h3⟩:=Ao (vs:=vs) bw (λj x v e1 e2=>hv (j+1) x v bw bw) h
    grind[Builtin.min2,Builtin.max2]
   grind
  grind
theorem Vf {T e:TypeId}(hu:P.underlying T=some (.slice e)){z:Nat}(hs:(sizeOf e).run P w= .ok z w){a:Option Addr}{len cap l h:Nat}{lo hi:Option Value}
  (Xv:(match lo with|none=>l=0|some v=>∃k,v= .int k (l:Int)))(Xh:(match hi with|none=>h=len|some v=>∃k,v= .int k (h:Int)))(h1:l<=h)(h2:h<=len)(h3:len<=cap):
  (Instr.sliceAt T (.slice a len cap) lo hi none).run P w= .ok (.slice (if cap=l then a else a.map (·.add (l*z))) (h -l) (cap -l)) w:=by
 have e1:(Instr.sliceBounds true len cap lo hi none).run P w= .ok (l,h,cap) w:=by
  have hb: ∀(k:IntKind) (n y:Nat) (c:BoundsCode),n<=y->(Instr.sliceBound (.int k (n:Int)) y c).run P w= .ok n w:=aij
  cases lo with
  |none=>
   simp at Xv;subst Xv
   cases hi with
   |none=>simp at Xh;subst Xh;simp[Instr.sliceBounds]
   |some v=>obtain⟨k,rfl⟩:=Xh;simp[Instr.sliceBounds,hb _ _ _ _ (show h<=cap by omega)]
  |some u=>
   obtain⟨k,rfl⟩:=Xv
   cases hi with
   |none=>simp at Xh;subst Xh;simp[Instr.sliceBounds,hb _ _ _ _ h1]
   |some v=>obtain⟨k',rfl⟩:=Xh;simp[Instr.sliceBounds,hb _ _ _ _ (show h<=cap by omega),hb _ _ _ _ h1]
 have e2:(underlying T).run P w= .ok (.slice e) w:=tJ hu w;simp only[Instr.sliceAt,eK,e2,my,Instr.slice,e1,hs];simp
def SC.abP {c:SC}(hv:c.ao=true){l h:Nat}(h2:h<=c.len):(c.sub l h).len =h -l/\(c.sub l h).ao =true:=by cases c<;>simp[SC.ao]at hv<;>simp[SC.sub,SC.len,SC.ao]at* <;>omega
theorem SC.LU {c:SC}(hv:c.ao=true){l h i:Nat}{e:List SC}(he:(c.sub l h).elem i=some e):c.elem (l+i)=some e/\l+i<h:=by
 cases c with
 |ints xs=>
  grind[SC.sub,SC.elem]
 |view es=>
  grind[SC.sub,SC.elem]
 |_=>grind[SC.ao]
theorem dw.sub {mv mr:Mem}{a:Option Addr}{len cap:Nat}{c:SC}(h:dw mv mr (.slice a len cap) c)(hv:c.ao=true){l r z:Nat}(h1:l<=r)(h2:r<=c.len)(hz: ∀i e,c.elem i=some e->e.length=z):
  len=c.len/\dw mv mr (.slice (if cap=l then a else a.map (·.add (l*z))) (r -l) (cap -l)) (c.sub l r):=by
 obtain⟨s1,s2⟩:=SC.abP (l:=l) hv h2;by_cases h0:r -l=0
 ·refine⟨?_,by rw[h0];exact .empty _ _ s2 K0⟩;obtain⟨a',jD,e,_⟩:=h.C5 hv
  grind
 ·cases h with
  |lit hp=>grind[SC.ao]
  |err=>grind
  |num=>grind
  |raw=>grind[SC.ao]
  |any=>grind[SC.ao]
  |empty a cap _ h0'=>omega
  |view b o cap z' f _ fL wV fZ hl hc hr=>
   obtain⟨e0,PW⟩:=SC.ow fL;have:z'=z:=by grind
   subst this;refine⟨rfl,?_⟩;rw[if_neg K0];have s1':(c.sub l r).len =r -l:=s1;rw[<- s1',ya,addr_add];refine .view b (o+l*z') (cap -l) z' (λk=>f (l*z'+k)) s2 K0 wV K0 (λi e he=>hl _ e (SC.LU hv he).1) (λk hk=>?_) (λi e j x he hx=>?_)
   ·rw[Mf];refine hc _ ?_;rw[s1']at hk;have:(l+(r -l))*z'<=c.len*z':=kG _ K0
    grind
   ·have:=hr (l+i) e j x (SC.LU hv he).1 hx
    grind
theorem vi: ∀ {es:List (List SC)} {ns:List Int},wZ es=some ns->ns.length=es.length/\∀(i:Nat) (m:Int),ns[i]? =some m->es[i]? =some [.lit (.int .i64 m)]
 | [],ns,h=>by grind[wZ]
 |e::es,ns,h=>by
  unfold wZ at h;split at h
  grind
  ·rename_i n r wt;cases wt;split at h
   ·rename_i l hl;simp at h;subst h;obtain⟨h1,h2⟩:=vi hl
    grind
   grind
  grind
def Jw {d:Option (Option DV)}{Hv:Nat}{K':Nat->Prop}(h:Gz d Hv K'): ∃n,K' n/\((d=none/\n=Hv)\/∃k,d=some (some (lit (.int k (n:Int))))):=by
 unfold Gz at h;split at h
 grind
 ·rename_i k n;obtain⟨h0,h⟩:=h;exact⟨_,h,.inr ⟨k,by rw[Int.toNat_of_nonneg h0];rfl⟩⟩
 grind
theorem yl {c:SC}{z:Nat}(h:c.Ag z): ∀i e,c.elem i=some e->e.length=z:=by
 intro i e he
 cases c with
 |ints xs=>grind[SC.Ag,SC.elem]
 |view es=>exact h e (jH he)
 |_=>grind[SC.elem]
theorem CB (hG:bH C F)(hR:ad F β N H w){E:EF}{a:Act}(hE:dH F β N H w E a){lo:Option Operand}{n Hv:Nat}
  (h:(lo.map (C.ev E)=none/\n=Hv)\/∃k,lo.map (C.ev E)=some (some (lit (.int k (n:Int))))):
  (match lo.map a.eval with|none=>n=Hv|some v=>∃k,v= .int k (n:Int)):=by
 cases lo with
 |none=>
  grind
 |some x=>
  rcases h with⟨h,_⟩|⟨k,h⟩
  grind
  ·simp at h;have:=mC hG hR hE h;exact⟨k,(ar.am this).bB.1⟩
theorem YE (hC:C.Ok)(hG:bH C F)(hR:ad F β N H w){E:EF}{a:Act}(hE:dH F β N H w E a){T:TypeId}{x:DX}{v0:Value}{lo hi:Option Operand}(hx:ar F β N H w v0 x)
  (h:gm C T x (lo.map (C.ev E)) (hi.map (C.ev E)) H K):
  ∃v,(Instr.sliceAt T v0 (lo.map a.eval) (hi.map a.eval) none).run C.P w= .ok v w/\bk F β N H fid K w v w:=by
 unfold gm at h;split at h
 ·grind
 rename_i i lA;obtain⟨tf,d,z,hT⟩:=hC.get lA;split at h
 ·rename_i e bW;have hd:=dn (hT.b8.trans bW);split at h
  ·grind
  rename_i ie l5;obtain⟨ef,ed,ez,Hx⟩:=hC.get l5;split at h
  ·rename_i c u r eG;split at h
   ·rename_i Hu hv;obtain⟨l,h,hl⟩:=Jw h;obtain⟨hh,h,hh'⟩:=Jw h;obtain⟨⟨h1,h2⟩,hu,h⟩:=h;have bD:=iu eG;obtain⟨ag,cs⟩:=x;simp at Hu;subst Hu;obtain⟨dc,UM,hd0⟩:=hx;simp at UM;subst UM;have hg:ij C H u:=ij.ku (cO eG)
    have il:=iy hR hg.soft (f:=λ_=>v0) (λk d hk=>by
     grind) eG (λp hp=>hg.frozen hp (cO eG p hp)) 0 c rfl
    obtain⟨a0,ahs,rfl,fZ⟩:=il.C5 hv;obtain⟨_,Si⟩:=il.sub hv h1 h2 (yl hu);refine⟨_,Vf (by rw[hT.Jd,hd]) (Hx.iH w) (CB hG hR hE hl) (CB hG hR hE hh') h1 h2 fZ,bk.still hR hg h (co.bg (cM Si))⟩
   grind
  grind
 ·rename_i bW;have hd:=mg (hT.b8.trans bW);split at h
  ·rename_i s;obtain⟨rfl,_⟩:=hx.am.bB;obtain⟨l,h,hl⟩:=Jw h;obtain⟨hh,h,hh'⟩:=Jw h;obtain⟨⟨h1,h2⟩,h⟩:=h;have o1:=CB hG hR hE hl;have o2:=CB hG hR hE hh';refine⟨.string (s.extract l hh),?_,bk.pure hR h (fS rfl)⟩;have hb: ∀(k:IntKind) (n y:Nat) (c:BoundsCode),n<=y->(Instr.sliceBound (.int k (n:Int)) y c).run C.P w= .ok n w:=aij
   have e1:(Instr.sliceBounds false s.size s.size (lo.map a.eval) (hi.map a.eval) none).run C.P w= .ok (l,hh,s.size) w:=by
    cases Xv:lo.map a.eval with
    |none=>
     rw[Xv]at o1;simp at o1;subst o1
     cases Xh:hi.map a.eval with
     |none=>rw[Xh]at o2;simp at o2;subst o2;simp[Instr.sliceBounds]
     |some v=>rw[Xh]at o2;obtain⟨k,rfl⟩:=o2;simp[Instr.sliceBounds,hb _ _ _ _ h2]
    |some u=>
     rw[Xv]at o1;obtain⟨k,rfl⟩:=o1
     cases Xh:hi.map a.eval with
     |none=>rw[Xh]at o2;simp at o2;subst o2;simp[Instr.sliceBounds,hb _ _ _ _ h1]
     |some v=>rw[Xh]at o2;obtain⟨k',rfl⟩:=o2;simp[Instr.sliceBounds,hb _ _ _ _ h2,hb _ _ _ _ h1]
   simp only[Instr.sliceAt,eK,hT.cX,hd,my,Instr.slice];simp[e1]
  grind
 ·rename_i n e bW;have hd:=kv (hT.b8.trans bW);split at h
  ·grind
  rename_i ie l5;obtain⟨ef,ed,ez,Hx⟩:=hC.get l5;split at h
  ·rename_i id off Xv Xh;obtain⟨hn,b,jq,rfl⟩:=hx.am;split at h
   ·rename_i t cs hb;split at h
    ·rename_i l u r eG;split at h
     ·rename_i PJ eA;obtain⟨eA,h1n⟩:=aD eA;obtain⟨hs1,Bf⟩:=aD eA;have hs1:=pj hs1;have Bf:=fM Bf;have h1n:=fM h1n;split at h
      ·rename_i ns Ja;have hg:ij C H ((id,some (.dX l))::u):=ahQ;obtain⟨ag7,hnv⟩:=vi Ja;simp at ag7;have hH:=hg.heap hR;have hid:(Hp.on ((id,some (.dX l))::u) H) id=some (.dX l):=by simp[Hp.on,br]
       obtain⟨_,b',arr,T',q1,q2,q3,q4,q5⟩:=hH.rel id _ hid;rw[jq]at q1;cases q1;have hnn:n=ns.length:=by omega
       have bE:(Instr.sliceAt T (.pointer (some ⟨b,off,none⟩)) none none none).run C.P w= .ok (.slice (some ⟨b,off,none⟩) n n) w:=by
        have Ht: ¬n=0:=by omega
        exact afA
       refine⟨.slice (some ⟨b,off,none⟩) n n,?_,bk.still hR hg h (co.bg (cM ?_))⟩
       ·exact ahU
       ·show dw _ _ _ _;have alH:(SC.ints ns).len =n:=by grind[SC.len]
        have:= @dw.view (MV F β (Hp.on ((id,some (.dX l))::u) H) w) (MR F β (Hp.on ((id,some (.dX l))::u) H) w) (.ints ns) b off n 1 (λk=>arr.getD (off+k) undef) rfl K0 K0 K0 (λi e he=>by
         grind[SC.elem]) (λk hk=>by
         rw[ri q2 (tZ hR hg.soft hid jq (off+k))]
         grind[gb]) (λi e j x he hx=>by
         simp[SC.elem]at he;obtain⟨m,hm,rfl⟩:=he;have hj:j=0:=by grind
         subst hj;simp at hx;subst hx;have hli:=hnv i m hm;simp only[gA,m7]at hli;obtain⟨c,hc,e⟩:=hli;rw[L7]at hc;split at hc
         ·exact aiQ
         grind)
        grind
      grind
     grind
    grind
   ·rename_i l hb;split at h
    ·rename_i PJ eA;obtain⟨eA,h1n⟩:=aD eA;obtain⟨hs1,Bf⟩:=aD eA;have hs1:=pj hs1;have Bf:=fM Bf;have h1n:=fM h1n;split at h
     ·rename_i ns Ja
      have hg:ij C H ([]:Hp):=by
       intro p hp
       grind
      obtain⟨ag7,hnv⟩:=vi Ja;simp at ag7;have hH:=hg.heap hR;have hid:(Hp.on ([]:Hp) H) id=some (.dX l):=by simpa [Hp.on]using hb
      obtain⟨_,b',arr,T',q1,q2,q3,q4,q5⟩:=hH.rel id _ hid;rw[jq]at q1;cases q1;have hnn:n=ns.length:=by omega
      have bE:(Instr.sliceAt T (.pointer (some ⟨b,off,none⟩)) none none none).run C.P w= .ok (.slice (some ⟨b,off,none⟩) n n) w:=by
       have Ht: ¬n=0:=by omega
       exact afA
      refine⟨.slice (some ⟨b,off,none⟩) n n,?_,bk.still hR hg h (co.bg (cM ?_))⟩
      ·exact ahU
      ·show dw _ _ _ _;have alH:(SC.ints ns).len =n:=by grind[SC.len]
       have:= @dw.view (MV F β (Hp.on ([]:Hp) H) w) (MR F β (Hp.on ([]:Hp) H) w) (.ints ns) b off n 1 (λk=>arr.getD (off+k) undef) rfl K0 K0 K0 (λi e he=>by
        grind[SC.elem]) (λk hk=>by
        rw[ri q2 (tZ hR hg.soft hid jq (off+k))]
        grind[gb]) (λi e j x he hx=>by
        simp[SC.elem]at he;obtain⟨m,hm,rfl⟩:=he;have hj:j=0:=by grind
        subst hj;simp at hx;subst hx;have hli:=hnv i m hm;simp only[gA,m7]at hli;obtain⟨c,hc,e⟩:=hli;rw[L7]at hc;split at hc
        ·exact aiQ
        grind)
       grind
     grind
    grind
   grind
  grind
 grind
end
section
variable {C:bS}{F:gG}{β:Nat->Option Nat}{N:Nat->Prop}{H:HF}{fid:Nat}{K:ka}{w w':World}{P:Program}
theorem Dx {z:Nat}: ∀ {parts:List (Nat × Value)} {n:Nat} {arr:Array Value},(∀(k:Nat) (p:Nat × Value),parts[k]? =some p->p.1=n+k/\p.2.cells.size=z)->(n+parts.length)*z<=arr.size->
  ∃arr',Instr.fill (λi=>some (i*z,z)) arr parts=some arr'/\arr'.size=arr.size/\(∀(k:Nat) (p:Nat × Value) (j:Nat),parts[k]? =some p->j<z->arr'[(n+k)*z+j]? =p.2.cells[j]?)/\(∀o,o<n*z->arr'[o]? =arr[o]?)
 | [],n,arr,_,_=>⟨arr,rfl,rfl,by simp,λ_ _=>rfl⟩
 |(i,v)::parts,n,arr,hp,hs=>by
  obtain⟨hi,hv⟩:=hp 0 _ rfl;simp at hi hv;subst hi;have e1:(i+(parts.length+1))*z=i*z+z+parts.length*z:=by grind
  simp only[kH]at hs;rw[e1]at hs;have hlc:v.cells.toList.length=z:=by omega
  have nA:(aO arr (i*z) v.cells.toList).size =arr.size:=fm K0;have e2:(i+1+parts.length)*z=i*z+z+parts.length*z:=by grind
  obtain⟨arr',f1,f2,f3,f4⟩:=Dx (parts:=parts) (n:=i+1) (arr:=aO arr (i*z) v.cells.toList) (λk p hk=>by
   obtain⟨h1,h2⟩:=hp (k+1) p bw
   exact⟨by omega,h2⟩) K0
  have PA:v.cells.zipIdx.foldl (λcs (p:Value × Nat)=>cs.setIfInBounds (i*z+p.2) p.1) arr=aO arr (i*z) v.cells.toList:=by
   have:=An (i*z) v.cells.toList 0 arr K0;exact ajh
  refine⟨arr',?_,by omega,λk p j hk hj=>?_,λo ho=>?_⟩
  ·have g1: ¬(v.cells.size≠z):=by omega
   have g2: ¬(i*z+v.cells.size>arr.size):=by omega
   simp only[Instr.fill,g1,g2,decide_false,Mg,tE,kM]
   grind
  ·cases k with
   |zero=>
    simp at hk;subst hk;have:(i+1)*z=i*z+z:=by grind
    rw[tO,f4 _ K0,gc K0,if_neg K0,if_pos K0];simp
   |succ k=>
    grind
  ·have:(i+1)*z=i*z+z:=by grind
   rw[f4 o K0,gc K0,if_pos ho]
theorem Bs {ks:List Bool}{z:Nat}: ∀ {ps:List (Nat × Option DV)} {n:Nat} {es:List (List SC)} {u:Hp} {r:List Nat},kP H ks z n ps=some (es,u,r)->
  (∀p∈u,mf H p)/\es.length=ps.length/\∀(k:Nat) (e:List SC),es[k]? =some e->∃x ue re,ps[k]? =some (n+k,some (.val x))/\x.2.length=z/\oy e=true/\bO H ks x.2=some (e,ue,re)/\∀q∈ue,q∈u
 | [],n,es,u,r,h=>by grind[kP]
 |p::ps,n,es,u,r,h=>by
  unfold kP at h;split at h
  grind
  ·rename_i n0 i x rest wt;cases wt;split at h
   ·rename_i hb;obtain⟨h1,h2⟩:=aD hb;have h1:=pj h1;have h2:=pj h2;subst h1;split at h
    ·rename_i e u1 r1 eG;split at h
     ·rename_i Xm u2 r2 hf abz;simp at h;obtain⟨rfl,rfl,_⟩:=h;obtain⟨q1,q2,q3⟩:=Bs abz
      grind[cO]
     grind
    grind
   grind
  grind
def YF {k:Bool}{es:List (List SC)}{c:SC}(h:Yv k es=some c):c.ao=true/\c.len=es.length/\∀i e,c.elem i=some e->es[i]? =some e:=by
 unfold Yv at h;split at h
 ·split at h
  ·rename_i l hl;simp at h;subst h;obtain⟨h1,h2⟩:=vi hl;refine⟨rfl,h1,λi e he=>?_⟩
   grind[SC.elem]
  grind
 ·simp at h;subst h;exact⟨rfl,rfl,λi e he=>he⟩
def GH (hC:C.Ok)(hG:bH C F)(hR:ad F β N H w)(hf: ¬N fid){E:EF}{a:Act}(hE:dH F β N H w E a){o:Oper}{T:TypeId}{len:Nat}{parts:Array (Nat × Operand)}(ho:o.op= .buildSlice T len parts)
  (h:fk C fid o (C.ev E) H K): ∃v w',(Instr.buildSlice T len (parts.map λp=>(p.1,a.eval p.2))).run C.P w= .ok v w'/\bk F β N H fid K w v w':=by
 unfold fk at h;rw[ho]at h;simp only at h;obtain⟨hl,hp⟩:=Dw hG hR hE parts;split at h
 ·rename_i i hi;obtain⟨tf,d,z,hT⟩:=hC.get hi;split at h
  ·rename_i e bW;have hd:=dn (hT.b8.trans bW);split at h
   ·rename_i ie l5;obtain⟨ef,ed,ez,Hx⟩:=hC.get l5;split at h
    ·rename_i hb;obtain⟨hb,h3⟩:=aD hb;obtain⟨h1,h2⟩:=aD hb;have h1:=fM h1;have h2:=fM h2;have h3:=pj h3;split at h
     ·rename_i es u r hes;split at h
      ·rename_i c hc;obtain⟨q1,q2,q3⟩:=Bs hes;obtain⟨c1,c2,c3⟩:=YF hc;have bD:es.length=len:=by grind
       have Gy: ∃xM:Array Value,xM.size=len*ie.size/\∀cells,Instr.fill (λi=>some (i*ie.size,ie.size)) xM (parts.map λ(p:Nat × Operand)=>(p.1,a.eval p.2)).toList =some cells->
         (Instr.buildSlice T len (parts.map λ(p:Nat × Operand)=>(p.1,a.eval p.2))).run C.P w= .ok (.slice (some ⟨w.heap.size,0,none⟩) len len) (w.alloc (.cells cells e)):=by
        exact K28
       obtain⟨xM,hs0,bE⟩:=Gy;have pN:(parts.map λ(p:Nat × Operand)=>(p.1,a.eval p.2)).toList.length =len:=by omega
       have Pv: ∀(k:Nat) (p:Nat × Value),(parts.map λ(p:Nat × Operand)=>(p.1,a.eval p.2)).toList[k]? =some p->∃x e ue re,es[k]? =some e/\p.1=k/\x.2.length=ie.size/\ar F β N H w p.2 x/\oy e=true/\bO H ie.kinds x.2=some (e,ue,re)/\∀q∈ue,q∈u:=by
        intro k p hk;have sC:k<es.length:=by grind
        obtain⟨x,ue,re,a1,a2,a3,a4,a5⟩:=q3 k es[k] bw;obtain⟨b1,b2⟩:=hp k p _ hk a1;exact⟨x,es[k],ue,re,by grind,by omega,a2,b2 _ rfl,a3,a4,a5⟩
       obtain⟨arr',f1,f2,f3,f4⟩:=Dx (z:=ie.size) (parts:=(parts.map λ(p:Nat × Operand)=>(p.1,a.eval p.2)).toList) (n:=0) (arr:=xM) (λk p hk=>by
        obtain⟨x,e,ue,re,a1,a2,a3,a4,_⟩:=Pv k p hk
        exact⟨by omega,by rw[a4.cells.1,a3]⟩) bw
       refine⟨.slice (some ⟨w.heap.size,0,none⟩) len len,w.alloc (.cells arr' e),bE _ f1,?_⟩;have hg:ij C H u:=ij.ku q1;refine bk.new (b:=some w.heap.size) (hg.heap hR) hg.soft.tr hf (Below.ot w _) (by simp) h (λH1 xS _ t2=>?_) (λH1 xS=>cM ⟨.inr rfl,rfl,λnQ z' n' hb wV=>?_⟩)
       ·have iG: ∀i e,c.elem i=some e->e.length=ie.size:=by
         grind[iu]
        refine⟨⟨h1,c1,iG⟩,.inr ⟨w.heap.size,len,by simp[cW],gG.gD hR.below.size,arr',e,gK w _,by omega,h1,c1,by omega,iG,λi e j x he hx=>?_⟩⟩;have hei:=c3 i e he;have R8:i< (parts.map λ(p:Nat × Operand)=>(p.1,a.eval p.2)).toList.length :=by grind
        obtain⟨x0,e0,ue,re,a1,a2,a3,a4,a5,a6,a7⟩:=Pv i _ (o8 R8);rw[hei]at a1;cases a1;have hjz:j<ie.size:=by grind
        have:=f3 i _ j (o8 R8) hjz;rw[j9]at this;rw[bP this];have il:=iy hR hg.soft (f:=λk=>((parts.map λ(p:Nat × Operand)=>(p.1,a.eval p.2)).toList[i]).2.cells.getD k undef) (λk d hk=>a4.cells.2 k d hk) a6 (λq hq=>hg.frozen (a7 q hq) (cO a6 q hq)) j x hx;exact(il.flat (lQ a5 j x hx)).mono t2.mv (Mem.le_refl _)
       ·exact aid
      grind
     grind
    grind
   grind
  grind
 grind
end
section
variable {C:bS}{F:gG}{β:Nat->Option Nat}{N:Nat->Prop}{H:HF}{fid:Nat}{K:ka}{w w':World}{P:Program}
def YG {n:Int}(h0: -9223372036854775808<=n)(h1:n<=9223372036854775807):IntKind.i64.wrap n=n:=IntWalk.i64_in n ⟨h0,h1⟩
def wrap_small {n:Int}(h0:0<=n)(h1:n<=4294967296):IntKind.i64.wrap n=n:=YG K0 K0
theorem P9 (k:Bool):(Bm k).flat =true:=by cases k<;>rfl
theorem qj: ∀ {ks:List Bool} {zs:List Value} {cs:List SC},qZ ks (zs.map Cd)=some cs->cs.length=zs.length/\oy cs=true/\∀(mv mr:Mem) (k:Nat) (c:SC),cs[k]? =some c->∃v,zs[k]? =some v/\dw mv mr v c
 |ks,[],cs,h=>by grind[qZ,oy]
 |ks,z::zs,cs,h=>by
  rw[ju]at h
  cases hz:Cd z with
  |nil=>
   rw[hz]at h;simp only[qZ]at h;split at h
   ·rename_i ds hds;simp at h;subst h;obtain⟨h1,h2,h3⟩:=qj hds;have qf:z= .slice none 0 0:=by grind[Cd]
    refine⟨by grind,(show(match(Bm (ks.head?.getD false)).flat with|true=>oy ds|false=>false)=true by grind[P9]),λmv mr k c hk=>?_⟩
    cases k with
    |zero=>
     simp only[UY,lM]at hk;subst hk;refine⟨z,rfl,?_⟩;rw[qf];cases ks.head?.getD false<;>exact .empty _ _ rfl rfl
    |succ k=>simp_all
   grind
  |lit v=>
   rw[hz]at h;simp only[qZ]at h;split at h
   ·rename_i hp;split at h
    ·rename_i ds hds;simp at h;subst h;obtain⟨h1,h2,h3⟩:=qj hds
     have qf:z=v:=by
      unfold Cd at hz
      grind
     refine⟨by grind,by grind[oy,SC.flat],λmv mr k c hk=>?_⟩
     cases k with
     |zero=>simp at hk;subst hk;exact⟨z,rfl,by rw[qf];exact .lit hp⟩
     |succ k=>simp_all
    grind
   grind
theorem Jy (hC:C.Ok)(hR:ad F β N H w)(hf: ¬N fid){T:TypeId}{x y:DX}{v0 v1:Value}(hx:ar F β N H w v0 x)(hy:ar F β N H w v1 y)(h:lP C fid T x y K):
  ∃v w',(Instr.makeSlice T v0 v1).run C.P w= .ok v w'/\bk F β N H fid K w v w':=by
 unfold lP at h;split at h
 ·grind
 rename_i i hi;obtain⟨tf,d,z,hT⟩:=hC.get hi;split at h
 ·rename_i e k1 n k2 m bW;have hd:=dn (hT.b8.trans bW);obtain⟨rfl,_⟩:=hx.am.bB;obtain⟨rfl,_⟩:=hy.am.bB;split at h
  ·grind
  rename_i ie l5;obtain⟨ef,ed,ez,Hx⟩:=hC.get l5;split at h
  ·rename_i hb;obtain⟨hb,hz3⟩:=aD hb;obtain⟨h1,h2⟩:=aD hb;have h1:=fM h1;have h2:=fM h2;have hz3:=pj hz3;obtain⟨⟨g0,g1,g2⟩,h⟩:=h;have g3:m<=4294967296:=g2;have hzl:ez.cells.size=ie.size:=by rw[<- hz3,<- Hx.xT];simp
   have am1: ¬((ie.bytes:Int)*m>2^48):=by
    have e:(2:Int)^48=281474976710656:=by decide
    rw[e];have:(ie.bytes:Int)*m<=4096*4294967296:=Dk K0 g3 K0 K0;omega
   have ahj:ef.bytes=ie.bytes:=Hx.bytes
   have bE: ∃arr:Array Value,arr.size=m.toNat*ie.size/\(∀o,o<arr.size->arr[o]? =ez.cells[o%ie.size]?)/\(Instr.makeSlice T (.int k1 n) (.int k2 m)).run C.P w= .ok (.slice (some ⟨w.heap.size,0,none⟩) n.toNat m.toNat) (w.alloc (.cells arr e)):=by
    refine⟨(Array.range (m.toNat*ie.size)).map (λx=>(if m.toNat*ie.size=0 then #[]else ez.cells)[x%(if m.toNat*ie.size=0 then #[]else ez.cells).size]!),by simp,λo ho=>?_,?_⟩
    ·simp at ho;have gk: ¬(m.toNat*ie.size=0):=by omega
     have Pt:o%ie.size<ie.size:=tQ _ K0
     grind
    ·have e1:IntKind.i64.wrap n=n:=wrap_small g0 K0;have e2:IntKind.i64.wrap m=m:=wrap_small K0 g3;have c1: ¬m<0:=by omega
     have c2: ¬n<0:=by omega
     have c3: ¬n>m:=by omega
     simp only[Instr.makeSlice,eK,hT.cX,hd,my,asInt,asIntOf,lN,Hx.XF,ahj,e1,e2,c1,c2,c3,am1,decide_false,Mg,S9,tE,kM,run_askRoom,Hx.iH];by_cases h0:m.toNat*ie.size=0
     ·simp[h0,newRow]
     ·simp[h0,Hx.tw,newRow]
   obtain⟨arr,a1,a2,bE⟩:=bE
   have key: ∀(c:SC) (el:List SC),c.ao=true->c.len=n.toNat->(∀i e,c.elem i=some e->e=el)->el.length=ie.size->(∀(mv mr:Mem) (k:Nat) (x:SC),el[k]? =some x->∃v,ez.cells[k]? =some v/\dw mv mr v x)->
     K (bh (.own fid)) [(fid,some (.row true ie.size c))] []->bk F β N H fid K w (.slice (some ⟨w.heap.size,0,none⟩) n.toNat m.toNat) (w.alloc (.cells arr e)):=by
    intro c el cv cl ce cel cz hK;refine bk.new (u:=[]) (b:=some w.heap.size) hR Tr.refl hf (Below.ot w _) (by simp) hK (λH1 xS _ t2=>?_) (λH1 xS=>cM ⟨.inr rfl,rfl,λnQ z' n' hb wV=>?_⟩)
    ·have iG: ∀i e,c.elem i=some e->e.length=ie.size:=λi e he=>by grind
     refine⟨⟨h1,cv,iG⟩,.inr ⟨w.heap.size,m.toNat,by simp[cW],gG.gD hR.below.size,arr,e,gK w _,a1,h1,cv,by omega,iG,λi e' j x he hx=>?_⟩⟩;have:=ce i e' he;subst this;have hj:j<ie.size:=by grind
     obtain⟨v,v1,v2⟩:=cz (MV F (cW β fid (some w.heap.size)) H1 (w.alloc (.cells arr e))) eU j x hx;have lA:i<n.toNat:=by rw[<- cl];exact SC.ip he
     have al:i*ie.size+j<arr.size:=by
      rw[a1];have:(i+1)*ie.size<=m.toNat*ie.size:=kG _ K0
      grind
     grind[Nat.mul_comm,Nat.mul_add_mod,Nat.mod_eq_of_lt,mi]
    ·subst xS;rw[an]at hb;cases hb;cases wV;exact .inr ⟨w.heap.size,m.toNat,arr,e,by simp[cW],by rw[cl],gK w _,a1⟩
   refine⟨_,_,bE,?_⟩;split at h
   ·split at h
    ·rename_i Gy;have hzc:=Hx.xT;rw[Gy]at hzc
     have l7:ez.cells= #[.int .i64 0]:=by
      apply HJ
      cases hl:ez.cells.toList with
      |nil=>grind
      |cons v t=>
       rw[hl]at hzc;simp at hzc;obtain⟨hv,rfl⟩:=hzc;unfold Cd at hv
       grind
     refine key _ [.lit (.int .i64 0)] rfl Ys (λi e he=>?_) bw (λmv mr k x hk=>?_) h
     grind[SC.elem]
     ·exact aiD
    grind
   ·split at h
    ·rename_i zs hzs;rw[<- Hx.xT]at hzs;obtain⟨b1,b2,b3⟩:=qj hzs
     refine key _ zs rfl Ys (λi e he=>?_) bw (λmv mr k x hk=>by
      simp_all) h
     grind[SC.elem]
    grind
  grind
 grind
end
section
variable {C:bS}{F:gG}{β:Nat->Option Nat}{N:Nat->Prop}{H:HF}{fid:Nat}{K:ka}{w w':World}{P:Program}
def ym (_hG:bH C F)(hR:ad F β N H w){b o:Nat}{v:Value}(h:MV F β H w b o=some v):rd w b o=some v:=by
 unfold MV at h;split at h
 grind
 ·exact(hR.tD b o v h).1
def HQ {mv:Mem}{c:SC}{z:Nat}{new:Array Value}(hz:0<z)(hs:new.size=c.len*z)(hl: ∀i e,c.elem i=some e->e.length=z)
  (hr: ∀(i:Nat) (e:List SC) (j:Nat) (x:SC),c.elem i=some e->e[j]? =some x->dw mv eU (new.getD (i*z+j) undef) x): ∀u∈new.toList,u.oneCell'=true:=by
 intro u hu;obtain⟨k,hk⟩:=UZ.1 hu;have qU:new[k]? =some u:=by grind
 have al:k<new.size:=(GB.1 qU).1;have hi:k/z<c.len:=by rw[XY hz];omega
 obtain⟨e,he⟩:=SC.ow hi;have hj:k%z<e.length:=by rw[hl _ e he];exact tQ _ hz
 have:=hr _ e (k%z) e[k%z] he bw
 grind[Nat.div_add_mod,mi,Ti]
theorem gd (hG:bH C F)(hR:ad F β N H w){d:DC}{v:Value}{k:Bool}{c:SC}{u:Hp}{r:List Nat}{z:Nat}(hd:cw F β N H w v d)(hs:bz H k d=some (c,u,r))(hv:c.ao=true)(hz:0<z)
  (hl: ∀i e,c.elem i=some e->e.length=z): ∃(a:Option Addr) (cap:Nat) (new:Array Value),v= .slice a c.len cap/\(Builtin.firstCells z c.len v).run P w= .ok new w/\new.size=c.len*z/\c.len<=cap/\
   ∀(i:Nat) (e:List SC) (j:Nat) (x:SC),c.elem i=some e->e[j]? =some x->dw (MV F β H w) eU (new.getD (i*z+j) undef) x:=by
 have ahh:c.len=0->∀(a:Option Addr) (cap:Nat),v= .slice a 0 cap->∃(a:Option Addr) (cap:Nat) (new:Array Value),v= .slice a c.len cap/\(Builtin.firstCells z c.len v).run P w= .ok new w/\new.size=c.len*z/\c.len<=cap/\
   ∀(i:Nat) (e:List SC) (j:Nat) (x:SC),c.elem i=some e->e[j]? =some x->dw (MV F β H w) eU (new.getD (i*z+j) undef) x:=by
  rintro h0 a cap rfl;refine⟨a,cap,#[],by rw[h0],?_,by grind,by omega,λi e j x he _=>?_⟩
  ·cases a<;>simp[Builtin.firstCells,h0,loadCells,loadCellsFrom]
  ·exact ace
 cases d with
 |st c'=>
  simp[bz]at hs;obtain⟨rfl,_,_⟩:=hs;have hd:dw _ _ _ _:=hd
  cases hd with
  |lit=>grind[SC.ao]
  |empty a cap _ h0=>grind
  |view b o cap z' f _ fL wV fZ sP hc hr=>
   obtain⟨e0,PW⟩:=SC.ow fL;have:z'=z:=by grind
   subst this;refine⟨_,cap,((List.range (c'.len*z')).map f).toArray,rfl,?_,by simp,fZ,λi e j x he hx=>?_⟩
   ·exact S5 w _ _ f (λj hj=>by rw[addr_add];exact ym hG hR (hc j hj))
   ·exact ahV
  |ref=>grind[SC.ao]
  |err=>grind[SC.ao]
  |num=>grind[SC.ao]
  |raw=>grind[SC.ao]
  |any=>grind[SC.ao]
  |fn=>grind[SC.ao]
 |nil=>
  simp[bz]at hs;obtain⟨rfl,_,_⟩:=hs;have:v= .slice none 0 0:=hd;exact ahh Yq none 0 this
 |own id=>
  simp only[bz]at hs;split at hs
  ·rename_i m z' c' e;simp at hs;obtain⟨rfl,_,_⟩:=hs;obtain⟨_,⟨wV,_,sP⟩,hb⟩:=hR.rel id _ e
   rcases hd.2.2 _ z' c'.len e rfl with⟨_,h0,h1⟩|⟨b,cap,arr,T,h1,h2,h3,h4⟩
   grind
   ·by_cases h0:c'.len=0
    ·grind
    rcases hb with⟨q,_⟩|⟨b',jD,q1,q2,arr',T',q3,q4,q5,q6,q7,q8,q9⟩
    ·omega
    rw[h1]at q1;cases q1;rw[h3]at q3;cases q3;obtain⟨e0,PW⟩:=SC.ow (show 0<c'.len by omega);have:z'=z:=by grind
    subst this;have eA:c'.len*z'<=arr.size:=by rw[q4];exact kG _ q7
    have fZ:cap=jD:=UV wV K0;subst fZ;subst h2;refine⟨_,cap,((List.range (c'.len*z')).map λk=>arr.getD k undef).toArray,rfl,?_,by simp,q7,λi e j x he hx=>?_⟩
    ·exact S5 w _ _ _ (λj hj=>by rw[addr_add,j9];exact gb h3 K0)
    ·exact ahV
  grind[SC.ao]
  grind
 |ptr id off=>grind[bz]
 |cK id z i off=>grind[bz]
 |sS g id=>grind[bz]
 |mp id=>grind[bz]
def SC.Af {c d r:SC}(h:c.cat d=some r):c.ao=true/\d.ao=true/\r.ao=true/\r.len=c.len+d.len/\∀i e,r.elem i=some e->(i<c.len->c.elem i=some e)/\(¬i<c.len->d.elem (i -c.len)=some e):=by
 unfold SC.cat at h;split at h
 ·exact ahY
 ·exact ahY
 grind
def gq {T T' ty e:TypeId}{tf:TypeInfo}{e':TypeId}{z bytes:Nat}{zv:Value}(hT:P.underlying T=some (.slice e))(eP:P.underlying T'=some (.slice e'))(hE:P.info? e=some tf)(hz:tf.size=z)(hb:tf.bytes=bytes)(hzv:tf.zero=some zv)
  {base a:Option Addr}{sLen sCap n PC:Nat}{new old:Array Value}(hby:bytes<=4096)(Gk:sLen+n<=4294967296):
  (sLen+n<=sCap->(Builtin.firstCells z n (.slice a n PC)).run P w= .ok new w->∀w',(match base with|some a=>storeCells (a.add (sLen*z)) new.toList|none=>pure ()).run P w= .ok () w'->
   (Builtin.append_ #[T,T'] ty #[.slice base sLen sCap,.slice a n PC]).run P w= .ok (.slice base (sLen+n) sCap) w')/\
  (¬sLen+n<=sCap->(Builtin.firstCells z sLen (.slice base sLen sCap)).run P w.drew= .ok old w.drew->(Builtin.firstCells z n (.slice a n PC)).run P w.drew= .ok new w.drew->
   ∃dL rest,sLen+n<=dL/\rest.size=(dL -(sLen+n))*zv.cells.size/\(Builtin.append_ #[T,T'] ty #[.slice base sLen sCap,.slice a n PC]).run P w=
    .ok (.slice (some ⟨w.heap.size,0,none⟩) (sLen+n) dL) (w.drew.alloc (.cells (old++new++rest) e))):=by
 have Pq: ∀(h:sCap<sLen+n),¬(Builtin.nextslicecap (sLen+n) sCap*bytes>2^48):=by
  intro h;have e:(2:Nat)^48=281474976710656:=by decide
  have:(sLen+n)*bytes<=4294967296*4096:=Yi Gk hby;have:=growslice_fits h (bytes:=bytes) K0;omega
 have ahb: ¬(((sLen+n:Nat):Int)>IntKind.i64.max):=by grind[IntKind.max_i64]
 constructor
 ·intro nB np w' eG;simp only[Builtin.append_];simp only[L0,UY,Sw,eK,tJ hT,my,tJ eP,sizeOf,typeInfo,Bh,hE,hz,lN,tE,kM,Builtin.lenOf,nB,if_true,Bool.not_false,np];exact ajK
 ·intro nB xK alW;obtain⟨k,hk⟩: ∃k,Question.cut (.appendCap (sLen+n) sCap e) (w.tape w.drawn (.appendCap (sLen+n) sCap e))=sLen+n+k:=⟨_,rfl⟩;refine⟨sLen+n+k,Builtin.zeroCells zv.cells (sLen+n+k -(sLen+n)),by omega,by simp[Builtin.zeroCells],?_⟩;have hq:(choose (.appendCap (sLen+n) sCap e)).run P w= .ok (sLen+n+k) w.drew:=ai0;have hzr:(zeroValue e).run P w.drew= .ok zv w.drew:=by simp[zeroValue,typeInfo,hE,hzv]
  simp only[Builtin.append_]
  simp only[L0,UY,Sw,eK,tJ hT,my,tJ eP,sizeOf,typeInfo,Bh,hE,hz,lN,tE,kM,Builtin.lenOf,nB,
   ahb,false_and,hb,Pq K0,hq,run_askRoom,xK,alW,Bool.not_false,if_true,hzr]
  simp[newRow];first|done|rfl
def Tr.del (id:Nat):Tr F β N H w β N (br H id none) w where
 below:=jv.refl _ _
 mem:=λb o v _ hs e=>⟨λiQ bC e' hb=>by
  by_cases h:iQ=id
  grind[an]
  ·rw[aG _ _ _ h]at e';exact hs iQ bC e' hb,e⟩
 used:=λ_ h=>h
 kJ:=λ_ _=>rfl
 keep:=λiQ bC _ e=>by
  by_cases h:iQ=id
  grind[an]
  ·rw[aG _ _ _ h]at e;exact⟨bC,e,bC.fU⟩
 size:=λ_ _ _ _ arr _ _ _ _ _ _ h=>⟨arr,h,rfl⟩
 av:=λ_ _ h=>h
def ad.del (hR:ad F β N H w)(id:Nat):ad F β N (br H id none) w:=by
 have live: ∀ {k:Nat} {b0:cC},br H id none k=some b0->H k=some b0:=by grind[an,aG]
 exact hR.step (Tr.del id) (λ_=>False) (λi bC _ e=>⟨live e,(hR.rel i bC (live e)).1,λ_ _=>rfl⟩) (λ_ _ h=>h.elim) (λi j b x y hi hj=>hR.inj i j b x y (live hi) (live hj))
structure Dy (mv:Mem) (z:Nat) (c:SC) (arr:Array Value):Prop where
 size:arr.size=c.len*z
 Ag: ∀i e,c.elem i=some e->e.length=z
 rep: ∀(i:Nat) (e:List SC) (j:Nat) (x:SC),c.elem i=some e->e[j]? =some x->dw mv eU (arr.getD (i*z+j) undef) x
def Dy.cat {mv:Mem}{z:Nat}{c d r:SC}{a b rest:Array Value}(hc:Dy mv z c a)(hd:Dy mv z d b)(h:c.cat d=some r):
  (∀i e,r.elem i=some e->e.length=z)/\∀(i:Nat) (e:List SC) (j:Nat) (x:SC),r.elem i=some e->e[j]? =some x->dw mv eU ((a++b++rest).getD (i*z+j) undef) x:=by
 obtain⟨_,_,_,bD,iG⟩:=SC.Af h
 have u9: ∀i e,r.elem i=some e->e.length=z:=by
  intro i e he;obtain⟨h1,h2⟩:=iG i e he;by_cases hi:i<c.len
  ·exact hc.Ag i e (h1 hi)
  ·exact hd.Ag _ e (h2 hi)
 refine⟨u9,λi e j x he hx=>?_⟩;obtain⟨h1,h2⟩:=iG i e he;have hj:j<z:=by grind
 by_cases hi:i<c.len
 ·have al:i*z+j<a.size:=by
   rw[hc.size];have:(i+1)*z<=c.len*z:=kG _ hi
   grind
  rw[bP (b:=a) (l:=i*z+j) bw];exact hc.rep i e j x (h1 hi) hx
 ·have hi2:=SC.ip (h2 hi);have e1:(i -c.len)*z+c.len*z=i*z:=by exact aci
  have al:(i -c.len)*z+j<b.size:=by
   rw[hd.size];have:(i -c.len+1)*z<=d.len*z:=kG _ hi2
   grind
  rw[bP (b:=b) (l:=(i -c.len)*z+j) (by
   rw[XK aj5,XQ (by rw[hc.size];omega),hc.size]
   grind)]
  exact hd.rep _ e j x (h2 hi) hx
def Ap (hR:ad F β N H w)(hf: ¬N fid){z:Nat}{c d r:SC}{a b rest:Array Value}{e:TypeId}{dL:Nat}{m:Bool}{H0:HF}{u:Hp}{R:List Nat}(hz:0<z)(hc:Dy (MV F β H w.drew) z c a)(hd:Dy (MV F β H w.drew) z d b)(h:c.cat d=some r)
  (fZ:r.len<=dL)(PD:rest.size=(dL -r.len)*z)(h0: ∀H1,H1=u.on H->H1=br H0 fid (some (.row m z r)))(ht:Tr F β N H w.drew β N H0 w.drew)(UK:ad F β N H0 w.drew)
  (hK:K (bh (.own fid)) u R):bk F β N H fid K w (.slice (some ⟨w.heap.size,0,none⟩) r.len dL) (w.drew.alloc (.cells (a++b++rest) e)):=by
 obtain⟨_,_,hv,bD,_⟩:=SC.Af h;obtain⟨u9,il⟩:=Dy.cat (rest:=rest) hc hd h;have C2:Below w.heap.size w w.drew:=(Below.refl _ _).drew;have td:Tr F β N H w β N H w.drew:=Tr.grow hR C2;have tv:Below w.drew.heap.size w.drew (w.drew.alloc (.cells (a++b++rest) e)):=Below.ot _ _;have jq: ∀x,some w.heap.size=some x->w.drew.heap.size<=x:=λx hx=>by simp_all
 have t2:=Tr.new (w':=w.drew.alloc (.cells (a++b++rest) e)) UK tv hf (some w.heap.size) jq (.row m z r)
 have I7:(a++b++rest).size =dL*z:=by
  have e1:dL*z=(dL -r.len)*z+r.len*z:=by exact aci
  exact ajv
 have tm:(w.drew.alloc (.cells (a++b++rest) e)).heap[w.heap.size]? =some (.cells (a++b++rest) e):=gK w.drew _
 have abL:ir F (cW β fid (some w.heap.size)) (Fw.bg N fid) (br H0 fid (some (.row m z r))) (w.drew.alloc (.cells (a++b++rest) e)) fid (.row m z r):=
  ⟨⟨hz,hv,u9⟩,.inr ⟨w.heap.size,dL,by simp[cW],gG.gD hR.below.size,_,e,tm,I7,hz,hv,fZ,u9,λi e' j x he hx=>(il i e' j x he hx).mono (ht.trans t2).mv (Mem.le_refl _)⟩⟩
 have hH:=ad.new UK tv hf (some w.heap.size) jq (.row m z r) abL;exact K73
end
section
variable {C:bS}{F:gG}{β:Nat->Option Nat}{N:Nat->Prop}{H:HF}{fid:Nat}{K:ka}{w w':World}{P:Program}
def HR (hR:ad F β N H w)(hf: ¬N fid){z id b cap:Nat}{c d r:SC}{arr new:Array Value}{T:TypeId}{m:Bool}{R:List Nat}(hb:H id=some (.row m z c))(xL:β id=some b)(lF:w.heap[b]? =some (.cells arr T))
  (nA:arr.size=cap*z)(hd:Dy (MV F β H w) z d new)(h:c.cat d=some r)(eA:c.len+d.len<=cap)
  (hK:K (bh (.own fid)) [(fid,some (.row m z r)),(id,none)] R):bk F β N H fid K w (.slice (some ⟨b,0,none⟩) r.len cap) (w.setRow b (aO arr (c.len*z) new.toList)):=by
 obtain⟨_,_,hv,bD,_⟩:=SC.Af h;obtain⟨hn,⟨hz,hv0,qe⟩,gC⟩:=hR.rel id _ hb
 rcases gC with⟨q,_⟩|⟨b',jD,q1,q2,arr',T',q3,q4,q5,q6,q7,q8,q9⟩
 ·grind
 rw[xL]at q1;cases q1;rw[lF]at q3;cases q3;have fZ:cap=jD:=UV hz K0;subst fZ;have Bf:new.toList.length=d.len*z:=by simpa using hd.size
 have Pq:c.len*z+d.len*z<=arr.size:=ajz;have Pn:(aO arr (c.len*z) new.toList).size =arr.size:=fm K0;have Xl:id≠fid:=λe=>hf (e▸hn);have tm:(w.setRow b (aO arr (c.len*z) new.toList)).heap[b]? =some (.cells (aO arr (c.len*z) new.toList) T):=yd w b arr _ T (0,0) lF;have live: ∀ {k:Nat} {b0:cC},k≠fid->br (br H id none) fid (some (.row m z r)) k=some b0->k≠id/\H k=some b0:=by grind[aG,an]
 have hT:Tr F β N H w (cW β fid (some b)) (Fw.bg N fid) (br (br H id none) fid (some (.row m z r))) (w.setRow b (aO arr (c.len*z) new.toList)):=by
  refine⟨jv.setRow (hR.fY hb xL).2 _,λb' o v _ hs e=>⟨λiQ bC e' jW=>?_,?_⟩,λ_ h=>.inl h,λiQ LG=>it _ _ _ λe=>hf (e▸LG),λiQ blk' LG e=>?_,λ_ _ _ b' xM T0 _ _ _ _ _ e=>?_,mh ⟨_,_,lF⟩ _⟩
  ·by_cases hk:iQ=fid
   ·subst hk;rw[an]at e';cases e';rw[jw]at jW;cases jW;obtain⟨h1,h2⟩:=hs id _ hb xL;have:c.len*z<=r.len*z:=kG _ K0;exact⟨h1,by omega⟩
   ·exact afJ
  ·by_cases hk:b'=b
   ·subst hk;obtain⟨_,h2⟩:=hs id _ hb xL;have hg:=gc (arr:=arr) (off:=c.len*z) (vs:=new.toList) K0 o;rw[if_pos h2]at hg
    grind[rd,World.cell?]
   exact ach
  ·exact afz
  grind[setRow_other]
 have hc:Dy (MV F β H w) z c (arr.extract 0 (c.len*z)):=by
  refine⟨by grind,qe,λi e j x he hx=>?_⟩;have hj:j<z:=by grind
  have al:i*z+j<c.len*z:=by
   have:(i+1)*z<=c.len*z:=kG _ (SC.ip he)
   grind
  grind[bP]
 obtain⟨u9,il⟩:=Dy.cat (rest:=arr.extract (c.len*z+d.len*z) arr.size) hc hd h
 have am4:aO arr (c.len*z) new.toList=arr.extract 0 (c.len*z)++new++arr.extract (c.len*z+d.len*z) arr.size:=by
  apply HJ;have e1:arr.size=arr.toList.length:=by simp
  simp only[aO,Array.toList_append,Array.toList_extract,Bf,e1]
  grind[List.take_of_length_le]
 have hH:ad F (cW β fid (some b)) (Fw.bg N fid) (br (br H id none) fid (some (.row m z r))) (w.setRow b (aO arr (c.len*z) new.toList)):=by
  refine hR.step hT (λi=>i=fid) (λi bC hi e=>?_) (λi bC hi e=>?_) (λi j x y y' hi hj bi bj=>?_)
  ·exact K65
  ·subst hi;rw[an]at e;cases e;refine⟨.inr rfl,⟨hz,hv,u9⟩,.inr ⟨b,cap,by simp[cW],q2,_,T,tm,by omega,hz,hv,by omega,u9,λi e' j x he hx=>?_⟩⟩;have:=(il i e' j x he hx).mono hT.mv (Mem.le_refl _)
   grind
  ·exact K18
 refine⟨_,_,_,R,hK,hT,hH,cM ⟨.inr rfl,rfl,λnQ z' n' jW wV=>?_⟩⟩;have:br (br H id none) fid (some (.row m z r)) fid=some nQ:=jW;exact afw
def Dz (hf: ¬N fid){z:Nat}{r:SC}{m:Bool}{H0:HF}{u:Hp}{R:List Nat}(hz:0<z)(hv:r.ao=true)(h0:r.len=0)(hu: ∀i e,r.elem i=some e->e.length=z)
  (hH0: ∀H1,H1=u.on H->H1=br H0 fid (some (.row m z r)))(ht:Tr F β N H w β N H0 w)(UK:ad F β N H0 w)(hK:K (bh (.own fid)) u R):bk F β N H fid K w (.slice none 0 0) w:=by
 have hw:Below w.heap.size w w:=Below.refl _ _;have t2:=Tr.new UK hw hf none (by simp) (.row m z r);have hH:=ad.new UK hw hf none (by simp) (.row m z r) ⟨⟨hz,hv,hu⟩,.inl ⟨by simp[cW],h0⟩⟩;have hu1:=hH0 _ rfl;refine⟨cW β fid none,_,u,R,hK,by rw[hu1];exact ht.trans t2,by grind,?_⟩;rw[hu1];refine cM ⟨.inr rfl,rfl,λnQ z' n' hb wV=>?_⟩;exact aiY
def Vg (hC:C.Ok)(hG:bH C F)(hR:ad F β N H w)(hf: ¬N fid){T T' ty:TypeId}{i':TI}{e':TypeId}{x y:DX}{v0 v1:Value}(lA:C.ti T'=some i')(Hq:i'.b8= .slice e')
  (hx:ar F β N H w v0 x)(hy:ar F β N H w v1 y)(h:rg C fid T x y H K):
  ∃v w',(Builtin.append_ #[T,T'] ty #[v0,v1]).run C.P w= .ok v w'/\bk F β N H fid K w v w':=by
 obtain⟨tf',d',zv',eP⟩:=hC.get lA;have xG:=dn (eP.b8.trans Hq);have PK:C.P.underlying T'=some (.slice e'):=by rw[eP.Jd,xG]
 unfold rg at h;split at h
 ·grind
 rename_i i hi;obtain⟨tf,d,zv,hT⟩:=hC.get hi;split at h
 ·rename_i e yc bW;have hd:=dn (hT.b8.trans bW);have hu:C.P.underlying T=some (.slice e):=by rw[hT.Jd,hd]
  split at h
  ·grind
  rename_i ie l5;obtain⟨ef,ed,ez,hE⟩:=hC.get l5;split at h
  ·grind
  rename_i hb;obtain⟨hb,hzl⟩:=aD hb;obtain⟨h1,h2⟩:=aD hb;have hzl:=pj hzl;have hzc:ez.cells.size=ie.size:=by exact af0
  have h1:=fM h1;have h2:=fM h2;split at h
  ·grind
  rename_i cy uy ry eG;have hyd:=hy.am;have C2:Below w.heap.size w w.drew:=(Below.refl _ _).drew;have td:Tr F β N H w β N H w.drew:=Tr.grow hR C2;have Pm:ad F β N H w.drew:=hR.grow C2;have abO:=td.jr hR hyd;split at h
  ·
   have Ct:v0= .slice none 0 0:=hx.am;subst Ct;split at h
   ·rename_i c' z8;obtain⟨hun,Gk,h⟩:=h;obtain⟨_,hvy,PT,bD,iG⟩:=SC.Af z8;have qe:(Bm (C.kK e)).len =0:=by cases C.kK e<;>rfl
    have PU: ∀i e,cy.elem i=some e->e.length=ie.size:=by
     intro i el he;refine yl hun i el ?_;unfold SC.cat at z8
     grind[SC.elem]
    by_cases Ht:cy.len=0
    ·obtain⟨a,cap,new,rfl,np,Ja,Xo,il⟩:=gd hG hR (z:=ie.size) hyd eG hvy h1 PU;have bE:=(gq (P:=C.P) (w:=w) (ty:=ty) (base:=none) (sLen:=0) (sCap:=0) (old:= #[]) hu PK hE.ou hE.size hE.bytes hE.zero h2 (show 0+cy.len<=4294967296 by omega)).1 K0 np w rfl;rw[Ht]at bE;refine⟨_,w,by rw[Ht];exact bE,?_⟩;exact Dz (u:=[(fid,some (.row true ie.size c'))]) hf h1 PT K0 (yl hun) (λ_ h=>h) Tr.refl hR h
    ·obtain⟨a,cap,new,rfl,np,Ja,Xo,il⟩:=gd hG Pm (z:=ie.size) abO eG hvy h1 PU
     obtain⟨dL,rest,g1,g2,bE⟩:=(gq (P:=C.P) (w:=w) (ty:=ty) (base:=none) (sLen:=0) (sCap:=0) (old:= #[]) hu PK hE.ou hE.size hE.bytes hE.zero h2 (show 0+cy.len<=4294967296 by
      have:c'.len<=4294967296:=Gk
      omega)).2 K0 aj6 np
     have anq:0+cy.len=c'.len:=by omega
     rw[anq]at bE g1 g2;refine⟨_,_,bE,?_⟩;refine Ap (u:=[(fid,some (.row true ie.size c'))]) (c:=Bm (C.kK e)) (d:=cy) (a:= #[]) (b:=new) hR hf h1 ⟨by grind,λi e he=>?_,λi e j x he _=>?_⟩ ⟨Ja,PU,il⟩ z8 K0 ?_ (λ_ h=>h) Tr.refl Pm h
     grind[SC.ip]
     grind[SC.ip]
     grind
   grind
  ·rename_i id;split at h
   ·rename_i m z c hbk;split at h
    ·rename_i c' qf z8;have qf:=pj qf;subst qf;obtain⟨hun,Gk,h⟩:=h;obtain⟨hvc,hvy,PT,bD,iG⟩:=SC.Af z8;have PU:=yl hun;obtain⟨hn,h1c,jo⟩:=hx.am;have hxd:cw F β N H w v0 (.own id):=hx.am;obtain⟨_,⟨hz,_,qe⟩,gC⟩:=hR.rel id _ hbk;obtain⟨us,ahv⟩: ∃us,bz H false (.own id)=some (c,us,[id]):=by simp[bz,hbk]
     have abH:(∀i e,c'.elem i=some e->e.length=ie.size):=by grind
     have PG:c.len+cy.len<=4294967296:=by
      have:c'.len<=4294967296:=Gk;omega
     have afp: ∀(base:Option Addr) (cap:Nat),v0= .slice base c.len cap->¬c.len+cy.len<=cap->∃v w',(Builtin.append_ #[T,T'] ty #[v0,v1]).run C.P w= .ok v w'/\bk F β N H fid K w v w':=by
      rintro base cap rfl hgt;obtain⟨a,PC,new,rfl,np,Ja,Xo,il⟩:=gd hG Pm (z:=ie.size) abO eG hvy h1 PU;obtain⟨a0,ahs,old,e0,xK,hos,ami,abB⟩:=gd hG Pm (z:=ie.size) (td.jr hR hxd) ahv hvc h1 qe;cases e0;obtain⟨dL,rest,g1,g2,bE⟩:=(gq (P:=C.P) (w:=w) (ty:=ty) (base:=base) (sLen:=c.len) (sCap:=cap) hu PK hE.ou hE.size hE.bytes hE.zero h2 PG).2 hgt xK np;rw[<- bD]at bE g1 g2;refine⟨_,_,bE,?_⟩;refine Ap (u:=[(fid,some (.row m ie.size c')),(id,none)]) (H0:=br H id none) hR hf h1 ⟨hos,qe,abB⟩ ⟨Ja,PU,il⟩ z8 g1 ?_ (λ_ h=>h) (Tr.del id) (Pm.del id) h
      grind
     rcases jo _ ie.size c.len hbk rfl with⟨b1,b2,rfl⟩|⟨b,cap,arr,T0,b1,rfl,b3,b4⟩
     ·by_cases Ht:cy.len=0
      ·obtain⟨a,cap,new,rfl,np,Ja,Xo,il⟩:=gd hG hR (z:=ie.size) hyd eG hvy h1 PU;have bE:=(gq (P:=C.P) (w:=w) (ty:=ty) (base:=none) (sLen:=0) (sCap:=0) (old:= #[]) hu PK hE.ou hE.size hE.bytes hE.zero h2 (show 0+cy.len<=4294967296 by omega)).1 K0 np w rfl;rw[Ht]at bE;refine⟨_,w,by rw[Ht];exact bE,?_⟩;exact Dz (u:=[(fid,some (.row m ie.size c')),(id,none)]) (H0:=br H id none) hf h1 PT K0 abH (λ_ h=>h) (Tr.del id) (hR.del id) h
      grind
     ·by_cases nB:c.len+cy.len<=cap
      ·obtain⟨a,PC,new,rfl,np,Ja,Xo,il⟩:=gd hG hR (z:=ie.size) hyd eG hvy h1 PU;have tk:=HQ h1 Ja PU il
       have Pq:c.len*ie.size+new.toList.length<=arr.size:=by
        have:new.toList.length=cy.len*ie.size:=by omega
        exact ajm
       have alN:=SH C.P b (c.len*ie.size) T0 new.toList 0 arr w b3 K0 tk
       have bE:=(gq (P:=C.P) (w:=w) (ty:=ty) (base:=some ⟨b,0,none⟩) (sLen:=c.len) (sCap:=cap) (old:= #[]) hu PK hE.ou hE.size hE.bytes hE.zero h2 PG).1 nB np (w.setRow b (aO arr (c.len*ie.size) new.toList)) (by
        simp only[addr_add,j9]
        grind[aO])
       rw[<- bD]at bE;exact⟨_,_,bE,HR hR hf hbk b1 b3 b4 ⟨Ja,PU,il⟩ z8 nB h⟩
      grind
    grind
   grind
  grind
 grind
def uh {T T' ty e:TypeId}{tf:TypeInfo}{kq kn:IntKind}{z bytes:Nat}{zv:Value}(hT:P.underlying T=some (.slice e))(eP:P.underlying T'=some (.int kn))(hE:P.info? e=some tf)(hz:tf.size=z)(hb:tf.bytes=bytes)(hzv:tf.zero=some zv)
  {base:Option Addr}{sLen sCap n:Nat}{old:Array Value}(hby:bytes<=4096)(Gk:sLen+n<=4294967296)(hz0:0<z):
  (sLen+n<=sCap->∀w',(match base with|some a=>storeCells (a.add (sLen*z)) (Builtin.zeroCells zv.cells n).toList |none=>pure ()).run P w= .ok () w'->
   (Builtin.append_ #[T,T'] ty #[.slice base sLen sCap,.int kq n]).run P w= .ok (.slice base (sLen+n) sCap) w')/\
  (¬sLen+n<=sCap->(Builtin.firstCells z sLen (.slice base sLen sCap)).run P w.drew= .ok old w.drew->
   ∃dL rest,sLen+n<=dL/\rest.size=(dL -(sLen+n))*zv.cells.size/\(Builtin.append_ #[T,T'] ty #[.slice base sLen sCap,.int kq n]).run P w=
    .ok (.slice (some ⟨w.heap.size,0,none⟩) (sLen+n) dL) (w.drew.alloc (.cells (old++Builtin.zeroCells zv.cells n++rest) e))):=by
 have Pq: ∀(h:sCap<sLen+n),¬(Builtin.nextslicecap (sLen+n) sCap*bytes>2^48):=by
  intro h;have e:(2:Nat)^48=281474976710656:=by decide
  have:(sLen+n)*bytes<=4294967296*4096:=Yi Gk hby;have:=growslice_fits h (bytes:=bytes) K0;omega
 have ahb: ¬(((sLen+n:Nat):Int)>IntKind.i64.max):=by grind[IntKind.max_i64]
 have hw:IntKind.i64.wrap (n:Int)=n:=wrap_small K0 K0;have Lu: ¬((n:Int)<0):=by omega
 have h48: ¬((n:Int)*(bytes:Int)>2^48):=by
  have e:(2:Int)^48=281474976710656:=by decide
  rw[e];have:(n:Int)*(bytes:Int)<=4294967296*4096:=Dk K0 K0 K0 K0;omega
 have hzr: ∀w,(zeroValue e).run P w= .ok zv w:=λw=>by simp[zeroValue,typeInfo,hE,hzv]
 have h0: ∀w:World,(if n*z=0 then pure #[]else(do pure (Builtin.zeroCells (<- zeroValue e).cells n):Sem (Array Value))).run P w= .ok (Builtin.zeroCells zv.cells n) w:=by
  intro w;by_cases h:n=0
  ·subst h;simp[Builtin.zeroCells]
  ·have: ¬n*z=0:=Nat.mul_ne_zero h K0;simp_all
 constructor
 ·intro nB w' eG;simp only[Builtin.append_];simp only[L0,UY,Sw,eK,tJ hT,my,tJ eP,sizeOf,typeInfo,Bh,hE,hz,hb,lN,if_true,asInt,asIntOf,hw,Lu,kM,h48,tK,nB,Bool.not_true,tE];rw[show((if n*z=0 then pure #[]else zeroValue e>>= λx=>pure (Builtin.zeroCells x.cells n):Sem (Array Value)).run P w)= .ok (Builtin.zeroCells zv.cells n) w from h0 w];exact ajK
 ·intro nB xK;obtain⟨k,hk⟩: ∃k,Question.cut (.appendCap (sLen+n) sCap e) (w.tape w.drawn (.appendCap (sLen+n) sCap e))=sLen+n+k:=⟨_,rfl⟩;refine⟨sLen+n+k,Builtin.zeroCells zv.cells (sLen+n+k -(sLen+n)),by omega,by simp[Builtin.zeroCells],?_⟩;have hq:(choose (.appendCap (sLen+n) sCap e)).run P w= .ok (sLen+n+k) w.drew:=ai0;simp only[Builtin.append_]
  simp only[L0,UY,Sw,eK,tJ hT,my,tJ eP,sizeOf,typeInfo,Bh,hE,hz,hb,lN,if_true,asInt,asIntOf,hw,Lu,kM,h48,tK,nB,Bool.not_true,tE,
   ahb,false_and,Pq K0,hq,run_askRoom,xK]
  rw[show((if n*z=0 then pure #[]else zeroValue e>>= λx=>pure (Builtin.zeroCells x.cells n):Sem (Array Value)).run P w.drew)= .ok (Builtin.zeroCells zv.cells n) w.drew from h0 w.drew];simp[hzr,newRow]
theorem DA (_hC:C.Ok){e:TypeId}{ie:TI}{ef:TypeInfo}{ed:TypeDesc}{ez:Value}(hE:Mr C.P e ie ef ed ez){n:Nat}{cy:SC}(anK:1<=ie.size)(hzc:ez.cells.size=ie.size)(h:Jo C e ie n=some cy)(mv:Mem):
  cy.ao=true/\cy.len=n/\Dy mv ie.size cy (Builtin.zeroCells ez.cells n):=by
 have key: ∀(c:SC) (el:List SC),c.ao=true->c.len=n->(∀i e,c.elem i=some e->e=el)->el.length=ie.size->(∀(mv mr:Mem) (k:Nat) (x:SC),el[k]? =some x->∃v,ez.cells[k]? =some v/\dw mv mr v x)->
   c.ao=true/\c.len=n/\Dy mv ie.size c (Builtin.zeroCells ez.cells n):=by
  intro c el cv cl ce cel cz;refine⟨cv,cl,by grind[Builtin.zeroCells],λi e he=>by grind,λi e j x he hx=>?_⟩;have:=ce i e he;subst this;have hj:j<ie.size:=by grind
  obtain⟨v,v1,v2⟩:=cz mv eU j x hx;have lA:i<n:=by rw[<- cl];exact SC.ip he
  have al:i*ie.size+j<n*ie.size:=by
   have:(i+1)*ie.size<=n*ie.size:=kG _ K0
   grind
  have hm:(i*ie.size+j)%ie.size=j:=by grind[Nat.mul_comm,Nat.mul_add_mod,Nat.mod_eq_of_lt]
  rw[mi (v:=v) (by
   simp only[Builtin.zeroCells,hzc,Array.getElem?_map,Array.getElem?_range,al,if_true,ya,hm]
   grind)]
  exact v2
 unfold Jo at h;split at h
 ·split at h
  ·rename_i Gy;simp at h;subst h;have aek:=hE.xT;rw[Gy]at aek
   have l7:ez.cells= #[.int .i64 0]:=by
    apply HJ
    cases hl:ez.cells.toList with
    |nil=>grind
    |cons v t=>
     rw[hl]at aek;simp at aek;obtain⟨hv,rfl⟩:=aek;unfold Cd at hv
     grind
   refine key _ [.lit (.int .i64 0)] rfl Ys (λi e he=>?_) bw (λmv mr k x hk=>?_)
   grind[SC.elem]
   ·exact aiD
  grind
 ·split at h
  ·rename_i zs hzs;simp at h;subst h;rw[<- hE.xT]at hzs;obtain⟨b1,b2,b3⟩:=qj hzs
   refine key _ zs rfl Ys (λi e he=>?_) bw (λmv mr k x hk=>by
    simp_all)
   grind[SC.elem]
  grind
def Qa (hC:C.Ok)(hG:bH C F)(hR:ad F β N H w)(hf: ¬N fid){T T' ty:TypeId}{i':TI}{k':IntKind}{x y:DX}{v0 v1:Value}(lA:C.ti T'=some i')(Hq:i'.b8= .int k')
  (hx:ar F β N H w v0 x)(hy:ar F β N H w v1 y)(h:qh C fid T x y H K):
  ∃v w',(Builtin.append_ #[T,T'] ty #[v0,v1]).run C.P w= .ok v w'/\bk F β N H fid K w v w':=by
 obtain⟨tf',d',zv',eP⟩:=hC.get lA;have xG:=rj (eP.b8.trans Hq);have PK:C.P.underlying T'=some (.int k'):=by rw[eP.Jd,xG]
 unfold qh at h;split at h
 ·grind
 rename_i i hi;obtain⟨tf,d,zv,hT⟩:=hC.get hi;split at h
 ·rename_i e kq n bW;have hd:=dn (hT.b8.trans bW);have hu:C.P.underlying T=some (.slice e):=by rw[hT.Jd,hd]
  obtain⟨rfl,_⟩:=hy.am.bB;split at h
  ·grind
  rename_i ie l5;obtain⟨ef,ed,ez,hE⟩:=hC.get l5;split at h
  ·grind
  rename_i hb;obtain⟨hb,hzl⟩:=aD hb;obtain⟨h1,h2⟩:=aD hb;have hzl:=pj hzl;have hzc:ez.cells.size=ie.size:=by exact af0
  have h1:=fM h1;have h2:=fM h2;obtain⟨⟨Ht,hn1⟩,h⟩:=h;split at h
  ·grind
  rename_i cy hzr;obtain⟨m0,rfl⟩: ∃m:Nat,n=m:=⟨n.toNat,by omega⟩;rw[tK]at hzr;have C2:Below w.heap.size w w.drew:=(Below.refl _ _).drew;have td:Tr F β N H w β N H w.drew:=Tr.grow hR C2;have Pm:ad F β N H w.drew:=hR.grow C2;obtain⟨hvy,hly,hcd⟩:=DA hC hE h1 hzc hzr (MV F β H w.drew);obtain⟨_,_,Sk⟩:=DA hC hE h1 hzc hzr (MV F β H w);split at h
  ·rename_i id;split at h
   ·rename_i m z c hbk;split at h
    ·rename_i c' qf z8;have qf:=pj qf;subst qf;obtain⟨Gk,h⟩:=h;obtain⟨hvc,_,PT,bD,iG⟩:=SC.Af z8;obtain⟨hn,h1c,jo⟩:=hx.am;have hxd:cw F β N H w v0 (.own id):=hx.am;obtain⟨_,⟨hz,_,qe⟩,gC⟩:=hR.rel id _ hbk;obtain⟨us,ahv⟩: ∃us,bz H false (.own id)=some (c,us,[id]):=by simp[bz,hbk]
     have PG:c.len+m0<=4294967296:=by
      have:c'.len<=4294967296:=Gk;omega
     have abH:(∀i e,c'.elem i=some e->e.length=ie.size):=by
      intro i e he;obtain⟨g1,g2⟩:=iG i e he;by_cases hi:i<c.len
      grind
      ·exact Sk.Ag _ e (g2 hi)
     have afp: ∀(base:Option Addr) (cap:Nat),v0= .slice base c.len cap->¬c.len+m0<=cap->∃v w',(Builtin.append_ #[T,T'] ty #[v0,.int kq m0]).run C.P w= .ok v w'/\bk F β N H fid K w v w':=by
      rintro base cap rfl hgt;obtain⟨a0,ahs,old,e0,xK,hos,ami,abB⟩:=gd hG Pm (z:=ie.size) (td.jr hR hxd) ahv hvc h1 qe;cases e0;obtain⟨dL,rest,g1,g2,bE⟩:=(uh (P:=C.P) (w:=w) (ty:=ty) (kq:=kq) (base:=base) (sLen:=c.len) (sCap:=cap) hu PK hE.ou hE.size hE.bytes hE.zero h2 PG h1).2 hgt xK;have el:c.len+m0=c'.len:=by omega
      rw[el]at bE g1 g2;refine⟨_,_,bE,?_⟩;refine Ap (u:=[(fid,some (.row m ie.size c')),(id,none)]) (H0:=br H id none) hR hf h1 ⟨hos,qe,abB⟩ hcd z8 g1 ?_ (λ_ h=>h) (Tr.del id) (Pm.del id) h
      grind
     rcases jo _ ie.size c.len hbk rfl with⟨b1,b2,rfl⟩|⟨b,cap,arr,T0,b1,rfl,b3,b4⟩
     ·by_cases hm0:m0=0
      ·subst hm0;have bE:=(uh (P:=C.P) (w:=w) (ty:=ty) (kq:=kq) (base:=none) (sLen:=0) (sCap:=0) (n:=0) (old:= #[]) hu PK hE.ou hE.size hE.bytes hE.zero h2 K0 h1).1 K0 w rfl;refine⟨_,w,bE,?_⟩;exact Dz (u:=[(fid,some (.row m ie.size c')),(id,none)]) (H0:=br H id none) hf h1 PT K0 abH (λ_ h=>h) (Tr.del id) (hR.del id) h
      grind
     ·by_cases nB:c.len+m0<=cap
      ·have tk: ∀u∈(Builtin.zeroCells ez.cells m0).toList,u.oneCell'=true:=HQ h1 Sk.size Sk.Ag Sk.rep
       have Pq:c.len*ie.size+(Builtin.zeroCells ez.cells m0).toList.length <=arr.size:=by
        have:(Builtin.zeroCells ez.cells m0).toList.length =cy.len*ie.size:=by simpa using Sk.size
        rw[this,b4,<- Td];exact kG _ K0
       have alN:=SH C.P b (c.len*ie.size) T0 (Builtin.zeroCells ez.cells m0).toList 0 arr w b3 K0 tk
       have bE:=(uh (P:=C.P) (w:=w) (ty:=ty) (kq:=kq) (base:=some ⟨b,0,none⟩) (sLen:=c.len) (sCap:=cap) (n:=m0) (old:= #[]) hu PK hE.ou hE.size hE.bytes hE.zero h2 PG h1).1 nB (w.setRow b (aO arr (c.len*ie.size) (Builtin.zeroCells ez.cells m0).toList)) (by
        simp only[addr_add,j9]
        grind[aO])
       have el:c.len+m0=c'.len:=by omega
       rw[el]at bE;exact⟨_,_,bE,HR hR hf hbk b1 b3 b4 Sk z8 K0 h⟩
      grind
    grind
   grind
  grind
 grind
def YH {mv mr:Mem}{v x:Value}(h:dw mv mr v (.lit x)):v=x:=aiO
theorem Bt: ∀ {es:List (List SC)} {l:List UInt8},me es=some l->∀(i:Nat) (e:List SC),(SC.view es).elem i=some e->∃n,e= [.lit (.int .u8 n)]
 | [],_,_,i,e,he=>by grind[SC.elem]
 |x::es,l,h,i,e,he=>by
  unfold me at h;split at h
  grind
  ·rename_i n r wt;cases wt;split at h
   ·rename_i l' sP
    cases i with
    |zero=>grind[SC.elem]
    |succ i=>exact Bt sP i e ab3
   grind
  grind
theorem yn: ∀ {es:List (List SC)} {l:List UInt8},me es=some l->∃ns:List Int,ns.length=es.length/\∀(k:Nat) (n:Int),ns[k]? =some n->(SC.view es).elem k=some [.lit (.int .u8 n)]
 | [],_,_=>⟨[],rfl,λk n h=>by grind⟩
 |x::es,l,h=>by
  unfold me at h;split at h
  grind
  ·rename_i n r wt;cases wt;split at h
   ·rename_i l' sP;obtain⟨ns,h1,h2⟩:=yn sP;refine⟨n::ns,by grind,λk m hk=>?_⟩
    grind[SC.elem]
   grind
  grind
theorem Mv: ∀(ns:List Int) (acc:ByteArray),ns.foldl (λr n=>r.push (UInt8.ofNat n.toNat)) acc=⟨acc.data++(ns.map λn=>UInt8.ofNat n.toNat).toArray⟩
 | [],acc=>by simp
 |n::ns,acc=>by
  rw[Ye,Mv ns];simp_all
theorem DB: ∀ {es:List (List SC)} {l:List UInt8} {ns:List Int},me es=some l->ns.length=es.length->(∀(k:Nat) (n:Int),ns[k]? =some n->(SC.view es).elem k=some [.lit (.int .u8 n)])->ns.map (λn=>UInt8.ofNat n.toNat)=l
 | [],l,ns,h,hl,_=>by grind[me]
 |x::es,l,[],h,hl,_=>by grind
 |x::es,l,m::ns,h,hl,hn=>by
  unfold me at h;split at h
  grind
  ·rename_i n r wt;cases wt;split at h
   ·rename_i l' sP;simp at h;subst h;have h0:=hn 0 m rfl;simp[SC.elem]at h0;subst h0;rw[ju,DB sP bw λk n hk=>by simpa [SC.elem]using hn (k+1) n bw]
   grind
  grind
theorem YI (hC:C.Ok)(hG:bH C F)(hR:ad F β N H w){S T:TypeId}{x:DX}{v0:Value}(hx:ar F β N H w v0 x)(h:yi C S T x H K):
  ∃v,(convert S T v0).run C.P w= .ok v w/\bk F β N H fid K w v w:=by
 unfold yi at h;split at h
 ·rename_i i j hi hj;obtain⟨tf,d,z,hT⟩:=hC.get hi;obtain⟨tf',d',z',eP⟩:=hC.get hj;split at h
  ·rename_i k1 h1;split at h;case h_2=>grind
   rename_i k2 k3 n h2;have hd:=rj (hT.b8.trans h1);have xG:=rj (eP.b8.trans h2);obtain⟨rfl,_⟩:=hx.am.bB;refine⟨_,?_,bk.pure hR h (fS rfl)⟩;simp[convert,hT.cX,eP.cX,hd,xG,Conv.intToInt]
  ·rename_i h1;split at h;case h_2=>grind
   rename_i s h2;have hd:=mg (hT.b8.trans h1);have xG:=mg (eP.b8.trans h2);obtain⟨rfl,_⟩:=hx.am.bB;refine⟨_,?_,bk.pure hR h (fS rfl)⟩;simp[convert,hT.cX,eP.cX,hd,xG]
  ·rename_i e h1;split at h;case h_2=>grind
   rename_i dd h2;have hd:=dn (hT.b8.trans h1);have xG:=mg (eP.b8.trans h2);split at h
   ·rename_i es uu rr hby eG;split at h
    ·rename_i l hl;unfold Am at hby;split at hby
     ·rename_i ie l5;obtain⟨ef,ed,ez,hE⟩:=hC.get l5;split at hby
      ·rename_i jc;have hz1:=pj hby;have hed:=rj (hE.b8.trans jc);have hes: ∀i e,(SC.view es).elem i=some e->e.length=1:=λi e he=>by grind[Bt]
       obtain⟨a,cap,new,rfl,bE,nA,fZ,il⟩:=gd hG hR (z:=1) hx.am eG rfl bX hes;obtain⟨ns,Ja,hbs⟩:=yn hl
       have np:new.toList=ns.map (Value.int .u8):=by
        apply SX;intro k;by_cases hk:k<es.length
        ·obtain⟨n,hn⟩: ∃n,ns[k]? =some n:=⟨ns[k]'K0,o8 K0⟩;have he:=hbs k n hn;have:=il k _ 0 _ he rfl;simp only[Bi,tO]at this;have LH:k<new.size:=by grind[SC.len]
         have hr2:=YH this;simp_all
        grind[SC.len]
       have e1:(SC.view es).len =ns.length:=by grind[SC.len]
       refine⟨_,?_,bk.pure hR h (fS rfl)⟩;simp only[convert,eK,hT.cX,eP.cX,hd,xG,my]
       cases a with
       |none=>
        have:new= #[]:=by simpa [Builtin.firstCells]using bE.symm
        rw[this]at np;have anc:ns= []:=by grind
        subst anc;have qe:l= []:=by grind[me]
        subst qe;simp[hE.cX,hed,Conv.bytesToString];rfl
       |some a=>
        have afl:(loadCells a (SC.view es).len).run C.P w= .ok (ns.map (Value.int .u8)).toArray w:=by
         have:(ns.map (Value.int .u8)).toArray =new:=by grind
         rw[this];simpa [Builtin.firstCells]using bE
        have hb:=DB hl Ja hbs;simp only[hE.cX,hed,my];rw[e1]at afl ⊢;rw[run_bytesToString w a ns.length cap ns afl,Mv,hb];simp
      grind
     grind
    grind
   grind
  grind
 grind
end
section
variable {C:bS}{F:gG}{β:Nat->Option Nat}{N:Nat->Prop}{H:HF}{fid:Nat}{K:ka}{w w':World}{P:Program}
theorem HS: ∀ {ds:List (Option DV)} {l:List SV} {u:Hp} {r:List Nat},cJ.firsts H ds=some (l,u,r)->(∀p∈u,mf H p)/\l.length=ds.length/\
  ∀(j:Nat) (g:Bool) (cs:List SC),l[j]? =some (g,cs)->∃x ue re,ds[j]? =some (some (.val x))/\x.1=g/\bO H [] x.2=some (cs,ue,re)/\∀q∈ue,q∈u
 | [],l,u,r,h=>by grind[cJ.firsts]
 |d::ds,l,u,r,h=>by
  unfold cJ.firsts at h;split at h
  grind
  ·rename_i x xs wt;cases wt;split at h
   ·rename_i c u1 r1 h1;split at h
    ·rename_i cs u2 r2 h2;simp at h;obtain⟨rfl,rfl,_⟩:=h;obtain⟨q1,q2,q3⟩:=HS h2;refine⟨λp hp=>?_,by grind,λj g c' hj=>?_⟩
     grind[cO]
     ·cases j with
      |zero=>
       grind
      |succ j=>
       obtain⟨x',ue,re,a1,a2,a3,a4⟩:=q3 j g c' bw
       grind
    grind
   grind
  grind
def Tm (C:bS)(H:HF)(u:Hp)(d:Option DV)(cs:List SC):Prop:=
 (∃id,d=some (.val (false,[.ptr id 0]))/\(H id=some (.dX cs)\/((id,some (.dX cs))∈u/\∃t ds ue re,H id=some (.box t ds)/\bO H (C.kinds t) ds=some (cs,ue,re)/\∀q∈ue,q∈u)))\/
 d=some (.val (false,[.st (.ref cs)]))
def Tm.mono {u v:Hp}(h: ∀q∈u,q∈v){d:Option DV}{cs:List SC}(hc:Tm C H u d cs):Tm C H v d cs:=by
 rcases hc with⟨id,h1,h2|⟨h2,t,ds,ue,re,h3,h4,h5⟩⟩|h1
 ·exact .inl ⟨id,h1,.inl h2⟩
 ·exact .inl ⟨id,h1,.inr ⟨h _ h2,t,ds,ue,re,h3,h4,λq hq=>h _ (h5 q hq)⟩⟩
 ·exact .inr h1
theorem yp: ∀ {ds:List (Option DV)} {l:List (List SC)} {u:Hp} {r:List Nat},cJ.capts C H ds=some (l,u,r)->ij C H u/\l.length=ds.length/\∀(j:Nat) (cs:List SC),l[j]? =some cs->∃d,ds[j]? =some d/\Tm C H u d cs
 | [],l,u,r,h=>by grind[cJ.capts,ij]
 |d::ds,l,u,r,h=>by
  unfold cJ.capts at h;split at h
  grind
  ·rename_i id xs wt;cases wt;split at h
   ·rename_i cs hb;split at h
    ·rename_i l2 u2 r2 h2;simp at h;obtain⟨rfl,rfl,_⟩:=h;obtain⟨q1,q2,q3⟩:=yp h2;refine⟨q1,by grind,λj c' hj=>?_⟩
     cases j with
     |zero=>simp at hj;subst hj;exact⟨_,rfl,.inl ⟨id,rfl,.inl hb⟩⟩
     |succ j=>grind
    grind
   ·rename_i t cs hb;split at h
    ·rename_i c u1 r1 h1;split at h
     ·rename_i l2 u2 r2 h2;simp at h;obtain⟨rfl,rfl,_⟩:=h;obtain⟨q1,q2,q3⟩:=yp h2
      have hg:ij C H ((id,some (.dX c))::(u1++u2)):=by
       intro p hp;rcases cF.1 hp with rfl|hp
       ·exact .inr ⟨t,cs,c,u1,r1,hb,rfl,h1,λq hq=>jt _ (ig.2 (.inl hq))⟩
       ·rcases ig.1 hp with hp|hp
        ·exact .inl (cO h1 p hp)
        ·rcases q1 p hp with h|⟨t',xO,l',ul',rl',e1,e2,e3,e4⟩
         ·exact .inl h
         ·exact .inr ⟨t',xO,l',ul',rl',e1,e2,e3,λq hq=>jt _ (ig.2 (.inr (e4 q hq)))⟩
      refine⟨hg,by grind,λj c' hj=>?_⟩
      cases j with
      |zero=>
       simp at hj;subst hj;exact⟨_,rfl,.inl ⟨id,rfl,.inr ⟨by simp,t,cs,u1,r1,hb,h1,λq hq=>jt _ (ig.2 (.inl hq))⟩⟩⟩
      |succ j=>
       obtain⟨d',e1,e2⟩:=q3 j c' bw;exact⟨d',by grind,e2.mono λq hq=>jt _ (ig.2 (.inr hq))⟩
     grind
    grind
   grind
  ·rename_i cs xs wt;cases wt;split at h
   ·rename_i l2 u2 r2 h2;simp at h;obtain⟨rfl,rfl,_⟩:=h;obtain⟨q1,q2,q3⟩:=yp h2;refine⟨q1,by grind,λj c' hj=>?_⟩
    cases j with
    |zero=>simp at hj;subst hj;exact⟨_,rfl,.inr rfl⟩
    |succ j=>grind
   grind
  grind
def YJ (hR:ad F β N H w){id b:Nat}{cs:List SC}(hb:H id=some (.dX cs))(xL:β id=some b):dw (MV F β H w) (MR F β H w) (.pointer (some ⟨b,0,none⟩)) (.ref cs):=by
 obtain⟨_,b',arr,T,h1,h2,h3,h4,h5⟩:=hR.rel id _ hb;rw[xL]at h1;cases h1;refine .ref b 0 (λk=>arr.getD k undef) (λk hk=>?_) h5;rw[j9];unfold MR;rw[if_pos h2,ri h2 (tZ hR (ph.refl H) hb xL k)]
 grind[gb]
def Mw (hG:bH C F)(hR:ad F β N H w){E:EF}{a:Act}(hE:dH F β N H w E a){f:FuncId}{first bM:Array Operand}
  (h:cJ C f (first.toList.map (C.ev E)) (bM.toList.map (C.ev E)) H K):
  ∃v,(Instr.makeFunc (.func f) (first.map a.eval) (bM.map a.eval)).run P w= .ok v w/\bk F β N H fid K w v w:=by
 unfold cJ at h;split at h
 ·rename_i fs u1 r1 h1;split at h
  ·rename_i cs u2 r2 h2;obtain⟨p1,p2,p3⟩:=HS h1;obtain⟨q1,q2,q3⟩:=yp h2;have hg:ij C H (u1++u2):=(ij.ku p1).append q1;have hH:=hg.heap hR
   have mb: ∀ {ue:Hp} {ks:List Bool} {ds:List DC} {l:List SC} {re:List Nat},bO H ks ds=some (l,ue,re)->(∀q∈ue,q∈u1++u2)->∀p∈ue,∃z c,p.2=some (.row false z c)/\(Hp.on (u1++u2) H) p.1=some (.row false z c):=
    λhs hq p hp=>hg.frozen (hq p hp) (cO hs p hp)
   refine⟨_,rfl,bk.still hR hg h (co.bg (cM ?_))⟩
   have u6: ∀(j:Nat) (g:Bool) (c:List SC),fs[j]? =some (g,c)->er (MV F β (Hp.on (u1++u2) H) w) (MR F β (Hp.on (u1++u2) H) w) ((first.map a.eval).getD j undef) (g,c):=by
    intro j g c hj;obtain⟨x,ue,re,e1,e2,e3,e4⟩:=p3 j g c hj;simp at e1;obtain⟨o,ho,pb⟩:=e1;have hx:ar F β N H w (a.eval o) x:=mC hG hR hE pb;have iR:(first.map a.eval).getD j undef=a.eval o:=by simp_all
    rw[iR];have hq: ∀q∈ue,q∈u1++u2:=λq hq=>ig.2 (.inl (e4 q hq));obtain⟨xg,xc⟩:=x;simp at e2;subst e2;cases xg
    ·obtain⟨d,hd,Jb⟩:=hx;simp at hd;subst hd;have hl:=iu e3;obtain⟨c0,rfl⟩: ∃c0,c= [c0]:=xY.1 K0;refine⟨c0,rfl,?_⟩
     exact iy hR hg.soft (f:=λ_=>a.eval o) (λk d' hk=>by
      grind) e3 (mb e3 hq) 0 c0 rfl
    ·obtain⟨arr,h3,h4,h5⟩:=hx;refine⟨arr,h3,by grind[iu],?_⟩;exact iy hR hg.soft (f:=λk=>arr.getD k undef) h5 e3 (mb e3 hq)
   refine .fn _ _ (λj=>match(first.map a.eval).getD j undef with| .agg arr=>arr|_=> #[]) bw bw (λj c hj=>?_) (λj c hj=>?_) (λj c hj=>?_) (λj c k x hj hk=>?_) (λj c hj=>?_)
   ·exact aj1
   ·exact aj1
   ·obtain⟨arr,h3,h4,_⟩:=u6 j _ _ hj
    grind
   ·obtain⟨arr,h3,h4,h5⟩:=u6 j _ _ hj
    grind
   ·obtain⟨d,e1,e2⟩:=q3 j c hj;simp at e1;obtain⟨o,ho,pb⟩:=e1;have iR:(bM.map a.eval).getD j undef=a.eval o:=by simp_all
    rw[iR];rcases e2 with⟨id,rfl,e2⟩|rfl
    ·have hx:ar F β N H w (a.eval o) _:=mC hG hR hE pb;obtain⟨hn,b,jq,hp⟩:=hx.am;rw[hp];refine YJ hH ?_ jq;rcases e2 with e2|⟨e2,t,ds,ue,re,e3,e4,e5⟩
     ·rcases hg.soft id with h|⟨_,_,_,h,_⟩|⟨_,_,_,h,_⟩
      grind
      grind
      grind
     ·exact hg.afs (ig.2 (.inr e2)) e3 e4
    ·have hx:ar F β N H w (a.eval o) _:=mC hG hR hE pb;exact dw.mono (ph.tr (N:=N) hg.soft).mv (ph.tr (N:=N) hg.soft).mr hx.am
  grind
 grind
end
section
variable {C:bS}{F:gG}{β:Nat->Option Nat}{N:Nat->Prop}{H:HF}{fid:Nat}{K:ka}{w w':World}{P:Program}
def wz (hG:bH C F)(hR:ad F β N H w):(MR F β H w).le (rd w):=by grind[Jq]
theorem Bu {k:Bool}{d:DC}{c:SC}{u:Hp}{r:List Nat}(h:m8 C H k d=some (c,u,r)): ∀p∈u,mf H p:=by
 cases d with
 |ptr id off=>
  grind[m8,cO]
 |st c'=>exact nD (d:=.st c') (k:=k) h
 |nil=>exact nD (d:=.nil) (k:=k) h
 |own id=>exact nD (d:=.own id) (k:=k) h
 |cK id z i off=>
  grind[m8,cO]
 |sS g id=>grind[m8,bz]
 |mp id=>grind[m8,bz]
def qk {cs:List SC}{b off:Nat}{mv:Mem}{arr:Array Value}{T:TypeId}(h3:w.heap[b]? =some (.cells arr T))(h4:arr.size=cs.length)(h5: ∀(k:Nat) (x:SC),cs[k]? =some x->dw mv (rd w) (arr.getD k undef) x):
  dw mv (rd w) (.pointer (some ⟨b,off,none⟩)) (.ref (cs.drop off)):=by
 refine .ref b off (λk=>arr.getD (off+k) undef) (λk hk=>gb h3 bw) (λk x hx=>?_)
 grind
def yq {cs:List SC}{b o off:Nat}{mv:Mem}{arr:Array Value}{T:TypeId}(h3:w.heap[b]? =some (.cells arr T))(h4:o+cs.length<=arr.size)(h5: ∀(k:Nat) (x:SC),cs[k]? =some x->dw mv (rd w) (arr.getD (o+k) undef) x):
  dw mv (rd w) (.pointer (some ⟨b,o+off,none⟩)) (.ref (cs.drop off)):=by
 refine .ref b (o+off) (λk=>arr.getD (o+off+k) undef) (λk hk=>gb h3 bw) (λk x hx=>?_)
 grind
theorem Mx (hG:bH C F)(hR:ad F β N H w){u0:Hp}(hg:ij C H u0){v:Value}{k:Bool}{d:DC}{c:SC}{u:Hp}{r:List Nat}(hd:cw F β N H w v d)(h:m8 C H k d=some (c,u,r))(hu: ∀p∈u,p∈u0):
  dw (MV F β (u0.on H) w) (rd w) v c:=by
 have hH:=hg.heap hR;have mb: ∀p∈u,∃z c,p.2=some (.row false z c)/\(u0.on H) p.1=some (.row false z c):=λp hp=>hg.frozen (hu p hp) (Bu h p hp);have base:bz H k d=some (c,u,r)->dw (MV F β (u0.on H) w) (rd w) v c:=λh1=>(HN hR hg.soft hd h1 mb).mono (Mem.le_refl _) (wz hG hH)
 cases d with
 |ptr id off=>
  obtain⟨hn,b,jq,rfl⟩:=hd;simp only[m8]at h;split at h
  ·rename_i cs hb;simp at h;obtain⟨rfl,_,_⟩:=h;obtain⟨_,b',arr,T,h1,h2,h3,h4,h5⟩:=hR.rel id _ hb;rw[jq]at h1;cases h1;exact qk h3 h4 λk x hx=>(h5 k x hx).mono (ph.tr (N:=N) hg.soft).mv (Mem.le_trans (wz hG hR) (Mem.le_refl _))
  ·rename_i t cs hb;split at h
   ·rename_i l u1 r1 hs;simp at h;obtain⟨rfl,rfl,_⟩:=h;obtain⟨_,b',arr,T,h1,h2,h3,h4,h5⟩:=hR.rel id _ hb;rw[jq]at h1;cases h1;have:=iy hR hg.soft (f:=λk=>arr.getD k undef) h5 hs mb;exact qk h3 (by grind[iu]) λk x hx=>(this k x hx).mono (Mem.le_refl _) (wz hG hH)
   grind
  grind
 |st c'=>exact base h
 |nil=>exact base h
 |own id=>exact base h
 |sS g id=>exact base h
 |mp id=>exact base h
 |cK id z i off=>
  obtain⟨hn,b,jq,rfl⟩:=hd;simp only[m8]at h;split at h
  ·rename_i z' l hb;split at h
   ·rename_i e qf iG;have qf:=pj qf;subst qf;split at h
    ·rename_i cs u1 r1 hs;simp at h;obtain⟨rfl,rfl,_⟩:=h;obtain⟨_,⟨hz,hl⟩,q|⟨b',cap,arr,T,q1,q2,q3,q4,q5,q6⟩⟩:=hR.rel id _ hb
     grind
     ·rw[jq]at q1;cases q1;have bD:=hl i e iG;have hi:i<l.length:=(kF.1 iG).1;have:=iy hR hg.soft (f:=λk=>arr.getD (i*z+k) undef) (λk d hk=>q6 i e k d iG hk) hs mb;refine yq q3 ?_ λk x hx=>(this k x hx).mono (Mem.le_refl _) (wz hG hH);rw[iu hs,bD,q4];have:(i+1)*z<=cap*z:=kG _ K0
      grind
    grind
   grind
  ·rename_i m z' c0 hb;split at h
   ·rename_i e qf iG;have qf:=pj qf;subst qf;simp at h;obtain⟨rfl,_,_⟩:=h;obtain⟨_,⟨hz,hv,hl⟩,q|⟨b',cap,q1,q2,arr,T,q3,q4,q5,q6,q7,q8,q9⟩⟩:=hR.rel id _ hb
    grind
    ·rw[jq]at q1;cases q1;have bD:=hl i e iG;have hi:=SC.ip iG;refine yq q3 ?_ λk x hx=>(q9 i e k x iG hx).mono (ph.tr (N:=N) hg.soft).mv (dZ _);rw[bD,q4];have:(i+1)*z<=cap*z:=kG _ K0
     grind
   grind
  grind
theorem DD: ∀ {ks:List Bool} {ds:List DC} {l:List SC} {u:Hp} {r:List Nat},oz C H ks ds=some (l,u,r)->(∀p∈u,mf H p)/\l.length=ds.length/\
  ∀(k:Nat) (c:SC),l[k]? =some c->∃d kb ue re,ds[k]? =some d/\m8 C H kb d=some (c,ue,re)/\∀q∈ue,q∈u
 |ks,[],l,u,r,h=>by grind[oz]
 |ks,d::ds,l,u,r,h=>by
  simp only[oz]at h;split at h
  ·rename_i c u1 r1 h1;split at h
   ·rename_i cs u2 r2 h2;simp at h;obtain⟨rfl,rfl,_⟩:=h;obtain⟨q1,q2,q3⟩:=DD h2
    grind[Bu]
   grind
  grind
theorem yr: ∀ {ts:List TypeId} {xs:List DX} {l:List SV} {u:Hp} {r:List Nat},pl C H ts xs=some (l,u,r)->(∀p∈u,mf H p)/\l.length=xs.length/\
  ∀(k:Nat) (g:Bool) (cs:List SC),l[k]? =some (g,cs)->∃x ks ue re,xs[k]? =some x/\x.1=g/\oz C H ks x.2=some (cs,ue,re)/\∀q∈ue,q∈u
 |ts,[],l,u,r,h=>by grind[pl]
 |ts,x::xs,l,u,r,h=>by
  simp only[pl]at h;split at h
  ·rename_i c u1 r1 h1;split at h
   ·rename_i cs u2 r2 h2;simp at h;obtain⟨rfl,rfl,_⟩:=h;obtain⟨q1,q2,q3⟩:=yr h2;obtain⟨p1,_,_⟩:=DD h1
    grind
   grind
  grind
theorem HT (hG:bH C F)(hR:ad F β N H w){u0:Hp}(hg:ij C H u0){v:Value}{x:DX}{ks:List Bool}{cs:List SC}{u:Hp}{r:List Nat}(hx:ar F β N H w v x)(h:oz C H ks x.2=some (cs,u,r))(hu: ∀p∈u,p∈u0):
  er (MV F β (u0.on H) w) (rd w) v (x.1,cs):=by
 obtain⟨q1,q2,q3⟩:=DD h;obtain⟨g,ds⟩:=x;cases g
 ·obtain⟨d,hd,Jb⟩:=hx;simp at hd;subst hd;obtain⟨c0,rfl⟩: ∃c0,cs= [c0]:=xY.1 K0;obtain⟨d',kb,ue,re,a1,a2,a3⟩:=q3 0 c0 rfl;simp at a1;subst a1;exact⟨c0,rfl,Mx hG hR hg Jb a2 λq hq=>hu q (a3 q hq)⟩
 ·obtain⟨arr,h3,h4,h5⟩:=hx;refine⟨arr,h3,by grind,λk c hk=>?_⟩
  grind[Mx]
theorem yt: ∀ {ds:List (Option DV)} {xs:List DX},Jp ds=some xs->xs.length=ds.length/\∀(k:Nat) (x:DX),xs[k]? =some x->ds[k]? =some (some (.val x))
 | [],xs,h=>by grind[Jp]
 |d::ds,xs,h=>by
  unfold Jp at h;split at h
  grind
  ·rename_i x r wt;cases wt;split at h
   ·rename_i l hl;simp at h;subst h;obtain⟨h1,h2⟩:=yt hl
    grind
   grind
  grind
def pg.append {mv mr:Mem}{a b:Array Value}{x y:List SV}(h:pg mv mr a x)(k:pg mv mr b y):pg mv mr (a++b) (x++y):=by
 refine⟨by simp[h.1,k.1],λj z hz=>?_⟩;by_cases hj:j<x.length
 ·rw[UX hj]at hz;rw[bP (b:=a) (l:=j) (by rw[XK (by rw[h.1];exact hj)])];exact h.2 j z hz
 ·rw[XL K0]at hz;rw[bP (b:=b) (l:=j -x.length) (by rw[XQ (by rw[h.1];omega),h.1])];exact k.2 _ z hz
def eQ.later (hG:bH C F)(hR:ad F β N H w):eQ C.gl (rd w):=by
 intro g cs hm;obtain⟨h0,h9⟩:=hG.ok g cs hm;refine⟨λk x hx=>?_,λfL=>?_⟩
 ·obtain⟨v,h1,h2⟩:=h0 k x hx;exact⟨v,hR.below.rd (uc h1 (hG.UU g cs hm (Nat.lt_of_le_of_lt (dz _) (kF.1 hx).1))) h1,h2⟩
 ·obtain⟨v,h1,_⟩:=h0 0 cs[0] bw;have e:rd w g cs.length=rd F.w0 g cs.length:=PZ (w:=F.w0) (a:=⟨g,cs.length,none⟩) (hR.below.block g (Jk _ _ h1) (uc h1 (hG.UU g cs hm fL)))
  grind
def YK (hR:ad F β N H w)(hw:Below w.heap.size w w'):(dV (MV F β H w) w.heap.size w').le (MV F β H w'):=by
 intro b o v h;unfold dV at h;split at h
 ·rename_i hb;have Gp:F.dE b:=gG.gD (pf hR.below.size hb);rw[ri Gp];omega
  ·intro id bC e jq;have:=(hR.fY e jq).1;omega
 ·exact(Tr.grow hR hw).mv b o v h
theorem er.dyn {x:SV}{v:Value}(h:er (MV F β H w) (MR F β H w) v x):ar F β N H w v (dyn x):=by
 obtain⟨g,cs⟩:=x;cases g
 ·obtain⟨c,hc,hr⟩:=h;simp at hc;subst hc;exact⟨.st c,rfl,hr⟩
 ·obtain⟨arr,h1,h2,h3⟩:=h;refine⟨arr,h1,by grind[Fw.dyn],λk c hk=>?_⟩;simp only[Fw.dyn,gA]at hk
  cases hc:cs[k]? with
  |none=>grind
  |some x=>simp[hc]at hk;subst hk;exact h3 k x hc
theorem ui: ∀ {ks:List Bool} {ds:List DC} {l:List SC} {u:Hp},bO H ks ds=some (l,u,[])->u= []
 |_,[],_,_,h=>by grind[bO]
 |ks,d::ds,l,u,h=>by
  simp only[bO]at h;split at h
  ·rename_i c u1 r1 h1;split at h
   ·rename_i cs u2 r2 h2;simp only[lM,ii,List.append_eq_nil_iff]at h;obtain⟨_,rfl,rfl,rfl⟩:=h;rw[ui h2,yb]
    cases d with
    |own id=>
     grind[bz]
    |st=>grind[bz]
    |nil=>grind[bz]
    |ptr=>grind[bz]
    |cK=>grind[bz]
    |sS=>grind[bz]
    |mp=>grind[bz]
   grind
  grind
theorem YL {k:Bool}{d:DC}{c c0:SC}{id iQ z0:Nat}(h:m8 C H k d=some (c,[(id,some (.row false z0 c0))],[iQ])):d= .own id/\H id=some (.row true z0 c0)/\c=c0:=by
 cases d with
 |st=>grind[m8,bz]
 |nil=>grind[m8,bz]
 |sS=>grind[m8,bz]
 |mp=>grind[m8,bz]
 |cK=>
  grind[m8,ui]
 |own i=>
  simp only[m8,bz]at h
  grind
 |ptr i off=>
  grind[m8,ui]
theorem YM (hG:bH C F)(hR:ad F β N H w)(hf: ¬N fid){E:EF}{a:Act}(hE:dH F β N H w E a){o:Oper}{c:Call}{fo:Operand}(ho:o.op= .call c)(hc:c.callee= .value fo){Q:Exit->Act->World->Prop}
  {f:FuncId}{first:List SV}{bM:List (List SC)}{xs:List DX}{l:List SV}{u:Hp}{rs:List Nat}{r:mc}{R5:List TypeId}(Lw:C.ev E fo=some (.val (false,[.st (.fn f first bM)])))(Gn:Jp (c.args.toList.map (C.ev E))=some xs)
  (eG:pl C H R5 xs=some (l,u,rs))(iY:akb C.P f (first++l++bM.map λcs=>(false,[.ref cs])) r)(hK:i8 fid u rs K r):
  o.wp C.P a w (λa' w'=>∃v,a'=a.put o.dst v/\bk F β N H fid K w v w') Q:=by
 cases r with
 |one=>exact iY.elim
 |aI=>exact iY.elim
 |own=>exact iY.elim
 |mix=>exact iY.elim
 |vh z c'=>
 obtain⟨c0,dM,XD,PT,bD,u9,Ct,gC⟩:=iY;simp only[i8]at hK;split at hK;case h_2=>grind
 rename_i id z0 c1 iQ;split at hK;case h_2=>grind
 rename_i jq;obtain⟨xQ,hb2⟩:=aD jq;have xQ:=pj xQ;have hb2:=pj hb2;subst xQ hb2;obtain⟨q1,q2,q3⟩:=yr eG;obtain⟨v1,v2⟩:=yt Gn
 cases xs with
 |nil=>grind[pl]
 |cons x xs=>
 simp only[pl]at eG;split at eG;case h_2=>grind
 rename_i cc u1 r1 h1;split at eG;case h_2=>grind
 rename_i cs u2 r2 h2;simp only[lM,ii]at eG;obtain⟨rfl,hu,hr⟩:=eG;have hl:=aP List.length dM;simp only[tH,kH,jf,Ai]at hl;obtain rfl:first= []:=C8.1 K0
 obtain rfl:bM= []:=C8.1 K0;obtain rfl:cs= []:=C8.1 K0;obtain rfl:xs= []:=by grind
 simp[pl]at h2;obtain⟨rfl,rfl⟩:=h2;simp only[yb]at hu hr;subst hu hr;simp at dM;obtain⟨g,ds⟩:=x;simp only at dM h1;obtain⟨rfl,rfl⟩:=dM
 have hds: ∃d k,ds= [d]/\m8 C H k d=some (c0,[(id,some (.row false z c1))],[id]):=by
  cases ds with
  |nil=>grind[oz]
  |cons d ds=>
   simp only[oz]at h1;split at h1;case h_2=>cases h1
   rename_i ca ua ra ha;split at h1;case h_2=>cases h1
   rename_i cb ub rb hb;simp only[lM,ii,Cb]at h1;obtain⟨⟨rfl,rfl⟩,e1,e2⟩:=h1
   cases ds with
   |nil=>
    grind[oz]
   |cons d' ds=>
    grind[oz]
 obtain⟨d,k,rfl,hs⟩:=hds;obtain⟨rfl,hid,rfl⟩:=YL hs;have mb:ar F β N H w (a.eval fo) _:=mC hG hR hE Lw;have Cy:dw (MV F β H w) (MR F β H w) (a.eval fo) (.fn f [] []):=mb.am;have Gi:a.eval fo= .func (.func f) #[] #[]:=ah5;have hd:=v2 0 _ rfl;simp at hd;obtain⟨oo,ho1,ho2⟩:=hd;have tk:c.args.map a.eval= #[a.eval oo]:=by grind
 have jo:cw F β N H w (a.eval oo) (.own id):=(mC hG hR hE ho2).am
 have bE:(execOp a.eval o).run C.P w= .ok (.enter f #[a.eval oo]) w:=by
  unfold iI at XD;split at XD
  ·rename_i fn Cy;obtain⟨Gm,mW⟩:=aD XD;obtain⟨body,mW⟩:=qW.1 mW;have xI:(fn.name=="runtime.NumGoroutine")=false:=by grind
   simp only[execOp,ho,resolve,hc,Gi,Deferred.ofValue,eK,lN,my,invoke,callFunc,Bh,Cy,xI,mW,SP,tE,kM,tk];simp
  grind
 unfold Oper.wp;rw[bE];obtain⟨hn,⟨hz,hv0,qe⟩,abL⟩:=hR.rel id _ hid;have Xl:id≠fid:=λe=>hf (e▸hn)
 rcases jo.2.2 _ _ _ hid rfl with⟨b0,b1,b2⟩|⟨b,cap,arr,T,b0,b1,b2,b3⟩
 ·show Calls C.P f #[a.eval oo] w _;rw[b2];refine(Ct b1 w).mono λe w1 he=>?_;obtain⟨rfl,tv⟩:=he;refine⟨_,rfl,?_⟩;have tG:=Tr.grow hR tv;have xS:=hR.grow tv;have live: ∀ {k:Nat} {b0:cC},k≠id->br H id (some (.row true z c')) k=some b0->H k=some b0:=λhk h=>by grind[aG]
  have t2:Tr F β N H w1 β N (br H id (some (.row true z c'))) w1:=by
   refine⟨jv.refl _ _,λbb o v _ hs e=>⟨λiQ bC e' hb=>?_,e⟩,λ_ h=>h,λ_ _=>rfl,λiQ bC _ e=>?_,λ_ _ _ _ arr _ _ _ _ _ _ h=>⟨arr,h,rfl⟩,λ_ _ h=>h⟩
   ·by_cases h:iQ=id
    grind
    ·exact hs iQ bC (live h e') hb
   ·by_cases h:iQ=id
    ·subst h;rw[an]at e;cases e;exact⟨_,hid,rfl,by omega⟩
    ·exact⟨bC,live h e,bC.fU⟩
  have hN:ad F β N (br H id (some (.row true z c'))) w1:=by
   refine xS.step t2 (λi=>i=id) (λi bC hi e=>⟨live hi e,(xS.rel i bC (live hi e)).1,λ_ _=>rfl⟩) (λi bC hi e=>?_) (λi j bb x y hi hj bi bj=>?_)
   ·subst hi;rw[an]at e;cases e;exact⟨hn,⟨hz,PT,u9⟩,.inl ⟨b0,by omega⟩⟩
   ·by_cases h1:i=id
    grind
    ·by_cases h2:j=id
     grind
     ·exact xS.inj i j bb x y (live h1 hi) (live h2 hj) bi bj
  exact aiT
 ·have hbl:=hR.rel id _ hid
  rcases abL with⟨h3,_⟩|⟨b',jD,p1,p2,arr',T',r1,r2,r3,r4,r5,r6,r7⟩
  ·grind
  rw[b0]at p1;cases p1;rw[b2]at r1;cases r1;have fZ:cap=jD:=UV hz K0;subst fZ;show Calls C.P f #[a.eval oo] w _;rw[b1];refine(gC (MV F β H w) w b cap arr T b2 b3 r5 r7).mono λe w' he=>?_;obtain⟨rfl,w1,aef,tv,rfl,hs2,alG⟩:=he;refine⟨_,rfl,?_⟩;have tG:=Tr.grow hR tv;have xS:=hR.grow tv
  have xQ:w1.heap[b]? =some (.cells arr T):=by
   rw[<- b2];exact tv.block _ (hR.fY hid b0).1
  have vW:(cC.row true z c0).Ae (.row true z c'):=⟨rfl,by omega⟩;have eG: ∀o,(cC.row true z c0).tC o->(cC.row true z c').tC o/\aef[o]? =arr[o]? :=λo h=>by cases h.1
  have t2:=Tr.write (N:=N) xS hid b0 xQ hs2 vW eG;have hN:=ad.write (N:=N) xS hid b0 xQ hs2 vW eG ⟨⟨hz,PT,u9⟩,.inr ⟨b,cap,b0,p2,aef,T,yd w1 b arr aef T (0,0) xQ,by omega,hz,PT,by omega,u9,λi e j x he hx=>(alG i e j x he hx).mono (tG.trans t2).mv (Mem.le_refl _)⟩⟩;exact aiT
theorem My {mv mr mv' CY:Mem}{v:Value}{x:SV}(hl:yg x.2=true)(h:er mv mr v x):er mv' CY v x:=by
 have cell: ∀ {cs:List SC} {k:Nat} {c:SC} {v:Value},yg cs=true->cs[k]? =some c->dw mv mr v c->dw mv' CY v c:=by
  intro cs
  induction cs with
  |nil=>grind
  |cons d cs ih=>
   intro k c v hl hk hr
   cases d with
   |lit z=>
    cases k with
    |zero=>
     simp at hk;subst hk
     cases hr with
     |lit h=>exact .lit h
     |empty a cap hv=>grind[SC.ao]
     |view _ _ _ _ _ hv=>grind[SC.ao]
    |succ k=>grind[yg]
   |_=>grind[yg]
 unfold er at*;split
 grind
 ·rename_i hx;rw[if_neg hx]at h;obtain⟨c,h1,h2⟩:=h;exact⟨c,h1,cell (k:=0) hl bw h2⟩
theorem HU: ∀ {l:List SV} {k:Nat} {x:SV},Mq l=true->l[k]? =some x->yg x.2=true
 | [],k,x,_,hk=>by grind
 |y::l,k,x,h,hk=>by
  unfold Mq at h;split at h
  ·cases k with
   |zero=>grind
   |succ k=>exact HU h (by simpa using hk)
  grind
theorem DE (hR:ad F β N H w)(hf: ¬N fid){u:Hp}{rs:List Nat}{r:mc}{v:Value}{w1:World}(hg:ij C H u)(tv:Below w.heap.size w w1)(lE:qY (MV F β (u.on H) w) w.heap.size w1 v r)(hK:i8 fid u rs K r):
  bk F β N H fid K w v w1:=by
 have hH:=hg.heap hR;have tS:Tr F β N H w β N (u.on H) w:=hg.soft.tr;have tG:=Tr.grow hH tv;have xS:=hH.grow tv;have eA:=YK hH tv
 cases r with
 |one x=>
  simp only[i8]at hK
  cases hl:yg x.2 with
  |true=>
   rw[hl]at hK;exact⟨β,_,_,_,hK,(Tr.grow hR tv).bg,(hR.grow tv).bg,co.bg (er.dyn (My hl lE))⟩
  |false=>
  rw[hl]at hK;refine⟨β,_,_,_,hK,(tS.trans tG).bg,xS.bg,co.bg ?_⟩;exact er.dyn (lE.mono eA (dZ _))
 |aI lr=>
  obtain⟨arr,rfl,h2,h3⟩:=lE;simp only[i8]at hK
  cases hl:Mq lr with
  |true=>
   rw[hl]at hK;refine⟨β,_,_,_,hK,(Tr.grow hR tv).bg,(hR.grow tv).bg,co.bg ⟨arr,rfl,by grind,λk x hx=>?_⟩⟩
   grind[er.dyn,My,HU]
  |false=>
  rw[hl]at hK;refine⟨β,_,_,_,hK,(tS.trans tG).bg,xS.bg,co.bg ⟨arr,rfl,by grind,λk x hx=>?_⟩⟩;rw[gA]at hx
  cases hy:lr[k]? with
  |none=>grind
  |some y=>
   rw[hy]at hx;cases hx;exact er.dyn ((h3 k _ hy).mono eA (dZ _))
 |own z c=>
  rcases lE with⟨rfl,h0,hv,hz,hl⟩|⟨b,cap,rfl,hb,arr,T,r1,r2,r3,r4,r5,r6,r7⟩
  ·have t2:=Tr.new xS (Below.refl _ _) hf none (by simp) (.row true z c);have hN:=ad.new xS (Below.refl _ _) hf none (by simp) (.row true z c) ⟨⟨hz,hv,hl⟩,.inl ⟨by simp[cW],h0⟩⟩;refine⟨_,_,_,_,hK,(tS.trans tG).trans t2,hN,cM ⟨.inr rfl,rfl,λnQ z' n' hb wV=>?_⟩⟩;rw[Hp.on,an]at hb;cases hb;cases wV;exact .inl ⟨by simp[cW],h0,rfl⟩
  ·have jq: ∀x,some b=some x->w.heap.size<=x:=λx hx=>by grind
   have t2:=Tr.new hH tv hf (some b) jq (.row true z c);have aec:((dV (MV F β (u.on H) w) w.heap.size w1).but b).le (MV F (cW β fid (some b)) (br (u.on H) fid (some (.row true z c))) w1):=K50;have hN:=ad.new hH tv hf (some b) jq (.row true z c) ⟨⟨r3,r4,r6⟩,.inr ⟨b,cap,by simp[cW],gG.gD (pf hH.below.size hb),arr,T,r1,r2,r3,r4,r5,r6,λi e j x he hx=>(r7 i e j x he hx).mono aec (Mem.le_refl _)⟩⟩;refine⟨_,_,_,_,hK,tS.trans t2,hN,cM ⟨.inr rfl,rfl,λnQ z' n' jW wV=>?_⟩⟩;rw[Hp.on,an]at jW;cases jW;cases wV;exact ajw
 |vh z c=>exact lE.elim
 |mix t lr z c=>
  obtain⟨vo,m,hvo,lE⟩:=lE
  have key: ∃cQ,Tr F β N H w cQ (bg N fid) (br (u.on H) fid (some (.row true z c))) w1/\ad F cQ (bg N fid) (br (u.on H) fid (some (.row true z c))) w1/\
    cw F cQ (bg N fid) (br (u.on H) fid (some (.row true z c))) w1 vo (.own fid)/\m.le (MV F cQ (br (u.on H) fid (some (.row true z c))) w1):=by
   rcases hvo with⟨rfl,h0,hv,hz,hl,rfl⟩|⟨b,cap,rfl,hb,⟨arr,T,r1,r2,r3,r4,r5,r6,r7⟩,rfl⟩
   ·have t2:=Tr.new xS (Below.refl _ _) hf none (by simp) (.row true z c);have hN:=ad.new xS (Below.refl _ _) hf none (by simp) (.row true z c) ⟨⟨hz,hv,hl⟩,.inl ⟨by simp[cW],h0⟩⟩;refine⟨_,(tS.trans tG).trans t2,hN,⟨.inr rfl,rfl,λnQ z' n' hb wV=>?_⟩,Mem.le_trans eA t2.mv⟩;exact aiY
   ·have jq: ∀x,some b=some x->w.heap.size<=x:=λx hx=>by grind
    have t2:=Tr.new hH tv hf (some b) jq (.row true z c);have aec:((dV (MV F β (u.on H) w) w.heap.size w1).but b).le (MV F (cW β fid (some b)) (br (u.on H) fid (some (.row true z c))) w1):=K50;have hN:=ad.new hH tv hf (some b) jq (.row true z c) ⟨⟨r3,r4,r6⟩,.inr ⟨b,cap,by simp[cW],gG.gD (pf hH.below.size hb),arr,T,r1,r2,r3,r4,r5,r6,λi e j x he hx=>(r7 i e j x he hx).mono aec (Mem.le_refl _)⟩⟩;refine⟨_,tS.trans t2,hN,⟨.inr rfl,rfl,λnQ z' n' jW wV=>?_⟩,aec⟩;rw[an]at jW;cases jW;cases wV;exact ajw
  obtain⟨cQ,ht,hN,jo,hm⟩:=key
  have afq: ∀ {v:Value} {x:Bool × List (Option SC)},Cc m vo v x->ar F cQ (bg N fid) (br (u.on H) fid (some (.row true z c))) w1 v (Mp fid x):=by
   rintro v ⟨g,cs⟩ hx
   have I6: ∀ {v:Value} {o:Option SC},P6 m vo v o->cw F cQ (bg N fid) (br (u.on H) fid (some (.row true z c))) w1 v (aex fid o):=by
    intro v o hc
    cases o with
    |none=>have hc:v=vo:=hc;rw[hc];exact jo
    |some c=>exact dw.mono hm (dZ _) hc
   cases g
   ·obtain⟨c,hc,hr⟩:=hx;simp at hc;subst hc;exact⟨_,rfl,I6 hr⟩
   ·obtain⟨arr,h1,h2,h3⟩:=hx;refine⟨arr,h1,by grind[Mp],λk c hk=>?_⟩
    grind[Mp]
  cases t
  ·obtain⟨x,rfl,hx⟩:=lE;exact⟨cQ,_,_,_,hK,ht,hN,afq hx⟩
  ·obtain⟨arr,rfl,h2,h3⟩:=lE;refine⟨cQ,_,_,_,hK,ht,hN,⟨arr,rfl,by grind,λk x hx=>?_⟩⟩;rw[gA]at hx
   cases hy:lr[k]? with
   |none=>grind
   |some y=>rw[hy]at hx;cases hx;exact afq (h3 k _ hy)
theorem Jz: ∀ {xs:List DX},okN xs=true->∀(k:Nat) (x:DX),xs[k]? =some x->(∃s,x=(false,[.st s]))\/x=(false,[.nil])
 | [],_,k,x,hk=>by grind
 |y::xs,h,k,x,hk=>by
  unfold okN at h;split at h
  grind
  ·rename_i s l hy;cases hy
   cases k with
   |zero=>grind
   |succ k=>exact Jz h k x bw
  ·rename_i l hy;cases hy
   cases k with
   |zero=>grind
   |succ k=>exact Jz h k x bw
  grind
theorem YN (hG:bH C F)(hR:ad F β N H w)(hf: ¬N fid){E:EF}{a:Act}(hE:dH F β N H w E a){o:Oper}{c:Call}{fo:Operand}(ho:o.op= .call c)(hc:c.callee= .value fo){Q:Exit->Act->World->Prop}
  {f:FuncId}{first:List SV}{bM:List (List SC)}{xs:List DX}(Lw:C.ev E fo=some (.val (false,[.st (.fn f first bM)])))(Gn:Jp (c.args.toList.map (C.ev E))=some xs)
  (h:w6 C fid f first bM xs K):
  o.wp C.P a w (λa' w'=>∃v,a'=a.put o.dst v/\bk F β N H fid K w v w') Q:=by
 unfold w6 at h;split at h;case h_2=>grind
 rename_i e8;obtain⟨r,iY,hK⟩:=h;have mb:ar F β N H w (a.eval fo) _:=mC hG hR hE Lw;have Cy:dw (MV F β H w) (MR F β H w) (a.eval fo) (.fn f [] []):=mb.am;have Gi:a.eval fo= .func (.func f) #[] #[]:=ah5;obtain⟨v1,v2⟩:=yt Gn;have hg:ij C H []:=ij.ku (λp hp=>by cases hp);have wW:(MV F β H w).le (rd w):=λb o v h=>ym hG hR h
 have bE:(execOp a.eval o).run C.P w= .ok (.enter f (c.args.map a.eval)) w:=by
  have XD:=iY.1;unfold iI at XD;split at XD
  ·rename_i fn Cy;obtain⟨Gm,mW⟩:=aD XD;obtain⟨body,mW⟩:=qW.1 mW;have xI:(fn.name=="runtime.NumGoroutine")=false:=by grind
   simp only[execOp,ho,resolve,hc,Gi,Deferred.ofValue,eK,lN,my,invoke,callFunc,Bh,Cy,xI,mW,SP,tE,kM];simp
  grind
 unfold Oper.wp;rw[bE]
 have dM: ∀k x,xs[k]? =some x->∃d,x=(false,[d])/\akd (MV F β H w) (rd w) ((c.args.map a.eval).getD k undef) d:=by
  intro k x hx;have hd:=v2 k x hx;simp at hd;obtain⟨oo,ho1,ho2⟩:=hd;have iR:(c.args.map a.eval).getD k undef=a.eval oo:=by simp_all
  have hX:ar F β N H w (a.eval oo) x:=mC hG hR hE ho2;rw[iR];rcases Jz e8 k x hx with⟨s,rfl⟩|rfl
  ·exact⟨_,rfl,dw.mono (Mem.le_refl _) (wz hG hR) hX.am⟩
  ·exact⟨_,rfl,hX.am⟩
 refine(iY.2 _ w (c.args.map a.eval) wW (eQ.later hG hR) bw dM).mono λe w1 he=>?_;obtain⟨v,rfl,tv,lE⟩:=he;exact⟨v,rfl,DE (u:=[]) hR hf hg tv lE hK⟩
theorem DF {mv mr:Mem}{vf:Value}{f:FuncId}{first:List SV}{bM:List (List SC)}(Cy:dw mv mr vf (.fn f first bM)):
  ∃fv cv,vf= .func (.func f) fv cv/\pg mv mr fv first/\pg mv mr cv (bM.map λcs=>(false,[.ref cs])):=by
 cases Cy with
 |empty a cap hv=>grind[SC.ao]
 |view _ _ _ _ _ hv=>grind[SC.ao]
 |fn fv cv ga h1 h2 hf1 hf0 hf2 hf3 Xo=>
  refine⟨fv,cv,rfl,⟨h1,λk x hx=>?_⟩,⟨by grind,λk x hx=>?_⟩⟩
  ·obtain⟨g,cs⟩:=x;cases g
   ·obtain⟨c0,rfl⟩:=hf0 k cs hx;exact⟨c0,rfl,hf1 k c0 hx⟩
   ·obtain⟨e1,e2⟩:=hf2 k cs hx;exact⟨ga k,e1,e2,λj y hy=>hf3 k cs j y hx hy⟩
  ·simp at hx;obtain⟨cs,UM,rfl⟩:=hx;exact⟨_,rfl,Xo k cs UM⟩
def Vh {P:Program}{g:FuncId}(h:iI P g=true)(args:Array Value)(w:World):(callFunc g args).run P w= .ok (.enter g args) w:=by
 unfold iI at h;split at h
 ·rename_i fn Cy;obtain⟨Gm,mW⟩:=aD h;obtain⟨body,mW⟩:=qW.1 mW;have xI:(fn.name=="runtime.NumGoroutine")=false:=by grind
  simp only[callFunc,eK,lN,my,Bh,Cy,xI,mW,SP,tE,kM]
 grind
theorem acw (hG:bH C F)(hR:ad F β N H w)(hf: ¬N fid){E:EF}{a:Act}(hE:dH F β N H w E a){o:Oper}{c:Call}{fo:Operand}(ho:o.op= .call c)(hc:c.callee= .value fo){Q:Exit->Act->World->Prop}
  (h:jg C fid (C.ev E fo) (c.args.toList.map (C.ev E)) c.argTypes.toList H K):
  o.wp C.P a w (λa' w'=>∃v,a'=a.put o.dst v/\bk F β N H fid K w v w') Q:=by
 unfold jg at h;split at h
 ·rename_i f first bM xs Lw Gn
  split at h
  ·rename_i l u rs eG;obtain⟨r,iY,hK⟩:=h;rcases iY with iY|iY;case inr=>grind[YM]
   have mb:ar F β N H w (a.eval fo) _:=mC hG hR hE Lw;obtain⟨q1,q2,q3⟩:=yr eG;obtain⟨v1,v2⟩:=yt Gn;have hg:ij C H u:=ij.ku q1;have hH:=hg.heap hR;have wW:(MV F β (u.on H) w).le (rd w):=λb o v h=>ym hG hH h
   have dM:pg (MV F β (u.on H) w) (rd w) (c.args.map a.eval) l:=by
    refine⟨by grind,λk x hx=>?_⟩;obtain⟨g,cs⟩:=x;obtain⟨x,ks,ue,re,a1,a2,a3,a4⟩:=q3 k g cs hx;have hd:=v2 k x a1;simp at hd;obtain⟨oo,ho1,ho2⟩:=hd;have iR:(c.args.map a.eval).getD k undef=a.eval oo:=by simp_all
    rw[iR,<- a2];exact HT hG hR hg (mC hG hR hE ho2) a3 a4
   have Cy:dw (MV F β H w) (MR F β H w) (a.eval fo) (.fn f first bM):=mb.am;obtain⟨fv,cv,Gi,u6,US⟩:=DF Cy;have tS:Tr F β N H w β N (u.on H) w:=hg.soft.tr
   have hall:pg (MV F β (u.on H) w) (rd w) (fv++c.args.map a.eval++cv) (first++l++bM.map λcs=>(false,[.ref cs])):=
    ((u6.mono tS.mv (wz hG hR)).append dM).append (US.mono tS.mv (wz hG hR))
   have Sh:=iY.2 _ w _ wW (eQ.later hG hH) hall
   have bE:(execOp a.eval o).run C.P w= .ok (.enter f (fv++c.args.map a.eval++cv)) w:=by
    have XD:=iY.1;exact K48
   unfold Oper.wp;rw[bE];refine Sh.mono λe w1 he=>?_
   grind[DE]
  grind
 grind
theorem Vi (hG:bH C F)(hR:ad F β N H w)(hf: ¬N fid){E:EF}{a:Act}(hE:dH F β N H w E a){o:Oper}{c:Call}{fo:Operand}(ho:o.op= .call c)(hc:c.callee= .value fo){nx:Bool}{Q:Exit->Act->World->Prop}
  (h:rh C fid nx (C.ev E fo) (c.args.toList.map (C.ev E)) c.argTypes.toList H K):
  o.wp C.P a w (λa' w'=>∃v,a'=a.put o.dst v/\bk F β N H fid K w v w') Q:=by
 unfold rh at h
 grind[acw,YN]
end
section
variable {C:bS}{F:gG}{β:Nat->Option Nat}{N:Nat->Prop}{H:HF}{fid:Nat}{K:ka}{w w':World}{P:Program}
theorem bN {o:Oper}{a:Act}{v:Value}{next:Act->World->Prop}{Q:Exit->Act->World->Prop}(h:(execOp a.eval o).run P w= .ok (.value v) w')(hn:next (a.put o.dst v) w'):o.wp P a w next Q:=by
 unfold Oper.wp;rw[h];exact hn
def DG {o:Oper}{a:Act}{next:Act->World->Prop}{Q:Exit->Act->World->Prop}(h:(execOp a.eval o).run P w= .ok .skip w')(hn:next (a.put o.dst undef) w'):o.wp P a w next Q:=by
 unfold Oper.wp;rw[h];exact hn
theorem Mz {ds:List (Option DV)}{xs:List DX}(h:(ds.mapM λd=>match d with|some (.val x)=>some x|_=>none)=some xs):xs.length=ds.length/\∀(k:Nat) (x:DX),xs[k]? =some x->ds[k]? =some (some (.val x)):=by
 induction ds generalizing xs with
 |nil=>grind
 |cons d ds ih=>
  simp only[List.mapM_cons,Option.bind_eq_bind,Option.bind_eq_some_iff]at h
  grind
theorem YO (hC:C.Ok)(hG:bH C F)(hR:ad F β N H w)(hf: ¬N fid){E:EF}{a:Act}(hE:dH F β N H w E a){o:Oper}{Q:Exit->Act->World->Prop}(h:fk C fid o (C.ev E) H K):
  o.wp C.P a w (λa' w'=>∃v,a'=a.put o.dst v/\bk F β N H fid K w v w') Q:=by
 have ev: ∀ {x:Operand} {d:DV},C.ev E x=some d->co F β N H w (a.eval x) d:=λh=>mC hG hR hE h
 cases ho:o.op with
 |move x=>
  exact ah4
 |assign x=>
  exact ah4
 |pick c x y=>
  unfold fk at h;rw[ho]at h;simp only at h;split at h
  ·rename_i t hc;have hcv:=(ar.am (ev hc)).bB.1;cases t
   ·simp only at h;split at h
    ·rename_i d hd;exact bN (v:=a.eval y) ajP ⟨_,rfl,bk.pure hR h (ev hd)⟩
    grind
   ·simp only at h;split at h
    ·rename_i d hd;exact bN (v:=a.eval x) ajP ⟨_,rfl,bk.pure hR h (ev hd)⟩
    grind
  grind
 |alloc T=>
  unfold fk at h;rw[ho]at h;simp only at h;split at h
  ·rename_i i hi;split at h
   ·rename_i cs hz;obtain⟨v,w',hr,hp⟩:=YB (v0:=.tuple #[]) hC hR hf hi hz h;exact bN HK ⟨_,rfl,hp⟩
   grind
  grind
 |box T x=>
  unfold fk at h;rw[ho]at h;simp only at h;split at h
  ·rename_i d hd;obtain⟨v,w',hr,hp⟩:=af6 (C:=C) hR hf (ev hd) h;exact bN HK ⟨_,rfl,hp⟩
  grind
 |build T parts=>
  obtain⟨v,hr,hp⟩:=YD hC hG hR hE ho h;exact bN HK ⟨_,rfl,hp⟩
 |buildSlice T len parts=>
  obtain⟨v,w',hr,hp⟩:=GH hC hG hR hf hE ho h;exact bN HK ⟨_,rfl,hp⟩
 |load T x=>
  unfold fk at h;rw[ho]at h;simp only at h;split at h
  ·rename_i d hd;obtain⟨v,hr,hp⟩:=Tj hC hG hR (ev hd) h;exact bN HK ⟨_,rfl,hp⟩
  grind
 |store T x y=>
  unfold fk at h;rw[ho]at h;simp only at h;split at h
  ·rename_i d e hd he;obtain⟨w',hr,hp⟩:=Yx hC hR (ev hd) (ev he) h;exact DG HK ⟨_,rfl,hp⟩
  grind
 |fieldAddr T x n=>
  unfold fk at h;rw[ho]at h;simp only at h;split at h
  ·rename_i d hd;obtain⟨v,hr,hp⟩:=Js hC hR (ev hd) h;exact bN HK ⟨_,rfl,hp⟩
  grind
 |indexAddr T x y=>
  unfold fk at h;rw[ho]at h;simp only at h;split at h
  ·rename_i d e hd he;obtain⟨v,hr,hp⟩:=Ju hC hG hR (ev hd) (ev he) h;exact bN HK ⟨_,rfl,hp⟩
  grind
 |index T x y=>
  unfold fk at h;rw[ho]at h;simp only at h;split at h
  ·rename_i d e hd he;obtain⟨v,hr,hp⟩:=Yz hC hR (ev hd) (ev he) h;exact bN HK ⟨_,rfl,hp⟩
  grind
 |field T x n=>
  unfold fk at h;rw[ho]at h;simp only at h;split at h
  ·rename_i d hd;obtain⟨v,hr,hp⟩:=YA hC hR (ev hd) h;exact bN HK ⟨_,rfl,hp⟩
  grind
 |slice T x lo hi mx=>
  unfold fk at h;rw[ho]at h;simp only at h;split at h
  ·rename_i d hd;obtain⟨v,hr,hp⟩:=YE hC hG hR hE (ev hd) h;exact bN aiF ⟨_,rfl,hp⟩
  grind
 |binOp op T x y yT=>
  unfold fk at h;rw[ho]at h;simp only at h;split at h
  ·rename_i d e hd he;obtain⟨v,hr,hp⟩:=acv (xo:=x) (yo:=y) hC hR (ev hd) (ev he) h;refine bN (w':=w) (v:=v) ?_ ⟨_,rfl,hp⟩;simp only[execOp,ho];rw[eK,hr];rfl
  grind
 |unOp op T x=>
  unfold fk at h;rw[ho]at h;simp only at h;split at h
  ·rename_i d hd;obtain⟨v,hr,hp⟩:=af8 (P:=C.P) hR (ev hd) h;exact bN HK ⟨_,rfl,hp⟩
  grind
 |convert s t x=>
  unfold fk at h;rw[ho]at h;simp only at h;split at h
  ·rename_i d hd;obtain⟨v,hr,hp⟩:=YI hC hG hR (ev hd) h;exact bN HK ⟨_,rfl,hp⟩
  grind
 |extract t n=>
  unfold fk at h;rw[ho]at h;simp only at h;split at h
  ·rename_i l hl;split at h
   ·rename_i x hx;obtain⟨arr,h1,h2,h3⟩:=ev hl;have al:n<arr.size:=by grind
    have hg:arr[n]? =some (arr.getD n undef):=by simp_all
    exact bN (v:=arr.getD n undef) (by grind[execOp,Instr.extract,Sem.run_pure]) ⟨_,rfl,bk.pure hR h (h3 n x hx)⟩
   grind
  grind
 |makeFunc fn first bM=>
  cases fn with
  |func f=>
   unfold fk at h;rw[ho]at h;simp only at h;obtain⟨v,hr,hp⟩:=Mw (P:=C.P) hG hR hE h;exact bN HK ⟨_,rfl,hp⟩
  |_=>grind[fk]
 |makeSlice T x y=>
  unfold fk at h;rw[ho]at h;simp only at h;split at h
  ·rename_i d e hd he;obtain⟨v,w',hr,hp⟩:=Jy hC hR hf (ev hd) (ev he) h;exact bN HK ⟨_,rfl,hp⟩
  grind
 |call c=>
  cases hc:c.callee with
  |value fo=>
   grind[fk,Vi]
  |invoke r m=>grind[fk]
  |builtin b=>
   unfold fk at h;rw[ho]at h;simp only[hc]at h
   have key: ∀ {v:Value} {w':World},(builtin b c.argTypes o.type (c.args.map λ| .const _=>true|_=>false) (c.args.map a.eval)).run C.P w= .ok (.value v) w'->bk F β N H fid K w v w'->
     o.wp C.P a w (λa' w'=>∃v,a'=a.put o.dst v/\bk F β N H fid K w v w') Q:=by
    grind[bN,execOp,resolve,invoke]
   unfold eV at h;split at h
   ·
    rename_i t ts x wq dM;have h0:c.args.size=1:=by exact afR
    obtain⟨x0,Sm⟩: ∃x0,c.args= #[x0]:=by
     have:c.args.toList.length=1:=by omega
     obtain⟨x0,h⟩:=xY.1 this
     grind
    have pb:C.ev E x0=some (.val x):=by grind
    have tm:c.argTypes[0]? =some t:=by
     have:=aP (·[0]?) wq
     grind
    split at h
    grind
    ·rename_i i hi;obtain⟨tf,d,z,hT⟩:=hC.get hi;have hx:=ev pb;split at h
     ·rename_i e c0 bW;have hd:=dn (hT.b8.trans bW);split at h
      ·rename_i hv;obtain⟨a0,cap,l8,_⟩:=(ar.am hx).C5 hv;exact K52
      grind
     ·rename_i e bW;have hd:=dn (hT.b8.trans bW);have l8:a.eval x0= .slice none 0 0:=ar.am hx;exact K52
     ·rename_i e id bW;have hd:=dn (hT.b8.trans bW);split at h
      ·rename_i m z' c0 hb;obtain⟨_,_,jo⟩:=ar.am hx
       have l8: ∃a0 cap,a.eval x0= .slice a0 c0.len cap:=by
        rcases jo _ z' c0.len hb rfl with⟨_,h2,h3⟩|⟨b,cap,arr,T,_,h2,_⟩
        grind
        grind
       obtain⟨a0,cap,l8⟩:=l8;exact K52
      ·rename_i z' l hb;obtain⟨_,_,jo⟩:=ar.am hx
       have l8: ∃a0 cap,a.eval x0= .slice a0 l.length cap:=by
        rcases jo _ z' l.length hb rfl with⟨_,h2,h3⟩|⟨b,cap,arr,T,_,h2,_⟩
        grind
        grind
       obtain⟨a0,cap,l8⟩:=l8;exact K52
      grind
     ·rename_i s bW;have hd:=mg (hT.b8.trans bW);have l8:=(ar.am hx).bB.1;exact K52
     ·rename_i n e bW;have hd:=kv (hT.b8.trans bW);exact key (by simp[builtin,Builtin.len_,tm,Sm,hT.cX,hd,goInt]) (bk.pure hR h (fS rfl))
     grind
   ·
    rename_i t t' x y wq dM;have h0:c.args.size=2:=by exact afR
    obtain⟨x0,x1,Sm⟩: ∃x0 x1,c.args= #[x0,x1]:=aiG;have pb:C.ev E x0=some (.val x)/\C.ev E x1=some (.val y):=by grind
    have tm:c.argTypes= #[t,t']:=by grind
    split at h
    ·rename_i i' lA;split at h
     ·rename_i e' bW;obtain⟨v,w',hr,hp⟩:=Vg (T:=t) (ty:=o.type) hC hG hR hf lA bW (ev pb.1) (ev pb.2) h;refine key (v:=v) (w':=w') ?_ hp;exact K98
     ·rename_i k' bW;obtain⟨v,w',hr,hp⟩:=Qa (T:=t) (ty:=o.type) hC hG hR hf lA bW (ev pb.1) (ev pb.2) h;refine key (v:=v) (w':=w') ?_ hp;exact K98
     grind
    grind
   ·
    rename_i k n r dM;split at h
    ·rename_i xs Cv;obtain⟨m1,m2⟩:=Mz Cv;obtain⟨x0,rest,jc⟩: ∃x0 rest,c.args.toList=x0::rest:=aji;rw[jc]at dM;simp at dM;obtain⟨PW,her⟩:=dM;have hv0:=(ar.am (ev PW)).bB.1;subst her
     obtain⟨v,hr,hp,hK⟩:=Ao (P:=C.P) (w:=w) (H:=H) (β:=β) (N:=N) (F:=F) (vs:=rest.map a.eval) bw (λj x v e1 e2=>by
      have:=m2 j x e1;simp at this e2;obtain⟨o1,h1,h2⟩:=this;obtain⟨o2,h3,rfl⟩:=e2;rw[h1]at h3;cases h3
      exact ev h2) h
     refine key (v:=v) (w':=w) ?_ (bk.pure hR hK (fS hp));simp only[if_true]at hr;simp only[builtin,Builtin.max_,Array.toList_map,jc,ju,hv0,eK,hr,my];rfl
    grind
   ·
    rename_i k n r dM;split at h
    ·rename_i xs Cv;obtain⟨m1,m2⟩:=Mz Cv;obtain⟨x0,rest,jc⟩: ∃x0 rest,c.args.toList=x0::rest:=aji;rw[jc]at dM;simp at dM;obtain⟨PW,her⟩:=dM;have hv0:=(ar.am (ev PW)).bB.1;subst her
     obtain⟨v,hr,hp,hK⟩:=Ao (P:=C.P) (w:=w) (H:=H) (β:=β) (N:=N) (F:=F) (vs:=rest.map a.eval) bw (λj x v e1 e2=>by
      have:=m2 j x e1;simp at this e2;obtain⟨o1,h1,h2⟩:=this;obtain⟨o2,h3,rfl⟩:=e2;rw[h1]at h3;cases h3
      exact ev h2) h
     refine key (v:=v) (w':=w) ?_ (bk.pure hR hK (fS hp));simp only[tE,kM]at hr;simp only[builtin,Builtin.min_,Array.toList_map,jc,ju,hv0,eK,hr,my];rfl
    grind
   grind
 |_=>grind[fk]
end
end Go.Fw
namespace Go.Fw
section
variable {C:bS}{H H':HF}{fid:Nat}{K:ka}
theorem jh {k:Bool}{d:DC}{c:SC}{u:Hp}{r:List Nat}(h:bz H k d=some (c,u,r))(hH: ∀id∈r,H' id=H id):bz H' k d=some (c,u,r):=by
 cases d with
 |own id=>
  grind[bz]
 |sS g id=>grind[bz]
 |mp id=>grind[bz]
 |st c'=>grind[bz]
 |nil=>grind[bz]
 |ptr id off=>grind[bz]
 |cK id z i off=>grind[bz]
theorem fp: ∀ {ks:List Bool} {ds:List DC} {l:List SC} {u:Hp} {r:List Nat},bO H ks ds=some (l,u,r)->(∀id∈r,H' id=H id)->bO H' ks ds=some (l,u,r)
 |ks,[],l,u,r,h,_=>by grind[bO]
 |ks,d::ds,l,u,r,h,hH=>by
  simp only[bO]at h ⊢;split at h
  ·rename_i c u1 r1 h1;split at h
   ·rename_i cs u2 r2 h2;simp at h;obtain⟨rfl,rfl,rfl⟩:=h;rw[jh h1 λid hid=>hH id (ig.2 (.inl hid)),fp h2 λid hid=>hH id (ig.2 (.inr hid))]
   grind
  grind
theorem Qb {k:Bool}{d:DC}{c:SC}{u:Hp}{r:List Nat}(h:m8 C H k d=some (c,u,r))(hH: ∀id∈r,H' id=H id):m8 C H' k d=some (c,u,r):=by
 cases d with
 |ptr id off=>
  grind[m8,fp]
 |st c'=>exact jh (d:=.st c') (k:=k) h hH
 |nil=>exact jh (d:=.nil) (k:=k) h hH
 |own id=>exact jh (d:=.own id) (k:=k) h hH
 |sS g id=>grind[m8,bz]
 |mp id=>grind[m8,bz]
 |cK id z i off=>
  simp only[m8]at h ⊢;split at h
  grind[fp]
  grind
  grind
theorem Bv: ∀ {ks:List Bool} {ds:List DC} {l:List SC} {u:Hp} {r:List Nat},oz C H ks ds=some (l,u,r)->(∀id∈r,H' id=H id)->oz C H' ks ds=some (l,u,r)
 |ks,[],l,u,r,h,_=>by grind[oz]
 |ks,d::ds,l,u,r,h,hH=>by
  simp only[oz]at h ⊢;split at h
  ·rename_i c u1 r1 h1;split at h
   ·rename_i cs u2 r2 h2;simp at h;obtain⟨rfl,rfl,rfl⟩:=h;rw[Qb h1 λid hid=>hH id (ig.2 (.inl hid)),Bv h2 λid hid=>hH id (ig.2 (.inr hid))]
   grind
  grind
theorem ji: ∀ {ts:List TypeId} {xs:List DX} {l:List SV} {u:Hp} {r:List Nat},pl C H ts xs=some (l,u,r)->(∀id∈r,H' id=H id)->pl C H' ts xs=some (l,u,r)
 |ks,[],l,u,r,h,_=>by grind[pl]
 |ks,d::ds,l,u,r,h,hH=>by
  simp only[pl]at h ⊢;split at h
  ·rename_i c u1 r1 h1;split at h
   ·rename_i cs u2 r2 h2;simp at h;obtain⟨rfl,rfl,rfl⟩:=h;rw[Bv h1 λid hid=>hH id (ig.2 (.inl hid)),ji h2 λid hid=>hH id (ig.2 (.inr hid))]
   grind
  grind
theorem uj {ks:List Bool}{z:Nat}: ∀ {ps:List (Nat × Option DV)} {n:Nat} {es:List (List SC)} {u:Hp} {r:List Nat},kP H ks z n ps=some (es,u,r)->(∀id∈r,H' id=H id)->kP H' ks z n ps=some (es,u,r)
 | [],n,es,u,r,h,_=>by grind[kP]
 |p::ps,n,es,u,r,h,hH=>by
  unfold kP at h ⊢;split at h;omega
  ·rename_i n0 i x rest wt;cases wt;split at h
   ·rename_i hb;split at h
    ·rename_i e u1 r1 eG;split at h
     ·rename_i Xm u2 r2 hf abz;simp at h;obtain⟨rfl,rfl,rfl⟩:=h;rw[fp eG λid hid=>hH id (ig.2 (.inl hid))];simp only;rw[hf,uj abz λid hid=>hH id (ig.2 (.inr hid))]
     grind
    grind
   omega
  omega
theorem yu: ∀ {ds:List (Option DV)} {l:List SV} {u:Hp} {r:List Nat},cJ.firsts H ds=some (l,u,r)->(∀id∈r,H' id=H id)->cJ.firsts H' ds=some (l,u,r)
 | [],l,u,r,h,_=>by grind[cJ.firsts]
 |d::ds,l,u,r,h,hH=>by
  unfold cJ.firsts at h ⊢;split at h;omega
  ·rename_i x xs wt;cases wt;split at h
   ·rename_i c u1 r1 h1;split at h
    ·rename_i cs u2 r2 h2;simp at h;obtain⟨rfl,rfl,rfl⟩:=h;rw[fp h1 λid hid=>hH id (ig.2 (.inl hid))];simp only;rw[yu h2 λid hid=>hH id (ig.2 (.inr hid))]
    grind
   grind
  omega
theorem po: ∀ {ds:List (Option DV)} {l:List (List SC)} {u:Hp} {r:List Nat},cJ.capts C H ds=some (l,u,r)->(∀id∈r,H' id=H id)->cJ.capts C H' ds=some (l,u,r)
 | [],l,u,r,h,_=>by grind[cJ.capts]
 |d::ds,l,u,r,h,hH=>by
  unfold cJ.capts at h ⊢;split at h;omega
  ·rename_i id xs wt;cases wt;split at h
   ·rename_i cs hb;split at h
    ·rename_i l2 u2 r2 h2;simp at h;obtain⟨rfl,rfl,rfl⟩:=h;rw[hH id (by simp),hb];simp only;rw[po h2 λj hj=>hH j bw]
    grind
   ·rename_i t cs hb;split at h
    ·rename_i c u1 r1 h1;split at h
     ·rename_i l2 u2 r2 h2;simp at h;obtain⟨rfl,rfl,rfl⟩:=h;rw[hH id (by simp),hb];simp only;rw[fp h1 λj hj=>hH j bw];simp only;rw[po h2 λj hj=>hH j bw]
     grind
    grind
   grind
  ·rename_i cs xs wt;cases wt;split at h
   ·rename_i l2 u2 r2 h2;simp at h;obtain⟨rfl,rfl,rfl⟩:=h;rw[po h2 hH]
   grind
  omega
def mD (f:HF->ka->Prop):Prop:=∀H K,f H K->∃r u R,K r u R/\∀(H':HF) (K':ka),(∀id∈R,H' id=H id)->K' r u R->f H' K'
def mD.const {f:ka->Prop}(h: ∀K,f K->∃r u R,K r u R/\∀K':ka,K' r u R->f K'):mD λ_ K=>f K:=λ_ K hK=>
 let⟨r,u,R,h1,h2⟩:=h K hK;⟨r,u,R,h1,λ_ K' _ h3=>h2 K' h3⟩
def Qc (T:TypeId)(x:DX):mD (oA C T x):=by
 intro H K h;unfold oA at h;split at h
 ·grind
 rename_i i hi;split at h
 grind[oA]
 grind[oA]
 grind[oA]
 grind
def MA (T:TypeId)(x y:DX):mD (rf C T x y):=by
 intro H K h;unfold rf at h;split at h
 ·grind
 rename_i i hi;split at h
 ·grind
 rename_i bD;split at h
 ·rename_i id off;split at h
  grind[rf]
  grind
 ·rename_i id z n off;split at h
  ·rename_i z' c hb;split at h
   ·rename_i eA;split at h
    ·rename_i l r eG;split at h
     ·rename_i hf;obtain⟨e,he,h⟩:=h;split at h
      ·rename_i c' nq;refine⟨_,_,_,h,λH' K' hH hK=>?_⟩;simp only[rf,hi,bD,hH id (by simp),hb,eA,fp eG λj hj=>hH j bw,hf]
       grind
      grind
     grind
    grind
   grind
  grind[rf]
  grind
 grind
def Ce (T:TypeId)(x:DX)(n:Nat):mD λ_ K=>oB C T x n K:=by
 refine mD.const λK h=>?_;unfold oB at h ⊢;split at h
 ·grind
 rename_i i hi;split at h
 ·rename_i fs bW;split at h
  ·rename_i o ft Sb;split at h
   grind
   grind
  grind
 grind
def Cf (T:TypeId)(x y:DX):mD (eR C T x y):=by
 intro H K h;unfold eR at h;split at h
 ·grind
 rename_i i hi;split at h
 ·rename_i e k n bW;split at h
  ·grind
  rename_i ie l5;split at h
  ·rename_i id;split at h
   grind[eR]
   grind[eR]
   grind
  grind[eR]
  grind
 ·rename_i len e k n bW;split at h
  ·grind
  grind[eR]
 grind
theorem DH {i:TI}{cs:List DC}{off:Nat}(h:Dr i cs off K): ∃r u R,K r u R/\∀K':ka,K' r u R->Dr i cs off K':=by grind[Dr]
def MB (T:TypeId)(x y:DX):mD λ_ K=>tU C T x y K:=by
 refine mD.const λK h=>?_;unfold tU at h;split at h
 ·grind
 rename_i i hi;split at h
 ·rename_i len e k n bW;split at h
  ·grind
  rename_i ie l5;split at h
  grind[DH,tU]
  grind
 grind[tU]
 grind
def MC (T:TypeId)(x:DX)(n:Nat):mD λ_ K=>Al C T x n K:=by
 refine mD.const λK h=>?_;unfold Al at h;split at h
 ·grind
 rename_i i hi;split at h
 ·rename_i fs bW;split at h
  ·rename_i o ft Sb;split at h
   ·rename_i fi kI;split at h
    grind[DH,Al]
    grind
   grind
  grind
 grind
theorem Aq {d:Option (Option DV)}{Hv:Nat}{K':Nat->Prop}(h:Gz d Hv K'): ∃n,K' n/\∀K'':Nat->Prop,K'' n->Gz d Hv K'':=by
 unfold Gz at h
 grind[Gz]
def MD (T:TypeId)(x:DX)(lo hi:Option (Option DV)):mD (gm C T x lo hi):=by
 intro H K h;unfold gm at h;split at h
 ·grind
 rename_i i lA;split at h
 ·rename_i e bW;split at h
  ·grind
  rename_i ie l5;split at h
  ·rename_i c u r eG;split at h
   ·rename_i Hu hv;obtain⟨l,h,hl⟩:=Aq h;obtain⟨hh,h,hh'⟩:=Aq h;obtain⟨h1,hu,h⟩:=h;refine⟨_,_,_,h,λH' K' hH hK=>?_⟩;simp only[gm,lA,bW,l5,fp eG hH]
    grind
   grind
  grind
 ·rename_i bW;split at h
  grind[Aq,gm]
  grind
 ·rename_i n e bW;split at h
  ·grind
  rename_i ie l5;split at h
  ·rename_i _l1 id off;split at h
   ·rename_i t cs hb;split at h
    ·rename_i l u r eG;split at h
     ·rename_i PJ eA;split at h
      ·rename_i ns Ja;refine⟨_,_,_,h,λH' K' hH hK=>?_⟩;simp only[gm,lA,bW,l5,hH id (by simp),hb,fp eG λj hj=>hH j bw]
       grind
      grind
     grind
    grind
   ·rename_i l hb;split at h
    ·rename_i PJ eA;split at h
     grind[gm]
     grind
    grind
   grind
  grind
 grind
end
end Go.Fw
