import Derived.Test.YtolnfpljgjpbpaaGreatDoorPk2
import Derived.Test.YtolnfpljgjpbpaaGreatDoorPk3
import Derived.KernelRfl
set_option linter.all false
set_option maxRecDepth 100000
set_option maxHeartbeats 8000000
namespace Go.Proofs.Tryz
open Go.Fw Go.IntWalk Go.Plain
abbrev L (l:List Int):SV:=(false,[.ints l])
abbrev W2 (a b:List Int):SV:=(true,[.ints a,.ints b])
def GV (l:List Int)(g:FuncId)(first:List (Bool × List SC))(bM:List (List SC))(p:Int->Bool)(hp: ∀n,ac g (first++[I n]++bM.map λcs=>(false,[.ref cs])) (.one (Bo (p n))))(hl:l.length<=maxLen):
  ac 326 [L l,(false,[.fn g first bM])] (.one (I (if l.any p then(l.findIdx p:Int)else -1))):=by
 unfold maxLen at hl;refine sF f326 ?_
 (try(refine tX 0 ?_;try exact Zt))
 refine af (ι:=Nat) (λi=>i<=l.length/\∀j<i,p (l.getD j 0)=false) (λi=>l.length -i) (λi=>⟨[(0,vL l),(1,some (.val (false,[.st (.fn g first bM)]))),(7,vI l.length),(8,vI i)],[],0⟩) 0 Zc ⟨dz _,by intro j hj;omega⟩ ?_;rintro i ⟨hi,hf⟩
 (try(refine tX 0 ?_;try exact Zt))
 (refine bR ?_ ?_<;>intro h<;>(try conv=>whnf))<;>((try(refine tX 0 ?_;try exact Zt)))
 ·have al:i<l.length:=by omega
  repeat((first|(refine kO 7 rfl ?_;first|refine Rq (hp _) ?_)|refine tX 0 ?_|exact Zt);(try conv=>whnf))
  have iR:l.getD i 0=l[i]:=by simp[jX,al]
  (refine bR ?_ ?_<;>intro h<;>(try conv=>whnf))<;>((try(refine tX 0 ?_;try exact Zt)))
  ·have ahk:l.any p=true:=HC.2 ⟨l.getD i 0,qD al,h⟩;refine wG ?_;rw[if_pos ahk]
   have:l.findIdx p=i:=by
    rw[Yg al];refine⟨by rw[<- iR];exact h,λj hj=>?_⟩;have:=hf j hj;simpa [jX,show j<l.length by omega]using this
   rw[this]
  ·refine⟨i+1,⟨al,λj hj=>?_⟩,by omega,Zc⟩;by_cases e:j=i
   ·subst e;simpa using h
   ·exact hf j K0
 ·refine wG ?_;rw[if_neg];intro ahk;obtain⟨x,hx,hpx⟩:=HC.1 ahk;obtain⟨j,hj,rfl⟩:=Jl.1 hx;have:=hf j K0;simp[jX,hj,hpx]at this
def AE (l:List Int)(g:FuncId)(first:List (Bool × List SC))(bM:List (List SC))(p:Int->Bool)(hp: ∀n,ac g (first++[I n]++bM.map λcs=>(false,[.ref cs])) (.one (Bo (p n))))(hl:l.length<=maxLen):
  ac 317 [L l,(false,[.fn g first bM])] (.one (Bo (l.any p))):=by
 refine sF f317 ?_;repeat' ((first|(refine kO 7 rfl ?_;first|refine rG (λ_ z=>⟨_,GV l g first bM p hp hl,z⟩) ?_)|refine tX 0 ?_|exact Zt|refine bR ?_ ?_<;>intro h)<;>(try conv=>whnf))
 refine oR ?_;cases l.any p
 ·simp
 ·simp
def ac4 {l:List Int}{lo hi:Int}:(l.any λn=> !(decide (lo<=n)&&decide (n<=hi)))=decide (¬i6 l lo hi):=by
 rw[vY,wX];rw[HC];unfold i6;constructor
 ·rintro⟨x,hx,h⟩ hh;have:=hh x hx;simp at h;omega
 ·intro h;apply PY;intro hn;refine h λn hm=>?_;apply PY;intro hc;exact hn ⟨n,hm,by simp;omega⟩
abbrev pP (id:Nat):Option DV:=some (bh (.ptr id 0))
abbrev pO (id:Nat):Option DV:=some (bh (.own id))
def Jf (x:Int):Prop:= -1000000000<=x/\x<=1000000000
def agp:(6,Lib.pow10Tab.map λz=>SC.lit (.int .u64 z))∈cx.gl:=jH (i:=4) dy
def QN:(0,[SC.num .i64])∈cx.gl:=jH (i:=0) dy
def agq:(2,[SC.err])∈cx.gl:=jH (i:=2) dy
def agr:(3,[SC.err])∈cx.gl:=jH (i:=3) dy
def uD (n:Int)(h:qd n):ac 149 [I n] (.one (SS (Lib.itoa n))):=Zp XG dy (g:=6) dy agp n h
def uE (s:List UInt8)(hl:s.length<=1000000){v:Int}(h:Lib.atoiAll s= .ok v):ac 148 [SS s] (.aI [I v,(false,[.lit .nilIface])]):=acX LS dy s hl h
def pD (s:List UInt8)(hl:s.length<=1000000)(h: ∀v,Lib.atoiAll s≠ .ok v): ∃v,ac 148 [SS s] (.aI [I v,(false,[.err])]):=Zr LS dy agq agr s hl h
def gT (s:List UInt8)(c:UInt8)(hl:s.length<=1000000):ac 58 [SS s,SS [c]] (.aI [SS (Lib.cut s [c]).1,SS (Lib.cut s [c]).2.1,Bo (Lib.cut s [c]).2.2]):=acY abR dy QN s c hl
def k5 (s p:List UInt8):ac 150 [SS s,SS p] (.one (SS (Lib.trimPrefix s p))):=Ef abS dy s p
def AF (s:List UInt8)(c:UInt8)(hl:s.length<=1000000)(bD:(C6 s c).length =Lib.countB (B s) (B [c])+1):ac 121 [SS s,SS [c]] (.own 1 (.view (ab (C6 s c)))):=Il Sq dy dy QN s c hl bD
def TV (n:Int)(h: -1000000<=n/\n<=1000000):ac 335 [I n] (.one (I (n.natAbs:Nat))):=by
 have e:(if -n>n then -n else n)=((n.natAbs:Nat):Int):=by split<;>omega
 rw[<- e];refine sF f335 ?_;exact K1
def Np (o:Option Int):List SV:=match o with
 |some n=>[I n,Bo true]
 |none=>[I 0,Bo false]
def iC (s:List UInt8)(d:Nat)(hd:d<=18)(hl:s.length<=1000000):ac 158 [SS s,I d] (.aI (Np (fN d s))):=by
 have eA:=agl s;by_cases Lv:(s.getD 0 0).toNat =45
 ·have ea:Cl s=1:=by unfold Cl;rw[if_pos Lv]
  rw[ea]at eA;unfold fN;by_cases hb0:Cm d s
  ·have hb:s.length=1\/d<s.length -1\/((s.getD 1 0).toNat =48/\1<s.length):=by exact ab2
   rw[if_pos hb0];unfold Np;refine sF f158 ?_;exact K3
  ·have hb: ¬(s.length=1\/d<s.length -1\/((s.getD 1 0).toNat =48/\1<s.length)):=by exact ab2
   rw[if_neg hb0,ea];have hz: ¬(s.getD 1 0).toNat =48:=by omega
   all_goals
    refine sF f158 ?_
    (try(refine tX 0 ?_;try exact Zt))
    refine af (ι:=Nat) (λi=>(1<=i/\i<=s.length)/\∀b∈(s.take i).drop 1,dq b) (λi=>s.length -i) (λi=>⟨[(0,lS s),(6,vI 1),(7,vI (fD 0 ((s.take i).drop 1):Nat)),(8,vI i)],[],0⟩) 1 (ai (by rw[show(s.take 1).drop 1= []by simp];kernel_rfl)) ⟨⟨dG _,eA⟩,by rw[show(s.take 1).drop 1= []by simp];simp⟩ ?_;rintro i ⟨⟨xJ,hi⟩,xF⟩;have hsm:=oL xF wY;have hby:(s.getD i 0).toNat <=255:=by exact U3
    by_cases al:i<s.length
    ·by_cases hx:dq (s.getD i 0)
     ·have am0:=BG xF wY;have hv:=Nh xJ al hx;have alZ: ∀b∈(s.take (i+1)).drop 1,dq b:=ah9;unfold dq at hx;generalize fD 0 ((s.take i).drop 1)=v at*;exact aik
     ·have dm: ¬ ∀b∈s.drop 1,dq b:=λh=>hx (h _ (by
       have e:s.getD i 0=(s.drop 1).getD (i -1) 0:=aiP;rw[e];have:i -1< (s.drop 1).length :=by simp;omega
       rw[jX,o8 this]
       exact pd this))
      rw[if_neg dm];unfold dq at hx;generalize fD 0 ((s.take i).drop 1)=v at*;exact K3
    ·obtain rfl:i=s.length:=by omega
     rw[mB]at xF hsm ⊢;rw[if_pos xF];generalize fD 0 (s.drop 1)=v at*;exact K1
 ·have ea:Cl s=0:=by unfold Cl;rw[if_neg Lv]
  rw[ea]at eA;unfold fN;by_cases hb0:Cm d s
  ·have hb:s.length=0\/d<s.length -0\/((s.getD 0 0).toNat =48/\1<s.length):=by exact ab2
   rw[if_pos hb0];unfold Np;refine sF f158 ?_;exact K3
  ·have hb: ¬(s.length=0\/d<s.length -0\/((s.getD 0 0).toNat =48/\1<s.length)):=by exact ab2
   rw[if_neg hb0,ea];rcases Classical.em ((s.getD 0 0).toNat =48)with hz|hz
   all_goals
    refine sF f158 ?_
    (try(refine tX 0 ?_;try exact Zt))
    refine af (ι:=Nat) (λi=>(0<=i/\i<=s.length)/\∀b∈(s.take i).drop 0,dq b) (λi=>s.length -i) (λi=>⟨[(0,lS s),(6,vI 0),(7,vI (fD 0 ((s.take i).drop 0):Nat)),(8,vI i)],[],0⟩) 0 (ai (by rw[show(s.take 0).drop 0= []by simp];kernel_rfl)) ⟨⟨dG _,eA⟩,by rw[show(s.take 0).drop 0= []by simp];simp⟩ ?_;rintro i ⟨⟨xJ,hi⟩,xF⟩;have hsm:=oL xF wY;have hby:(s.getD i 0).toNat <=255:=by exact U3
    by_cases al:i<s.length
    ·by_cases hx:dq (s.getD i 0)
     ·have am0:=BG xF wY;have hv:=Nh xJ al hx;have alZ: ∀b∈(s.take (i+1)).drop 0,dq b:=ah9;unfold dq at hx;generalize fD 0 ((s.take i).drop 0)=v at*;exact aik
     ·have dm: ¬ ∀b∈s.drop 0,dq b:=λh=>hx (h _ (by
       have e:s.getD i 0=(s.drop 0).getD (i -0) 0:=by
        simp only[jX,Hz];rw[show 0+(i -0)=i by omega]
       rw[e];have:i -0< (s.drop 0).length :=by simp;omega
       rw[jX,o8 this]
       exact pd this))
      rw[if_neg dm];unfold dq at hx;generalize fD 0 ((s.take i).drop 0)=v at*;exact K3
    ·obtain rfl:i=s.length:=by omega
     rw[mB]at xF hsm ⊢;rw[if_pos xF];generalize fD 0 (s.drop 0)=v at*;exact K1
def Ix (l:List (List UInt8))(x:List UInt8):ab (l++[x])=ab l++[[.lit (.string (B x))]]:=by simp
def ee (l:List (List UInt8)):(ab l).length =l.length:=by simp
def Nq (l:List (List UInt8))(x:List UInt8):(SC.view (ab l++[[.lit (.string (B x))]])).Ag 1:=ah8
def j0 (s:List UInt8)(c:UInt8)(hl:s.length<=1000000):ac 131 [SS s,(false,[.lit (.int .u8 (c.toNat:Nat))])] (.own 1 (.view (ab (agm s c.toNat)))):=by
 refine sF f131 ?_
 (try(refine tX 0 ?_;try exact Zt))
 refine af (ι:=Nat) (λi=>i<=s.length) (λi=>s.length -i) (λi=>⟨[(0,lS s),(1,some (lit (.int .u8 (c.toNat:Nat)))),(5,pO 0),(6,vI (ja s c.toNat i).2),(7,vI i)],[(0,some (.row true 1 (.view (ab (ja s c.toNat i).1))))],1⟩) 0 (bu.trans (jz 5 1 (.view []) bX rfl rfl rfl) Zc) (dz _) ?_;intro i hi;obtain⟨h1,h2⟩:=Ka s c.toNat i;have h3:=ee (ja s c.toNat i).1;by_cases al:i<s.length
 ·by_cases hx:(s.getD i 0).toNat =c.toNat
  ·have e:ja s c.toNat (i+1)=((ja s c.toNat i).1++[(s.take i).drop (ja s c.toNat i).2],i+1):=by
    show(if(s.getD i 0).toNat =c.toNat then _ else _)=_;rw[if_pos hx]
   have e2:=Ix (ja s c.toNat i).1 ((s.take i).drop (ja s c.toNat i).2);have u:=Nq (ja s c.toNat i).1 ((s.take i).drop (ja s c.toNat i).2);generalize ja s c.toNat i=P at*
   (try(refine tX 0 ?_;try exact Zt))
   exact⟨i+1,al,by omega,ai (by rw[e];dsimp only;rw[e2];kernel_rfl)⟩
  ·have e:ja s c.toNat (i+1)=ja s c.toNat i:=by
    show(if(s.getD i 0).toNat =c.toNat then _ else _)=_;rw[if_neg hx]
   generalize ja s c.toNat i=P at*
   (try(refine tX 0 ?_;try exact Zt))
   exact⟨i+1,al,by omega,ai (by rw[e];kernel_rfl)⟩
 ·obtain rfl:i=s.length:=by omega
  unfold agm;have e2:=Ix (ja s c.toNat s.length).1 (s.drop (ja s c.toNat s.length).2);have u:=Nq (ja s c.toNat s.length).1 (s.drop (ja s c.toNat s.length).2);rw[e2];generalize ja s c.toNat s.length=P at*;exact K1
def mI {x:SV}{b c:Bool}(h:b=c):mc.aI [x,Bo b]=mc.aI [x,Bo c]:=by rw[h]
def rO {sg:Bool}{s:List UInt8}{d:Nat}(hd:d<=18)(hl:s.length<=1000000){n:Int}(h:wN sg d s=some n):ac 152 [SS s,I d,Bo sg] (.aI [I n,Bo true]):=by
 obtain⟨h0,h9⟩:=iA h;obtain⟨h1,h2,h3,h4⟩:=fV hd h0;have c1:=uE s hl h1;have c2:=uD n h4;rw[h2]at c2;have c3:=k5 s [45];generalize Lib.trimPrefix s [45]=u at*
 cases sg with
 |true=>
  refine sF f152 ?_;repeat' ((first|refine tX 0 ?_|exact Zt|refine bR ?_ ?_<;>intro h)<;>(try conv=>whnf))
  all_goals first|exact Zo|(exact rfl)|(exact absurd rfl (by assumption))|(exact mI (fh K0))|(exact mI (eJ (by omega)))
 |false=>
  have h8:0<=n:=by simpa using h9
  refine sF f152 ?_;repeat' ((first|refine tX 0 ?_|exact Zt|refine bR ?_ ?_<;>intro h)<;>(try conv=>whnf))
  all_goals first|exact Zo|(exact rfl)|(exact absurd rfl (by assumption))|(exact mI (fh K0))|(exact mI (eJ (by omega)))
def rQ {sg:Bool}{s:List UInt8}{d:Nat}(hl:s.length<=1000000)(hn:wN sg d s=none): ∃v,ac 152 [SS s,I d,Bo sg] (.aI [I v,Bo false]):=by
 by_cases e8: ∀v,Lib.atoiAll s≠ .ok v
 ·obtain⟨v,c1⟩:=pD s hl e8;refine⟨v,?_⟩;cases sg
  ·refine sF f152 ?_;exact K34
  ·refine sF f152 ?_;exact K34
 ·simp only[ne_eq,SL,L8]at e8;obtain⟨v,hv⟩:=e8;refine⟨v,?_⟩;have h4:=SE hv;have c1:=uE s hl hv;have c2:=uD v h4;have c3:=k5 s [45]
  have key: ¬(Lib.itoa v=s/\(sg=true\/0<=v)/\(Lib.trimPrefix s [45]).length <=d):=by
   rintro⟨h5,h6,h7⟩;have:=vn (d:=d) (n:=v) (by rw[h5];exact h7);rw[h5]at this;unfold wN at hn;rw[this]at hn;have LG:(if sg=true\/0<=v then some v else none)=none:=hn;rw[if_pos h6]at LG;cases LG
  generalize Lib.trimPrefix s [45]=u at*;by_cases hp:Lib.itoa v=s
  ·rw[hp]at c2;have al9: ¬((sg=true\/0<=v)/\u.length<=d):=λh=>key ⟨hp,h⟩;clear key
   cases sg with
   |true=>
    have k3: ¬u.length<=d:=λh=>al9 ⟨.inl rfl,h⟩;refine sF f152 ?_;repeat' ((first|refine tX 0 ?_|exact Zt|refine bR ?_ ?_<;>intro h)<;>(try conv=>whnf))
    all_goals first|exact Zo|(exact rfl)|(exact absurd rfl (by assumption))|(exact mI (fh K0))|(exact mI (eJ K0))
   |false=>
    have k3: ¬(0<=v/\u.length<=d):=λh=>al9 ⟨.inr h.1,h.2⟩;refine sF f152 ?_;repeat' ((first|refine tX 0 ?_|exact Zt|refine bR ?_ ?_<;>intro h)<;>(try conv=>whnf))
    all_goals first|exact Zo|(exact rfl)|(exact absurd rfl (by assumption))|(exact mI (fh K0))|(exact mI (eJ K0))
  ·clear key;generalize Lib.itoa v=y at*;cases sg
   ·exact K74
   ·exact K74
def dt (n lo hi:Int):ac 53 [I n,I lo,I hi] (.one (Bo (decide (lo<=n/\n<=hi)))):=by
 have:=eo n lo hi;rwa [<- Yh]at this
set_option maxHeartbeats 16000000
def Ns (p q:Int):ac 364 [F2 p q] (.one (Bo (decide ((-1000000000<=p/\p<=1000000000)/\1<=q/\q<=1000000000)))):=by
 refine sF f364 ?_;repeat' ((first|(refine kO 7 rfl ?_;first|refine Rq (dt _ _ _) ?_)|refine tX 0 ?_|exact Zt|refine bR ?_ ?_<;>intro h)<;>(try conv=>whnf))
 ·refine oR ?_;simp[h]
 ·refine oR ?_;simp[h]
theorem Kj (p q r s:Int)(h1: -4611686018427387904<=p*s/\p*s<=4611686018427387903)(h2: -4611686018427387904<=r*q/\r*q<=4611686018427387903):ac 253 [F2 p q,F2 r s] (.one (I (QR p q r s))):=by
 unfold QR;refine sF f253 ?_;repeat' ((first|refine tX 0 ?_|exact Zt|refine bR ?_ ?_<;>intro h)<;>(try conv=>whnf))
 ·rw[if_pos h]
 ·rw[if_neg K0,if_pos h]
 ·rw[if_neg K0,if_neg K0]
abbrev QS (n:Int):Prop:= -4611686018427387903<=n/\n<=4611686018427387903
def eO (n lo hi:Int):ac 200 [I n,I lo,I hi] (.one (Bo (decide (lo<=n/\n<=hi)))):=by
 refine sF f200 ?_;repeat' ((first|refine tX 0 ?_|exact Zt|refine bR ?_ ?_<;>intro h)<;>(try conv=>whnf))
 ·exact oR U8
 ·exact oR U8
def oe {b:Bool}{p:Prop} [BP b p] [Decidable p](e:Int):ac 199 [Bo b,I e] (.one (I (if p then 0 else e))):=by
 have h:=mJ b e;exact afx
def gW (l:List Int)(hl:l.length<=1000000):ac 198 [(false,[.ints l])] (.one (I (fs l))):=by rw[<- acN];exact QO l hl
def EG {b:Bool}{p:Prop} [BP b p](hp: ¬p)(e:Int):ac 199 [Bo b,I e] (.one (I e)):=by
 have h:=mJ b e;exact afE
def Nu {b:Bool}{p:Prop} [BP b p](hp:p)(e:Int):ac 199 [Bo b,I e] (.one (I 0)):=by
 have h:=mJ b e;exact afM
def VT {x y:Int}(h:x≠0):ac 198 [(false,[.ints [x,y]])] (.one (I x)):=by
 have:=gW [x,y] (fM rfl);rwa [show fs [x,y]=x by simp[fs,h]]at this
def VU {y:Int}:ac 198 [(false,[.ints [0,y]])] (.one (I y)):=by
 have:=gW [0,y] (fM rfl);rwa [show fs [0,y]=y by by_cases h:y=0<;>simp[fs,h]]at this
def Iy (n m:Int)(hm:QS m):ac 319 [I n,I m] (.one (Bo (decide (-m<=n/\n<=m)))):=by
 refine sF f319 ?_;repeat((first|(refine kO 7 rfl ?_;first|refine Rq (eO _ _ _) ?_)|refine tX 0 ?_|exact Zt);(try conv=>whnf))
 exact K5
def nJ (p q:Int):ac 287 [F2 p q] (.one (Bo (decide ((-1000000000<=p/\p<=1000000000)/\q<=1000000000)))):=by
 refine sF f287 ?_;repeat' ((first|(refine kO 7 rfl ?_;first|refine rG (λ_ z=>⟨_,Iy _ _ K0,z⟩) ?_)|refine tX 0 ?_|exact Zt|refine bR ?_ ?_<;>intro h)<;>(try conv=>whnf))
 ·exact oR U8
 ·exact oR U8
def EH (n d:Int)(hn:QS n)(hd:0<d/\d<=9223372036854775807):ac 288 [F2 n d] (.one (I (n/d))):=by
 have b1:=EC n hd.1;have e1:IntKind.i64.wrap (n.tdiv d)=n.tdiv d:=i64_in _ K0;have f:=Nt n hd.1;by_cases h0:0<=n
 ·have h1:n.tmod d=n%d:=Int.tmod_eq_emod_of_nonneg h0;have h2:=Dd n (show d≠0 by omega);refine sF f288 ?_;exact K1
 ·refine sF f288 ?_;exact ahB
def VV (n d:Int)(hn:QS n)(hd:0<d/\d<=9223372036854775807):ac 289 [F2 n d] (.one (I (-(-n/d)))):=by
 have b1:=ED (-n) hd.1;have g:=EH (-n) d K0 hd;refine sF f289 ?_;exact K1
def Nv (n d m k:Int)(hn:QS n)(hd:0<d/\d<=9223372036854775807)(hm:QS m)(hk:0<k/\k<=9223372036854775807):ac 235 [F2 n d,F2 m k] (.one (F2 (n/d) (-(-m/k)))):=by
 refine sF f235 ?_;repeat((first|(refine kO 7 rfl ?_;first|refine rG (λ_ z=>⟨_,EH n d hn hd,z⟩) ?_|refine rG (λ_ z=>⟨_,VV m k hm hk,z⟩) ?_)|refine tX 0 ?_|exact Zt);(try conv=>whnf))
 exact K5
def AG (n d:Int)(hn:QS n)(hd:0<d/\d<=9223372036854775807):ac 305 [I n,I d] (.one (I (n/d))):=by
 have b1:=EC n hd.1;have e1:IntKind.i64.wrap (n.tdiv d)=n.tdiv d:=i64_in _ K0;have f:=Nt n hd.1;by_cases h0:0<=n
 ·have h2:=Dd n (show d≠0 by omega);refine sF f305 ?_;exact K1
 ·refine sF f305 ?_;exact ahB
def Nw (n d:Int)(hn:QS n)(hd:0<d/\d<=9223372036854775807):ac 306 [I n,I d] (.one (I (-(-n/d)))):=by
 have b1:=ED (-n) hd.1;have g:=AG (-n) d K0 hd;refine sF f306 ?_;exact K1
def BO (n:Int):ac 275 [I n] (.one (I (if 1<=n/\n<=1000000 then 0 else 2))):=by
 refine sF f275 ?_;repeat((first|(refine kO 7 rfl ?_;first|refine Rq (eO _ _ _) ?_|refine Rq (oe _) ?_)|refine tX 0 ?_|exact Zt);(try conv=>whnf))
 exact K5
def Nx (n m:Int)(hm:QS m):ac 318 [I n,(false,[.ref [J m]])] (.one (Bo (!(decide (-m<=n)&&decide (n<=m))))):=by
 have g:=Iy n m hm;rw[Yh]at g;refine sF f318 ?_;exact K1
def EI (l:List Int)(m:Int)(hm:QS m)(hl:l.length<=maxLen):ac 264 [L l,I m] (.one (I (if i6 l (-m) m then 0 else 2))):=by
 have g:=AE l 318 [] [[J m]] (λn=> !(decide (-m<=n)&&decide (n<=m))) (λn=>Nx n m hm) hl;rw[ac4]at g;refine sF f264 ?_;repeat((first|(refine kO 7 rfl ?_;first|refine Rq (oe _) ?_)|refine tX 0 ?_|exact Zt);(try conv=>whnf))
 exact wG (by simp)
def dj (st:Int)(l:List Int):Int:=if 1<=st/\st<=1000000 then(if 3<=l.length then(if l.length<=64 then(if i6 l (-4096) 4096 then 0 else 2)else 8)else 10)else 2
def fs3 (a b c:Int):fs [a,b,c]=if a≠0 then a else if b≠0 then b else c:=by by_cases h:a=0<;>by_cases h':b=0<;>by_cases h'':c=0<;>simp[fs,h,h',h'']
def fs4 (a b c d:Int):fs [a,b,c,d]=if a≠0 then a else if b≠0 then b else if c≠0 then c else d:=by by_cases h:a=0<;>by_cases h':b=0<;>by_cases h'':c=0<;>by_cases h3:d=0<;>simp[fs,h,h',h'',h3]
abbrev Rc (st:Int)(l:List Int):SV:=(true,[J st,.ints l])
def j6 (st:Int)(l:List Int)(hl:l.length<=maxLen):ac 226 [Rc st l] (.one (I (dj st l))):=by
 have g:=EI l 4096 K0 hl;unfold maxLen at hl
 have e:fs [if 1<=st/\st<=1000000 then 0 else 2,if(3:Int)<=l.length then 0 else 10,if(l.length:Int)<=64 then 0 else 8,if i6 l (-4096) 4096 then 0 else 2]=dj st l:=by
  rw[fs4];unfold dj
  (repeat' split)<;>first|omega|rfl
 rw[<- e];refine sF f226 ?_;repeat((first|(refine kO 7 rfl ?_;first|refine Rq (BO _) ?_|refine Rq (oe _) ?_|refine rG (λ_ z=>⟨_,gW _ (fM rfl),z⟩) ?_)|refine tX 0 ?_|exact Zt);(try conv=>whnf))
 exact K5
def lX (st:Int)(l:List Int)(hl:l.length<=maxLen):ac 307 [Rc st l] (.one (I (dj st l))):=by
 unfold maxLen at hl;unfold dj;refine sF f307 ?_;repeat((first|(refine kO 7 rfl ?_;first|refine Rq (dt _ _ _) ?_)|refine tX 0 ?_|exact Zt);(try conv=>whnf))
 (refine bR ?_ ?_<;>intro h<;>(try conv=>whnf))
 ·exact afC
 ·rw[if_pos K0]
  (try(refine tX 0 ?_;try exact Zt))
  (refine bR ?_ ?_<;>intro h<;>(try conv=>whnf))
  ·(try(refine tX 0 ?_;try exact Zt))
   rw[if_neg K0];(first|done|rfl|exact True.intro)
  ·rw[if_pos K0]
   (try(refine tX 0 ?_;try exact Zt))
   (refine bR ?_ ?_<;>intro h<;>(try conv=>whnf))
   ·(try(refine tX 0 ?_;try exact Zt))
    rw[if_neg K0];(first|done|rfl|exact True.intro)
   ·rw[if_pos K0]
    (try(refine tX 0 ?_;try exact Zt))
    refine af (ι:=Nat) (λi=>i<=l.length/\∀j<i,-4096<=l.getD j 0/\l.getD j 0<=4096) (λi=>l.length -i) (λi=>⟨[(1,pP 0),(3,vI i)],[(0,some (.box 249 [.st (J st),.st (.ints l)]))],1⟩) 0 Zc ⟨dz _,by intro j hj;omega⟩ ?_;rintro i ⟨hi,he⟩
    (try(refine tX 0 ?_;try exact Zt))
    (refine bR ?_ ?_<;>intro h<;>(try conv=>whnf))
    ·have al:i<l.length:=by omega
     repeat((first|(refine kO 7 rfl ?_;first|refine Rq (dt _ _ _) ?_)|refine tX 0 ?_|exact Zt);(try conv=>whnf))
     (refine bR ?_ ?_<;>intro h<;>(try conv=>whnf))
     ·(try(refine tX 0 ?_;try exact Zt))
      rw[if_neg (VS al h)];(first|done|rfl|exact True.intro)
     ·have h: -4096<=l.getD i 0/\l.getD i 0<=4096:=by omega
      (try(refine tX 0 ?_;try exact Zt))
      refine⟨i+1,⟨al,λj hj=>?_⟩,by omega,Zc⟩;by_cases e:j=i
      ·subst e;exact h
      ·exact he j K0
    ·obtain rfl:i=l.length:=by omega
     (try(refine tX 0 ?_;try exact Zt))
     rw[if_pos (ZN he)];(first|done|rfl|exact True.intro)
abbrev Sp:Type:=Int × Int × Int × Int
abbrev sp (q:Sp):List SC:=[J q.1,J q.2.1,J q.2.2.1,J q.2.2.2]
abbrev qE (q:Sp):Prop:=qd q.1/\qd q.2.1/\qd q.2.2.1/\qd q.2.2.2
abbrev Ru (e:Int)(q:Sp)(ch:List Sp):SV:=(true,[J e,J q.1,J q.2.1,J q.2.2.1,J q.2.2.2,.view (ch.map sp)])
def wI (n d:Int)(hn:qd n)(hd:qd d):ac 248 [F2 n d] (.one (Bo (decide (0<d/\Int.gcd n d=1)))):=by
 have:=hd.2;refine sF f248 ?_
 (try(refine tX 0 ?_;try exact Zt))
 (refine bR ?_ ?_<;>intro h<;>(try conv=>whnf))
 ·repeat((first|(refine kO 7 rfl ?_;first|refine rG (λ_ z=>⟨_,y8 n d hn ⟨by omega,by omega⟩ (λ_=>by omega),z⟩) ?_)|refine tX 0 ?_|exact Zt);(try conv=>whnf))
  exact oR bw
 ·exact K89
def y9 (n d:Int):ac 250 [F2 n d] (.one (Bo (decide ((1<=n/\n<=1000)/\d<=1000)))):=by
 refine sF f250 ?_;repeat' ((first|(refine kO 7 rfl ?_;first|refine Rq (eO _ _ _) ?_)|refine tX 0 ?_|exact Zt|refine bR ?_ ?_<;>intro h)<;>(try conv=>whnf))
 grind
 grind
def Iz (a b c d:Int)(h1:QS (a*d))(h2:QS (c*b)):ac 251 [F2 a b,F2 c d] (.one (Bo (decide (a*d<c*b)))):=by
 refine sF f251 ?_;exact tL
def dK (q:Sp):Int:=if(0<q.2.1/\Int.gcd q.1 q.2.1=1)/\0<q.2.2.2/\Int.gcd q.2.2.1 q.2.2.2=1 then(if((1<=q.1/\q.1<=1000)/\q.2.1<=1000)/\(1<=q.2.2.1/\q.2.2.1<=1000)/\q.2.2.2<=1000 then(if q.2.2.1*q.2.1<q.1*q.2.2.2 then 9 else 0)else 2)else 3
def fs2 (a b:Int):fs [a,b]=if a≠0 then a else b:=by grind[fs]
def CI {a d:Int}(h1:1<=a/\a<=1000)(h2:0<d/\d<=1000):QS (a*d):=by
 have h3:0<=a*d:=De K0 K0;have h4:a*d<=1000*1000:=Dk h1.2 h2.2 K0 K0;omega
def wJ (q:Sp)(hq:qE q):ac 201 [(true,sp q)] (.one (I (dK q))):=by
 obtain⟨a,b,c,d⟩:=q;obtain⟨ha,hb,hc,hd⟩:=hq;simp only at ha hb hc hd;change ac 201 [F4 a b c d] _;unfold dK;simp only;have l1:=wI a b ha hb;have l2:=wI c d hc hd;have f1:=y9 a b;have f2:=y9 c d;by_cases k1:(0<b/\Int.gcd a b=1)/\0<d/\Int.gcd c d=1
 ·rw[if_pos k1];rw[fh k1.1]at l1;rw[fh k1.2]at l2;by_cases k2:((1<=a/\a<=1000)/\b<=1000)/\(1<=c/\c<=1000)/\d<=1000
  ·rw[if_pos k2];rw[fh k2.1]at f1;rw[fh k2.2]at f2;have g:=Iz c d a b (CI k2.2.1 ⟨k1.1.1,k2.1.2⟩) (CI k2.1.1 ⟨k1.2.1,k2.2.2⟩);refine sF f201 ?_;repeat((first|(refine kO 7 rfl ?_;first|refine Rq (oe _) ?_|refine rG (λ_ z=>⟨_,gW _ (fM rfl),z⟩) ?_)|refine tX 0 ?_|exact Zt);(try conv=>whnf))
   exact wG bw
  ·rw[if_neg k2];by_cases k3:(1<=a/\a<=1000)/\b<=1000
   ·rw[fh k3]at f1;rw[eJ (show ¬((1<=c/\c<=1000)/\d<=1000)from λh=>k2 ⟨k3,h⟩)]at f2;exact ack
   ·rw[eJ k3]at f1;exact ack
 ·rw[if_neg k1];by_cases k3:0<b/\Int.gcd a b=1
  ·rw[fh k3]at l1;rw[eJ (show ¬(0<d/\Int.gcd c d=1)from λh=>k1 ⟨k3,h⟩)]at l2;exact ack
  ·rw[eJ k3]at l1;exact ack
def qF (q:Sp)(hq:qE q):ac 203 [(true,sp q)] (.one (I (dK q))):=by
 obtain⟨a,b,c,d⟩:=q;obtain⟨ha,hb,hc,hd⟩:=hq;simp only at ha hb hc hd;change ac 203 [F4 a b c d] _;unfold dK;simp only;have l1:=nI a b ha hb;have l2:=nI c d hc hd;by_cases k1:(0<b/\Int.gcd a b=1)/\0<d/\Int.gcd c d=1
 ·rw[if_pos k1];rw[fh k1.1]at l1;rw[fh k1.2]at l2;by_cases k2:((1<=a/\a<=1000)/\b<=1000)/\(1<=c/\c<=1000)/\d<=1000
  ·rw[if_pos k2];have m1:=CI k2.1.1 ⟨k1.2.1,k2.2.2⟩;have m2:=CI k2.2.1 ⟨k1.1.1,k2.1.2⟩;have g:=Kj a b c d K0 K0;unfold QR at g;by_cases k:c*b<a*d
   ·rw[if_neg K0,if_pos k]at g;rw[if_pos k];exact U7
   ·rw[if_neg k];by_cases k':a*d<c*b
    ·rw[if_pos k']at g;exact U7
    ·rw[if_neg k',if_neg k]at g;exact U7
  ·rw[if_neg k2];exact U7
 ·rw[if_neg k1];by_cases k3:0<b/\Int.gcd a b=1
  ·rw[fh k3]at l1;rw[eJ (show ¬(0<d/\Int.gcd c d=1)from λh=>k1 ⟨k3,h⟩)]at l2;exact U7
  ·rw[eJ k3]at l1;exact U7
def aV (e:Int)(q:Sp)(ch:List Sp):Int:=if 0<=e/\e<=100 then(if dK q≠0 then dK q else if ch.length<=4 then fs (ch.map dK)else 8)else 2
def Kk {ch:List Sp}{i:Nat}(h:i<ch.length):(ch.map sp)[i]? =some (sp (ch.getD i (0,0,0,0))):=by grind
def EJ {ch:List Sp}{i:Nat}(h:i<ch.length):ch.getD i (0,0,0,0)∈ch:=by grind
def TW {ch:List Sp}{i:Nat}(h:i<ch.length):fs ((ch.drop i).map dK)=if dK (ch.getD i (0,0,0,0))≠0 then dK (ch.getD i (0,0,0,0))else fs ((ch.drop (i+1)).map dK):=by grind[List.drop_eq_getElem_cons,fs]
def k6 (e:Int)(q:Sp)(ch:List Sp)(hq:qE q)(wl: ∀s∈ch,qE s)(hl:ch.length<=4294967296):ac 154 [Ru e q ch] (.one (I (aV e q ch))):=by
 have f3:=fs3 (if 0<=e/\e<=100 then 0 else 2) (dK q) (if((ch.map sp).length :Int)<=4 then 0 else 8);have g:=wJ q hq;have key:aV e q ch=if fs [if 0<=e/\e<=100 then 0 else 2,dK q,if((ch.map sp).length :Int)<=4 then 0 else 8]≠0 then fs [if 0<=e/\e<=100 then 0 else 2,dK q,if((ch.map sp).length :Int)<=4 then 0 else 8]else fs (ch.map dK):=by grind[aV]
 rw[key];clear key f3;refine sF f154 ?_;repeat((first|(refine kO 7 rfl ?_;first|refine Rq (eO _ _ _) ?_|refine Rq (oe _) ?_|refine rG (λ_ z=>⟨_,gW _ (fM rfl),z⟩) ?_)|refine tX 0 ?_|exact Zt);(try conv=>whnf))
 (refine bR ?_ ?_<;>intro h<;>(try conv=>whnf))
 ·(try(refine tX 0 ?_;try exact Zt))
  rw[if_pos h];(first|done|rfl|exact True.intro)
 ·rw[if_neg h]
  (try(refine tX 0 ?_;try exact Zt))
  refine af (ι:=Nat) (λi=>i<=ch.length/\fs (ch.map dK)=fs ((ch.drop i).map dK)) (λi=>ch.length -i) (λi=>⟨[(25,some (.val (false,[.st (.view (ch.map sp))]))),(26,vI ch.length),(27,vI i)],[],0⟩) 0 (ai ajL) ⟨dz _,rfl⟩ ?_;rintro i ⟨hi,he⟩
  (try(refine tX 0 ?_;try exact Zt))
  (refine bR ?_ ?_<;>intro h<;>(try conv=>whnf))
  ·have al:i<ch.length:=by omega
   have iR:=Kk al;have g:=wJ _ (wl _ (EJ al));rw[TW al]at he
   (try(refine tX 0 ?_;try exact Zt))
   (refine bR ?_ ?_<;>intro h<;>(try conv=>whnf))
   ·exact aiN
   ·rw[if_neg h]at he;exact tL
  ·exact aig
abbrev FnQ (f:Nat):SV:=(false,[.fn f [] []])
def Ny {s:List UInt8}(hl:s.length<=1000000){n:Int}(h:wN false 4 s=some n):ac 247 [SS s] (.aI [I n,Bo true]):=by
 have c:=rO (d:=4) bX hl h;refine sF f247 ?_;exact K1
def Nz {s:List UInt8}(hl:s.length<=1000000)(h:wN false 4 s=none): ∃v,ac 247 [SS s] (.aI [I v,Bo false]):=by
 obtain⟨v,c⟩:=rQ (d:=4) hl h;refine⟨v,?_⟩;refine sF f247 ?_;exact K1
def nK {s:List UInt8}(hl:s.length<=1000000): ∃v,ac 247 [SS s] (.aI [I v,Bo (wN false 4 s).isSome])/\∀n,wN false 4 s=some n->v=n:=by
 cases h:wN false 4 s with
 |some n=>exact⟨n,Ny hl h,λm hm=>by simpa using hm⟩
 |none=>
  obtain⟨v,c⟩:=Nz hl h;exact⟨v,c,λm hm=>by cases hm⟩
def ac5 (s:List UInt8)(hl:s.length<=1000000): ∃v u,ac 246 [SS s,SS [47],FnQ 247] (.aI [I v,I u,Bo (vq s).isSome])/\∀p,vq s=some p->p=(v,u):=by
 rcases vp s 47 with⟨h1,h2⟩|⟨a,b,h1,h2,h3,h4⟩
 ·have c1:=gT s 47 hl;rw[h1]at c1;obtain⟨v,c2,_⟩:=nK hl;obtain⟨u,c3,_⟩:=nK (s:=[]) (by simp);have e:vq s=none:=yU h2;rw[e];refine⟨v,u,?_,λp hp=>by cases hp⟩;show nR _ _ _ _ (.aI [I v,I u,Bo false]);generalize (wN false 4 s).isSome =x at*;generalize (wN false 4 []).isSome =y at*;refine sF f246 ?_;exact aih
 ·have c1:=gT s 47 hl;rw[h1]at c1;obtain⟨v,c2,k2⟩:=nK (s:=a) K0;obtain⟨u,c3,k3⟩:=nK (s:=b) K0
  have e:vq s=(wN false 4 a).bind λx=>(wN false 4 b).map λy=>(x,y):=by
   unfold vq;exact yV (c:=47) (λs=>Kc (.inl rfl)) h2
  rw[e];refine⟨v,u,?_,λp hp=>?_⟩
  ·rw[oM.1];clear e k2 k3;generalize (wN false 4 a).isSome =x at*;generalize (wN false 4 b).isSome =y at*;refine sF f246 ?_;exact ahF
  ·exact ajF
def nL (s:List UInt8)(hl:s.length<=1000000): ∃v u,ac 197 [SS s] (.aI [F2 v u,Bo (vq s).isSome])/\∀p,vq s=some p->p=(v,u):=by
 obtain⟨v,u,c,k⟩:=ac5 s hl;refine⟨v,u,?_,k⟩;generalize (vq s).isSome =x at*;refine sF f197 ?_;exact K1
def ZO (s:List UInt8)(hl:s.length<=1000000): ∃v u v' u',ac 196 [SS s,SS [32],FnQ 197] (.aI [F2 v u,F2 v' u',Bo (BH s).isSome])/\∀p,BH s=some p->p=(v,u,v',u'):=by
 rcases vp s 32 with⟨h1,h2⟩|⟨a,b,h1,h2,h3,h4⟩
 ·have c1:=gT s 32 hl;rw[h1]at c1;obtain⟨v,u,c2,_⟩:=nL s hl;obtain⟨v',u',c3,_⟩:=nL [] (by simp);have e:BH s=none:=by unfold BH;rw[yU h2];rfl
  rw[e];refine⟨v,u,v',u',?_,λp hp=>by cases hp⟩;show nR _ _ _ _ (.aI [F2 v u,F2 v' u',Bo false]);generalize (vq s).isSome =x at*;generalize (vq []).isSome =y at*;refine sF f196 ?_;exact aih
 ·have c1:=gT s 32 hl;rw[h1]at c1;obtain⟨v,u,c2,k2⟩:=nL a K0;obtain⟨v',u',c3,k3⟩:=nL b K0
  have e:BH s=((vq a).bind λx=>(vq b).map λy=>(x,y)).map λp=>(p.1.1,p.1.2,p.2.1,p.2.2):=by
   unfold BH;rw[yV (c:=32) (λs=>ak5) h2]
  rw[e];refine⟨v,u,v',u',?_,λp hp=>?_⟩
  ·rw[SZ,oM.1];clear e k2 k3;generalize (vq a).isSome =x at*;generalize (vq b).isSome =y at*;refine sF f196 ?_;exact ahF
  ·exact afv
def Kl (s:List UInt8)(hl:s.length<=1000000): ∃q,ac 153 [SS s] (.aI [(true,sp q),Bo (BH s).isSome])/\∀p,BH s=some p->p=q:=by
 obtain⟨v,u,v',u',c,k⟩:=ZO s hl;refine⟨(v,u,v',u'),?_,k⟩;generalize (BH s).isSome =x at*;refine sF f153 ?_;exact K1
def pF (l:List Int)(hl:l.length<=4294967296):ac 378 [L l] (.one (L (trim l))):=by
 refine sF f378 ?_
 (try(refine tX 0 ?_;try exact Zt))
 refine af (ι:=Nat) (λn=>n<=l.length/\oT l n=oT l l.length) (λn=>n) (λn=>⟨[(0,vL l),(3,vI n)],[],0⟩) l.length Zc ⟨dG _,rfl⟩ ?_;rintro n ⟨hn,ht⟩
 cases n with
 |zero=>
  (try(refine tX 0 ?_;try exact Zt))
  unfold trim;rw[<- ht];rfl
 |succ n=>
  have e1:(((n+1:Nat):Int) -1).toNat =n:=by omega
  rw[show oT l (n+1)=if l.getD n 0=0 then oT l n else n+1 from rfl]at ht
  (try(refine tX 0 ?_;try exact Zt))
  try rw[e1]
  (refine bR ?_ ?_<;>intro h<;>(try conv=>whnf))
  ·(try(refine tX 0 ?_;try exact Zt))
   rw[if_pos h]at ht;exact⟨n,⟨by omega,ht⟩,by omega,ai (by rw[show((n+1:Nat):Int) -1=(n:Int)by omega];kernel_rfl)⟩
  ·rw[if_neg h]at ht
   (try(refine tX 0 ?_;try exact Zt))
   unfold trim;rw[<- ht];rfl
abbrev Wd (s:Int)(l:List Int):SV:=(true,[J s,.ints l])
def BS (s:Int)(l:List Int)(hl:l.length<=4294967296):ac 371 [I s,L l] (.one (Wd (if trim l= []then 0 else s) (trim l))):=by
 have e:((trim l).length :Int)=0↔trim l= []:=by rw[<- C8];omega
 refine sF f371 ?_;repeat((first|(refine kO 7 rfl ?_;first|refine rG (λ_ z=>⟨_,pF l hl,z⟩) ?_)|refine tX 0 ?_|exact Zt);(try conv=>whnf))
 (refine bR ?_ ?_<;>intro h<;>(try conv=>whnf))
 ·(try(refine tX 0 ?_;try exact Zt))
  rw[if_pos (e.1 h)];rfl
 ·(try(refine tX 0 ?_;try exact Zt))
  rw[if_neg (λhh=>h (e.2 hh))];rfl
abbrev wd (x:Int):SV:=Wd x.sign (bf x.natAbs)
def oU {s:Int}{l:List Int}(hl:l.length<=4294967296)(hd:Dg l)(hs:s=1\/s= -1):ac 371 [I s,L l] (.one (wd (s*aW l))):=by
 have h:=BS s l hl;have h0:=mK hd;rw[CJ hd]at h;have e1:(s*aW l).natAbs =(aW l).toNat :=by rcases hs with rfl|rfl<;>omega
 have e2:(if bf (aW l).toNat = []then 0 else s)=(s*aW l).sign :=by
  by_cases hz:aW l=0
  ·rw[hz];simp[di]
  ·rw[if_neg (λhh=>by rw[za]at hh;omega)];rcases hs with rfl|rfl
   ·rw[Dn,Int.sign_eq_one_of_pos K0]
   ·rw[aep K0]
 unfold wd;rw[e1,<- e2];exact h
def kh (n:Int)(h: -9223372036854775807<=n/\n<=9223372036854775807):ac 359 [I n] (.one (wd n)):=by
 have key: ∀(s x:Int),(s=1\/s= -1)->0<=x->s*x=n->x<=9223372036854775807->
   ∀(l:List Int) (m:Nat),Dg l/\aW l+pw l.length*m=x->m=0->l.length<=3->ac 371 [I s,L l] (.one (wd n)):=by
  intro s x hs hx hsx hb l m ⟨hd,he⟩ hm hl;subst hm;have:=oU (s:=s) (l:=l) K0 hd hs;rwa [show s*aW l=n by rw[<- hsx,<- he];simp]at this
 have grow: ∀(x:Int) (l:List Int) (m:Nat),Dg l/\aW l+pw l.length*m=x->Dg (l++[(m:Int)%1000000000])/\aW (l++[(m:Int)%1000000000])+pw (l++[(m:Int)%1000000000]).length *((m/1000000000:Nat):Int)=x:=by
  intro x l m ⟨hd,he⟩;refine⟨λy hy=>?_,?_⟩
  ·rcases ig.1 hy with hy|hy
   ·exact hd y hy
   ·simp at hy;subst hy;omega
  ·rw[vC,tH,P0,pE,<- he];have:(m:Int)=m%1000000000+1000000000*((m/1000000000:Nat):Int):=by omega
   conv=>rhs;rw[this]
   rw[Int.mul_add,Mh];omega
 by_cases Lu:n<0
 ·have hk:=key (-1) (-n) (.inr rfl) K0 K0 K0;refine sF f359 ?_
  (try(refine tX 0 ?_;try exact Zt))
  refine aA ?_
  (try(refine tX 0 ?_;try exact Zt))
  have g0:=grow (-n) [] (-n).toNat ⟨QU,by simp[aW,pw];omega⟩
  refine af (ι:=List Int × Nat) (λp=>(Dg p.1/\aW p.1+pw p.1.length*p.2= -n)/\p.1.length<=3/\(p.1.length<=1->p.2<=9223372036)/\(p.1.length=2->p.2<=9)/\(p.1.length=3->p.2=0)/\1<=p.1.length) (λp=>p.2) (λp=>⟨[(0,vI p.2),(2,pP 0),(3,vI (-1)),(4,pO 1)],[(0,some (.box 408 [.st (J 0),.nil])),(1,some (.row true 1 (.ints p.1)))],2⟩) ([-n%1000000000],(-n).toNat /1000000000)
   (ai (by rw[show(((-n).toNat /1000000000:Nat):Int)= -n/1000000000 by omega];kernel_rfl)) ⟨by rw[show((-n).toNat :Int)= -n by omega]at g0;exact g0,by simp,by simp;omega,by simp,by simp,by simp⟩ ?_
  rintro⟨l,m⟩ ⟨h1,h2,h3,h4,h5,h6⟩;simp only at h1 h2 h3 h4 h5 h6
  (try(refine tX 0 ?_;try exact Zt))
  (refine bR ?_ ?_<;>intro h<;>(try conv=>whnf))
  ·have g:=grow (-n) l m h1;exact K75
  ·repeat((first|(refine kO 7 rfl ?_;first|refine rG (λ_ z=>⟨_,hk l m h1 K0 h2,z⟩) ?_)|refine tX 0 ?_|exact Zt);(try conv=>whnf))
   rfl
 ·have hk:=key 1 n (.inl rfl) K0 K0 K0;by_cases hz:n=0
  ·subst hz;have hk:=hk [] 0 ⟨QU,by simp[aW]⟩ rfl (by simp);refine sF f359 ?_
   (try(refine tX 0 ?_;try exact Zt))
   refine aA ?_;exact Lz
  ·refine sF f359 ?_
   (try(refine tX 0 ?_;try exact Zt))
   refine aA ?_
   (try(refine tX 0 ?_;try exact Zt))
   have g0:=grow n [] n.toNat ⟨QU,by simp[aW,pw];omega⟩
   refine af (ι:=List Int × Nat) (λp=>(Dg p.1/\aW p.1+pw p.1.length*p.2=n)/\p.1.length<=3/\(p.1.length<=1->p.2<=9223372036)/\(p.1.length=2->p.2<=9)/\(p.1.length=3->p.2=0)/\1<=p.1.length) (λp=>p.2) (λp=>⟨[(0,vI p.2),(2,pP 0),(3,vI 1),(4,pO 1)],[(0,some (.box 408 [.st (J 0),.nil])),(1,some (.row true 1 (.ints p.1)))],2⟩) ([n%1000000000],n.toNat/1000000000)
    (ai (by rw[show((n.toNat/1000000000:Nat):Int)=n/1000000000 by omega];kernel_rfl)) ⟨by rw[show(n.toNat:Int)=n by omega]at g0;exact g0,by simp,by simp;omega,by simp,by simp,by simp⟩ ?_
   rintro⟨l,m⟩ ⟨h1,h2,h3,h4,h5,h6⟩;simp only at h1 h2 h3 h4 h5 h6
   (try(refine tX 0 ?_;try exact Zt))
   (refine bR ?_ ?_<;>intro h<;>(try conv=>whnf))
   ·have g:=grow n l m h1;exact K75
   ·repeat((first|(refine kO 7 rfl ?_;first|refine rG (λ_ z=>⟨_,hk l m h1 K0 h2,z⟩) ?_)|refine tX 0 ?_|exact Zt);(try conv=>whnf))
    rfl
def pV (x y:Nat)(hx:(bf x).length <=1000000)(_hy:(bf y).length <=1000000):ac 381 [L (bf x),L (bf y)] (.one (I (xl x y))):=by
 have cx':=rR x;have cy':=rR y;have vx:=bs x;have vy:=bs y;have l1:(bf x).length < (bf y).length ->x<y:=λh=>by have:=QV cx' cy' h;omega
 have l2:(bf y).length < (bf x).length ->y<x:=λh=>by have:=QV cy' cx' h;omega
 have t1: ∀i,(bf x).length =(bf y).length ->i< (bf x).length ->(bf x).drop (i+1)=(bf y).drop (i+1)->(bf x).getD i 0< (bf y).getD i 0->x<y:=λi a b c d=>by have:=ZS cx'.1 cy'.1 a b c d;omega
 have t2: ∀i,(bf x).length =(bf y).length ->i< (bf x).length ->(bf x).drop (i+1)=(bf y).drop (i+1)->(bf y).getD i 0< (bf x).getD i 0->y<x:=λi a b c d=>by have:=ZS cy'.1 cx'.1 a.symm K0 c.symm d;omega
 have t3:bf x=bf y->x=y:=λh=>by grind
 generalize bf x=a at*;generalize bf y=b at*;clear vx vy cx' cy';unfold xl;refine sF f381 ?_
 (try(refine tX 0 ?_;try exact Zt))
 (refine bR ?_ ?_<;>intro h<;>(try conv=>whnf))
 ·(try(refine tX 0 ?_;try exact Zt))
  (refine bR ?_ ?_<;>intro h<;>(try conv=>whnf))
  ·exact K89
  ·exact K89
 ·have hl:a.length=b.length:=by omega
  (try(refine tX 0 ?_;try exact Zt))
  refine af (ι:=Nat) (λm=>m<=a.length/\a.drop m=b.drop m) (λm=>m) (λm=>⟨[(0,vL a),(1,vL b),(5,vI ((m:Int) -1))],[],0⟩) a.length Zc ⟨dG _,by grind⟩ ?_;rintro m ⟨hm,hd⟩
  cases m with
  |zero=>
   exact K89
  |succ m=>
   have e1:(((m+1:Nat):Int) -1).toNat =m:=by omega
   have e2:((m+1:Nat):Int) -1=(m:Int):=by omega
   rw[e2]
   (try(refine tX 0 ?_;try exact Zt))
   (refine bR ?_ ?_<;>intro h<;>(try conv=>whnf))
   ·exact K89
   ·(try(refine tX 0 ?_;try exact Zt))
    (refine bR ?_ ?_<;>intro h<;>(try conv=>whnf))
    ·exact K89
    ·(try(refine tX 0 ?_;try exact Zt))
     refine⟨m,⟨by omega,?_⟩,by omega,Zc⟩;rw[od (d:=0) (show m<a.length by omega),od (d:=0) (show m<b.length by omega),hd]
     grind
def ID (l:List Int)(i:Nat):ac 384 [L l,I i] (.one (I (l.getD i 0))):=by
 refine sF f384 ?_
 (try(refine tX 0 ?_;try exact Zt))
 (refine bR ?_ ?_<;>intro h<;>(try conv=>whnf))
 ·(try(refine tX 0 ?_;try exact Zt))
 ·exact K89
def GX {a b:List Int}(ha:Dg a)(hb:Dg b)(hl:a.length<=1000000/\b.length<=1000000)(gk:a≠[]):ac 385 [L a,L b] (.own 1 (.ints (Cn a b (rU a b)))):=by
 have fL:0<a.length:=LX.2 gk;have hN:rU a b<=1000001:=by grind[rU]
 have hN1:1<=rU a b:=by grind[rU]
 have dig:=ID;refine sF f385 ?_
 (try(refine tX 0 ?_;try exact Zt))
 refine aA ?_;have d0:=dig a 0;have d0':=dig b 0;have d1:=ha.get 0;have d2:=hb.get 0
 (try(refine tX 0 ?_;try exact Zt))
 refine af (ι:=Nat) (λi=>1<=i/\i<=rU a b) (λi=>rU a b -i) (λi=>⟨[(0,vL a),(1,vL b),(5,pO 0),(6,vI (sZ a b i)),(7,vI i)],[(0,some (.row true 1 (.ints (Cn a b i))))],1⟩) 1 Zc ⟨dG _,hN1⟩ ?_;clear d0 d0' d1 d2;rintro i ⟨xJ,hi⟩;have hc:=IC ha hb hi;have d0:=dig a i;have d0':=dig b i;have d1:=ha.get i;have d2:=hb.get i;have d3:=rT ha hb i;have d4:=EN a b i;have d5:=IB a b i;by_cases al:i<rU a b
 ·have Hq:=hc.2 al;repeat' ((first|refine tX 0 ?_|exact Zt|refine bR ?_ ?_<;>intro h)<;>(try conv=>whnf))
  all_goals exact⟨i+1,⟨by omega,al⟩,by omega,ai (by rw[d5];kernel_rfl)⟩
 ·have Hq: ¬(i<a.length\/i<b.length\/sZ a b i>0):=λh=>al (hc.1 h);exact K89
def mn {a b:List Int}(ha:Dg a)(hb:Dg b)(hl:a.length<=1000000/\b.length<=a.length)(eA:aW b<=aW a):ac 382 [L a,L b] (.one (L (bf (aW a -aW b).toNat))):=by
 have hd:=ZV ha hb a.length;have he:=ada ha hb hl.2 eA;have dig:=ID;have ht:=pF (Xq a b a.length) (by grind[CM]);rw[CJ hd,he]at ht;by_cases gk:a.length=0
 ·have e1:Xq a b a.length= []:=by rw[gk];rfl
  rw[e1]at ht;refine sF f382 ?_
  (try(refine tX 0 ?_;try exact Zt))
  refine aA ?_;exact Lz
 ·refine sF f382 ?_
  (try(refine tX 0 ?_;try exact Zt))
  refine aA ?_;have d0':=dig b 0;have d1:=ha.get 0;have d2:=hb.get 0
  (try(refine tX 0 ?_;try exact Zt))
  have g5:Xq a b 1= [sbD a b 0]:=rfl
  (refine bR ?_ ?_<;>intro h<;>(try conv=>whnf))
  ·have e1:GA a b 1=1:=if_pos h;have e2:sbD a b 0=a.getD 0 0 -b.getD 0 0 -0+1000000000:=if_pos h;exact K14
  ·have e1:GA a b 1=0:=if_neg h;have e2:sbD a b 0=a.getD 0 0 -b.getD 0 0 -0:=if_neg h;exact K14
def Sz (k:Nat)(x:Int):Prop:=(bf x.natAbs).length <=k
theorem IE {k:Nat}{x:Int}(h:(x.natAbs:Int)<pw k):Sz k x:=BR h
theorem TZ {k:Nat}{x:Int}(h:Sz k x):(x.natAbs:Int)<pw k:=by
 have h1:=vD (df x.natAbs);rw[bs]at h1;have h2:=CK h;omega
def Sz.mono {k m:Nat}{x:Int}(h:Sz k x)(hm:k<=m):Sz m x:=pf h hm
def Sz.neg {k:Nat}{x:Int}(h:Sz k x):Sz k (-x):=by grind[Sz]
theorem Sz.add {k:Nat}{x y:Int}(hx:Sz k x)(hy:Sz k y):Sz (k+1) (x+y):=by grind[TZ,IE]
def Sz.mul {k m:Nat}{x y:Int}(hx:Sz k x)(hy:Sz m y):Sz (k+m) (x*y):=by
 have h1:=TZ hx;have h2:=TZ hy;refine IE ?_;rw[Yl,show pw (k+m)=pw k*pw m from Int.pow_add _ _ _];have h3:=Sr h1 (QT m);have h4:(x.natAbs:Int)*y.natAbs<=x.natAbs*pw m:=XJ K0 K0
 grind
def BT (x:Int):ac 373 [wd x] (.one (wd (-x))):=by
 have hs: -9223372036854775808<x.sign/\x.sign<=9223372036854775807:=by grind
 refine sF f373 ?_
 (try(refine tX 0 ?_;try exact Zt))
 unfold wd;rw[Int.sign_neg,Int.natAbs_neg];rfl
def iD (x:Int):(x.sign=0↔x=0)/\(x.sign=1↔0<x)/\(x.sign= -1↔x<0)/\(x.sign=0\/x.sign=1\/x.sign= -1):=by grind
def xm (x y:Nat):(xl x y>0↔y<x)/\(xl x y=0↔x=y):=by grind[xl]
def ND {x y:Int}(hx:Sz 100000 x)(hy:Sz 100000 y):ac 383 [wd x,wd y] (.one (wd (x+y))):=by
 have fx:=iD x;have fy:=iD y;have fc:=xm x.natAbs y.natAbs;have wo: ∀ {s:Int} {l:List Int} {z:Int},Dg l->l.length<=4294967296->(s=1\/s= -1)->s*aW l=z->ac 371 [I s,L l] (.one (wd z)):=λhd hl hs hz=>by rw[<- hz];exact oU hl hd hs
 have tu:(bf x.natAbs).length <=100000:=hx;have hy':(bf y.natAbs).length <=100000:=hy;have nx:0<x.natAbs->bf x.natAbs≠[]:=λh e=>by grind[za]
 have a1:0<x.natAbs->ac 385 [L (bf x.natAbs),L (bf y.natAbs)] (.own 1 (.ints (Cn (bf x.natAbs) (bf y.natAbs) (rU (bf x.natAbs) (bf y.natAbs))))):=λh=>GX (df _) (df _) ⟨by omega,by omega⟩ (nx h);have va:=ZU (df x.natAbs) (df y.natAbs);rw[bs,bs]at va;have la:(Cn (bf x.natAbs) (bf y.natAbs) (rU (bf x.natAbs) (bf y.natAbs))).length <=4294967296:=by rw[EN];unfold rU;split<;>omega
 have da:=ac9 (a:=bf x.natAbs) (b:=bf y.natAbs) (rU (bf x.natAbs) (bf y.natAbs));have c1:=pV x.natAbs y.natAbs K0 K0
 have s1:y.natAbs<=x.natAbs->ac 382 [L (bf x.natAbs),L (bf y.natAbs)] (.one (L (bf (x.natAbs -y.natAbs)))):=λh=>by
  have:=mn (df x.natAbs) (df y.natAbs) ⟨by omega,gt h⟩ (by grind[bs]);rwa [bs,bs,show((x.natAbs:Int) -y.natAbs).toNat =x.natAbs -y.natAbs by omega]at this
 have s2:x.natAbs<=y.natAbs->ac 382 [L (bf y.natAbs),L (bf x.natAbs)] (.one (L (bf (y.natAbs -x.natAbs)))):=λh=>by
  have:=mn (df y.natAbs) (df x.natAbs) ⟨by omega,gt h⟩ (by grind[bs]);rwa [bs,bs,show((y.natAbs:Int) -x.natAbs).toNat =y.natAbs -x.natAbs by omega]at this
 have l1:(bf (x.natAbs -y.natAbs)).length <=100000:=pf (gt (Nat.sub_le _ _)) tu;have l2:(bf (y.natAbs -x.natAbs)).length <=100000:=pf (gt (Nat.sub_le _ _)) hy';rcases S3 x 0 with h1|h1|h1
 ·have ex:x.sign= -1:=by omega
  rcases S3 y 0 with h2|h2|h2
  ·have ey:y.sign= -1:=by omega
   have w1:=wo da la (.inr rfl) (show -1*aW _=x+y by grind);have a1:=a1 K0;unfold wd;rw[ex,ey];refine sF f383 ?_;exact Lz
  ·exact ah0
  ·have ey:y.sign=1:=by omega
   rcases S4 x.natAbs y.natAbs with h3|h3|h3
   ·have cc:xl x.natAbs y.natAbs= -1:=by unfold xl;grind
    rw[cc]at c1;have s2:=s2 K0;have w1:=wo (df (y.natAbs -x.natAbs)) K0 (.inl rfl) (show 1*aW _=x+y by grind[bs]);unfold wd;rw[ex,ey];refine sF f383 ?_;exact Lz
   ·have cc:xl x.natAbs y.natAbs=0:=by grind
    rw[cc]at c1;have ez:x+y=0:=by omega
    unfold wd;rw[ex,ey,ez];simp only[Dm,Dj,di];refine sF f383 ?_;exact Lz
   ·have cc:xl x.natAbs y.natAbs=1:=by unfold xl;grind
    rw[cc]at c1;have s1:=s1 K0;have w1:=wo (df (x.natAbs -y.natAbs)) K0 (.inr rfl) (show -1*aW _=x+y by grind[bs]);unfold wd;rw[ex,ey];refine sF f383 ?_;exact Lz
 ·subst h1;simp only[Int.zero_add];unfold wd;simp only[Dm,Dj,di];refine sF f383 ?_;exact Lz
 ·have ex:x.sign=1:=by omega
  rcases S3 y 0 with h2|h2|h2
  ·have ey:y.sign= -1:=by omega
   rcases S4 x.natAbs y.natAbs with h3|h3|h3
   ·have cc:xl x.natAbs y.natAbs= -1:=by unfold xl;grind
    rw[cc]at c1;have s2:=s2 K0;have w1:=wo (df (y.natAbs -x.natAbs)) K0 (.inr rfl) (show -1*aW _=x+y by grind[bs]);unfold wd;rw[ex,ey];refine sF f383 ?_;exact Lz
   ·have cc:xl x.natAbs y.natAbs=0:=by grind
    rw[cc]at c1;have ez:x+y=0:=by omega
    unfold wd;rw[ex,ey,ez];simp only[Dm,Dj,di];refine sF f383 ?_;exact Lz
   ·have cc:xl x.natAbs y.natAbs=1:=by unfold xl;grind
    rw[cc]at c1;have s1:=s1 K0;have w1:=wo (df (x.natAbs -y.natAbs)) K0 (.inl rfl) (show 1*aW _=x+y by grind[bs]);unfold wd;rw[ex,ey];refine sF f383 ?_;exact Lz
  ·exact ah0
  ·have ey:y.sign=1:=by omega
   have w1:=wo da la (.inl rfl) (show 1*aW _=x+y by grind);have a1:=a1 K0;unfold wd;rw[ex,ey];refine sF f383 ?_;exact Lz
def NE {s:Int}{l:List Int}(hl:l.length<=4294967296)(hd:Dg l)(hz:aW l=0):ac 371 [I s,L l] (.one (wd 0)):=by
 have h:=BS s l hl;rw[CJ hd,hz]at h;simp only[Int.toNat_zero,di,if_true]at h;unfold wd;simp only[Dm,Dj,di];exact h
def Km (sx sy:Int)(a b:List Int)(ha:Dg a)(hb:Dg b)(hla:a.length<=100000)(hlb:b.length<=100000)(_r:SV)(hs:(sx=0\/sx=1\/sx= -1)/\(sy=0\/sy=1\/sy= -1))
  (hw:ac 371 [I (sx*sy),L (gX a b a.length)] (.one (wd (sx*sy*(aW a*aW b))))):ac 361 [Wd sx a,Wd sy b] (.one (wd (sx*sy*(aW a*aW b)))):=by
 have Pn: -1<=sx*sy/\sx*sy<=1:=by
  obtain⟨h1,h2⟩:=hs;rcases h1 with rfl|rfl|rfl<;>rcases h2 with rfl|rfl|rfl<;>decide
 refine sF f361 ?_
 (try(refine tX 0 ?_;try exact Zt))
 refine af (ι:=Nat) (λi=>i<=a.length) (λi=>a.length -i) (λi=>⟨[(2,pP 0),(3,pP 1),(4,pP 2),(5,pO 3),(6,vI i)],[(0,some (.box 408 [.st (J sx),.st (.ints a)])),(1,some (.box 408 [.st (J sy),.st (.ints b)])),(2,some (.box 408 [.st (J 0),.nil])),(3,some (.row true 1 (.ints (gX a b i))))],4⟩) 0 (ai (by rw[show((a.length:Int)+(b.length:Int)+1).toNat =a.length+b.length+1 by omega];kernel_rfl)) (dz _) ?_;intro i hi;have d1:=rV a b i
 (try(refine tX 0 ?_;try exact Zt))
 (refine bR ?_ ?_<;>intro h<;>(try conv=>whnf))
 ·have al:i<a.length:=by omega
  obtain⟨m1,m2,m3⟩:=uG ha hb i hi;have g0:=ha.get i
  (try(refine tX 0 ?_;try exact Zt))
  refine af (ι:=Nat) (λk=>k<=b.length) (λk=>b.length -k) (λk=>⟨[(2,pP 0),(3,pP 1),(4,pP 2),(5,pO 3),(6,vI i),(7,vI (i7 (gX a b i) i (a.getD i 0) b k).2),(8,vI k)],[(0,some (.box 408 [.st (J sx),.st (.ints a)])),(1,some (.box 408 [.st (J sy),.st (.ints b)])),(2,some (.box 408 [.st (J 0),.nil])),(3,some (.row true 1 (.ints (i7 (gX a b i) i (a.getD i 0) b k).1)))],4⟩) 0 Zc (dz _) ?_;intro k hk;obtain⟨n1,n2,n3,n4⟩:=xn (i:=i) (x:=a.getD i 0) m1 hb g0 k K0;have d2:=qH (gX a b i) i (a.getD i 0) b k;have g1:=n1.get (i+k);have g2:=hb.get k;have g3:=ER g0 g2
  (try(refine tX 0 ?_;try exact Zt))
  (refine bR ?_ ?_<;>intro h<;>(try conv=>whnf))
  ·have hkt:k<b.length:=by omega
   (try(refine tX 0 ?_;try exact Zt))
   exact⟨k+1,hkt,by omega,Zc⟩
  ·obtain rfl:k=b.length:=by omega
   have g4:=n1.get (i+b.length)
   (try(refine tX 0 ?_;try exact Zt))
   exact⟨i+1,al,by omega,Zc⟩
 ·obtain rfl:i=a.length:=by omega
  exact Lz
def pG {x y:Int}(hx:Sz 100000 x)(hy:Sz 100000 y):ac 361 [wd x,wd y] (.one (wd (x*y))):=by
 have fx:=iD x;have fy:=iD y;obtain⟨m1,m2,_⟩:=uG (df x.natAbs) (df y.natAbs) _ (dG _);rw[mB]at m2;have ml:=rV (bf x.natAbs) (bf y.natAbs) (bf x.natAbs).length;have tu:(bf x.natAbs).length <=100000:=hx;have hy':(bf y.natAbs).length <=100000:=hy
 have ev:x.sign*y.sign*((x.natAbs:Int)*y.natAbs)=x*y:=by
  have e1:x.sign*(x.natAbs:Int)=x:=Int.sign_mul_natAbs x;have e2:y.sign*(y.natAbs:Int)=y:=Int.sign_mul_natAbs y
  calc x.sign*y.sign*((x.natAbs:Int)*y.natAbs)=(x.sign*x.natAbs)*(y.sign*y.natAbs):=by rw[Mh,Mh,Int.mul_left_comm y.sign]
   _=x*y:=by rw[e1,e2]
 have:=Km x.sign y.sign (bf x.natAbs) (bf y.natAbs) (df _) (df _) tu hy' (wd (x*y)) ⟨by omega,by omega⟩ ?_
 ·rw[bs,bs,ev]at this;exact this
 ·by_cases hz:x.sign*y.sign=0
  ·have hxy:aW (bf x.natAbs)*aW (bf y.natAbs)=0:=by
    rw[bs,bs];rcases Int.mul_eq_zero.1 hz with h|h
    ·have:=fx.1.1 h;subst this;simp
    ·have:=fy.1.1 h;subst this;simp
   rw[hxy,Int.mul_zero];exact NE K0 m1 (by rw[m2,hxy])
  ·rw[<- m2]
   exact oU K0 m1 (by
    obtain⟨_,_,_,f1⟩:=fx;obtain⟨_,_,_,f2⟩:=fy
    rcases f1 with h|h|h<;>rcases f2 with h'|h'|h'<;>rw[h,h']at hz ⊢ <;>first|(exact absurd rfl hz)|decide)
def ala {x y A B:Int}(hx: -A<=x/\x<=A)(hy: -B<=y/\y<=B)(hA:0<=A): -(A*B)<=x*y/\x*y<=A*B:=by
 have h:(x*y).natAbs <=A.natAbs*B.natAbs:=by rw[Yl];exact Yi K0 K0
 rw[<- Yl]at h;have h2:0<=A*B:=De hA K0;omega
abbrev Rr (l:List Int)(e:Int):SV:=(true,[.ints l,J e])
def jA {l:List Int}{lo hi:Int}(h:i6 l lo hi){i:Nat}(lA:i<l.length):lo<=l.getD i 0/\l.getD i 0<=hi:=h _ (qD lA)
def aai {l:List Int}(h0:0<l.length)(hl:l.length<=maxLen):ac 279 [L l] (.one (I (pI l))):=by
 unfold maxLen at hl;have p1:CQ l 1=0:=by grind[CQ]
 refine sF f279 ?_
 (try(refine tX 0 ?_;try exact Zt))
 refine af (ι:=Nat) (λi=>1<=i/\i<=l.length) (λi=>l.length -i) (λi=>⟨[(0,vL l),(3,vI (l.getD (CQ l i) 0)),(4,vI i)],[],0⟩) 1 (ai (by rw[p1];kernel_rfl)) ⟨dG _,h0⟩ ?_;rintro i ⟨xJ,hi⟩;have hs:(if l.getD i 0>l.getD (CQ l i) 0 then l.getD i 0 else l.getD (CQ l i) 0)=l.getD (CQ l (i+1)) 0:=by grind[CQ]
 (try(refine tX 0 ?_;try exact Zt))
 (refine bR ?_ ?_<;>intro h<;>(try conv=>whnf))
 ·have al:i<l.length:=by omega
  (try(refine tX 0 ?_;try exact Zt))
  exact⟨i+1,⟨by omega,al⟩,by omega,ai (by rw[<- hs];kernel_rfl)⟩
 ·obtain rfl:i=l.length:=by omega
  exact tL
def Kw {l:List Int}(h0:0<l.length)(hl:l.length<=maxLen):ac 280 [L l,I (pI l)] (.one (I (pk l:Nat))):=by
 unfold maxLen at hl;have hp:pk l<l.length:=AO h0;refine sF f280 ?_
 (try(refine tX 0 ?_;try exact Zt))
 refine af (ι:=Nat) (λi=>i<=pk l) (λi=>l.length -i) (λi=>⟨[(0,vL l),(1,vI (pI l)),(7,vI l.length),(8,vI i)],[],0⟩) 0 Zc (dz _) ?_;intro i hi;by_cases he:i=pk l
 ·subst he;have:l.getD (pk l) 0=pI l:=rfl;exact tL
 ·have al:i<pk l:=by omega
  have:l.getD i 0<pI l:=IM al;exact tL
def Ra {l:List Int}(h0:0<l.length)(h:i6 l (-4096) 4096): -4096<=pI l/\pI l<=4096:=jA h (AO h0)
def Ww {l:List Int}{e:Int}(h0:0<l.length)(hl:l.length<=maxLen)(h:i6 l (-4096) 4096)(he:0<=e/\e<=1000):ac 230 [Rr l e] (.aI [I (pk l:Nat),F2 (pI l -e) (pI l+e)]):=by
 have hv:=Ra h0 h;have g1:=aai h0 hl;have g2:=Kw h0 hl;refine sF f230 ?_;exact tL
def Fc (l:List Int)(g:FuncId)(first:List (Bool × List SC))(bM:List (List SC))(p:Int->Bool)(hp: ∀n∈l,ac g (first++[I n]++bM.map λcs=>(false,[.ref cs])) (.one (Bo (p n))))(hl:l.length<=maxLen):
  ac 326 [L l,(false,[.fn g first bM])] (.one (I (fF p l 0))):=by
 unfold maxLen at hl;refine sF f326 ?_
 (try(refine tX 0 ?_;try exact Zt))
 refine af (ι:=Nat) (λi=>i<=l.length/\fF p l 0=fF p l i) (λi=>l.length -i) (λi=>⟨[(0,vL l),(1,some (.val (false,[.st (.fn g first bM)]))),(7,vI l.length),(8,vI i)],[],0⟩) 0 Zc ⟨dz _,rfl⟩ ?_;rintro i ⟨hi,hf⟩
 (try(refine tX 0 ?_;try exact Zt))
 (refine bR ?_ ?_<;>intro h<;>(try conv=>whnf))<;>((try(refine tX 0 ?_;try exact Zt)))
 ·have al:i<l.length:=by omega
  have hc:=hp _ (qD (d:=0) al);rw[vJ al]at hf
  (try(refine tX 0 ?_;try exact Zt))
  (refine bR ?_ ?_<;>intro h<;>(try conv=>whnf))<;>((try(refine tX 0 ?_;try exact Zt)))
  ·rw[hf,if_pos h];(first|done|rfl|exact True.intro)
  ·rw[if_neg h]at hf;exact⟨i+1,⟨al,hf⟩,by omega,Zc⟩
 ·obtain rfl:i=l.length:=by omega
  rw[hf,Kv];(first|done|rfl|exact True.intro)
def adq (p:Int->Bool)(l:List Int)(a:Nat):fF p l a=if fF p (l.drop a) 0>=0 then(a:Int)+fF p (l.drop a) 0 else -1:=by
 unfold fF
 grind
def zm (l:List Int)(e:Int)(a:Nat)(g:FuncId)(first:List (Bool × List SC))(bM:List (List SC))(p:Int->Bool)(ha:a<=l.length)(hp: ∀n∈l,ac g (first++[I n]++bM.map λcs=>(false,[.ref cs])) (.one (Bo (p n))))(hl:l.length<=maxLen):
  ac 281 [Rr l e,I (a:Nat),(false,[.fn g first bM])] (.one (I (fF p l a))):=by
 have hld:(l.drop a).length <=maxLen:=by grind
 have c:=Fc (l.drop a) g first bM p (λn hn=>hp n (P2 hn)) hld
 have c':ac 326 [L (l.drop (a:Int).toNat),(false,[.fn g first bM])] (.one (I (fF p (l.drop a) 0))):=c;rw[adq];have hb:=aah p (l.drop a) (dz _);rw[S7]at hb;unfold maxLen at hl;refine sF f281 ?_
 (try(refine tX 0 ?_;try exact Zt))
 (refine bR ?_ ?_<;>intro h<;>(try conv=>whnf))
 ·(try(refine tX 0 ?_;try exact Zt))
  grind;(first|done|rfl|exact True.intro)
 ·exact afC
def Fe (e t x:Int):Int->Bool:=λn=>decide (10*(n+e)>=t*x)
def Ff (e t x:Int):Int->Bool:=λn=>decide (10*(n -e)>=t*x)
def Kx (e x:Int):Int->Bool:=λn=>decide (2*(n -e)<=x)
def Ky (e x:Int):Int->Bool:=λn=>decide (2*(n+e)<=x)
abbrev smp (n:Int):Prop:= -10000<=n/\n<=10000
def Kz {t x:Int}(ht:0<=t/\t<=10)(hx:smp x): -100000<=t*x/\t*x<=100000:=ala (A:=10) (B:=10000) K0 hx K0
def Rb (n:Int)(l:List Int)(e t x y:Int)(hn:smp n)(he:0<=e/\e<=1000)(ht:0<=t/\t<=10)(hx:smp x):ac 282 [I n,(false,[.ref [.ints l,J e]]),(false,[.ref [J t]]),(false,[.ref [J x,J y]])] (.one (Bo (Fe e t x n))):=by
 have:=Kz ht hx;refine sF f282 ?_;exact tL
def Rd (n:Int)(l:List Int)(e t x y:Int)(hn:smp n)(he:0<=e/\e<=1000)(ht:0<=t/\t<=10)(hy:smp y):ac 283 [I n,(false,[.ref [.ints l,J e]]),(false,[.ref [J t]]),(false,[.ref [J x,J y]])] (.one (Bo (Ff e t y n))):=by
 have:=Kz ht hy;refine sF f283 ?_;exact tL
def Wx (n:Int)(l:List Int)(e x y:Int)(hn:smp n)(he:0<=e/\e<=1000):ac 284 [I n,(false,[.ref [.ints l,J e]]),(false,[.ref [J x,J y]])] (.one (Bo (Kx e y n))):=by
 refine sF f284 ?_;exact tL
def Wy (n:Int)(l:List Int)(e x y:Int)(hn:smp n)(he:0<=e/\e<=1000):ac 285 [I n,(false,[.ref [.ints l,J e]]),(false,[.ref [J x,J y]])] (.one (Bo (Ky e x n))):=by
 refine sF f285 ?_;exact tL
def IN {l:List Int}{e t x y:Int}(hl:l.length<=maxLen)(h:i6 l (-4096) 4096)(he:0<=e/\e<=1000)(ht:0<=t/\t<=10)(hx:smp x)(hy:smp y):ac 231 [Rr l e,I t,F2 x y] (.one (F2 (fF (Fe e t x) l 0) (fF (Ff e t y) l 0))):=by
 have c1:=zm l e 0 282 [] [[.ints l,J e],[J t],[J x,J y]] (Fe e t x) (dz _) (λn hn=>Rb n l e t x y ab6 he ht hx) hl;have c2:=zm l e 0 283 [] [[.ints l,J e],[J t],[J x,J y]] (Ff e t y) (dz _) (λn hn=>Rd n l e t x y ab6 he ht hy) hl;have c1':ac 281 [Rr l e,I 0,(false,[.fn 282 [] [[.ints l,J e],[J t],[J x,J y]]])] (.one (I (fF (Fe e t x) l 0))):=c1;have c2':ac 281 [Rr l e,I 0,(false,[.fn 283 [] [[.ints l,J e],[J t],[J x,J y]]])] (.one (I (fF (Ff e t y) l 0))):=c2;refine sF f231 ?_
 (try(refine tX 1 ?_;try exact Zt))
 exact K5
def aaj {l:List Int}{e x y:Int}{a:Nat}(ha:a<l.length)(hl:l.length<=maxLen)(h:i6 l (-4096) 4096)(he:0<=e/\e<=1000):ac 232 [Rr l e,I (a:Nat),F2 x y] (.one (F2 (fF (Kx e y) l (a+1)) (fF (Ky e x) l (a+1)))):=by
 have c1:=zm l e (a+1) 284 [] [[.ints l,J e],[J x,J y]] (Kx e y) ha (λn hn=>Wx n l e x y ab6 he) hl;have c2:=zm l e (a+1) 285 [] [[.ints l,J e],[J x,J y]] (Ky e x) ha (λn hn=>Wy n l e x y ab6 he) hl;unfold maxLen at hl;rw[Int.natCast_add,Int.natCast_one]at c1 c2;refine sF f232 ?_
 (try(refine tX 1 ?_;try exact Zt))
 exact K5
end Go.Proofs.Tryz
