import Derived.Test.YtackacoaaihcjaaGreatDoorPkT16
import Derived.Test.YtackacoaaihcjaaGreatDoorPkT17
set_option linter.all false
set_option maxRecDepth 100000
set_option maxHeartbeats 8000000
namespace Go.Proofs.Tryz
open Go.Fw Go.IntWalk Go.Plain
def rT (s:aj)(hl:s.length<=1000000): ∃v,ad 242 [SS s] (.aJ [I v,Bo (wN false 4 s).isSome])/\∀n,wN false 4 s=some n->n=v:=by
 have c:=iB s 4 K9 hl;unfold wN
 cases h:fQ 4 s with
 |none=>
  rw[h]at c;refine⟨0,?_,λn h=>by cases h⟩;refine sF f242 ?_;exact tL
 |some n=>
  rw[h]at c;refine⟨n,?_,λm hm=>?_⟩
  ·by_cases h0:0<=n
   ·have e:(if false=true\/0<=n then some n else none).isSome =true:=by rw[if_pos (.inr h0)];rfl
    show nN _ _ _ _ (.aJ [I n,Bo (if false=true\/0<=n then some n else none).isSome]);rw[e];refine sF f242 ?_;repeat' ((first|refine tX 0 ?_|exact Zt|refine bR ?_ ?_<;>intro h)<;>(try conv=>whnf))
    all_goals first|exact Zo|(exact mI (fH K0))|(exact rfl)
   ·have e:(if false=true\/0<=n then some n else none).isSome =false:=by rw[if_neg (by simpa using h0)];rfl
    show nN _ _ _ _ (.aJ [I n,Bo (if false=true\/0<=n then some n else none).isSome]);rw[e];refine sF f242 ?_;repeat' ((first|refine tX 0 ?_|exact Zt|refine bR ?_ ?_<;>intro h)<;>(try conv=>whnf))
    all_goals first|exact Zo|(exact mI (eT K0))|(exact rfl)
  ·exact aiK
def Oj:ad 279 [] (.one (SS [121,100,122])):=by
 refine sF f279 ?_;exact tL
def vG:aj:=[121,100,122]
def aaP {k c:Nat}(hk:k<3)(h:(vG.getD k 0).toNat =c):lH c=k:=by
 subst h
 match k,hk with
 |0,_=>rfl
 |1,_=>rfl
 |2,_=>rfl
def adI {c:Nat}(h: ∀j<3,(vG.getD j 0).toNat ≠c):lH c=3:=by
 have h0:(121:Nat)≠c:=h 0 K9;have h1:(100:Nat)≠c:=h 1 K9;have h2:(122:Nat)≠c:=h 2 K9;unfold lH;rw[if_neg K0,if_neg K0,if_neg K0]
def wq (s:aj)(hl:s.length<=1000000): ∃w:Go.Plain.Pm,ad 241 [SS s] (.aJ [(true,wdC w),Bo (Aq s).isSome])/\∀v,Aq s=some v->v=w:=by
 have cl:ad 279 [] (.one (SS vG)):=Oj;have vN:vG.length=3:=rfl;have hdl:(s.drop 2).length <=s.length:=by simp
 have c1:=jV (s.drop 2) 47 K0;rw[show(47:UInt8).toNat =47 from rfl,iK]at c1;have uD:=λ{k c:Nat} (hk:k<3) (h:(vG.getD k 0).toNat =c)=>aaP hk h;have hkn:=λ{c:Nat} (h: ∀j<3,(vG.getD j 0).toNat ≠c)=>adI h;by_cases hs:s.length<2\/((s.getD 1 0).toNat ≠43/\(s.getD 1 0).toNat ≠45)
 ·have e:Aq s=none:=if_pos (by unfold Bv;rcases hs with h|h;exact .inl h;exact .inr (.inl h));rw[e];refine⟨⟨0,0,0,false⟩,?_,λv h=>by cases h⟩;by_cases h2:s.length<2
  ·refine sF f241 ?_;exact tL
  ·refine sF f241 ?_;exact ajf
 have h2:2<=s.length:=by omega
 by_cases h3:lH (s.getD 0 0).toNat =3
 ·have e:Aq s=none:=if_pos (.inr (.inr h3));rw[e];refine⟨⟨3,0,0,false⟩,?_,λv h=>by cases h⟩;clear e;refine sF f241 ?_;repeat' ((first|refine tX 0 ?_|exact Zt|refine bR ?_ ?_<;>intro h)<;>(try conv=>whnf))
  all_goals
   refine af (ι:=Nat) (λk=>k<=3/\∀j<k,(vG.getD j 0).toNat ≠(s.getD 0 0).toNat) (λk=>3 -k) (λk=>⟨[(0,lS s),(2,pP 0),(4,pP 1)],[(0,some (.box 38 [.st (J 0),.st (J 0),.st (J 0),.st (K false)])),(1,some (.box 38 [.st (J k),.st (J 0),.st (J 0),.st (K false)]))],2⟩) 0 Zc ⟨by omega,λj hj=>by omega⟩ ?_;rintro k ⟨hk,dx⟩;by_cases ak:k<3
   ·have e8:(vG.getD k 0).toNat ≠(s.getD 0 0).toNat :=λh=>by have:=uD ak h;omega
    exact aiM
   ·obtain rfl:k=3:=by omega
    exact tL
 ·have e:Aq s=(uS (s.drop 2)).map λp=>⟨(lH (s.getD 0 0).toNat :Nat),p.2,p.1,decide ((s.getD 1 0).toNat =45)⟩:=if_neg (by unfold Bv;omega);have e2:uS (s.drop 2)=DW (wN false 4) (wN false 4) (av 47 (s.drop 2)):=rfl;rw[e,e2];have zB:=(bZ 47 (s.drop 2)).2;generalize av 47 (s.drop 2)=ps at*;obtain⟨kk,hkk⟩: ∃kk,lH (s.getD 0 0).toNat =kk:=⟨_,rfl⟩;rw[hkk]at h3 ⊢;clear e e2;have hn:=dZ ps;by_cases hp2:ps.length=2;rotate_left
  ·have e3:DW (wN false 4) (wN false 4) ps=none:=by
    exact aiP
   rw[e3];refine⟨⟨kk,0,0,false⟩,?_,λv h=>by cases h⟩;clear e3;refine sF f241 ?_;repeat' ((first|refine tX 0 ?_|exact Zt|refine bR ?_ ?_<;>intro h)<;>(try conv=>whnf))
   all_goals
    refine af (ι:=Nat) (λk=>k<=3/\∀j<k,(vG.getD j 0).toNat ≠(s.getD 0 0).toNat) (λk=>3 -k) (λk=>⟨[(0,lS s),(2,pP 0),(4,pP 1)],[(0,some (.box 38 [.st (J 0),.st (J 0),.st (J 0),.st (K false)])),(1,some (.box 38 [.st (J k),.st (J 0),.st (J 0),.st (K false)]))],2⟩) 0 Zc ⟨by omega,λj hj=>by omega⟩ ?_;rintro k ⟨hk,dx⟩;by_cases ak:k<3
    ·by_cases e8:(vG.getD k 0).toNat =(s.getD 0 0).toNat
     ·obtain rfl:kk=k:=hkk.symm.trans (uD ak e8)
      (try(refine tX 0 ?_;try exact Zt))
      generalize (vG.getD kk 0).toNat =x at*;exact tL
     ·exact aiM
    ·exact ajv
  ·match ps,hp2,zB,c1 with
   | [a,b],_,zB,c1=>
    have la:=zB a (by simp);have lb:=zB b (by simp);obtain⟨v,c2,k2⟩:=rT a K0;obtain⟨u,c3,k3⟩:=rT b K0;have e3:DW (wN false 4) (wN false 4) [a,b]=(wN false 4 a).bind λx=>(wN false 4 b).map λy=>(x,y):=rfl;rw[e3];refine⟨⟨kk,u,v,decide ((s.getD 1 0).toNat =45)⟩,?_,λp hp=>?_⟩;rotate_left
    ·exact afz
    rw[SA,oF.1];clear e3 k2 k3;generalize (wN false 4 a).isSome =x at*;generalize (wN false 4 b).isSome =y at*;refine sF f241 ?_;repeat' ((first|refine tX 0 ?_|exact Zt|refine bR ?_ ?_<;>intro h)<;>(try conv=>whnf))
    all_goals
     refine af (ι:=Nat) (λk=>k<=3/\∀j<k,(vG.getD j 0).toNat ≠(s.getD 0 0).toNat) (λk=>3 -k) (λk=>⟨[(0,lS s),(2,pP 0),(4,pP 1)],[(0,some (.box 38 [.st (J 0),.st (J 0),.st (J 0),.st (K false)])),(1,some (.box 38 [.st (J k),.st (J 0),.st (J 0),.st (K false)]))],2⟩) 0 Zc ⟨by omega,λj hj=>by omega⟩ ?_;rintro k ⟨hk,dx⟩;by_cases ak:k<3
     ·by_cases e8:(vG.getD k 0).toNat =(s.getD 0 0).toNat
      ·obtain rfl:kk=k:=hkk.symm.trans (uD ak e8)
       (try(refine tX 0 ?_;try exact Zt))
       generalize (vG.getD kk 0).toNat =l at*;repeat' ((first|refine tX 0 ?_|exact Zt|refine bR ?_ ?_<;>intro h)<;>(try conv=>whnf))
       all_goals first|exact Zo|(revert h;cases x<;>cases y<;>first|(intro _;exact agD (b45 _) rfl)|(intro h;exact absurd h K9))
      ·have iT:=vn dx e8
       (try(refine tX 0 ?_;try exact Zt))
       generalize (vG.getD k 0).toNat =l at*;exact tL
     ·exact ajv
def nZ (s:aj)(hl:s.length<=1000000): ∃v,ad 333 [SS s] (.aJ [I v,Bo (wN false 13 s).isSome])/\∀n,wN false 13 s=some n->n=v:=by
 have c:=iB s 13 K9 hl;unfold wN
 cases h:fQ 13 s with
 |none=>
  rw[h]at c;refine⟨0,?_,λn h=>by cases h⟩;refine sF f333 ?_;exact K5
 |some n=>
  rw[h]at c;have hp:=yC h;have hs:=qi h;refine⟨n,?_,λm hm=>?_⟩
  ·show nN _ _ _ _ (.aJ [I n,Bo (if false=true\/0<=n then some n else none).isSome]);have e:(if false=true\/0<=n then some n else none).isSome =decide (0<=n):=by by_cases h0:0<=n<;>simp[h0]
   rw[e];by_cases h0:(s.getD 0 0).toNat =45
   ·rw[eT (hs.1 h0)];refine sF f333 ?_
    (try(refine tX 0 ?_;try exact Zt))
    generalize (s.getD 0 0).toNat =k at*;repeat' ((first|refine tX 0 ?_|exact Zt|refine bR ?_ ?_<;>intro h)<;>(try conv=>whnf))
    all_goals first|exact Zo|(exact mI (eT (by omega)))|(exact rfl)|(exact mI wG)
   ·have h1:0<=n:=Lz.1 λh=>h0 (hs.2 h);rw[fH h1];refine sF f333 ?_
    (try(refine tX 0 ?_;try exact Zt))
    generalize (s.getD 0 0).toNat =k at*;repeat' ((first|refine tX 0 ?_|exact Zt|refine bR ?_ ?_<;>intro h)<;>(try conv=>whnf))
    all_goals first|exact Zo|(exact mI (fH (by omega)))|(exact rfl)|(exact mI wG)
  ·exact aiK
def Iu (s:aj)(hl:s.length<=100000): ∃a b,ad 334 [SS s] (.aJ [F2 a b,Bo (pN s).isSome])/\∀x,pN s=some x->x=(a,b):=by
 have c1:=jV s 47 K0;rw[show(47:UInt8).toNat =47 from rfl,iK]at c1;have e2:pN s=DW (wN false 13) (wN false 13) (av 47 s):=rfl;rw[e2];have zB:=(bZ 47 s).2;generalize av 47 s=ps at*;have hn:=dZ ps;by_cases hp2:ps.length=2;rotate_left
 ·have e3:DW (wN false 13) (wN false 13) ps=none:=by
   exact aiP
  rw[e3];refine⟨0,0,?_,λv h=>by cases h⟩;refine sF f334 ?_;exact tA
 ·match ps,hp2,zB,c1 with
  | [a,b],_,zB,c1=>
   have la:=zB a (by simp);have lb:=zB b (by simp);obtain⟨v,c2,k2⟩:=nZ a K0;obtain⟨u,c3,k3⟩:=nZ b K0;have e3:DW (wN false 13) (wN false 13) [a,b]=(wN false 13 a).bind λx=>(wN false 13 b).map λy=>(x,y):=rfl;rw[e3];refine⟨v,u,?_,λp hp=>?_⟩;rotate_left
   ·obtain⟨h5,h6⟩:=oF.2 p hp;exact Prod.ext (k2 _ h5) (k3 _ h6)
   rw[oF.1];clear e3 k2 k3;generalize (wN false 13 a).isSome =x at*;generalize (wN false 13 b).isSome =y at*;cases x<;>cases y
   all_goals
    refine sF f334 ?_;exact tA
def gm (n:Int):ad 109 [I n] (.one (Bo (decide (0<=n/\n<=1000000000000)))):=by
 refine sF f109 ?_;repeat' ((first|(refine kO 7 rfl ?_;first|refine Rq (ec _ _ _) ?_)|refine tX 0 ?_|exact Zt|refine bR ?_ ?_<;>intro h)<;>(try conv=>whnf))
 all_goals exact gX (by rw[sD];simp)
def Zn {a b c d:Int}(h1: -4611686018427387904<=a*d/\a*d<=4611686018427387903)(h2: -4611686018427387904<=c*b/\c*b<=4611686018427387903):
  ∃k,ad 269 [F2 a b,F2 c d] (.one (I k))/\(k>0↔¬a*d<=c*b):=by
 grind[JU,Qm]
def AF (x:Gp)(hn:x.name.length<=1000000)(hp:x.ps.length<=1000000)(hi:QP x):ad 351 [(true,EV x)] (.aJ [I (mO x).1,I (mO x).2]):=by
 obtain⟨nm,pe,le,⟨a,b⟩,⟨c,d⟩,ps⟩:=x;dsimp only at hn hp;obtain⟨⟨i1,i2⟩,i3,i4⟩:=hi;dsimp only at i1 i2 i3 i4;have hl:(ps.map vA).length =ps.length:=by simp
 have c1:=pl nm hn;have c2:=nD a b i1 i2;have c3:=nD c d i3 i4;show nN _ _ _ [(true,[T nm,J pe,J le,J a,J b,J c,J d,.view (ps.map vA)])] _;have hh:H8 ⟨nm,pe,le,(a,b),(c,d),ps⟩=jp (if eK nm then 0 else 4) (jp (if(1<=pe/\pe<=1000000)/\1<=le/\le<=60 then 0 else 2) (jp (Ny (a,b) (c,d)) (if ps.length<=60 then 0 else 8))):=rfl
 have hc:Ny (a,b) (c,d)=if(0<b/\Int.gcd a b=1)/\0<d/\Int.gcd c d=1 then
  (if((1<=a/\a<=1000000000)/\1<=b/\b<=1000000000)/\(1<=c/\c<=1000000000)/\1<=d/\d<=1000000000 then(if a*d<=c*b then 0 else 9)else 2)else 3:=rfl
 have hse:mO ⟨nm,pe,le,(a,b),(c,d),ps⟩=oW (0,H8 ⟨nm,pe,le,(a,b),(c,d),ps⟩) (cM (yV ps) ps.length):=rfl;rw[hse,hh];clear hse hh;by_cases q1:eK nm;rotate_left
 ·rw[eT q1]at c1;rw[if_neg q1,eR K9,rN K9];refine sF f351 ?_;exact tA
 rw[fH q1]at c1;rw[if_pos q1,ji];by_cases q2:(1<=pe/\pe<=1000000)/\1<=le/\le<=60;rotate_left
 ·rw[if_neg q2,eR K9,rN K9];refine sF f351 ?_;exact K16
 rw[if_pos q2,ji];by_cases q3:(0<b/\Int.gcd a b=1)/\0<d/\Int.gcd c d=1;rotate_left
 ·rw[if_neg q3]at hc;rw[hc,eR K9,rN K9];refine sF f351 ?_;exact K16
 rw[if_pos q3]at hc;by_cases q4:((1<=a/\a<=1000000000)/\1<=b/\b<=1000000000)/\(1<=c/\c<=1000000000)/\1<=d/\d<=1000000000;rotate_left
 ·rw[if_neg q4]at hc;rw[hc,eR K9,rN K9];refine sF f351 ?_;exact K16
 rw[if_pos q4]at hc;have e1:=um (a:=a) (b:=d) K0 K0;have e2:=um (a:=c) (b:=b) K0 K0;obtain⟨k,c4,hk⟩:=Zn (a:=a) (b:=b) (c:=c) (d:=d) K0 K0;by_cases q5:a*d<=c*b;rotate_left
 ·rw[if_neg q5]at hc;rw[hc,eR K9,rN K9];have hk:=hk.2 q5;clear e1 e2 q5 hc;refine sF f351 ?_;exact K16
 rw[if_pos q5]at hc;rw[hc,ji];have hk: ¬k>0:=λh=>hk.1 h q5;clear e1 e2 q5 hc;by_cases q6:ps.length<=60;rotate_left
 ·rw[if_neg q6,rN K9];refine sF f351 ?_;exact K16
 rw[if_pos q6,aab rfl];refine sF f351 ?_;repeat((first|(refine kO 7 rfl ?_;first|refine Rq (ec _ _ _) ?_)|refine tX 0 ?_|exact Zt);(try conv=>whnf))
 refine af (ι:=Nat) (λi=>i<=ps.length/\∀j<i,yV ps j=0) (λi=>ps.length -i) (λi=>⟨[(1,pP 0),(5,vI i)],[(0,some (.box 310 [.st (T nm),.st (J pe),.st (J le),.st (J a),.st (J b),.st (J c),.st (J d),.st (.view (ps.map vA))]))],1⟩) 0 Zc ⟨dC _,λj hj=>by omega⟩ ?_;clear c1 c2 c3 c4 hk q1 q2 q3 q4;rintro i ⟨hi,dx⟩;by_cases ak:i<ps.length
 ·have he:=bg (f:=vA) ak (0,0,0);have Xn:=λk=>fK (f:=yV ps) ak dx k;have iT:=λk=>all_succ (f:=yV ps) dx k
  have pE:(if(0<=(ps.getD i (0,0,0)).1/\(ps.getD i (0,0,0)).1<=1000000000000)/\(-4096<=(ps.getD i (0,0,0)).2.1/\(ps.getD i (0,0,0)).2.1<=4096)/\1<=(ps.getD i (0,0,0)).2.2/\(ps.getD i (0,0,0)).2.2<=100 then
   (if(ps.getD i (0,0,0)).2.1=0 then 11 else if i=0\/(ps.getD (i -1) (0,0,0)).1< (ps.getD i (0,0,0)).1 then 0 else 9)else 2)=yV ps i:=rfl
  generalize yV ps i=hE at*;by_cases hz:i=0
  ·subst hz;generalize ps.getD 0 (0,0,0)=q at*;rw[if_pos (c:=(0=0\/_)) (.inl rfl)]at pE;by_cases p1:(0<=q.1/\q.1<=1000000000000)/\(-4096<=q.2.1/\q.2.1<=4096)/\1<=q.2.2/\q.2.2<=100;rotate_left
   ·rw[if_neg p1]at pE;subst pE;rw[Xn K9];exact K28
   rw[if_pos p1]at pE;by_cases p2:q.2.1=0
   ·rw[if_pos p2]at pE;subst pE;rw[Xn K9];exact K28
   ·rw[if_neg p2]at pE;subst pE;have iT:=iT rfl;repeat' ((first|(refine kO 7 rfl ?_;first|refine Rq (gm _) ?_|refine Rq (ec _ _ _) ?_)|refine tX 0 ?_|exact Zt|refine bR ?_ ?_<;>intro h)<;>(try conv=>whnf))
    all_goals first|exact Zo|exact⟨0+1,⟨ak,iT⟩,by omega,Zc⟩
  ·obtain⟨k,rfl⟩: ∃k,i=k+1:=⟨i -1,by omega⟩;have he2:=bg (f:=vA) (l:=ps) (i:=k) K0 (0,0,0);rw[XJ]at pE;generalize ps.getD (k+1) (0,0,0)=q at*;generalize ps.getD k (0,0,0)=r at*;by_cases p1:(0<=q.1/\q.1<=1000000000000)/\(-4096<=q.2.1/\q.2.1<=4096)/\1<=q.2.2/\q.2.2<=100;rotate_left
   ·rw[if_neg p1]at pE;subst pE;rw[Xn K9];exact K28
   rw[if_pos p1]at pE;by_cases p2:q.2.1=0
   ·rw[if_pos p2]at pE;subst pE;rw[Xn K9];exact K28
   rw[if_neg p2]at pE;by_cases p3:r.1<q.1
   ·rw[if_pos (.inr p3)]at pE;subst pE;have iT:=iT rfl;repeat' ((first|(refine kO 7 rfl ?_;first|refine Rq (gm _) ?_|refine Rq (ec _ _ _) ?_)|refine tX 0 ?_|exact Zt|refine bR ?_ ?_<;>intro h)<;>(try conv=>whnf))
    all_goals first|exact Zo|exact⟨k+1+1,⟨ak,iT⟩,by omega,Zc⟩
   ·rw[if_neg K0]at pE;subst pE;rw[Xn K9];exact K28
 ·exact ajN
def uw (x:Gp)(hn:x.name.length<=1000000)(hp:x.ps.length<=1000000)(hi:QP x):ad 335 [(true,EV x)] (.one (I (mO x).2)):=by
 have c:=AF x hn hp hi;generalize mO x=E at*;refine sF f335 ?_;exact K1
def qD (w:Go.Plain.Pm):ad 61 [(true,wdC w)] (.one (I (wdE w))):=by
 obtain⟨k,t,s,r⟩:=w;refine sF f61 ?_;repeat' ((first|(refine kO 7 rfl ?_;first|refine Rq (ec _ _ _) ?_)|refine tX 0 ?_|exact Zt|refine bR ?_ ?_<;>intro h)<;>(try conv=>whnf))
 all_goals exact mH (by unfold wdE;dsimp only at*;(repeat' split)<;>first|rfl|omega|(exfalso;simp_all;done)|(exfalso;simp_all;omega))
def wu (a b:Go.Plain.Pm)(c:Int):ad 21 [(true,wdC a++wdC b++[J c])] (.one (I (Gn a b c))):=by
 obtain⟨k,t,s,r⟩:=a;obtain⟨k',t',s',r'⟩:=b;have h1:=qD ⟨k,t,s,r⟩;have h2:=qD ⟨k',t',s',r'⟩;unfold Gn;generalize wdE ⟨k,t,s,r⟩=x at*;generalize wdE ⟨k',t',s',r'⟩=y at*;refine sF f21 ?_;repeat' ((first|(refine kO 7 rfl ?_;first|refine Rq (ec _ _ _) ?_)|refine tX 0 ?_|exact Zt|refine bR ?_ ?_<;>intro h)<;>(try conv=>whnf))
 all_goals first|exact mH (by unfold jp stE;(repeat' split)<;>first|rfl|omega)|skip
def B0 (s:aj)(hl:s.length<=100000):ad 197 [SS s] (.aJ [(true,QA (H7 s).1),I (H7 s).2]):=by
 obtain⟨l1,l2⟩:=bZ 32 s;have c0:=jV s 32 K0;rw[show(32:UInt8).toNat =32 from rfl,iK]at c0;unfold H7;generalize av 32 s=ws at*;have hn:=dZ ws;by_cases h3:ws.length=3
 ·rw[if_pos h3]
  match ws,h3,l2,c0 with
  | [a,b,c],_,l2,c0=>
   have la:=l2 a (by simp);have lb:=l2 b (by simp);have lc:=l2 c (by simp);obtain⟨w1,c1,k1⟩:=wq a K0;obtain⟨w2,c2,k2⟩:=wq b K0;obtain⟨n,c3,k3⟩:=rT c K0;show nN _ _ _ _ (.aJ [(true,QA (puO (Aq a) (Aq b) (wN false 4 c)).1),I (puO (Aq a) (Aq b) (wN false 4 c)).2]);by_cases hall:((Aq a).isSome =true/\(Aq b).isSome =true)/\(wN false 4 c).isSome =true
   ·obtain⟨⟨ha,hb⟩,hc⟩:=hall;rw[ha]at c1;rw[hb]at c2;rw[hc]at c3;obtain⟨x,hx⟩:=qJ.1 ha;obtain⟨y,hy⟩:=qJ.1 hb;obtain⟨z,hz⟩:=qJ.1 hc;rw[hx,hy,hz];obtain rfl:=k1 x hx;obtain rfl:=k2 y hy;obtain rfl:=k3 z hz;show nN _ _ _ _ (.aJ [(true,QA (puE x y z).1),I (puE x y z).2]);have c4:=wu x y z;unfold puE;generalize Gn x y z=e at*;clear k1 k2 k3 ha hb hc hx hy hz;by_cases he:e=0
    ·rw[if_pos he];refine sF f197 ?_;exact tA
    ·rw[if_neg he];refine sF f197 ?_;exact tA
   ·rw[aam hall];generalize (Aq a).isSome =x at*;generalize (Aq b).isSome =y at*;generalize (wN false 4 c).isSome =z at*;refine sF f197 ?_;exact aiL
 ·rw[if_neg h3];refine sF f197 ?_;exact tA
end Go.Proofs.Tryz
