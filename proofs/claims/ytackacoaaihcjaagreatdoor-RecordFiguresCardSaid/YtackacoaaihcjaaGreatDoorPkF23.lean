import Derived.Test.YtackacoaaihcjaaGreatDoorPkF16
import Derived.Test.YtackacoaaihcjaaGreatDoorPkF17
set_option linter.all false
set_option maxRecDepth 100000
set_option maxHeartbeats 8000000
namespace Go.Proofs.Tryz
open Go.Fw Go.IntWalk Go.Plain
def r8 (s:aj)(hl:s.length<=1000000): ∃v,ac 242 [SS s] (.aJ [I v,Bo (wN false 4 s).isSome])/\∀n,wN false 4 s=some n->n=v:=by
 have c:=iC s 4 K9 hl;unfold wN
 cases h:fP 4 s with
 |none=>
  rw[h]at c;refine⟨0,?_,λn h=>by cases h⟩;refine sF f242 ?_;exact tL
 |some n=>
  rw[h]at c;refine⟨n,?_,λm hm=>?_⟩
  ·by_cases h0:0<=n
   ·have e:(if false=true\/0<=n then some n else none).isSome =true:=by rw[if_pos (.inr h0)];rfl
    show nN _ _ _ _ (.aJ [I n,Bo (if false=true\/0<=n then some n else none).isSome]);rw[e];refine sF f242 ?_;repeat' ((first|refine tX 0 ?_|exact Zt|refine bR ?_ ?_<;>intro h)<;>(try conv=>whnf))
    all_goals first|exact Zo|(exact mG (fG K0))|(exact rfl)
   ·have e:(if false=true\/0<=n then some n else none).isSome =false:=by rw[if_neg (by simpa using h0)];rfl
    show nN _ _ _ _ (.aJ [I n,Bo (if false=true\/0<=n then some n else none).isSome]);rw[e];refine sF f242 ?_;repeat' ((first|refine tX 0 ?_|exact Zt|refine bR ?_ ?_<;>intro h)<;>(try conv=>whnf))
    all_goals first|exact Zo|(exact mG (eU K0))|(exact rfl)
  ·exact aiN
def Ou:ac 279 [] (.one (SS [121,100,122])):=by
 refine sF f279 ?_;exact tL
def vC:aj:=[121,100,122]
def aaY {k c:Nat}(hk:k<3)(h:(vC.getD k 0).toNat =c):lJ c=k:=by
 subst h
 match k,hk with
 |0,_=>rfl
 |1,_=>rfl
 |2,_=>rfl
def adQ {c:Nat}(h: ∀j<3,(vC.getD j 0).toNat ≠c):lJ c=3:=by
 have h0:(121:Nat)≠c:=h 0 K9;have h1:(100:Nat)≠c:=h 1 K9;have h2:(122:Nat)≠c:=h 2 K9;unfold lJ;rw[if_neg K0,if_neg K0,if_neg K0]
def wh (s:aj)(hl:s.length<=1000000): ∃w:Go.Plain.Pv,ac 241 [SS s] (.aJ [(true,wdC w),Bo (As s).isSome])/\∀v,As s=some v->v=w:=by
 have cl:ac 279 [] (.one (SS vC)):=Ou;have uF:vC.length=3:=rfl;have hdl:(s.drop 2).length <=s.length:=by simp
 have c1:=jY (s.drop 2) 47 K0;rw[show(47:UInt8).toNat =47 from rfl,iL]at c1;have uI:=λ{k c:Nat} (hk:k<3) (h:(vC.getD k 0).toNat =c)=>aaY hk h;have hkn:=λ{c:Nat} (h: ∀j<3,(vC.getD j 0).toNat ≠c)=>adQ h;by_cases hs:s.length<2\/((s.getD 1 0).toNat ≠43/\(s.getD 1 0).toNat ≠45)
 ·have e:As s=none:=if_pos (by unfold Bz;rcases hs with h|h;exact .inl h;exact .inr (.inl h));rw[e];refine⟨⟨0,0,0,false⟩,?_,λv h=>by cases h⟩;by_cases h2:s.length<2
  ·refine sF f241 ?_;exact tL
  ·refine sF f241 ?_;exact ajg
 have h2:2<=s.length:=by omega
 by_cases h3:lJ (s.getD 0 0).toNat =3
 ·have e:As s=none:=if_pos (.inr (.inr h3));rw[e];refine⟨⟨3,0,0,false⟩,?_,λv h=>by cases h⟩;clear e;refine sF f241 ?_;repeat' ((first|refine tX 0 ?_|exact Zt|refine bR ?_ ?_<;>intro h)<;>(try conv=>whnf))
  all_goals
   refine af (ι:=Nat) (λk=>k<=3/\∀j<k,(vC.getD j 0).toNat ≠(s.getD 0 0).toNat) (λk=>3 -k) (λk=>⟨[(0,lS s),(2,pP 0),(4,pP 1)],[(0,some (.box 38 [.st (J 0),.st (J 0),.st (J 0),.st (K false)])),(1,some (.box 38 [.st (J k),.st (J 0),.st (J 0),.st (K false)]))],2⟩) 0 Zc ⟨by omega,λj hj=>by omega⟩ ?_;rintro k ⟨hk,dy⟩;by_cases ak:k<3
   ·have fh:(vC.getD k 0).toNat ≠(s.getD 0 0).toNat :=λh=>by have:=uI ak h;omega
    exact aiP
   ·obtain rfl:k=3:=by omega
    exact tL
 ·have e:As s=(uS (s.drop 2)).map λp=>⟨(lJ (s.getD 0 0).toNat :Nat),p.2,p.1,decide ((s.getD 1 0).toNat =45)⟩:=if_neg (by unfold Bz;omega);have e2:uS (s.drop 2)=DU (wN false 4) (wN false 4) (ar 47 (s.drop 2)):=rfl;rw[e,e2];have qO:=(cd 47 (s.drop 2)).2;generalize ar 47 (s.drop 2)=ps at*;obtain⟨kk,hkk⟩: ∃kk,lJ (s.getD 0 0).toNat =kk:=⟨_,rfl⟩;rw[hkk]at h3 ⊢;clear e e2;have hn:=eh ps;by_cases hp2:ps.length=2;rotate_left
  ·have e3:DU (wN false 4) (wN false 4) ps=none:=by
    exact aiS
   rw[e3];refine⟨⟨kk,0,0,false⟩,?_,λv h=>by cases h⟩;clear e3;refine sF f241 ?_;repeat' ((first|refine tX 0 ?_|exact Zt|refine bR ?_ ?_<;>intro h)<;>(try conv=>whnf))
   all_goals
    refine af (ι:=Nat) (λk=>k<=3/\∀j<k,(vC.getD j 0).toNat ≠(s.getD 0 0).toNat) (λk=>3 -k) (λk=>⟨[(0,lS s),(2,pP 0),(4,pP 1)],[(0,some (.box 38 [.st (J 0),.st (J 0),.st (J 0),.st (K false)])),(1,some (.box 38 [.st (J k),.st (J 0),.st (J 0),.st (K false)]))],2⟩) 0 Zc ⟨by omega,λj hj=>by omega⟩ ?_;rintro k ⟨hk,dy⟩;by_cases ak:k<3
    ·by_cases fh:(vC.getD k 0).toNat =(s.getD 0 0).toNat
     ·obtain rfl:kk=k:=hkk.symm.trans (uI ak fh)
      (try(refine tX 0 ?_;try exact Zt))
      generalize (vC.getD kk 0).toNat =x at*;exact tL
     ·exact aiP
    ·exact ajv
  ·match ps,hp2,qO,c1 with
   | [a,b],_,qO,c1=>
    have la:=qO a (by simp);have lb:=qO b (by simp);obtain⟨v,c2,k2⟩:=r8 a K0;obtain⟨u,c3,k3⟩:=r8 b K0;have e3:DU (wN false 4) (wN false 4) [a,b]=(wN false 4 a).bind λx=>(wN false 4 b).map λy=>(x,y):=rfl;rw[e3];refine⟨⟨kk,u,v,decide ((s.getD 1 0).toNat =45)⟩,?_,λp hp=>?_⟩;rotate_left
    ·exact afC
    rw[SM,oE.1];clear e3 k2 k3;generalize (wN false 4 a).isSome =x at*;generalize (wN false 4 b).isSome =y at*;refine sF f241 ?_;repeat' ((first|refine tX 0 ?_|exact Zt|refine bR ?_ ?_<;>intro h)<;>(try conv=>whnf))
    all_goals
     refine af (ι:=Nat) (λk=>k<=3/\∀j<k,(vC.getD j 0).toNat ≠(s.getD 0 0).toNat) (λk=>3 -k) (λk=>⟨[(0,lS s),(2,pP 0),(4,pP 1)],[(0,some (.box 38 [.st (J 0),.st (J 0),.st (J 0),.st (K false)])),(1,some (.box 38 [.st (J k),.st (J 0),.st (J 0),.st (K false)]))],2⟩) 0 Zc ⟨by omega,λj hj=>by omega⟩ ?_;rintro k ⟨hk,dy⟩;by_cases ak:k<3
     ·by_cases fh:(vC.getD k 0).toNat =(s.getD 0 0).toNat
      ·obtain rfl:kk=k:=hkk.symm.trans (uI ak fh)
       (try(refine tX 0 ?_;try exact Zt))
       generalize (vC.getD kk 0).toNat =l at*;repeat' ((first|refine tX 0 ?_|exact Zt|refine bR ?_ ?_<;>intro h)<;>(try conv=>whnf))
       all_goals first|exact Zo|(revert h;cases x<;>cases y<;>first|(intro _;exact agH (b45 _) rfl)|(intro h;exact absurd h K9))
      ·have iU:=vm dy fh
       (try(refine tX 0 ?_;try exact Zt))
       generalize (vC.getD k 0).toNat =l at*;exact tL
     ·exact ajv
def nZ (s:aj)(hl:s.length<=1000000): ∃v,ac 333 [SS s] (.aJ [I v,Bo (wN false 13 s).isSome])/\∀n,wN false 13 s=some n->n=v:=by
 have c:=iC s 13 K9 hl;unfold wN
 cases h:fP 13 s with
 |none=>
  rw[h]at c;refine⟨0,?_,λn h=>by cases h⟩;refine sF f333 ?_;exact K5
 |some n=>
  rw[h]at c;have hp:=yC h;have hs:=qo h;refine⟨n,?_,λm hm=>?_⟩
  ·show nN _ _ _ _ (.aJ [I n,Bo (if false=true\/0<=n then some n else none).isSome]);have e:(if false=true\/0<=n then some n else none).isSome =decide (0<=n):=by by_cases h0:0<=n<;>simp[h0]
   rw[e];by_cases h0:(s.getD 0 0).toNat =45
   ·rw[eU (hs.1 h0)];refine sF f333 ?_
    (try(refine tX 0 ?_;try exact Zt))
    generalize (s.getD 0 0).toNat =k at*;repeat' ((first|refine tX 0 ?_|exact Zt|refine bR ?_ ?_<;>intro h)<;>(try conv=>whnf))
    all_goals first|exact Zo|(exact mG (eU (by omega)))|(exact rfl)|(exact mG wA)
   ·have h1:0<=n:=LH.1 λh=>h0 (hs.2 h);rw[fG h1];refine sF f333 ?_
    (try(refine tX 0 ?_;try exact Zt))
    generalize (s.getD 0 0).toNat =k at*;repeat' ((first|refine tX 0 ?_|exact Zt|refine bR ?_ ?_<;>intro h)<;>(try conv=>whnf))
    all_goals first|exact Zo|(exact mG (fG (by omega)))|(exact rfl)|(exact mG wA)
  ·exact aiN
def Ix (s:aj)(hl:s.length<=100000): ∃a b,ac 334 [SS s] (.aJ [F2 a b,Bo (pS s).isSome])/\∀x,pS s=some x->x=(a,b):=by
 have c1:=jY s 47 K0;rw[show(47:UInt8).toNat =47 from rfl,iL]at c1;have e2:pS s=DU (wN false 13) (wN false 13) (ar 47 s):=rfl;rw[e2];have qO:=(cd 47 s).2;generalize ar 47 s=ps at*;have hn:=eh ps;by_cases hp2:ps.length=2;rotate_left
 ·have e3:DU (wN false 13) (wN false 13) ps=none:=by
   exact aiS
  rw[e3];refine⟨0,0,?_,λv h=>by cases h⟩;refine sF f334 ?_;exact tA
 ·match ps,hp2,qO,c1 with
  | [a,b],_,qO,c1=>
   have la:=qO a (by simp);have lb:=qO b (by simp);obtain⟨v,c2,k2⟩:=nZ a K0;obtain⟨u,c3,k3⟩:=nZ b K0;have e3:DU (wN false 13) (wN false 13) [a,b]=(wN false 13 a).bind λx=>(wN false 13 b).map λy=>(x,y):=rfl;rw[e3];refine⟨v,u,?_,λp hp=>?_⟩;rotate_left
   ·obtain⟨h5,h6⟩:=oE.2 p hp;exact Prod.ext (k2 _ h5) (k3 _ h6)
   rw[oE.1];clear e3 k2 k3;generalize (wN false 13 a).isSome =x at*;generalize (wN false 13 b).isSome =y at*;cases x<;>cases y
   all_goals
    refine sF f334 ?_;exact tA
def gj (n:Int):ac 109 [I n] (.one (Bo (decide (0<=n/\n<=1000000000000)))):=by
 refine sF f109 ?_;repeat' ((first|(refine kO 7 rfl ?_;first|refine Rq (eo _ _ _) ?_)|refine tX 0 ?_|exact Zt|refine bR ?_ ?_<;>intro h)<;>(try conv=>whnf))
 all_goals exact gX (by rw[vt];simp)
def ZG {a b c d:Int}(h1: -4611686018427387904<=a*d/\a*d<=4611686018427387903)(h2: -4611686018427387904<=c*b/\c*b<=4611686018427387903):
  ∃k,ac 269 [F2 a b,F2 c d] (.one (I k))/\(k>0↔¬a*d<=c*b):=by
 grind[JW,Qu]
def AH (x:Gq)(hn:x.name.length<=1000000)(hp:x.ps.length<=1000000)(hi:QV x):ac 351 [(true,EV x)] (.aJ [I (mM x).1,I (mM x).2]):=by
 obtain⟨nm,pe,le,⟨a,b⟩,⟨c,d⟩,ps⟩:=x;dsimp only at hn hp;obtain⟨⟨i1,i2⟩,i3,i4⟩:=hi;dsimp only at i1 i2 i3 i4;have hl:(ps.map vz).length =ps.length:=by simp
 have c1:=pj nm hn;have c2:=nE a b i1 i2;have c3:=nE c d i3 i4;show nN _ _ _ [(true,[T nm,J pe,J le,J a,J b,J c,J d,.view (ps.map vz)])] _;have hh:H9 ⟨nm,pe,le,(a,b),(c,d),ps⟩=jr (if eK nm then 0 else 4) (jr (if(1<=pe/\pe<=1000000)/\1<=le/\le<=60 then 0 else 2) (jr (NH (a,b) (c,d)) (if ps.length<=60 then 0 else 8))):=rfl
 have hc:NH (a,b) (c,d)=if(0<b/\Int.gcd a b=1)/\0<d/\Int.gcd c d=1 then
  (if((1<=a/\a<=1000000000)/\1<=b/\b<=1000000000)/\(1<=c/\c<=1000000000)/\1<=d/\d<=1000000000 then(if a*d<=c*b then 0 else 9)else 2)else 3:=rfl
 have hse:mM ⟨nm,pe,le,(a,b),(c,d),ps⟩=oV (0,H9 ⟨nm,pe,le,(a,b),(c,d),ps⟩) (cN (yV ps) ps.length):=rfl;rw[hse,hh];clear hse hh;by_cases q1:eK nm;rotate_left
 ·rw[eU q1]at c1;rw[if_neg q1,eS K9,rW K9];refine sF f351 ?_;exact tA
 rw[fG q1]at c1;rw[if_pos q1,jj];by_cases q2:(1<=pe/\pe<=1000000)/\1<=le/\le<=60;rotate_left
 ·rw[if_neg q2,eS K9,rW K9];refine sF f351 ?_;exact K16
 rw[if_pos q2,jj];by_cases q3:(0<b/\Int.gcd a b=1)/\0<d/\Int.gcd c d=1;rotate_left
 ·rw[if_neg q3]at hc;rw[hc,eS K9,rW K9];refine sF f351 ?_;exact K16
 rw[if_pos q3]at hc;by_cases q4:((1<=a/\a<=1000000000)/\1<=b/\b<=1000000000)/\(1<=c/\c<=1000000000)/\1<=d/\d<=1000000000;rotate_left
 ·rw[if_neg q4]at hc;rw[hc,eS K9,rW K9];refine sF f351 ?_;exact K16
 rw[if_pos q4]at hc;have e1:=uo (a:=a) (b:=d) K0 K0;have e2:=uo (a:=c) (b:=b) K0 K0;obtain⟨k,c4,hk⟩:=ZG (a:=a) (b:=b) (c:=c) (d:=d) K0 K0;by_cases q5:a*d<=c*b;rotate_left
 ·rw[if_neg q5]at hc;rw[hc,eS K9,rW K9];have hk:=hk.2 q5;clear e1 e2 q5 hc;refine sF f351 ?_;exact K16
 rw[if_pos q5]at hc;rw[hc,jj];have hk: ¬k>0:=λh=>hk.1 h q5;clear e1 e2 q5 hc;by_cases q6:ps.length<=60;rotate_left
 ·rw[if_neg q6,rW K9];refine sF f351 ?_;exact K16
 rw[if_pos q6,aan rfl];refine sF f351 ?_;repeat((first|(refine kO 7 rfl ?_;first|refine Rq (eo _ _ _) ?_)|refine tX 0 ?_|exact Zt);(try conv=>whnf))
 refine af (ι:=Nat) (λi=>i<=ps.length/\∀j<i,yV ps j=0) (λi=>ps.length -i) (λi=>⟨[(1,pP 0),(5,vI i)],[(0,some (.box 310 [.st (T nm),.st (J pe),.st (J le),.st (J a),.st (J b),.st (J c),.st (J d),.st (.view (ps.map vz))]))],1⟩) 0 Zc ⟨dM _,λj hj=>by omega⟩ ?_;clear c1 c2 c3 c4 hk q1 q2 q3 q4;rintro i ⟨hi,dy⟩;by_cases ak:i<ps.length
 ·have he:=bg (f:=vz) ak (0,0,0);have XA:=λk=>fJ (f:=yV ps) ak dy k;have iU:=λk=>all_succ (f:=yV ps) dy k
  have pG:(if(0<=(ps.getD i (0,0,0)).1/\(ps.getD i (0,0,0)).1<=1000000000000)/\(-4096<=(ps.getD i (0,0,0)).2.1/\(ps.getD i (0,0,0)).2.1<=4096)/\1<=(ps.getD i (0,0,0)).2.2/\(ps.getD i (0,0,0)).2.2<=100 then
   (if(ps.getD i (0,0,0)).2.1=0 then 11 else if i=0\/(ps.getD (i -1) (0,0,0)).1< (ps.getD i (0,0,0)).1 then 0 else 9)else 2)=yV ps i:=rfl
  generalize yV ps i=hE at*;by_cases hz:i=0
  ·subst hz;generalize ps.getD 0 (0,0,0)=q at*;rw[if_pos (c:=(0=0\/_)) (.inl rfl)]at pG;by_cases p1:(0<=q.1/\q.1<=1000000000000)/\(-4096<=q.2.1/\q.2.1<=4096)/\1<=q.2.2/\q.2.2<=100;rotate_left
   ·rw[if_neg p1]at pG;subst pG;rw[XA K9];exact K28
   rw[if_pos p1]at pG;by_cases p2:q.2.1=0
   ·rw[if_pos p2]at pG;subst pG;rw[XA K9];exact K28
   ·rw[if_neg p2]at pG;subst pG;have iU:=iU rfl;repeat' ((first|(refine kO 7 rfl ?_;first|refine Rq (gj _) ?_|refine Rq (eo _ _ _) ?_)|refine tX 0 ?_|exact Zt|refine bR ?_ ?_<;>intro h)<;>(try conv=>whnf))
    all_goals first|exact Zo|exact⟨0+1,⟨ak,iU⟩,by omega,Zc⟩
  ·obtain⟨k,rfl⟩: ∃k,i=k+1:=⟨i -1,by omega⟩;have he2:=bg (f:=vz) (l:=ps) (i:=k) K0 (0,0,0);rw[XW]at pG;generalize ps.getD (k+1) (0,0,0)=q at*;generalize ps.getD k (0,0,0)=r at*;by_cases p1:(0<=q.1/\q.1<=1000000000000)/\(-4096<=q.2.1/\q.2.1<=4096)/\1<=q.2.2/\q.2.2<=100;rotate_left
   ·rw[if_neg p1]at pG;subst pG;rw[XA K9];exact K28
   rw[if_pos p1]at pG;by_cases p2:q.2.1=0
   ·rw[if_pos p2]at pG;subst pG;rw[XA K9];exact K28
   rw[if_neg p2]at pG;by_cases p3:r.1<q.1
   ·rw[if_pos (.inr p3)]at pG;subst pG;have iU:=iU rfl;repeat' ((first|(refine kO 7 rfl ?_;first|refine Rq (gj _) ?_|refine Rq (eo _ _ _) ?_)|refine tX 0 ?_|exact Zt|refine bR ?_ ?_<;>intro h)<;>(try conv=>whnf))
    all_goals first|exact Zo|exact⟨k+1+1,⟨ak,iU⟩,by omega,Zc⟩
   ·rw[if_neg K0]at pG;subst pG;rw[XA K9];exact K28
 ·exact ajN
def uv (x:Gq)(hn:x.name.length<=1000000)(hp:x.ps.length<=1000000)(hi:QV x):ac 335 [(true,EV x)] (.one (I (mM x).2)):=by
 have c:=AH x hn hp hi;generalize mM x=E at*;refine sF f335 ?_;exact K1
def qL (w:Go.Plain.Pv):ac 61 [(true,wdC w)] (.one (I (wdE w))):=by
 obtain⟨k,t,s,r⟩:=w;refine sF f61 ?_;repeat' ((first|(refine kO 7 rfl ?_;first|refine Rq (eo _ _ _) ?_)|refine tX 0 ?_|exact Zt|refine bR ?_ ?_<;>intro h)<;>(try conv=>whnf))
 all_goals exact mF (by unfold wdE;dsimp only at*;(repeat' split)<;>first|rfl|omega|(exfalso;simp_all;done)|(exfalso;simp_all;omega))
def GJ (a b:Go.Plain.Pv)(c:Int):ac 21 [(true,wdC a++wdC b++[J c])] (.one (I (NF a b c))):=by
 obtain⟨k,t,s,r⟩:=a;obtain⟨k',t',s',r'⟩:=b;have h1:=qL ⟨k,t,s,r⟩;have h2:=qL ⟨k',t',s',r'⟩;unfold NF;generalize wdE ⟨k,t,s,r⟩=x at*;generalize wdE ⟨k',t',s',r'⟩=y at*;refine sF f21 ?_;repeat' ((first|(refine kO 7 rfl ?_;first|refine Rq (eo _ _ _) ?_)|refine tX 0 ?_|exact Zt|refine bR ?_ ?_<;>intro h)<;>(try conv=>whnf))
 all_goals first|exact mF (by unfold jr stE;(repeat' split)<;>first|rfl|omega)|skip
def B6 (s:aj)(hl:s.length<=100000):ac 197 [SS s] (.aJ [(true,V9 (NG s).1),I (NG s).2]):=by
 obtain⟨l1,l2⟩:=cd 32 s;have c0:=jY s 32 K0;rw[show(32:UInt8).toNat =32 from rfl,iL]at c0;unfold NG;generalize ar 32 s=ws at*;have hn:=eh ws;by_cases h3:ws.length=3
 ·rw[if_pos h3]
  match ws,h3,l2,c0 with
  | [a,b,c],_,l2,c0=>
   have la:=l2 a (by simp);have lb:=l2 b (by simp);have lc:=l2 c (by simp);obtain⟨w1,c1,k1⟩:=wh a K0;obtain⟨w2,c2,k2⟩:=wh b K0;obtain⟨n,c3,k3⟩:=r8 c K0;show nN _ _ _ _ (.aJ [(true,V9 (puO (As a) (As b) (wN false 4 c)).1),I (puO (As a) (As b) (wN false 4 c)).2]);by_cases hall:((As a).isSome =true/\(As b).isSome =true)/\(wN false 4 c).isSome =true
   ·obtain⟨⟨ha,hb⟩,hc⟩:=hall;rw[ha]at c1;rw[hb]at c2;rw[hc]at c3;obtain⟨x,hx⟩:=qQ.1 ha;obtain⟨y,hy⟩:=qQ.1 hb;obtain⟨z,hz⟩:=qQ.1 hc;rw[hx,hy,hz];obtain rfl:=k1 x hx;obtain rfl:=k2 y hy;obtain rfl:=k3 z hz;show nN _ _ _ _ (.aJ [(true,V9 (puE x y z).1),I (puE x y z).2]);have c4:=GJ x y z;unfold puE;generalize NF x y z=e at*;clear k1 k2 k3 ha hb hc hx hy hz;by_cases he:e=0
    ·rw[if_pos he];refine sF f197 ?_;exact tA
    ·rw[if_neg he];refine sF f197 ?_;exact tA
   ·rw[aax hall];generalize (As a).isSome =x at*;generalize (As b).isSome =y at*;generalize (wN false 4 c).isSome =z at*;refine sF f197 ?_;exact aiO
 ·rw[if_neg h3];refine sF f197 ?_;exact tA
end Go.Proofs.Tryz
