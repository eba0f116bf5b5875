import Derived.Test.YtackacoaaihcjaaGreatDoorPkM8
import Derived.Test.YtackacoaaihcjaaGreatDoorPkM9
import Derived.Test.YtackacoaaihcjaaGreatDoorPkM11
set_option linter.all false
set_option maxRecDepth 100000
set_option maxHeartbeats 8000000
namespace Go.Proofs.Tryz
open Go.Fw Go.IntWalk Go.Plain
def sj (s:aj)(hl:s.length<=1000000): ∃v,ac 242 [SS s] (.aI [I v,Bo (wN false 4 s).isSome])/\∀n,wN false 4 s=some n->n=v:=by
 have c:=iI s 4 K9 hl;unfold wN
 cases h:fP 4 s with
 |none=>
  rw[h]at c;refine⟨0,?_,λn h=>by cases h⟩;refine sF f242 ?_;exact tL
 |some n=>
  rw[h]at c;refine⟨n,?_,λm hm=>?_⟩
  ·by_cases h0:0<=n
   ·have e:(if false=true\/0<=n then some n else none).isSome =true:=by rw[if_pos (.inr h0)];rfl
    show nY _ _ _ _ (.aI [I n,Bo (if false=true\/0<=n then some n else none).isSome]);rw[e];refine sF f242 ?_;repeat' ((first|refine tX 0 ?_|exact Zt|refine bR ?_ ?_<;>intro h)<;>(try conv=>whnf))
    all_goals first|exact Zo|(exact mJ (fL K0))|(exact rfl)
   ·have e:(if false=true\/0<=n then some n else none).isSome =false:=by rw[if_neg (by simpa using h0)];rfl
    show nY _ _ _ _ (.aI [I n,Bo (if false=true\/0<=n then some n else none).isSome]);rw[e];refine sF f242 ?_;repeat' ((first|refine tX 0 ?_|exact Zt|refine bR ?_ ?_<;>intro h)<;>(try conv=>whnf))
    all_goals first|exact Zo|(exact mJ (fj K0))|(exact rfl)
  ·exact aiW
def Ov:ac 279 [] (.one (SS [121,100,122])):=by
 refine sF f279 ?_;exact tL
def vS:aj:=[121,100,122]
def aa8 {k c:Nat}(hk:k<3)(h:(vS.getD k 0).toNat =c):lK c=k:=by
 subst h
 match k,hk with
 |0,_=>rfl
 |1,_=>rfl
 |2,_=>rfl
def adZ {c:Nat}(h: ∀j<3,(vS.getD j 0).toNat ≠c):lK c=3:=by
 have h0:(121:Nat)≠c:=h 0 K9;have h1:(100:Nat)≠c:=h 1 K9;have h2:(122:Nat)≠c:=h 2 K9;unfold lK;rw[if_neg K0,if_neg K0,if_neg K0]
def wC (s:aj)(hl:s.length<=1000000): ∃w:Go.Plain.Py,ac 241 [SS s] (.aI [(true,wdC w),Bo (Ax s).isSome])/\∀v,Ax s=some v->v=w:=by
 have cl:ac 279 [] (.one (SS vS)):=Ov;have vV:vS.length=3:=rfl;have hdl:(s.drop 2).length <=s.length:=by simp
 have c1:=jY (s.drop 2) 47 K0;rw[show(47:UInt8).toNat =47 from rfl,iR]at c1;have xw:=λ{k c:Nat} (hk:k<3) (h:(vS.getD k 0).toNat =c)=>aa8 hk h;have hkn:=λ{c:Nat} (h: ∀j<3,(vS.getD j 0).toNat ≠c)=>adZ h;by_cases hs:s.length<2\/((s.getD 1 0).toNat ≠43/\(s.getD 1 0).toNat ≠45)
 ·have e:Ax s=none:=if_pos (by unfold BF;rcases hs with h|h;exact .inl h;exact .inr (.inl h));rw[e];refine⟨⟨0,0,0,false⟩,?_,λv h=>by cases h⟩;by_cases h2:s.length<2
  ·refine sF f241 ?_;exact tL
  ·refine sF f241 ?_;exact ajq
 have h2:2<=s.length:=by omega
 by_cases h3:lK (s.getD 0 0).toNat =3
 ·have e:Ax s=none:=if_pos (.inr (.inr h3));rw[e];refine⟨⟨3,0,0,false⟩,?_,λv h=>by cases h⟩;clear e;refine sF f241 ?_;repeat' ((first|refine tX 0 ?_|exact Zt|refine bR ?_ ?_<;>intro h)<;>(try conv=>whnf))
  all_goals
   refine af (ι:=Nat) (λk=>k<=3/\∀j<k,(vS.getD j 0).toNat ≠(s.getD 0 0).toNat) (λk=>3 -k) (λk=>⟨[(0,lS s),(2,pP 0),(4,pP 1)],[(0,some (.box 38 [.st (J 0),.st (J 0),.st (J 0),.st (K false)])),(1,some (.box 38 [.st (J k),.st (J 0),.st (J 0),.st (K false)]))],2⟩) 0 Zc ⟨by omega,λj hj=>by omega⟩ ?_;rintro k ⟨hk,dp⟩;by_cases ak:k<3
   ·have eU:(vS.getD k 0).toNat ≠(s.getD 0 0).toNat :=λh=>by have:=xw ak h;omega
    exact aiY
   ·obtain rfl:k=3:=by omega
    exact tL
 ·have e:Ax s=(u9 (s.drop 2)).map λp=>⟨(lK (s.getD 0 0).toNat :Nat),p.2,p.1,decide ((s.getD 1 0).toNat =45)⟩:=if_neg (by unfold BF;omega);have e2:u9 (s.drop 2)=DY (wN false 4) (wN false 4) (aJ 47 (s.drop 2)):=rfl;rw[e,e2];have AU:=(cj 47 (s.drop 2)).2;generalize aJ 47 (s.drop 2)=ps at*;obtain⟨kk,hkk⟩: ∃kk,lK (s.getD 0 0).toNat =kk:=⟨_,rfl⟩;rw[hkk]at h3 ⊢;clear e e2;have hn:=eo ps;by_cases hp2:ps.length=2;rotate_left
  ·have e3:DY (wN false 4) (wN false 4) ps=none:=by
    exact ai1
   rw[e3];refine⟨⟨kk,0,0,false⟩,?_,λv h=>by cases h⟩;clear e3;refine sF f241 ?_;repeat' ((first|refine tX 0 ?_|exact Zt|refine bR ?_ ?_<;>intro h)<;>(try conv=>whnf))
   all_goals
    refine af (ι:=Nat) (λk=>k<=3/\∀j<k,(vS.getD j 0).toNat ≠(s.getD 0 0).toNat) (λk=>3 -k) (λk=>⟨[(0,lS s),(2,pP 0),(4,pP 1)],[(0,some (.box 38 [.st (J 0),.st (J 0),.st (J 0),.st (K false)])),(1,some (.box 38 [.st (J k),.st (J 0),.st (J 0),.st (K false)]))],2⟩) 0 Zc ⟨by omega,λj hj=>by omega⟩ ?_;rintro k ⟨hk,dp⟩;by_cases ak:k<3
    ·by_cases eU:(vS.getD k 0).toNat =(s.getD 0 0).toNat
     ·obtain rfl:kk=k:=hkk.symm.trans (xw ak eU)
      (try(refine tX 0 ?_;try exact Zt))
      generalize (vS.getD kk 0).toNat =x at*;exact tL
     ·exact aiY
    ·exact ajG
  ·match ps,hp2,AU,c1 with
   | [a,b],_,AU,c1=>
    have la:=AU a (by simp);have lb:=AU b (by simp);obtain⟨v,c2,k2⟩:=sj a K0;obtain⟨u,c3,k3⟩:=sj b K0;have e3:DY (wN false 4) (wN false 4) [a,b]=(wN false 4 a).bind λx=>(wN false 4 b).map λy=>(x,y):=rfl;rw[e3];refine⟨⟨kk,u,v,decide ((s.getD 1 0).toNat =45)⟩,?_,λp hp=>?_⟩;rotate_left
    ·exact afK
    rw[SL,oQ.1];clear e3 k2 k3;generalize (wN false 4 a).isSome =x at*;generalize (wN false 4 b).isSome =y at*;refine sF f241 ?_;repeat' ((first|refine tX 0 ?_|exact Zt|refine bR ?_ ?_<;>intro h)<;>(try conv=>whnf))
    all_goals
     refine af (ι:=Nat) (λk=>k<=3/\∀j<k,(vS.getD j 0).toNat ≠(s.getD 0 0).toNat) (λk=>3 -k) (λk=>⟨[(0,lS s),(2,pP 0),(4,pP 1)],[(0,some (.box 38 [.st (J 0),.st (J 0),.st (J 0),.st (K false)])),(1,some (.box 38 [.st (J k),.st (J 0),.st (J 0),.st (K false)]))],2⟩) 0 Zc ⟨by omega,λj hj=>by omega⟩ ?_;rintro k ⟨hk,dp⟩;by_cases ak:k<3
     ·by_cases eU:(vS.getD k 0).toNat =(s.getD 0 0).toNat
      ·obtain rfl:kk=k:=hkk.symm.trans (xw ak eU)
       (try(refine tX 0 ?_;try exact Zt))
       generalize (vS.getD kk 0).toNat =l at*;repeat' ((first|refine tX 0 ?_|exact Zt|refine bR ?_ ?_<;>intro h)<;>(try conv=>whnf))
       all_goals first|exact Zo|(revert h;cases x<;>cases y<;>first|(intro _;exact agR (b45 _) rfl)|(intro h;exact absurd h K9))
      ·have it:=vz dp eU
       (try(refine tX 0 ?_;try exact Zt))
       generalize (vS.getD k 0).toNat =l at*;exact tL
     ·exact ajG
def ot (s:aj)(hl:s.length<=1000000): ∃v,ac 333 [SS s] (.aI [I v,Bo (wN false 13 s).isSome])/\∀n,wN false 13 s=some n->n=v:=by
 have c:=iI s 13 K9 hl;unfold wN
 cases h:fP 13 s with
 |none=>
  rw[h]at c;refine⟨0,?_,λn h=>by cases h⟩;refine sF f333 ?_;exact K5
 |some n=>
  rw[h]at c;have hp:=yO h;have hs:=qw h;refine⟨n,?_,λm hm=>?_⟩
  ·show nY _ _ _ _ (.aI [I n,Bo (if false=true\/0<=n then some n else none).isSome]);have e:(if false=true\/0<=n then some n else none).isSome =decide (0<=n):=by by_cases h0:0<=n<;>simp[h0]
   rw[e];by_cases h0:(s.getD 0 0).toNat =45
   ·rw[fj (hs.1 h0)];refine sF f333 ?_
    (try(refine tX 0 ?_;try exact Zt))
    generalize (s.getD 0 0).toNat =k at*;repeat' ((first|refine tX 0 ?_|exact Zt|refine bR ?_ ?_<;>intro h)<;>(try conv=>whnf))
    all_goals first|exact Zo|(exact mJ (fj (by omega)))|(exact rfl)|(exact mJ wa)
   ·have h1:0<=n:=LG.1 λh=>h0 (hs.2 h);rw[fL h1];refine sF f333 ?_
    (try(refine tX 0 ?_;try exact Zt))
    generalize (s.getD 0 0).toNat =k at*;repeat' ((first|refine tX 0 ?_|exact Zt|refine bR ?_ ?_<;>intro h)<;>(try conv=>whnf))
    all_goals first|exact Zo|(exact mJ (fL (by omega)))|(exact rfl)|(exact mJ wa)
  ·exact aiW
def IA (s:aj)(hl:s.length<=100000): ∃a b,ac 334 [SS s] (.aI [F2 a b,Bo (pW s).isSome])/\∀x,pW s=some x->x=(a,b):=by
 have c1:=jY s 47 K0;rw[show(47:UInt8).toNat =47 from rfl,iR]at c1;have e2:pW s=DY (wN false 13) (wN false 13) (aJ 47 s):=rfl;rw[e2];have AU:=(cj 47 s).2;generalize aJ 47 s=ps at*;have hn:=eo ps;by_cases hp2:ps.length=2;rotate_left
 ·have e3:DY (wN false 13) (wN false 13) ps=none:=by
   exact ai1
  rw[e3];refine⟨0,0,?_,λv h=>by cases h⟩;refine sF f334 ?_;exact tA
 ·match ps,hp2,AU,c1 with
  | [a,b],_,AU,c1=>
   have la:=AU a (by simp);have lb:=AU b (by simp);obtain⟨v,c2,k2⟩:=ot a K0;obtain⟨u,c3,k3⟩:=ot b K0;have e3:DY (wN false 13) (wN false 13) [a,b]=(wN false 13 a).bind λx=>(wN false 13 b).map λy=>(x,y):=rfl;rw[e3];refine⟨v,u,?_,λp hp=>?_⟩;rotate_left
   ·obtain⟨h5,h6⟩:=oQ.2 p hp;exact Prod.ext (k2 _ h5) (k3 _ h6)
   rw[oQ.1];clear e3 k2 k3;generalize (wN false 13 a).isSome =x at*;generalize (wN false 13 b).isSome =y at*;cases x<;>cases y
   all_goals
    refine sF f334 ?_;exact tA
def gm (n:Int):ac 109 [I n] (.one (Bo (decide (0<=n/\n<=1000000000000)))):=by
 refine sF f109 ?_;repeat' ((first|(refine kO 7 rfl ?_;first|refine Rq (ep _ _ _) ?_)|refine tX 0 ?_|exact Zt|refine bR ?_ ?_<;>intro h)<;>(try conv=>whnf))
 all_goals exact gX (by rw[vN];simp)
def ZO {a b c d:Int}(h1: -4611686018427387904<=a*d/\a*d<=4611686018427387903)(h2: -4611686018427387904<=c*b/\c*b<=4611686018427387903):
  ∃k,ac 269 [F2 a b,F2 c d] (.one (I k))/\(k>0↔¬a*d<=c*b):=by
 grind[JT,Qv]
def AN (x:Gt)(hn:x.name.length<=1000000)(hp:x.ps.length<=1000000)(hi:QW x):ac 351 [(true,EX x)] (.aI [I (mP x).1,I (mP x).2]):=by
 obtain⟨nm,pe,le,⟨a,b⟩,⟨c,d⟩,ps⟩:=x;dsimp only at hn hp;obtain⟨⟨i1,i2⟩,i3,i4⟩:=hi;dsimp only at i1 i2 i3 i4;have hl:(ps.map vQ).length =ps.length:=by simp
 have c1:=px nm hn;have c2:=nM a b i1 i2;have c3:=nM c d i3 i4;show nY _ _ _ [(true,[T nm,J pe,J le,J a,J b,J c,J d,.view (ps.map vQ)])] _;have hh:Ie ⟨nm,pe,le,(a,b),(c,d),ps⟩=ju (if jK nm then 0 else 4) (ju (if(1<=pe/\pe<=1000000)/\1<=le/\le<=60 then 0 else 2) (ju (NG (a,b) (c,d)) (if ps.length<=60 then 0 else 8))):=rfl
 have hc:NG (a,b) (c,d)=if(0<b/\Int.gcd a b=1)/\0<d/\Int.gcd c d=1 then
  (if((1<=a/\a<=1000000000)/\1<=b/\b<=1000000000)/\(1<=c/\c<=1000000000)/\1<=d/\d<=1000000000 then(if a*d<=c*b then 0 else 9)else 2)else 3:=rfl
 have hse:mP ⟨nm,pe,le,(a,b),(c,d),ps⟩=o8 (0,Ie ⟨nm,pe,le,(a,b),(c,d),ps⟩) (cR (zg ps) ps.length):=rfl;rw[hse,hh];clear hse hh;by_cases q1:jK nm;rotate_left
 ·rw[fj q1]at c1;rw[if_neg q1,eS K9,se K9];refine sF f351 ?_;exact tA
 rw[fL q1]at c1;rw[if_pos q1,jn];by_cases q2:(1<=pe/\pe<=1000000)/\1<=le/\le<=60;rotate_left
 ·rw[if_neg q2,eS K9,se K9];refine sF f351 ?_;exact K16
 rw[if_pos q2,jn];by_cases q3:(0<b/\Int.gcd a b=1)/\0<d/\Int.gcd c d=1;rotate_left
 ·rw[if_neg q3]at hc;rw[hc,eS K9,se K9];refine sF f351 ?_;exact K16
 rw[if_pos q3]at hc;by_cases q4:((1<=a/\a<=1000000000)/\1<=b/\b<=1000000000)/\(1<=c/\c<=1000000000)/\1<=d/\d<=1000000000;rotate_left
 ·rw[if_neg q4]at hc;rw[hc,eS K9,se K9];refine sF f351 ?_;exact K16
 rw[if_pos q4]at hc;have e1:=uE (a:=a) (b:=d) K0 K0;have e2:=uE (a:=c) (b:=b) K0 K0;obtain⟨k,c4,hk⟩:=ZO (a:=a) (b:=b) (c:=c) (d:=d) K0 K0;by_cases q5:a*d<=c*b;rotate_left
 ·rw[if_neg q5]at hc;rw[hc,eS K9,se K9];have hk:=hk.2 q5;clear e1 e2 q5 hc;refine sF f351 ?_;exact K16
 rw[if_pos q5]at hc;rw[hc,jn];have hk: ¬k>0:=λh=>hk.1 h q5;clear e1 e2 q5 hc;by_cases q6:ps.length<=60;rotate_left
 ·rw[if_neg q6,se K9];refine sF f351 ?_;exact K16
 rw[if_pos q6,aav rfl];refine sF f351 ?_;repeat((first|(refine kO 7 rfl ?_;first|refine Rq (ep _ _ _) ?_)|refine tX 0 ?_|exact Zt);(try conv=>whnf))
 refine af (ι:=Nat) (λi=>i<=ps.length/\∀j<i,zg ps j=0) (λi=>ps.length -i) (λi=>⟨[(1,pP 0),(5,vI i)],[(0,some (.box 310 [.st (T nm),.st (J pe),.st (J le),.st (J a),.st (J b),.st (J c),.st (J d),.st (.view (ps.map vQ))]))],1⟩) 0 Zc ⟨dD _,λj hj=>by omega⟩ ?_;clear c1 c2 c3 c4 hk q1 q2 q3 q4;rintro i ⟨hi,dp⟩;by_cases ak:i<ps.length
 ·have he:=aV (f:=vQ) ak (0,0,0);have XF:=λk=>fI (f:=zg ps) ak dp k;have it:=λk=>all_succ (f:=zg ps) dp k
  have pL:(if(0<=(ps.getD i (0,0,0)).1/\(ps.getD i (0,0,0)).1<=1000000000000)/\(-4096<=(ps.getD i (0,0,0)).2.1/\(ps.getD i (0,0,0)).2.1<=4096)/\1<=(ps.getD i (0,0,0)).2.2/\(ps.getD i (0,0,0)).2.2<=100 then
   (if(ps.getD i (0,0,0)).2.1=0 then 11 else if i=0\/(ps.getD (i -1) (0,0,0)).1< (ps.getD i (0,0,0)).1 then 0 else 9)else 2)=zg ps i:=rfl
  generalize zg ps i=hE at*;by_cases hz:i=0
  ·subst hz;generalize ps.getD 0 (0,0,0)=q at*;rw[if_pos (c:=(0=0\/_)) (.inl rfl)]at pL;by_cases p1:(0<=q.1/\q.1<=1000000000000)/\(-4096<=q.2.1/\q.2.1<=4096)/\1<=q.2.2/\q.2.2<=100;rotate_left
   ·rw[if_neg p1]at pL;subst pL;rw[XF K9];exact K28
   rw[if_pos p1]at pL;by_cases p2:q.2.1=0
   ·rw[if_pos p2]at pL;subst pL;rw[XF K9];exact K28
   ·rw[if_neg p2]at pL;subst pL;have it:=it rfl;repeat' ((first|(refine kO 7 rfl ?_;first|refine Rq (gm _) ?_|refine Rq (ep _ _ _) ?_)|refine tX 0 ?_|exact Zt|refine bR ?_ ?_<;>intro h)<;>(try conv=>whnf))
    all_goals first|exact Zo|exact⟨0+1,⟨ak,it⟩,by omega,Zc⟩
  ·obtain⟨k,rfl⟩: ∃k,i=k+1:=⟨i -1,by omega⟩;have he2:=aV (f:=vQ) (l:=ps) (i:=k) K0 (0,0,0);rw[X5]at pL;generalize ps.getD (k+1) (0,0,0)=q at*;generalize ps.getD k (0,0,0)=r at*;by_cases p1:(0<=q.1/\q.1<=1000000000000)/\(-4096<=q.2.1/\q.2.1<=4096)/\1<=q.2.2/\q.2.2<=100;rotate_left
   ·rw[if_neg p1]at pL;subst pL;rw[XF K9];exact K28
   rw[if_pos p1]at pL;by_cases p2:q.2.1=0
   ·rw[if_pos p2]at pL;subst pL;rw[XF K9];exact K28
   rw[if_neg p2]at pL;by_cases p3:r.1<q.1
   ·rw[if_pos (.inr p3)]at pL;subst pL;have it:=it rfl;repeat' ((first|(refine kO 7 rfl ?_;first|refine Rq (gm _) ?_|refine Rq (ep _ _ _) ?_)|refine tX 0 ?_|exact Zt|refine bR ?_ ?_<;>intro h)<;>(try conv=>whnf))
    all_goals first|exact Zo|exact⟨k+1+1,⟨ak,it⟩,by omega,Zc⟩
   ·rw[if_neg K0]at pL;subst pL;rw[XF K9];exact K28
 ·exact ajX
def uK (x:Gt)(hn:x.name.length<=1000000)(hp:x.ps.length<=1000000)(hi:QW x):ac 335 [(true,EX x)] (.one (I (mP x).2)):=by
 have c:=AN x hn hp hi;generalize mP x=E at*;refine sF f335 ?_;exact K1
def AO (s:aj)(hl:s.length<=10000):ac 306 [SS s] (.aI [(true,EX (Cu s).1),I (Cu s).2]):=by
 obtain⟨l1,l2⟩:=cj 59 s;have c0:=jY s 59 K0;rw[show(59:UInt8).toNat =59 from rfl,iR]at c0
 obtain⟨p,ps,AU⟩: ∃p ps,aJ 59 s=p::ps:=by
  cases h:aJ 59 s with
  |nil=>exact absurd h (ng 59 s)
  |cons p ps=>exact⟨p,ps,rfl⟩
 have nv:=λh=>TV (s:=s) AU h;have abA:=λh=>TW (s:=s) AU h;rw[AU]at l1 l2 c0;have lp:=l2 p (by simp);have l3:ps.length<=s.length:=by simpa using l1
 obtain⟨m1,m2⟩:=cj 32 p;have c1:=jY p 32 K0;rw[show(32:UInt8).toNat =32 from rfl,iR]at c1;generalize aJ 32 p=ws at*;have hn:=eo ws;have IE:(ab (p::ps)).length =ps.length+1:=by simp
 by_cases h5:ws.length=5;rotate_left
 ·rw[jV (abA h5)];refine sF f306 ?_;exact tL
 have nv:=nv h5;clear abA
 match ws,h5,m2,c1,nv with
 | [w0,w1,w2,w3,w4],_,m2,c1,nv=>
  have b0:=m2 w0 (by simp);have b1:=m2 w1 (by simp);have b2:=m2 w2 (by simp);have b3:=m2 w3 (by simp);have b4:=m2 w4 (by simp);obtain⟨v1,d1,k1⟩:=ot w1 K0;obtain⟨v2,d2,k2⟩:=ot w2 K0;obtain⟨v3,u3,d3,k3⟩:=IA w3 K0;obtain⟨v4,u4,d4,k4⟩:=IA w4 K0;have hh:(sB [w0,w1,w2,w3,w4]).isSome =((((wN false 13 w1).isSome &&(wN false 13 w2).isSome)&&(pW w3).isSome)&&(pW w4).isSome):=Ig;have hv: ∀h,sB [w0,w1,w2,w3,w4]=some h->h=(v1,v2,(v3,u3),(v4,u4)):=ai7
  have hI:(sB [w0,w1,w2,w3,w4]).isSome =true->(p9 v3/\p9 u3)/\p9 v4/\p9 u4:=by
   intro h;obtain⟨⟨a,b,c,d⟩,h⟩:=qW.1 h;obtain⟨e1,e2,e3,e4⟩:=J2 h;obtain rfl:=k3 _ e3;obtain rfl:=k4 _ e4;exact⟨zj e3,zj e4⟩
  generalize sB [w0,w1,w2,w3,w4]=hd at*;clear k1 k2 k3 k4 m2;generalize (wN false 13 w1).isSome =x1 at*;generalize (wN false 13 w2).isSome =x2 at*;generalize (pW w3).isSome =x3 at*;generalize (pW w4).isSome =x4 at*;by_cases hx:(((x1&&x2)&&x3)&&x4)=true;rotate_left
  ·rw[jV (by rw[nv];exact zi (by rw[hh];simp[LK]at hx ⊢;intro h1;simp_all))];refine sF f306 ?_;exact tL
  have hhd:hd.isSome=true:=hh.trans hx;have hI:=hI hhd;simp only[sQ]at hx;obtain⟨⟨⟨rfl,rfl⟩,rfl⟩,rfl⟩:=hx;obtain⟨h,e1⟩:=qW.1 hhd;obtain rfl:=hv h e1;rw[e1]at nv;clear hh hv hhd e1;refine sF f306 ?_
  (try(refine tX 0 ?_;try exact Zt))
  refine af (ι:=Nat × List Pu) (λq=>(q.1<=ps.length/\q.2.length=q.1)/\fQ Lc (ps.take q.1)=some q.2) (λq=>ps.length -q.1)
   (λq=>⟨[(2,pP 0),(4,pP 1),(5,pO 2),(15,pP 3),(16,vI (q.1+1:Nat))],
    [(0,some (.box 310 [.st (T []),.st (J 0),.st (J 0),.st (J 0),.st (J 0),.st (J 0),.st (J 0),.nil])),(1,some (.box 310 [.st (T []),.st (J 0),.st (J 0),.st (J 0),.st (J 0),.st (J 0),.st (J 0),.nil])),
     (2,some (.row true 1 (.view (ab (p::ps))))),(3,some (.box 310 [.st (T w0),.st (J v1),.st (J v2),.st (J v3),.st (J u3),.st (J v4),.st (J u4),.own 4])),(4,some (.row true 3 (.view (q.2.map vQ))))],5⟩)
   (0,[]) (by
    refine bp.trans (iQ 160 7 3 (.view []) (T:=310) (cs:=[.st (T w0),.st (J v1),.st (J v2),.st (J v3),.st (J u3),.st (J v4),.st (J u4),.nil]) K9 rfl rfl rfl rfl) ?_
    exact Zc) ⟨⟨dD _,rfl⟩,rfl⟩ ?_
  rintro⟨i,l⟩ ⟨⟨hi,vV⟩,hx⟩;dsimp only at hi vV hx ⊢;clear d1 d2 d3 d4 c0 c1;by_cases ak:i<ps.length
  ·have he:(ab (p::ps))[i+1]? =some [.lit (.string (B (ps.getD i [])))]:=sA (l:=p::ps) (i:=i+1) (by simpa using ak);have hq:ps.getD i []∈ps:=by exact ai4
   have hql:=l2 _ (ji _ hq);have jt:=λh=>ug (f:=Lc) ak h;have hsn:=λ{n:Pu} hn=>vc (f:=Lc) ak hx (n:=n) hn;generalize ps.getD i []=w at*;obtain⟨r1,r2⟩:=cj 32 w;have c2:=jY w 32 K0;rw[show(32:UInt8).toNat =32 from rfl,iR]at c2;have Cf: ∀x y z:aj,aJ 32 w= [x,y,z]->Lc w=(wN false 13 x).bind λa=>(wN true 13 y).bind λb=>(wN false 13 z).map λc=>(a,b,c):=λx y z h=>Ih h;have hpb:=λh=>TU (s:=w) h;generalize aJ 32 w=wi at*;have hwn:=eo wi;by_cases h3:wi.length=3
   ·match wi,h3,r2,c2,Cf with
    | [x,y,z],_,r2,c2,Cf=>
     have g1:=r2 x (by simp);have g2:=r2 y (by simp);have g3:=r2 z (by simp);obtain⟨n1,d1,k1⟩:=ot x K0;have d2:=iI y 13 K9 K0;obtain⟨n3,d3,k3⟩:=ot z K0;have Cf:=Cf x y z rfl;have hy:wN true 13 y=fP 13 y:=by unfold wN;cases fP 13 y<;>rfl
     rw[hy]at Cf
     cases hn1:wN false 13 x with
     |none=>
      rw[hn1]at Cf d1;rw[jV af0];clear jt hsn hpb k1 k3 Cf nv hy;generalize fP 13 y=yo at*;generalize (wN false 13 z).isSome =zo at*;unfold MW at d2;cases yo<;>cases zo
      all_goals
       exact tL
     |some a=>
      obtain rfl:=k1 a hn1;rw[hn1]at Cf d1
      cases hn2:fP 13 y with
      |none=>
       rw[hn2]at Cf d2;rw[jV af0];clear jt hsn hpb k1 k3 Cf nv hy;generalize (wN false 13 z).isSome =zo at*;unfold MW at d2;cases zo
       all_goals
        exact tL
      |some b=>
       rw[hn2]at Cf d2;unfold MW at d2
       cases hn3:wN false 13 z with
       |none=>
        rw[hn3]at Cf d3;rw[jV af0];clear jt hsn hpb k1 k3 Cf nv hy;exact tL
       |some c=>
        obtain rfl:=k3 c hn3;rw[hn3]at Cf d3;have it:=hsn Cf;clear jt hsn hpb k1 k3 Cf hy
        (try(refine tX 0 ?_;try exact Zt))
        exact⟨(i+1,l++[(a,b,c)]),⟨⟨ak,by simp;omega⟩,it⟩,by dsimp only;omega,ai akn⟩
   ·rw[jV (by rw[nv];exact zi (by rw[jt (hpb h3)];simp))];exact tL
  ·obtain rfl:i=ps.length:=by omega
   rw[mA]at hx;rw[hx]at nv;have nv:ED s=some ⟨w0,v1,v2,(v3,u3),(v4,u4),l⟩:=nv;rw[EK nv];have cc:=uK ⟨w0,v1,v2,(v3,u3),(v4,u4),l⟩ aca aca hI;generalize mP ⟨w0,v1,v2,(v3,u3),(v4,u4),l⟩=E at*;have cc:ac 335 [(true,[T w0,J v1,J v2,J v3,J u3,J v4,J u4,.view (l.map vQ)])] (.one (I E.2)):=cc;exact ajA
def WP {l:List Pu}{q i:Nat}(h:i<l.length):rV (l.take (i+1)) q=rV (l.take i) q+if(q:Int)<=(l.getD i (0,0,0)).2.1.natAbs then 1 else 0:=by
 unfold rV;rw[CQ,pj h,show l.getD i (0,0,0)=l[i]by simp[jN,h],SG,sO];congr 1;show(List.filter (λp:Pu=>decide ((q:Int)<=p.2.1.natAbs)) [l[i]]).length =_;simp only[List.filter_cons,List.filter_nil,vJ];split<;>rfl
def Uf (l:List Pu)(q:Nat):rV l q<=l.length:=by unfold rV;exact LC _ _
def AP {l:List Pu}{n:Int}{q:Nat}:qI l n (q+1)=if n<=rV l (q+1)then q+1 else qI l n q:=rfl
def Rg {x:Gt}(h:(mP x).2=0):ac 336 [(true,EX x)] (.aI [I (if x.least<=x.ps.length then(qI x.ps x.least 4096:Nat)else 0),Bo (decide (x.least<=x.ps.length))]):=by
 obtain⟨h1,h2,h3,_⟩:=Cy h;clear h;obtain⟨nm,pe,le,⟨a,b⟩,⟨p,q⟩,ps⟩:=x;dsimp only at h1 h2 h3 ⊢;have hl:(ps.map vQ).length =ps.length:=by simp
 show nY _ _ _ [(true,[T nm,J pe,J le,J a,J b,J p,J q,.view (ps.map vQ)])] _
 have hz: ∀q:Nat,(∀v,q<v->v<=4096->¬le<=rV ps v)->qI ps le 4096=qI ps le q\/4096<=q:=λq hq=>by
  by_cases h:4096<=q
  ·exact .inr h
  ·left
   have: ∀k:Nat,q+k<=4096->qI ps le (q+k)=qI ps le q:=by
    intro k
    induction k with
    |zero=>intro _;rfl
    |succ k ih=>
     intro hk;rw[<- LP,AP,if_neg (hq (q+k+1) K0 K0)];exact ih K0
   have:=this (4096 -q) K0;rwa [show q+(4096 -q)=4096 by omega]at this
 have s8:rV ps 1=ps.length:=by
  unfold rV;rw[List.filter_eq_self.2];intro r hr;have:=(h3 r hr).1;simp;omega
 refine sF f336 ?_
 (try(refine tX 0 ?_;try exact Zt))
 refine af (ι:=Nat) (λv=>v<=4096/\∀w,v<w->w<=4096->¬le<=rV ps w) (λv=>v) (λv=>⟨[(1,pP 0),(4,vI v)],[(0,some (.box 310 [.st (T nm),.st (J pe),.st (J le),.st (J a),.st (J b),.st (J p),.st (J q),.st (.view (ps.map vQ))]))],1⟩) 4096 Zc ⟨dE _,λw h1 h2=>by omega⟩ ?_;rintro v ⟨hv,dp⟩;by_cases h0:v=0
 ·subst h0;have eU: ¬le<=ps.length:=by rw[<- s8];exact dp 1 K0 K0
  rw[if_neg K0,fj K0];exact tA
 ·obtain⟨u,rfl⟩: ∃u,v=u+1:=⟨v -1,by omega⟩;have hzu:=hz (u+1) dp
  (try(refine tX 0 ?_;try exact Zt))
  refine af (ι:=Nat) (λi=>i<=ps.length) (λi=>ps.length -i) (λi=>⟨[(1,pP 0),(4,vI (u+1:Nat)),(5,vI (rV (ps.take i) (u+1):Nat)),(6,vI i)],[(0,some (.box 310 [.st (T nm),.st (J pe),.st (J le),.st (J a),.st (J b),.st (J p),.st (J q),.st (.view (ps.map vQ))]))],1⟩) 0 Zc (dD _) ?_;intro i hi;by_cases ak:i<ps.length
  ·have he:=aV (f:=vQ) ak (0,0,0);have hb:=h3 _ (show ps.getD i (0,0,0)∈ps by rw[show ps.getD i (0,0,0)=ps[i]by simp[jN,ak]];exact qd ak);have hc:=WP (q:=u+1) ak;have jg:=Uf (ps.take i) (u+1);rw[LH]at jg;generalize ps.getD i (0,0,0)=r at*;by_cases hq:((u+1:Nat):Int)<=r.2.1.natAbs
   ·rw[if_pos hq]at hc;repeat' ((first|(refine kO 7 rfl ?_;first|refine rG (λ_ z=>⟨_,TH _ K0,z⟩) ?_)|refine tX 0 ?_|exact Zt|refine bR ?_ ?_<;>intro h)<;>(try conv=>whnf))
    all_goals first|exact Zo|exact⟨i+1,ak,by omega,ai (by rw[hc];kernel_rfl)⟩
   ·rw[if_neg hq]at hc;repeat' ((first|(refine kO 7 rfl ?_;first|refine rG (λ_ z=>⟨_,TH _ K0,z⟩) ?_)|refine tX 0 ?_|exact Zt|refine bR ?_ ?_<;>intro h)<;>(try conv=>whnf))
    all_goals first|exact Zo|exact⟨i+1,ak,by omega,ai (by rw[hc];kernel_rfl)⟩
  ·obtain rfl:i=ps.length:=by omega
   rw[mA];have jg:=Uf ps (u+1);by_cases hq:le<=rV ps (u+1)
   ·have e:qI ps le 4096=u+1:=by
     rcases hzu with h|h
     ·rw[h,AP,if_pos hq]
     ·have:u+1=4096:=by omega
      rw[<- this,AP,if_pos hq]
    rw[if_pos K0,fL K0,e];exact tA
   ·have ahL: ∀w,u<w->w<=4096->¬le<=rV ps w:=λw h1 h2=>by
     by_cases e:w=u+1
     ·subst e;exact hq
     ·exact dp w K0 h2
    repeat' ((first|refine tX 0 ?_|exact Zt|refine bR ?_ ?_<;>intro h)<;>(try conv=>whnf))
    all_goals first|exact Zo|exact⟨u,⟨by omega,ahL⟩,by omega,ai (by rw[show((u:Nat):Int)=((u+1:Nat):Int) -1 by omega];kernel_rfl)⟩
def GI (x:Gt)(hn:x.name.length<=1000000)(hp:x.ps.length<=1000000)(hi:QW x):ac 307 [(true,EX x)] (.aI [F2 (TT x).1.1 (TT x).1.2,I (TT x).2]):=by
 have c:=uK x hn hp hi;have c2:=λh=>Rg (x:=x) h;have fC:=λh=>Cy (x:=x) h;have eC:=Kj x.ps x.least 4096;obtain⟨nm,pe,le,⟨a,b⟩,⟨p,q⟩,ps⟩:=x;unfold TT;dsimp only at hn hp fC c c2 eC ⊢;generalize (mP ⟨nm,pe,le,(a,b),(p,q),ps⟩).2=E at*;generalize qI ps le 4096=lv at*;have c:ac 335 [(true,[T nm,J pe,J le,J a,J b,J p,J q,.view (ps.map vQ)])] (.one (I E)):=c;show nY _ _ _ [(true,[T nm,J pe,J le,J a,J b,J p,J q,.view (ps.map vQ)])] _;by_cases h0:E=0;rotate_left
 ·rw[if_neg h0];refine sF f307 ?_;exact tA
 obtain⟨h1,h2,_,h5,h6⟩:=fC h0;rw[if_pos h0];have c3:ac 336 [(true,[T nm,J pe,J le,J a,J b,J p,J q,.view (ps.map vQ)])] (.aI [I (if le<=ps.length then(lv:Nat)else 0),Bo (decide (le<=ps.length))]):=c2 h0;subst h0;clear fC c2;by_cases h4:le<=ps.length;rotate_left
 ·rw[if_neg h4,fj h4]at c3;rw[if_neg h4];refine sF f307 ?_;exact tA
 rw[if_pos h4,fL h4]at c3;rw[if_pos h4];have m1:=uE (a:=(lv:Nat)) (b:=a) K0 K0;have m2:=uE (a:=(lv:Nat)) (b:=p) K0 K0;refine sF f307 ?_;repeat' ((first|(refine kO 7 rfl ?_;first|refine rG (λ_ z=>⟨_,As _ _ ⟨by omega,by omega⟩ K0,z⟩) ?_|refine rG (λ_ z=>⟨_,M6 _ _ ⟨by omega,by omega⟩ K0,z⟩) ?_)|refine tX 0 ?_|exact Zt|refine bR ?_ ?_<;>intro h)<;>(try conv=>whnf))
 all_goals exact Z0
def qO (w:Go.Plain.Py):ac 61 [(true,wdC w)] (.one (I (wdE w))):=by
 obtain⟨k,t,s,r⟩:=w;refine sF f61 ?_;repeat' ((first|(refine kO 7 rfl ?_;first|refine Rq (ep _ _ _) ?_)|refine tX 0 ?_|exact Zt|refine bR ?_ ?_<;>intro h)<;>(try conv=>whnf))
 all_goals exact mH (by unfold wdE;dsimp only at*;(repeat' split)<;>first|rfl|omega|(exfalso;simp_all;done)|(exfalso;simp_all;omega))
def GM (a b:Go.Plain.Py)(c:Int):ac 21 [(true,wdC a++wdC b++[J c])] (.one (I (NE a b c))):=by
 obtain⟨k,t,s,r⟩:=a;obtain⟨k',t',s',r'⟩:=b;have h1:=qO ⟨k,t,s,r⟩;have h2:=qO ⟨k',t',s',r'⟩;unfold NE;generalize wdE ⟨k,t,s,r⟩=x at*;generalize wdE ⟨k',t',s',r'⟩=y at*;refine sF f21 ?_;repeat' ((first|(refine kO 7 rfl ?_;first|refine Rq (ep _ _ _) ?_)|refine tX 0 ?_|exact Zt|refine bR ?_ ?_<;>intro h)<;>(try conv=>whnf))
 all_goals first|exact mH (by unfold ju stE;(repeat' split)<;>first|rfl|omega)|skip
def Cc (s:aj)(hl:s.length<=100000):ac 197 [SS s] (.aI [(true,Wc (NF s).1),I (NF s).2]):=by
 obtain⟨l1,l2⟩:=cj 32 s;have c0:=jY s 32 K0;rw[show(32:UInt8).toNat =32 from rfl,iR]at c0;unfold NF;generalize aJ 32 s=ws at*;have hn:=eo ws;by_cases h3:ws.length=3
 ·rw[if_pos h3]
  match ws,h3,l2,c0 with
  | [a,b,c],_,l2,c0=>
   have la:=l2 a (by simp);have lb:=l2 b (by simp);have lc:=l2 c (by simp);obtain⟨w1,c1,k1⟩:=wC a K0;obtain⟨w2,c2,k2⟩:=wC b K0;obtain⟨n,c3,k3⟩:=sj c K0;show nY _ _ _ _ (.aI [(true,Wc (puO (Ax a) (Ax b) (wN false 4 c)).1),I (puO (Ax a) (Ax b) (wN false 4 c)).2]);by_cases hall:((Ax a).isSome =true/\(Ax b).isSome =true)/\(wN false 4 c).isSome =true
   ·obtain⟨⟨ha,hb⟩,hc⟩:=hall;rw[ha]at c1;rw[hb]at c2;rw[hc]at c3;obtain⟨x,hx⟩:=qW.1 ha;obtain⟨y,hy⟩:=qW.1 hb;obtain⟨z,hz⟩:=qW.1 hc;rw[hx,hy,hz];obtain rfl:=k1 x hx;obtain rfl:=k2 y hy;obtain rfl:=k3 z hz;show nY _ _ _ _ (.aI [(true,Wc (puE x y z).1),I (puE x y z).2]);have c4:=GM x y z;unfold puE;generalize NE x y z=e at*;clear k1 k2 k3 ha hb hc hx hy hz;by_cases he:e=0
    ·rw[if_pos he];refine sF f197 ?_;exact tA
    ·rw[if_neg he];refine sF f197 ?_;exact tA
   ·rw[aaG hall];generalize (Ax a).isSome =x at*;generalize (Ax b).isSome =y at*;generalize (wN false 4 c).isSome =z at*;refine sF f197 ?_;exact aiX
 ·rw[if_neg h3];refine sF f197 ?_;exact tA
end Go.Proofs.Tryz
