import Derived.Test.YtolnfpljgjpbpaaGreatDoorPk15
import Derived.Test.YtolnfpljgjpbpaaGreatDoorPk18
set_option linter.all false
set_option maxRecDepth 100000
set_option maxHeartbeats 8000000
namespace Go.Proofs.Tryz
open Go.Fw Go.IntWalk Go.Plain
def sl (s:aj)(hl:s.length<=1000000): ∃v,ac 160 [SS s] (.aI [I v,Bo (wN false 4 s).isSome])/\∀n,wN false 4 s=some n->n=v:=by
 have c:=iC s 4 bX hl;unfold wN
 cases h:fN 4 s with
 |none=>
  rw[h]at c;refine⟨0,?_,λn h=>by cases h⟩;refine sF f160 ?_;exact tL
 |some n=>
  rw[h]at c;refine⟨n,?_,λm hm=>?_⟩
  ·by_cases h0:0<=n
   ·have e:(if false=true\/0<=n then some n else none).isSome =true:=by rw[if_pos (.inr h0)];rfl
    show nR _ _ _ _ (.aI [I n,Bo (if false=true\/0<=n then some n else none).isSome]);rw[e];refine sF f160 ?_;repeat' ((first|refine tX 0 ?_|exact Zt|refine bR ?_ ?_<;>intro h)<;>(try conv=>whnf))
    all_goals first|exact Zo|(exact mI (fh K0))|(exact rfl)
   ·have e:(if false=true\/0<=n then some n else none).isSome =false:=by rw[if_neg (by simpa using h0)];rfl
    show nR _ _ _ _ (.aI [I n,Bo (if false=true\/0<=n then some n else none).isSome]);rw[e];refine sF f160 ?_;repeat' ((first|refine tX 0 ?_|exact Zt|refine bR ?_ ?_<;>intro h)<;>(try conv=>whnf))
    all_goals first|exact Zo|(exact mI (eJ K0))|(exact rfl)
  ·exact aiu
def OM:ac 204 [] (.one (SS [121,100,122])):=by
 refine sF f204 ?_;exact tL
def wg:aj:=[121,100,122]
def aa1 {k c:Nat}(hk:k<3)(h:(wg.getD k 0).toNat =c):lK c=k:=by
 subst h
 match k,hk with
 |0,_=>rfl
 |1,_=>rfl
 |2,_=>rfl
def adT {c:Nat}(h: ∀j<3,(wg.getD j 0).toNat ≠c):lK c=3:=by
 have h0:(121:Nat)≠c:=h 0 bX;have h1:(100:Nat)≠c:=h 1 bX;have h2:(122:Nat)≠c:=h 2 bX;unfold lK;rw[if_neg K0,if_neg K0,if_neg K0]
def wO (s:aj)(hl:s.length<=1000000): ∃w:Go.Plain.PX,ac 159 [SS s] (.aI [(true,wdC w),Bo (AL s).isSome])/\∀v,AL s=some v->v=w:=by
 have cl:ac 204 [] (.one (SS wg)):=OM;have wu:wg.length=3:=rfl;have hdl:(s.drop 2).length <=s.length:=by simp
 have c1:=j0 (s.drop 2) 47 K0;rw[show(47:UInt8).toNat =47 from rfl,iM]at c1;have sC:=λ{k c:Nat} (hk:k<3) (h:(wg.getD k 0).toNat =c)=>aa1 hk h;have hkn:=λ{c:Nat} (h: ∀j<3,(wg.getD j 0).toNat ≠c)=>adT h;by_cases hs:s.length<2\/((s.getD 1 0).toNat ≠43/\(s.getD 1 0).toNat ≠45)
 ·have e:AL s=none:=if_pos (by unfold BW;rcases hs with h|h;exact .inl h;exact .inr (.inl h));rw[e];refine⟨⟨0,0,0,false⟩,?_,λv h=>by cases h⟩;by_cases h2:s.length<2
  ·refine sF f159 ?_;exact tL
  ·refine sF f159 ?_;exact aiV
 have h2:2<=s.length:=by omega
 by_cases h3:lK (s.getD 0 0).toNat =3
 ·have e:AL s=none:=if_pos (.inr (.inr h3));rw[e];refine⟨⟨3,0,0,false⟩,?_,λv h=>by cases h⟩;clear e;refine sF f159 ?_;repeat' ((first|refine tX 0 ?_|exact Zt|refine bR ?_ ?_<;>intro h)<;>(try conv=>whnf))
  all_goals
   refine af (ι:=Nat) (λk=>k<=3/\∀j<k,(wg.getD j 0).toNat ≠(s.getD 0 0).toNat) (λk=>3 -k) (λk=>⟨[(0,lS s),(2,pP 0),(4,pP 1)],[(0,some (.box 88 [.st (J 0),.st (J 0),.st (J 0),.st (K false)])),(1,some (.box 88 [.st (J k),.st (J 0),.st (J 0),.st (K false)]))],2⟩) 0 Zc ⟨by omega,λj hj=>by omega⟩ ?_;rintro k ⟨hk,dm⟩;by_cases al:k<3
   ·have gk:(wg.getD k 0).toNat ≠(s.getD 0 0).toNat :=λh=>by have:=sC al h;omega
    exact aiw
   ·obtain rfl:k=3:=by omega
    exact tL
 ·have e:AL s=(vq (s.drop 2)).map λp=>⟨(lK (s.getD 0 0).toNat :Nat),p.2,p.1,decide ((s.getD 1 0).toNat =45)⟩:=if_neg (by unfold BW;omega);have e2:vq (s.drop 2)=Ep (wN false 4) (wN false 4) (aH 47 (s.drop 2)):=rfl;rw[e,e2];have Be:=(cj 47 (s.drop 2)).2;generalize aH 47 (s.drop 2)=ps at*;obtain⟨kk,hkk⟩: ∃kk,lK (s.getD 0 0).toNat =kk:=⟨_,rfl⟩;rw[hkk]at h3 ⊢;clear e e2;have hn:=ee ps;by_cases hp2:ps.length=2;rotate_left
  ·have e3:Ep (wN false 4) (wN false 4) ps=none:=by
    exact aiz
   rw[e3];refine⟨⟨kk,0,0,false⟩,?_,λv h=>by cases h⟩;clear e3;refine sF f159 ?_;repeat' ((first|refine tX 0 ?_|exact Zt|refine bR ?_ ?_<;>intro h)<;>(try conv=>whnf))
   all_goals
    refine af (ι:=Nat) (λk=>k<=3/\∀j<k,(wg.getD j 0).toNat ≠(s.getD 0 0).toNat) (λk=>3 -k) (λk=>⟨[(0,lS s),(2,pP 0),(4,pP 1)],[(0,some (.box 88 [.st (J 0),.st (J 0),.st (J 0),.st (K false)])),(1,some (.box 88 [.st (J k),.st (J 0),.st (J 0),.st (K false)]))],2⟩) 0 Zc ⟨by omega,λj hj=>by omega⟩ ?_;rintro k ⟨hk,dm⟩;by_cases al:k<3
    ·by_cases gk:(wg.getD k 0).toNat =(s.getD 0 0).toNat
     ·obtain rfl:kk=k:=hkk.symm.trans (sC al gk)
      (try(refine tX 0 ?_;try exact Zt))
      generalize (wg.getD kk 0).toNat =x at*;exact tL
     ·exact aiw
    ·exact ai8
  ·match ps,hp2,Be,c1 with
   | [a,b],_,Be,c1=>
    have la:=Be a (by simp);have lb:=Be b (by simp);obtain⟨v,c2,k2⟩:=sl a K0;obtain⟨u,c3,k3⟩:=sl b K0;have e3:Ep (wN false 4) (wN false 4) [a,b]=(wN false 4 a).bind λx=>(wN false 4 b).map λy=>(x,y):=rfl;rw[e3];refine⟨⟨kk,u,v,decide ((s.getD 1 0).toNat =45)⟩,?_,λp hp=>?_⟩;rotate_left
    ·exact afv
    rw[SZ,oM.1];clear e3 k2 k3;generalize (wN false 4 a).isSome =x at*;generalize (wN false 4 b).isSome =y at*;refine sF f159 ?_;repeat' ((first|refine tX 0 ?_|exact Zt|refine bR ?_ ?_<;>intro h)<;>(try conv=>whnf))
    all_goals
     refine af (ι:=Nat) (λk=>k<=3/\∀j<k,(wg.getD j 0).toNat ≠(s.getD 0 0).toNat) (λk=>3 -k) (λk=>⟨[(0,lS s),(2,pP 0),(4,pP 1)],[(0,some (.box 88 [.st (J 0),.st (J 0),.st (J 0),.st (K false)])),(1,some (.box 88 [.st (J k),.st (J 0),.st (J 0),.st (K false)]))],2⟩) 0 Zc ⟨by omega,λj hj=>by omega⟩ ?_;rintro k ⟨hk,dm⟩;by_cases al:k<3
     ·by_cases gk:(wg.getD k 0).toNat =(s.getD 0 0).toNat
      ·obtain rfl:kk=k:=hkk.symm.trans (sC al gk)
       (try(refine tX 0 ?_;try exact Zt))
       generalize (wg.getD kk 0).toNat =l at*;repeat' ((first|refine tX 0 ?_|exact Zt|refine bR ?_ ?_<;>intro h)<;>(try conv=>whnf))
       all_goals first|exact Zo|(revert h;cases x<;>cases y<;>first|(intro _;exact agx (b45 _) rfl)|(intro h;exact absurd h bX))
      ·have io:=vP dm gk
       (try(refine tX 0 ?_;try exact Zt))
       generalize (wg.getD k 0).toNat =l at*;exact tL
     ·exact ai8
def om (s:aj)(hl:s.length<=1000000): ∃v,ac 301 [SS s] (.aI [I v,Bo (wN false 13 s).isSome])/\∀n,wN false 13 s=some n->n=v:=by
 have c:=iC s 13 bX hl;unfold wN
 cases h:fN 13 s with
 |none=>
  rw[h]at c;refine⟨0,?_,λn h=>by cases h⟩;refine sF f301 ?_;exact K3
 |some n=>
  rw[h]at c;have hp:=yS h;have hs:=qx h;refine⟨n,?_,λm hm=>?_⟩
  ·show nR _ _ _ _ (.aI [I n,Bo (if false=true\/0<=n then some n else none).isSome]);have e:(if false=true\/0<=n then some n else none).isSome =decide (0<=n):=by by_cases h0:0<=n<;>simp[h0]
   rw[e];by_cases h0:(s.getD 0 0).toNat =45
   ·rw[eJ (hs.1 h0)];refine sF f301 ?_
    (try(refine tX 0 ?_;try exact Zt))
    generalize (s.getD 0 0).toNat =k at*;repeat' ((first|refine tX 0 ?_|exact Zt|refine bR ?_ ?_<;>intro h)<;>(try conv=>whnf))
    all_goals first|exact Zo|(exact mI (eJ (by omega)))|(exact rfl)|(exact mI wY)
   ·have h1:0<=n:=L8.1 λh=>h0 (hs.2 h);rw[fh h1];refine sF f301 ?_
    (try(refine tX 0 ?_;try exact Zt))
    generalize (s.getD 0 0).toNat =k at*;repeat' ((first|refine tX 0 ?_|exact Zt|refine bR ?_ ?_<;>intro h)<;>(try conv=>whnf))
    all_goals first|exact Zo|(exact mI (fh (by omega)))|(exact rfl)|(exact mI wY)
  ·exact aiu
def I1 (s:aj)(hl:s.length<=100000): ∃a b,ac 302 [SS s] (.aI [F2 a b,Bo (pY s).isSome])/\∀x,pY s=some x->x=(a,b):=by
 have c1:=j0 s 47 K0;rw[show(47:UInt8).toNat =47 from rfl,iM]at c1;have e2:pY s=Ep (wN false 13) (wN false 13) (aH 47 s):=rfl;rw[e2];have Be:=(cj 47 s).2;generalize aH 47 s=ps at*;have hn:=ee ps;by_cases hp2:ps.length=2;rotate_left
 ·have e3:Ep (wN false 13) (wN false 13) ps=none:=by
   exact aiz
  rw[e3];refine⟨0,0,?_,λv h=>by cases h⟩;refine sF f302 ?_;exact tA
 ·match ps,hp2,Be,c1 with
  | [a,b],_,Be,c1=>
   have la:=Be a (by simp);have lb:=Be b (by simp);obtain⟨v,c2,k2⟩:=om a K0;obtain⟨u,c3,k3⟩:=om b K0;have e3:Ep (wN false 13) (wN false 13) [a,b]=(wN false 13 a).bind λx=>(wN false 13 b).map λy=>(x,y):=rfl;rw[e3];refine⟨v,u,?_,λp hp=>?_⟩;rotate_left
   ·obtain⟨h5,h6⟩:=oM.2 p hp;exact Prod.ext (k2 _ h5) (k3 _ h6)
   rw[oM.1];clear e3 k2 k3;generalize (wN false 13 a).isSome =x at*;generalize (wN false 13 b).isSome =y at*;cases x<;>cases y
   all_goals
    refine sF f302 ?_;exact tA
def gj (n:Int):ac 94 [I n] (.one (Bo (decide (0<=n/\n<=1000000000000)))):=by
 refine sF f94 ?_;repeat' ((first|(refine kO 7 rfl ?_;first|refine Rq (eo _ _ _) ?_)|refine tX 0 ?_|exact Zt|refine bR ?_ ?_<;>intro h)<;>(try conv=>whnf))
 all_goals exact gS (by rw[vY];simp)
def ZP {a b c d:Int}(h1: -4611686018427387904<=a*d/\a*d<=4611686018427387903)(h2: -4611686018427387904<=c*b/\c*b<=4611686018427387903):
  ∃k,ac 253 [F2 a b,F2 c d] (.one (I k))/\(k>0↔¬a*d<=c*b):=by
 grind[Kj,QR]
def A1 (x:G1)(hn:x.name.length<=1000000)(hp:x.ps.length<=1000000)(hi:Rk x):ac 336 [(true,Fo x)] (.aI [I (mO x).1,I (mO x).2]):=by
 obtain⟨nm,pe,le,⟨a,b⟩,⟨c,d⟩,ps⟩:=x;dsimp only at hn hp;obtain⟨⟨i1,i2⟩,i3,i4⟩:=hi;dsimp only at i1 i2 i3 i4;have hl:(ps.map wb).length =ps.length:=by simp
 have c1:=py nm hn;have c2:=nI a b i1 i2;have c3:=nI c d i3 i4;show nR _ _ _ [(true,[T nm,J pe,J le,J a,J b,J c,J d,.view (ps.map wb)])] _;have hh:II ⟨nm,pe,le,(a,b),(c,d),ps⟩=jp (if jJ nm then 0 else 4) (jp (if(1<=pe/\pe<=1000000)/\1<=le/\le<=60 then 0 else 2) (jp (N9 (a,b) (c,d)) (if ps.length<=60 then 0 else 8))):=rfl
 have hc:N9 (a,b) (c,d)=if(0<b/\Int.gcd a b=1)/\0<d/\Int.gcd c d=1 then
  (if((1<=a/\a<=1000000000)/\1<=b/\b<=1000000000)/\(1<=c/\c<=1000000000)/\1<=d/\d<=1000000000 then(if a*d<=c*b then 0 else 9)else 2)else 3:=rfl
 have Xs:mO ⟨nm,pe,le,(a,b),(c,d),ps⟩=o9 (0,II ⟨nm,pe,le,(a,b),(c,d),ps⟩) (cR (zh ps) ps.length):=rfl;rw[Xs,hh];clear Xs hh;by_cases q1:jJ nm;rotate_left
 ·rw[eJ q1]at c1;rw[if_neg q1,eS bX,se bX];refine sF f336 ?_;exact tA
 rw[fh q1]at c1;rw[if_pos q1,jj];by_cases q2:(1<=pe/\pe<=1000000)/\1<=le/\le<=60;rotate_left
 ·rw[if_neg q2,eS bX,se bX];refine sF f336 ?_;exact K13
 rw[if_pos q2,jj];by_cases q3:(0<b/\Int.gcd a b=1)/\0<d/\Int.gcd c d=1;rotate_left
 ·rw[if_neg q3]at hc;rw[hc,eS bX,se bX];refine sF f336 ?_;exact K13
 rw[if_pos q3]at hc;by_cases q4:((1<=a/\a<=1000000000)/\1<=b/\b<=1000000000)/\(1<=c/\c<=1000000000)/\1<=d/\d<=1000000000;rotate_left
 ·rw[if_neg q4]at hc;rw[hc,eS bX,se bX];refine sF f336 ?_;exact K13
 rw[if_pos q4]at hc;have e1:=uP (a:=a) (b:=d) K0 K0;have e2:=uP (a:=c) (b:=b) K0 K0;obtain⟨k,c4,hk⟩:=ZP (a:=a) (b:=b) (c:=c) (d:=d) K0 K0;by_cases q5:a*d<=c*b;rotate_left
 ·rw[if_neg q5]at hc;rw[hc,eS bX,se bX];have hk:=hk.2 q5;clear e1 e2 q5 hc;refine sF f336 ?_;exact K13
 rw[if_pos q5]at hc;rw[hc,jj];have hk: ¬k>0:=λh=>hk.1 h q5;clear e1 e2 q5 hc;by_cases q6:ps.length<=60;rotate_left
 ·rw[if_neg q6,se bX];refine sF f336 ?_;exact K13
 rw[if_pos q6,aaw rfl];refine sF f336 ?_;repeat((first|(refine kO 7 rfl ?_;first|refine Rq (eo _ _ _) ?_)|refine tX 0 ?_|exact Zt);(try conv=>whnf))
 refine af (ι:=Nat) (λi=>i<=ps.length/\∀j<i,zh ps j=0) (λi=>ps.length -i) (λi=>⟨[(1,pP 0),(5,vI i)],[(0,some (.box 243 [.st (T nm),.st (J pe),.st (J le),.st (J a),.st (J b),.st (J c),.st (J d),.st (.view (ps.map wb))]))],1⟩) 0 Zc ⟨dz _,λj hj=>by omega⟩ ?_;clear c1 c2 c3 c4 hk q1 q2 q3 q4;rintro i ⟨hi,dm⟩;by_cases al:i<ps.length
 ·have he:=aZ (f:=wb) al (0,0,0);have Xw:=λk=>fG (f:=zh ps) al dm k;have io:=λk=>all_succ (f:=zh ps) dm k
  have pN:(if(0<=(ps.getD i (0,0,0)).1/\(ps.getD i (0,0,0)).1<=1000000000000)/\(-4096<=(ps.getD i (0,0,0)).2.1/\(ps.getD i (0,0,0)).2.1<=4096)/\1<=(ps.getD i (0,0,0)).2.2/\(ps.getD i (0,0,0)).2.2<=100 then
   (if(ps.getD i (0,0,0)).2.1=0 then 11 else if i=0\/(ps.getD (i -1) (0,0,0)).1< (ps.getD i (0,0,0)).1 then 0 else 9)else 2)=zh ps i:=rfl
  generalize zh ps i=hE at*;by_cases hz:i=0
  ·subst hz;generalize ps.getD 0 (0,0,0)=q at*;rw[if_pos (c:=(0=0\/_)) (.inl rfl)]at pN;by_cases p1:(0<=q.1/\q.1<=1000000000000)/\(-4096<=q.2.1/\q.2.1<=4096)/\1<=q.2.2/\q.2.2<=100;rotate_left
   ·rw[if_neg p1]at pN;subst pN;rw[Xw bX];exact K23
   rw[if_pos p1]at pN;by_cases p2:q.2.1=0
   ·rw[if_pos p2]at pN;subst pN;rw[Xw bX];exact K23
   ·rw[if_neg p2]at pN;subst pN;have io:=io rfl;repeat' ((first|(refine kO 7 rfl ?_;first|refine Rq (gj _) ?_|refine Rq (eo _ _ _) ?_)|refine tX 0 ?_|exact Zt|refine bR ?_ ?_<;>intro h)<;>(try conv=>whnf))
    all_goals first|exact Zo|exact⟨0+1,⟨al,io⟩,by omega,Zc⟩
  ·obtain⟨k,rfl⟩: ∃k,i=k+1:=⟨i -1,by omega⟩;have he2:=aZ (f:=wb) (l:=ps) (i:=k) K0 (0,0,0);rw[X7]at pN;generalize ps.getD (k+1) (0,0,0)=q at*;generalize ps.getD k (0,0,0)=r at*;by_cases p1:(0<=q.1/\q.1<=1000000000000)/\(-4096<=q.2.1/\q.2.1<=4096)/\1<=q.2.2/\q.2.2<=100;rotate_left
   ·rw[if_neg p1]at pN;subst pN;rw[Xw bX];exact K23
   rw[if_pos p1]at pN;by_cases p2:q.2.1=0
   ·rw[if_pos p2]at pN;subst pN;rw[Xw bX];exact K23
   rw[if_neg p2]at pN;by_cases p3:r.1<q.1
   ·rw[if_pos (.inr p3)]at pN;subst pN;have io:=io rfl;repeat' ((first|(refine kO 7 rfl ?_;first|refine Rq (gj _) ?_|refine Rq (eo _ _ _) ?_)|refine tX 0 ?_|exact Zt|refine bR ?_ ?_<;>intro h)<;>(try conv=>whnf))
    all_goals first|exact Zo|exact⟨k+1+1,⟨al,io⟩,by omega,Zc⟩
   ·rw[if_neg K0]at pN;subst pN;rw[Xw bX];exact K23
 ·exact ajq
def uT (x:G1)(hn:x.name.length<=1000000)(hp:x.ps.length<=1000000)(hi:Rk x):ac 303 [(true,Fo x)] (.one (I (mO x).2)):=by
 have c:=A1 x hn hp hi;generalize mO x=E at*;refine sF f303 ?_;exact K1
def qP (w:Go.Plain.PX):ac 205 [(true,wdC w)] (.one (I (wdE w))):=by
 obtain⟨k,t,s,r⟩:=w;refine sF f205 ?_;repeat' ((first|(refine kO 7 rfl ?_;first|refine Rq (eo _ _ _) ?_)|refine tX 0 ?_|exact Zt|refine bR ?_ ?_<;>intro h)<;>(try conv=>whnf))
 all_goals exact mH (by unfold wdE;dsimp only at*;(repeat' split)<;>first|rfl|omega|(exfalso;simp_all;done)|(exfalso;simp_all;omega))
def Hn (a b:Go.Plain.PX)(c:Int):ac 161 [(true,wdC a++wdC b++[J c])] (.one (I (N7 a b c))):=by
 obtain⟨k,t,s,r⟩:=a;obtain⟨k',t',s',r'⟩:=b;have h1:=qP ⟨k,t,s,r⟩;have h2:=qP ⟨k',t',s',r'⟩;unfold N7;generalize wdE ⟨k,t,s,r⟩=x at*;generalize wdE ⟨k',t',s',r'⟩=y at*;refine sF f161 ?_;repeat' ((first|(refine kO 7 rfl ?_;first|refine Rq (eo _ _ _) ?_)|refine tX 0 ?_|exact Zt|refine bR ?_ ?_<;>intro h)<;>(try conv=>whnf))
 all_goals first|exact mH (by unfold jp stE;(repeat' split)<;>first|rfl|omega)|skip
def Cs (s:aj)(hl:s.length<=100000):ac 134 [SS s] (.aI [(true,Wi (N8 s).1),I (N8 s).2]):=by
 obtain⟨l1,l2⟩:=cj 32 s;have c0:=j0 s 32 K0;rw[show(32:UInt8).toNat =32 from rfl,iM]at c0;unfold N8;generalize aH 32 s=ws at*;have hn:=ee ws;by_cases h3:ws.length=3
 ·rw[if_pos h3]
  match ws,h3,l2,c0 with
  | [a,b,c],_,l2,c0=>
   have la:=l2 a (by simp);have lb:=l2 b (by simp);have lc:=l2 c (by simp);obtain⟨w1,c1,k1⟩:=wO a K0;obtain⟨w2,c2,k2⟩:=wO b K0;obtain⟨n,c3,k3⟩:=sl c K0;show nR _ _ _ _ (.aI [(true,Wi (puO (AL a) (AL b) (wN false 4 c)).1),I (puO (AL a) (AL b) (wN false 4 c)).2]);by_cases hall:((AL a).isSome =true/\(AL b).isSome =true)/\(wN false 4 c).isSome =true
   ·obtain⟨⟨ha,hb⟩,hc⟩:=hall;rw[ha]at c1;rw[hb]at c2;rw[hc]at c3;obtain⟨x,hx⟩:=qW.1 ha;obtain⟨y,hy⟩:=qW.1 hb;obtain⟨z,hz⟩:=qW.1 hc;rw[hx,hy,hz];obtain rfl:=k1 x hx;obtain rfl:=k2 y hy;obtain rfl:=k3 z hz;show nR _ _ _ _ (.aI [(true,Wi (puE x y z).1),I (puE x y z).2]);have c4:=Hn x y z;unfold puE;generalize N7 x y z=e at*;clear k1 k2 k3 ha hb hc hx hy hz;by_cases he:e=0
    ·rw[if_pos he];refine sF f134 ?_;exact tA
    ·rw[if_neg he];refine sF f134 ?_;exact tA
   ·rw[aaH hall];generalize (AL a).isSome =x at*;generalize (AL b).isSome =y at*;generalize (wN false 4 c).isSome =z at*;refine sF f134 ?_;exact aiv
 ·rw[if_neg h3];refine sF f134 ?_;exact tA
end Go.Proofs.Tryz
