import Derived.Test.YtackacoaaihcjaaGreatDoorPkT23
set_option linter.all false
namespace Go.Proofs.Tryz
open Go.Fw Go.IntWalk Go.Plain
set_option maxRecDepth 100000
set_option maxHeartbeats 8000000
def AG (s:aj)(hl:s.length<=10000):ad 306 [SS s] (.aJ [(true,EV (Cn s).1),I (Cn s).2]):=by
 obtain⟨l1,l2⟩:=bZ 59 s;have c0:=jV s 59 K0;rw[show(59:UInt8).toNat =59 from rfl,iK]at c0
 obtain⟨p,ps,zB⟩: ∃p ps,av 59 s=p::ps:=by
  cases h:av 59 s with
  |nil=>exact absurd h (lT 59 s)
  |cons p ps=>exact⟨p,ps,rfl⟩
 have ni:=λh=>TK (s:=s) zB h;have abk:=λh=>TL (s:=s) zB h;rw[zB]at l1 l2 c0;have lp:=l2 p (by simp);have l3:ps.length<=s.length:=by simpa using l1
 obtain⟨m1,m2⟩:=bZ 32 p;have c1:=jV p 32 K0;rw[show(32:UInt8).toNat =32 from rfl,iK]at c1;generalize av 32 p=ws at*;have hn:=dZ ws;have IF:(ab (p::ps)).length =ps.length+1:=by simp
 by_cases h5:ws.length=5;rotate_left
 ·rw[jR (abk h5)];refine sF f306 ?_;exact tL
 have ni:=ni h5;clear abk
 match ws,h5,m2,c1,ni with
 | [w0,w1,w2,w3,w4],_,m2,c1,ni=>
  have b0:=m2 w0 (by simp);have b1:=m2 w1 (by simp);have b2:=m2 w2 (by simp);have b3:=m2 w3 (by simp);have b4:=m2 w4 (by simp);obtain⟨v1,d1,k1⟩:=nZ w1 K0;obtain⟨v2,d2,k2⟩:=nZ w2 K0;obtain⟨v3,u3,d3,k3⟩:=Iu w3 K0;obtain⟨v4,u4,d4,k4⟩:=Iu w4 K0;have hh:(sj [w0,w1,w2,w3,w4]).isSome =((((wN false 13 w1).isSome &&(wN false 13 w2).isSome)&&(pN w3).isSome)&&(pN w4).isSome):=Ia;have hv: ∀h,sj [w0,w1,w2,w3,w4]=some h->h=(v1,v2,(v3,u3),(v4,u4)):=aiU
  have hI:(sj [w0,w1,w2,w3,w4]).isSome =true->(pU v3/\pU u3)/\pU v4/\pU u4:=by
   intro h;obtain⟨⟨a,b,c,d⟩,h⟩:=qJ.1 h;obtain⟨e1,e2,e3,e4⟩:=J3 h;obtain rfl:=k3 _ e3;obtain rfl:=k4 _ e4;exact⟨yY e3,yY e4⟩
  generalize sj [w0,w1,w2,w3,w4]=hd at*;clear k1 k2 k3 k4 m2;generalize (wN false 13 w1).isSome =x1 at*;generalize (wN false 13 w2).isSome =x2 at*;generalize (pN w3).isSome =x3 at*;generalize (pN w4).isSome =x4 at*;by_cases hx:(((x1&&x2)&&x3)&&x4)=true;rotate_left
  ·rw[jR (by rw[ni];exact yX (by rw[hh];simp[LD]at hx ⊢;intro h1;simp_all))];refine sF f306 ?_;exact tL
  have hhd:hd.isSome=true:=hh.trans hx;have hI:=hI hhd;simp only[sC]at hx;obtain⟨⟨⟨rfl,rfl⟩,rfl⟩,rfl⟩:=hx;obtain⟨h,e1⟩:=qJ.1 hhd;obtain rfl:=hv h e1;rw[e1]at ni;clear hh hv hhd e1;refine sF f306 ?_
  (try(refine tX 0 ?_;try exact Zt))
  refine af (ι:=Nat × List Pu) (λq=>(q.1<=ps.length/\q.2.length=q.1)/\fR KY (ps.take q.1)=some q.2) (λq=>ps.length -q.1)
   (λq=>⟨[(2,pP 0),(4,pP 1),(5,pO 2),(15,pP 3),(16,vI (q.1+1:Nat))],
    [(0,some (.box 310 [.st (T []),.st (J 0),.st (J 0),.st (J 0),.st (J 0),.st (J 0),.st (J 0),.nil])),(1,some (.box 310 [.st (T []),.st (J 0),.st (J 0),.st (J 0),.st (J 0),.st (J 0),.st (J 0),.nil])),
     (2,some (.row true 1 (.view (ab (p::ps))))),(3,some (.box 310 [.st (T w0),.st (J v1),.st (J v2),.st (J v3),.st (J u3),.st (J v4),.st (J u4),.own 4])),(4,some (.row true 3 (.view (q.2.map vA))))],5⟩)
   (0,[]) (by
    refine bs.trans (iJ 160 7 3 (.view []) (T:=310) (cs:=[.st (T w0),.st (J v1),.st (J v2),.st (J v3),.st (J u3),.st (J v4),.st (J u4),.nil]) K9 rfl rfl rfl rfl) ?_
    exact Zc) ⟨⟨dC _,rfl⟩,rfl⟩ ?_
  rintro⟨i,l⟩ ⟨⟨hi,vN⟩,hx⟩;dsimp only at hi vN hx ⊢;clear d1 d2 d3 d4 c0 c1;by_cases ak:i<ps.length
  ·have he:(ab (p::ps))[i+1]? =some [.lit (.string (B (ps.getD i [])))]:=sA (l:=p::ps) (i:=i+1) (by simpa using ak);have hq:ps.getD i []∈ps:=by exact aiR
   have hql:=l2 _ (i7 _ hq);have l6:=λh=>tK (f:=KY) ak h;have hsn:=λ{n:Pu} hn=>uT (f:=KY) ak hx (n:=n) hn;generalize ps.getD i []=w at*;obtain⟨r1,r2⟩:=bZ 32 w;have c2:=jV w 32 K0;rw[show(32:UInt8).toNat =32 from rfl,iK]at c2;have B7: ∀x y z:aj,av 32 w= [x,y,z]->KY w=(wN false 13 x).bind λa=>(wN true 13 y).bind λb=>(wN false 13 z).map λc=>(a,b,c):=λx y z h=>Ib h;have hpb:=λh=>TJ (s:=w) h;generalize av 32 w=wi at*;have hwn:=dZ wi;by_cases h3:wi.length=3
   ·match wi,h3,r2,c2,B7 with
    | [x,y,z],_,r2,c2,B7=>
     have g1:=r2 x (by simp);have g2:=r2 y (by simp);have g3:=r2 z (by simp);obtain⟨n1,d1,k1⟩:=nZ x K0;have d2:=iB y 13 K9 K0;obtain⟨n3,d3,k3⟩:=nZ z K0;have B7:=B7 x y z rfl;have hy:wN true 13 y=fQ 13 y:=by unfold wN;cases fQ 13 y<;>rfl
     rw[hy]at B7
     cases hn1:wN false 13 x with
     |none=>
      rw[hn1]at B7 d1;rw[jR afO];clear l6 hsn hpb k1 k3 B7 ni hy;generalize fQ 13 y=yo at*;generalize (wN false 13 z).isSome =zo at*;unfold MO at d2;cases yo<;>cases zo
      all_goals
       exact tL
     |some a=>
      obtain rfl:=k1 a hn1;rw[hn1]at B7 d1
      cases hn2:fQ 13 y with
      |none=>
       rw[hn2]at B7 d2;rw[jR afO];clear l6 hsn hpb k1 k3 B7 ni hy;generalize (wN false 13 z).isSome =zo at*;unfold MO at d2;cases zo
       all_goals
        exact tL
      |some b=>
       rw[hn2]at B7 d2;unfold MO at d2
       cases hn3:wN false 13 z with
       |none=>
        rw[hn3]at B7 d3;rw[jR afO];clear l6 hsn hpb k1 k3 B7 ni hy;exact tL
       |some c=>
        obtain rfl:=k3 c hn3;rw[hn3]at B7 d3;have iT:=hsn B7;clear l6 hsn hpb k1 k3 B7 hy
        (try(refine tX 0 ?_;try exact Zt))
        exact⟨(i+1,l++[(a,b,c)]),⟨⟨ak,by simp;omega⟩,iT⟩,by dsimp only;omega,ai (by rw[wD];kernel_rfl)⟩
   ·rw[jR (by rw[ni];exact yX (by rw[l6 (hpb h3)];simp))];exact tL
  ·obtain rfl:i=ps.length:=by omega
   rw[lu]at hx;rw[hx]at ni;have ni:EB s=some ⟨w0,v1,v2,(v3,u3),(v4,u4),l⟩:=ni;rw[EI ni];have cc:=uw ⟨w0,v1,v2,(v3,u3),(v4,u4),l⟩ abS abS hI;generalize mO ⟨w0,v1,v2,(v3,u3),(v4,u4),l⟩=E at*;have cc:ad 335 [(true,[T w0,J v1,J v2,J v3,J u3,J v4,J u4,.view (l.map vA)])] (.one (I E.2)):=cc;exact ajp
def Wz {l:List Pu}{q i:Nat}(h:i<l.length):rH (l.take (i+1)) q=rH (l.take i) q+if(q:Int)<=(l.getD i (0,0,0)).2.1.natAbs then 1 else 0:=by
 unfold rH;rw[BH,nM h,show l.getD i (0,0,0)=l[i]by simp[jE,h],Sv,xI];congr 1;show(List.filter (λp:Pu=>decide ((q:Int)<=p.2.1.natAbs)) [l[i]]).length =_;simp only[List.filter_cons,List.filter_nil,wB];split<;>rfl
def T2 (l:List Pu)(q:Nat):rH l q<=l.length:=by unfold rH;exact UA _ _
def AH {l:List Pu}{n:Int}{q:Nat}:qz l n (q+1)=if n<=rH l (q+1)then q+1 else qz l n q:=rfl
def Q8 {x:Gp}(h:(mO x).2=0):ad 336 [(true,EV x)] (.aJ [I (if x.least<=x.ps.length then(qz x.ps x.least 4096:Nat)else 0),Bo (decide (x.least<=x.ps.length))]):=by
 obtain⟨h1,h2,h3,_⟩:=Cs h;clear h;obtain⟨nm,pe,le,⟨a,b⟩,⟨p,q⟩,ps⟩:=x;dsimp only at h1 h2 h3 ⊢;have hl:(ps.map vA).length =ps.length:=by simp
 show nN _ _ _ [(true,[T nm,J pe,J le,J a,J b,J p,J q,.view (ps.map vA)])] _
 have hz: ∀q:Nat,(∀v,q<v->v<=4096->¬le<=rH ps v)->qz ps le 4096=qz ps le q\/4096<=q:=λq hq=>by
  by_cases h:4096<=q
  ·exact .inr h
  ·left
   have: ∀k:Nat,q+k<=4096->qz ps le (q+k)=qz ps le q:=by
    intro k
    induction k with
    |zero=>intro _;rfl
    |succ k ih=>
     intro hk;rw[<- LI,AH,if_neg (hq (q+k+1) K0 K0)];exact ih K0
   have:=this (4096 -q) K0;rwa [show q+(4096 -q)=4096 by omega]at this
 have sP:rH ps 1=ps.length:=by
  unfold rH;rw[List.filter_eq_self.2];intro r hr;have:=(h3 r hr).1;simp;omega
 refine sF f336 ?_
 (try(refine tX 0 ?_;try exact Zt))
 refine af (ι:=Nat) (λv=>v<=4096/\∀w,v<w->w<=4096->¬le<=rH ps w) (λv=>v) (λv=>⟨[(1,pP 0),(4,vI v)],[(0,some (.box 310 [.st (T nm),.st (J pe),.st (J le),.st (J a),.st (J b),.st (J p),.st (J q),.st (.view (ps.map vA))]))],1⟩) 4096 Zc ⟨dw _,λw h1 h2=>by omega⟩ ?_;rintro v ⟨hv,dx⟩;by_cases h0:v=0
 ·subst h0;have e8: ¬le<=ps.length:=by rw[<- sP];exact dx 1 K0 K0
  rw[if_neg K0,eT K0];exact tA
 ·obtain⟨u,rfl⟩: ∃u,v=u+1:=⟨v -1,by omega⟩;have hzu:=hz (u+1) dx
  (try(refine tX 0 ?_;try exact Zt))
  refine af (ι:=Nat) (λi=>i<=ps.length) (λi=>ps.length -i) (λi=>⟨[(1,pP 0),(4,vI (u+1:Nat)),(5,vI (rH (ps.take i) (u+1):Nat)),(6,vI i)],[(0,some (.box 310 [.st (T nm),.st (J pe),.st (J le),.st (J a),.st (J b),.st (J p),.st (J q),.st (.view (ps.map vA))]))],1⟩) 0 Zc (dC _) ?_;intro i hi;by_cases ak:i<ps.length
  ·have he:=bg (f:=vA) ak (0,0,0);have hb:=h3 _ (show ps.getD i (0,0,0)∈ps by rw[show ps.getD i (0,0,0)=ps[i]by simp[jE,ak]];exact oh ak);have hc:=Wz (q:=u+1) ak;have jd:=T2 (ps.take i) (u+1);rw[LC]at jd;generalize ps.getD i (0,0,0)=r at*;by_cases hq:((u+1:Nat):Int)<=r.2.1.natAbs
   ·rw[if_pos hq]at hc;repeat' ((first|(refine kO 7 rfl ?_;first|refine rG (λ_ z=>⟨_,Tv _ K0,z⟩) ?_)|refine tX 0 ?_|exact Zt|refine bR ?_ ?_<;>intro h)<;>(try conv=>whnf))
    all_goals first|exact Zo|exact⟨i+1,ak,by omega,ai (by rw[hc];kernel_rfl)⟩
   ·rw[if_neg hq]at hc;repeat' ((first|(refine kO 7 rfl ?_;first|refine rG (λ_ z=>⟨_,Tv _ K0,z⟩) ?_)|refine tX 0 ?_|exact Zt|refine bR ?_ ?_<;>intro h)<;>(try conv=>whnf))
    all_goals first|exact Zo|exact⟨i+1,ak,by omega,ai (by rw[hc];kernel_rfl)⟩
  ·obtain rfl:i=ps.length:=by omega
   rw[lu];have jd:=T2 ps (u+1);by_cases hq:le<=rH ps (u+1)
   ·have e:qz ps le 4096=u+1:=by
     rcases hzu with h|h
     ·rw[h,AH,if_pos hq]
     ·have:u+1=4096:=by omega
      rw[<- this,AH,if_pos hq]
    rw[if_pos K0,fH K0,e];exact tA
   ·have aho: ∀w,u<w->w<=4096->¬le<=rH ps w:=λw h1 h2=>by
     by_cases e:w=u+1
     ·subst e;exact hq
     ·exact dx w K0 h2
    repeat' ((first|refine tX 0 ?_|exact Zt|refine bR ?_ ?_<;>intro h)<;>(try conv=>whnf))
    all_goals first|exact Zo|exact⟨u,⟨by omega,aho⟩,by omega,ai (by rw[show((u:Nat):Int)=((u+1:Nat):Int) -1 by omega];kernel_rfl)⟩
def GF (x:Gp)(hn:x.name.length<=1000000)(hp:x.ps.length<=1000000)(hi:QP x):ad 307 [(true,EV x)] (.aJ [F2 (TH x).1.1 (TH x).1.2,I (TH x).2]):=by
 have c:=uw x hn hp hi;have c2:=λh=>Q8 (x:=x) h;have fB:=λh=>Cs (x:=x) h;have eu:=Kk x.ps x.least 4096;obtain⟨nm,pe,le,⟨a,b⟩,⟨p,q⟩,ps⟩:=x;unfold TH;dsimp only at hn hp fB c c2 eu ⊢;generalize (mO ⟨nm,pe,le,(a,b),(p,q),ps⟩).2=E at*;generalize qz ps le 4096=lv at*;have c:ad 335 [(true,[T nm,J pe,J le,J a,J b,J p,J q,.view (ps.map vA)])] (.one (I E)):=c;show nN _ _ _ [(true,[T nm,J pe,J le,J a,J b,J p,J q,.view (ps.map vA)])] _;by_cases h0:E=0;rotate_left
 ·rw[if_neg h0];refine sF f307 ?_;exact tA
 obtain⟨h1,h2,_,h5,h6⟩:=fB h0;rw[if_pos h0];have c3:ad 336 [(true,[T nm,J pe,J le,J a,J b,J p,J q,.view (ps.map vA)])] (.aJ [I (if le<=ps.length then(lv:Nat)else 0),Bo (decide (le<=ps.length))]):=c2 h0;subst h0;clear fB c2;by_cases h4:le<=ps.length;rotate_left
 ·rw[if_neg h4,eT h4]at c3;rw[if_neg h4];refine sF f307 ?_;exact tA
 rw[if_pos h4,fH h4]at c3;rw[if_pos h4];have m1:=um (a:=(lv:Nat)) (b:=a) K0 K0;have m2:=um (a:=(lv:Nat)) (b:=p) K0 K0;refine sF f307 ?_;repeat' ((first|(refine kO 7 rfl ?_;first|refine rG (λ_ z=>⟨_,Al _ _ ⟨by omega,by omega⟩ K0,z⟩) ?_|refine rG (λ_ z=>⟨_,MX _ _ ⟨by omega,by omega⟩ K0,z⟩) ?_)|refine tX 0 ?_|exact Zt|refine bR ?_ ?_<;>intro h)<;>(try conv=>whnf))
 all_goals exact Z0
end Go.Proofs.Tryz
