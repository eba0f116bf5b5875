import Derived.Test.YtackacoaaihcjaaGreatDoorPkF23
set_option linter.all false
namespace Go.Proofs.Tryz
open Go.Fw Go.IntWalk Go.Plain
set_option maxRecDepth 100000
set_option maxHeartbeats 8000000
def AI (s:aj)(hl:s.length<=10000):ac 306 [SS s] (.aJ [(true,EV (Cr s).1),I (Cr s).2]):=by
 obtain⟨l1,l2⟩:=cd 59 s;have c0:=jY s 59 K0;rw[show(59:UInt8).toNat =59 from rfl,iL]at c0
 obtain⟨p,ps,qO⟩: ∃p ps,ar 59 s=p::ps:=by
  cases h:ar 59 s with
  |nil=>exact absurd h (lU 59 s)
  |cons p ps=>exact⟨p,ps,rfl⟩
 have ni:=λh=>TV (s:=s) qO h;have aby:=λh=>TW (s:=s) qO h;rw[qO]at l1 l2 c0;have lp:=l2 p (by simp);have l3:ps.length<=s.length:=by simpa using l1
 obtain⟨m1,m2⟩:=cd 32 p;have c1:=jY p 32 K0;rw[show(32:UInt8).toNat =32 from rfl,iL]at c1;generalize ar 32 p=ws at*;have hn:=eh ws;have IH:(ab (p::ps)).length =ps.length+1:=by simp
 by_cases h5:ws.length=5;rotate_left
 ·rw[jU (aby h5)];refine sF f306 ?_;exact tL
 have ni:=ni h5;clear aby
 match ws,h5,m2,c1,ni with
 | [w0,w1,w2,w3,w4],_,m2,c1,ni=>
  have b0:=m2 w0 (by simp);have b1:=m2 w1 (by simp);have b2:=m2 w2 (by simp);have b3:=m2 w3 (by simp);have b4:=m2 w4 (by simp);obtain⟨v1,d1,k1⟩:=nZ w1 K0;obtain⟨v2,d2,k2⟩:=nZ w2 K0;obtain⟨v3,u3,d3,k3⟩:=Ix w3 K0;obtain⟨v4,u4,d4,k4⟩:=Ix w4 K0;have hh:(sq [w0,w1,w2,w3,w4]).isSome =((((wN false 13 w1).isSome &&(wN false 13 w2).isSome)&&(pS w3).isSome)&&(pS w4).isSome):=Ib;have hv: ∀h,sq [w0,w1,w2,w3,w4]=some h->h=(v1,v2,(v3,u3),(v4,u4)):=aiX
  have hI:(sq [w0,w1,w2,w3,w4]).isSome =true->(pW v3/\pW u3)/\pW v4/\pW u4:=by
   intro h;obtain⟨⟨a,b,c,d⟩,h⟩:=qQ.1 h;obtain⟨e1,e2,e3,e4⟩:=J5 h;obtain rfl:=k3 _ e3;obtain rfl:=k4 _ e4;exact⟨yY e3,yY e4⟩
  generalize sq [w0,w1,w2,w3,w4]=hd at*;clear k1 k2 k3 k4 m2;generalize (wN false 13 w1).isSome =x1 at*;generalize (wN false 13 w2).isSome =x2 at*;generalize (pS w3).isSome =x3 at*;generalize (pS w4).isSome =x4 at*;by_cases hx:(((x1&&x2)&&x3)&&x4)=true;rotate_left
  ·rw[jU (by rw[ni];exact yX (by rw[hh];simp[LM]at hx ⊢;intro h1;simp_all))];refine sF f306 ?_;exact tL
  have hhd:hd.isSome=true:=hh.trans hx;have hI:=hI hhd;simp only[sG]at hx;obtain⟨⟨⟨rfl,rfl⟩,rfl⟩,rfl⟩:=hx;obtain⟨h,e1⟩:=qQ.1 hhd;obtain rfl:=hv h e1;rw[e1]at ni;clear hh hv hhd e1;refine sF f306 ?_
  (try(refine tX 0 ?_;try exact Zt))
  refine af (ι:=Nat × List Pu) (λq=>(q.1<=ps.length/\q.2.length=q.1)/\fQ Lf (ps.take q.1)=some q.2) (λq=>ps.length -q.1)
   (λq=>⟨[(2,pP 0),(4,pP 1),(5,pO 2),(15,pP 3),(16,vI (q.1+1:Nat))],
    [(0,some (.box 310 [.st (T []),.st (J 0),.st (J 0),.st (J 0),.st (J 0),.st (J 0),.st (J 0),.nil])),(1,some (.box 310 [.st (T []),.st (J 0),.st (J 0),.st (J 0),.st (J 0),.st (J 0),.st (J 0),.nil])),
     (2,some (.row true 1 (.view (ab (p::ps))))),(3,some (.box 310 [.st (T w0),.st (J v1),.st (J v2),.st (J v3),.st (J u3),.st (J v4),.st (J u4),.own 4])),(4,some (.row true 3 (.view (q.2.map vz))))],5⟩)
   (0,[]) (by
    refine bs.trans (iK 160 7 3 (.view []) (T:=310) (cs:=[.st (T w0),.st (J v1),.st (J v2),.st (J v3),.st (J u3),.st (J v4),.st (J u4),.nil]) K9 rfl rfl rfl rfl) ?_
    exact Zc) ⟨⟨dM _,rfl⟩,rfl⟩ ?_
  rintro⟨i,l⟩ ⟨⟨hi,uF⟩,hx⟩;dsimp only at hi uF hx ⊢;clear d1 d2 d3 d4 c0 c1;by_cases ak:i<ps.length
  ·have he:(ab (p::ps))[i+1]? =some [.lit (.string (B (ps.getD i [])))]:=sA (l:=p::ps) (i:=i+1) (by simpa using ak);have hq:ps.getD i []∈ps:=by exact aiU
   have hql:=l2 _ (i8 _ hq);have l5:=λh=>tM (f:=Lf) ak h;have hsn:=λ{n:Pu} hn=>uT (f:=Lf) ak hx (n:=n) hn;generalize ps.getD i []=w at*;obtain⟨r1,r2⟩:=cd 32 w;have c2:=jY w 32 K0;rw[show(32:UInt8).toNat =32 from rfl,iL]at c2;have Cd: ∀x y z:aj,ar 32 w= [x,y,z]->Lf w=(wN false 13 x).bind λa=>(wN true 13 y).bind λb=>(wN false 13 z).map λc=>(a,b,c):=λx y z h=>Ic h;have hpb:=λh=>TU (s:=w) h;generalize ar 32 w=wi at*;have hwn:=eh wi;by_cases h3:wi.length=3
   ·match wi,h3,r2,c2,Cd with
    | [x,y,z],_,r2,c2,Cd=>
     have g1:=r2 x (by simp);have g2:=r2 y (by simp);have g3:=r2 z (by simp);obtain⟨n1,d1,k1⟩:=nZ x K0;have d2:=iC y 13 K9 K0;obtain⟨n3,d3,k3⟩:=nZ z K0;have Cd:=Cd x y z rfl;have hy:wN true 13 y=fP 13 y:=by unfold wN;cases fP 13 y<;>rfl
     rw[hy]at Cd
     cases hn1:wN false 13 x with
     |none=>
      rw[hn1]at Cd d1;rw[jU afR];clear l5 hsn hpb k1 k3 Cd ni hy;generalize fP 13 y=yo at*;generalize (wN false 13 z).isSome =zo at*;unfold MX at d2;cases yo<;>cases zo
      all_goals
       exact tL
     |some a=>
      obtain rfl:=k1 a hn1;rw[hn1]at Cd d1
      cases hn2:fP 13 y with
      |none=>
       rw[hn2]at Cd d2;rw[jU afR];clear l5 hsn hpb k1 k3 Cd ni hy;generalize (wN false 13 z).isSome =zo at*;unfold MX at d2;cases zo
       all_goals
        exact tL
      |some b=>
       rw[hn2]at Cd d2;unfold MX at d2
       cases hn3:wN false 13 z with
       |none=>
        rw[hn3]at Cd d3;rw[jU afR];clear l5 hsn hpb k1 k3 Cd ni hy;exact tL
       |some c=>
        obtain rfl:=k3 c hn3;rw[hn3]at Cd d3;have iU:=hsn Cd;clear l5 hsn hpb k1 k3 Cd hy
        (try(refine tX 0 ?_;try exact Zt))
        exact⟨(i+1,l++[(a,b,c)]),⟨⟨ak,by simp;omega⟩,iU⟩,by dsimp only;omega,ai (by rw[wx];kernel_rfl)⟩
   ·rw[jU (by rw[ni];exact yX (by rw[l5 (hpb h3)];simp))];exact tL
  ·obtain rfl:i=ps.length:=by omega
   rw[mW]at hx;rw[hx]at ni;have ni:EA s=some ⟨w0,v1,v2,(v3,u3),(v4,u4),l⟩:=ni;rw[EH ni];have cc:=uv ⟨w0,v1,v2,(v3,u3),(v4,u4),l⟩ abY abY hI;generalize mM ⟨w0,v1,v2,(v3,u3),(v4,u4),l⟩=E at*;have cc:ac 335 [(true,[T w0,J v1,J v2,J v3,J u3,J v4,J u4,.view (l.map vz)])] (.one (I E.2)):=cc;exact ajq
def WO {l:List Pu}{q i:Nat}(h:i<l.length):rO (l.take (i+1)) q=rO (l.take i) q+if(q:Int)<=(l.getD i (0,0,0)).2.1.natAbs then 1 else 0:=by
 unfold rO;rw[CK,oX h,show l.getD i (0,0,0)=l[i]by simp[jP,h],SH,xI];congr 1;show(List.filter (λp:Pu=>decide ((q:Int)<=p.2.1.natAbs)) [l[i]]).length =_;simp only[List.filter_cons,List.filter_nil,wv];split<;>rfl
def Uf (l:List Pu)(q:Nat):rO l q<=l.length:=by unfold rO;exact LB _ _
def AJ {l:List Pu}{n:Int}{q:Nat}:qE l n (q+1)=if n<=rO l (q+1)then q+1 else qE l n q:=rfl
def Ri {x:Gq}(h:(mM x).2=0):ac 336 [(true,EV x)] (.aJ [I (if x.least<=x.ps.length then(qE x.ps x.least 4096:Nat)else 0),Bo (decide (x.least<=x.ps.length))]):=by
 obtain⟨h1,h2,h3,_⟩:=Cw h;clear h;obtain⟨nm,pe,le,⟨a,b⟩,⟨p,q⟩,ps⟩:=x;dsimp only at h1 h2 h3 ⊢;have hl:(ps.map vz).length =ps.length:=by simp
 show nN _ _ _ [(true,[T nm,J pe,J le,J a,J b,J p,J q,.view (ps.map vz)])] _
 have hz: ∀q:Nat,(∀v,q<v->v<=4096->¬le<=rO ps v)->qE ps le 4096=qE ps le q\/4096<=q:=λq hq=>by
  by_cases h:4096<=q
  ·exact .inr h
  ·left
   have: ∀k:Nat,q+k<=4096->qE ps le (q+k)=qE ps le q:=by
    intro k
    induction k with
    |zero=>intro _;rfl
    |succ k ih=>
     intro hk;rw[<- LQ,AJ,if_neg (hq (q+k+1) K0 K0)];exact ih K0
   have:=this (4096 -q) K0;rwa [show q+(4096 -q)=4096 by omega]at this
 have sQ:rO ps 1=ps.length:=by
  unfold rO;rw[List.filter_eq_self.2];intro r hr;have:=(h3 r hr).1;simp;omega
 refine sF f336 ?_
 (try(refine tX 0 ?_;try exact Zt))
 refine af (ι:=Nat) (λv=>v<=4096/\∀w,v<w->w<=4096->¬le<=rO ps w) (λv=>v) (λv=>⟨[(1,pP 0),(4,vI v)],[(0,some (.box 310 [.st (T nm),.st (J pe),.st (J le),.st (J a),.st (J b),.st (J p),.st (J q),.st (.view (ps.map vz))]))],1⟩) 4096 Zc ⟨dz _,λw h1 h2=>by omega⟩ ?_;rintro v ⟨hv,dy⟩;by_cases h0:v=0
 ·subst h0;have fh: ¬le<=ps.length:=by rw[<- sQ];exact dy 1 K0 K0
  rw[if_neg K0,eU K0];exact tA
 ·obtain⟨u,rfl⟩: ∃u,v=u+1:=⟨v -1,by omega⟩;have hzu:=hz (u+1) dy
  (try(refine tX 0 ?_;try exact Zt))
  refine af (ι:=Nat) (λi=>i<=ps.length) (λi=>ps.length -i) (λi=>⟨[(1,pP 0),(4,vI (u+1:Nat)),(5,vI (rO (ps.take i) (u+1):Nat)),(6,vI i)],[(0,some (.box 310 [.st (T nm),.st (J pe),.st (J le),.st (J a),.st (J b),.st (J p),.st (J q),.st (.view (ps.map vz))]))],1⟩) 0 Zc (dM _) ?_;intro i hi;by_cases ak:i<ps.length
  ·have he:=bg (f:=vz) ak (0,0,0);have hb:=h3 _ (show ps.getD i (0,0,0)∈ps by rw[show ps.getD i (0,0,0)=ps[i]by simp[jP,ak]];exact pH ak);have hc:=WO (q:=u+1) ak;have jd:=Uf (ps.take i) (u+1);rw[LL]at jd;generalize ps.getD i (0,0,0)=r at*;by_cases hq:((u+1:Nat):Int)<=r.2.1.natAbs
   ·rw[if_pos hq]at hc;repeat' ((first|(refine kO 7 rfl ?_;first|refine rG (λ_ z=>⟨_,TH _ K0,z⟩) ?_)|refine tX 0 ?_|exact Zt|refine bR ?_ ?_<;>intro h)<;>(try conv=>whnf))
    all_goals first|exact Zo|exact⟨i+1,ak,by omega,ai (by rw[hc];kernel_rfl)⟩
   ·rw[if_neg hq]at hc;repeat' ((first|(refine kO 7 rfl ?_;first|refine rG (λ_ z=>⟨_,TH _ K0,z⟩) ?_)|refine tX 0 ?_|exact Zt|refine bR ?_ ?_<;>intro h)<;>(try conv=>whnf))
    all_goals first|exact Zo|exact⟨i+1,ak,by omega,ai (by rw[hc];kernel_rfl)⟩
  ·obtain rfl:i=ps.length:=by omega
   rw[mW];have jd:=Uf ps (u+1);by_cases hq:le<=rO ps (u+1)
   ·have e:qE ps le 4096=u+1:=by
     rcases hzu with h|h
     ·rw[h,AJ,if_pos hq]
     ·have:u+1=4096:=by omega
      rw[<- this,AJ,if_pos hq]
    rw[if_pos K0,fG K0,e];exact tA
   ·have aho: ∀w,u<w->w<=4096->¬le<=rO ps w:=λw h1 h2=>by
     by_cases e:w=u+1
     ·subst e;exact hq
     ·exact dy w K0 h2
    repeat' ((first|refine tX 0 ?_|exact Zt|refine bR ?_ ?_<;>intro h)<;>(try conv=>whnf))
    all_goals first|exact Zo|exact⟨u,⟨by omega,aho⟩,by omega,ai (by rw[show((u:Nat):Int)=((u+1:Nat):Int) -1 by omega];kernel_rfl)⟩
def GF (x:Gq)(hn:x.name.length<=1000000)(hp:x.ps.length<=1000000)(hi:QV x):ac 307 [(true,EV x)] (.aJ [F2 (TT x).1.1 (TT x).1.2,I (TT x).2]):=by
 have c:=uv x hn hp hi;have c2:=λh=>Ri (x:=x) h;have fC:=λh=>Cw (x:=x) h;have eB:=Km x.ps x.least 4096;obtain⟨nm,pe,le,⟨a,b⟩,⟨p,q⟩,ps⟩:=x;unfold TT;dsimp only at hn hp fC c c2 eB ⊢;generalize (mM ⟨nm,pe,le,(a,b),(p,q),ps⟩).2=E at*;generalize qE ps le 4096=lv at*;have c:ac 335 [(true,[T nm,J pe,J le,J a,J b,J p,J q,.view (ps.map vz)])] (.one (I E)):=c;show nN _ _ _ [(true,[T nm,J pe,J le,J a,J b,J p,J q,.view (ps.map vz)])] _;by_cases h0:E=0;rotate_left
 ·rw[if_neg h0];refine sF f307 ?_;exact tA
 obtain⟨h1,h2,_,h5,h6⟩:=fC h0;rw[if_pos h0];have c3:ac 336 [(true,[T nm,J pe,J le,J a,J b,J p,J q,.view (ps.map vz)])] (.aJ [I (if le<=ps.length then(lv:Nat)else 0),Bo (decide (le<=ps.length))]):=c2 h0;subst h0;clear fC c2;by_cases h4:le<=ps.length;rotate_left
 ·rw[if_neg h4,eU h4]at c3;rw[if_neg h4];refine sF f307 ?_;exact tA
 rw[if_pos h4,fG h4]at c3;rw[if_pos h4];have m1:=uo (a:=(lv:Nat)) (b:=a) K0 K0;have m2:=uo (a:=(lv:Nat)) (b:=p) K0 K0;refine sF f307 ?_;repeat' ((first|(refine kO 7 rfl ?_;first|refine rG (λ_ z=>⟨_,An _ _ ⟨by omega,by omega⟩ K0,z⟩) ?_|refine rG (λ_ z=>⟨_,M7 _ _ ⟨by omega,by omega⟩ K0,z⟩) ?_)|refine tX 0 ?_|exact Zt|refine bR ?_ ?_<;>intro h)<;>(try conv=>whnf))
 all_goals exact Z0
end Go.Proofs.Tryz
