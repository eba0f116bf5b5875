import Derived.Test.YtolnfpljgjpbpaaGreatDoorPk19
import Derived.Test.YtolnfpljgjpbpaaGreatDoorPk21
set_option linter.all false
namespace Go.Proofs.Tryz
open Go.Fw Go.IntWalk Go.Plain
set_option maxRecDepth 100000
set_option maxHeartbeats 8000000
def A4 (s:aj)(hl:s.length<=10000):ac 256 [SS s] (.aI [(true,Fo (CO s).1),I (CO s).2]):=by
 obtain⟨l1,l2⟩:=cj 59 s;have c0:=j0 s 59 K0;rw[show(59:UInt8).toNat =59 from rfl,iM]at c0
 obtain⟨p,ps,Be⟩: ∃p ps,aH 59 s=p::ps:=by
  cases h:aH 59 s with
  |nil=>exact absurd h (ng 59 s)
  |cons p ps=>exact⟨p,ps,rfl⟩
 have nn:=λh=>Ua (s:=s) Be h;have abI:=λh=>Ub (s:=s) Be h;rw[Be]at l1 l2 c0;have lp:=l2 p (by simp);have l3:ps.length<=s.length:=by simpa using l1
 obtain⟨m1,m2⟩:=cj 32 p;have c1:=j0 p 32 K0;rw[show(32:UInt8).toNat =32 from rfl,iM]at c1;generalize aH 32 p=ws at*;have hn:=ee ws;have Ja:(ab (p::ps)).length =ps.length+1:=by simp
 by_cases h5:ws.length=5;rotate_left
 ·rw[jU (abI h5)];refine sF f256 ?_;exact tL
 have nn:=nn h5;clear abI
 match ws,h5,m2,c1,nn with
 | [w0,w1,w2,w3,w4],_,m2,c1,nn=>
  have b0:=m2 w0 (by simp);have b1:=m2 w1 (by simp);have b2:=m2 w2 (by simp);have b3:=m2 w3 (by simp);have b4:=m2 w4 (by simp);obtain⟨v1,d1,k1⟩:=om w1 K0;obtain⟨v2,d2,k2⟩:=om w2 K0;obtain⟨v3,u3,d3,k3⟩:=I1 w3 K0;obtain⟨v4,u4,d4,k4⟩:=I1 w4 K0;have hh:(sJ [w0,w1,w2,w3,w4]).isSome =((((wN false 13 w1).isSome &&(wN false 13 w2).isSome)&&(pY w3).isSome)&&(pY w4).isSome):=IK;have hv: ∀h,sJ [w0,w1,w2,w3,w4]=some h->h=(v1,v2,(v3,u3),(v4,u4)):=aiE
  have hI:(sJ [w0,w1,w2,w3,w4]).isSome =true->(qd v3/\qd u3)/\qd v4/\qd u4:=by
   intro h;obtain⟨⟨a,b,c,d⟩,h⟩:=qW.1 h;obtain⟨e1,e2,e3,e4⟩:=Ks h;obtain rfl:=k3 _ e3;obtain rfl:=k4 _ e4;exact⟨zk e3,zk e4⟩
  generalize sJ [w0,w1,w2,w3,w4]=hd at*;clear k1 k2 k3 k4 m2;generalize (wN false 13 w1).isSome =x1 at*;generalize (wN false 13 w2).isSome =x2 at*;generalize (pY w3).isSome =x3 at*;generalize (pY w4).isSome =x4 at*;by_cases hx:(((x1&&x2)&&x3)&&x4)=true;rotate_left
  ·rw[jU (by rw[nn];exact zj (by rw[hh];simp[Mb]at hx ⊢;intro h1;simp_all))];refine sF f256 ?_;exact tL
  have hhd:hd.isSome=true:=hh.trans hx;have hI:=hI hhd;simp only[sU]at hx;obtain⟨⟨⟨rfl,rfl⟩,rfl⟩,rfl⟩:=hx;obtain⟨h,e1⟩:=qW.1 hhd;obtain rfl:=hv h e1;rw[e1]at nn;clear hh hv hhd e1;refine sF f256 ?_
  (try(refine tX 0 ?_;try exact Zt))
  refine af (ι:=Nat × List Pu) (λq=>(q.1<=ps.length/\q.2.length=q.1)/\fO LD (ps.take q.1)=some q.2) (λq=>ps.length -q.1)
   (λq=>⟨[(2,pP 0),(4,pP 1),(5,pO 2),(15,pP 3),(16,vI (q.1+1:Nat))],
    [(0,some (.box 243 [.st (T []),.st (J 0),.st (J 0),.st (J 0),.st (J 0),.st (J 0),.st (J 0),.nil])),(1,some (.box 243 [.st (T []),.st (J 0),.st (J 0),.st (J 0),.st (J 0),.st (J 0),.st (J 0),.nil])),
     (2,some (.row true 1 (.view (ab (p::ps))))),(3,some (.box 243 [.st (T w0),.st (J v1),.st (J v2),.st (J v3),.st (J u3),.st (J v4),.st (J u4),.own 4])),(4,some (.row true 3 (.view (q.2.map wb))))],5⟩)
   (0,[]) (by
    refine bu.trans (iL 160 7 3 (.view []) (T:=243) (cs:=[.st (T w0),.st (J v1),.st (J v2),.st (J v3),.st (J u3),.st (J v4),.st (J u4),.nil]) bX rfl rfl rfl rfl) ?_
    exact Zc) ⟨⟨dz _,rfl⟩,rfl⟩ ?_
  rintro⟨i,l⟩ ⟨⟨hi,wu⟩,hx⟩;dsimp only at hi wu hx ⊢;clear d1 d2 d3 d4 c0 c1;by_cases al:i<ps.length
  ·have he:(ab (p::ps))[i+1]? =some [.lit (.string (B (ps.getD i [])))]:=sA (l:=p::ps) (i:=i+1) (by simpa using al);have hq:ps.getD i []∈ps:=by exact aiB
   have hql:=l2 _ (jt _ hq);have ma:=λh=>ux (f:=LD) al h;have hsn:=λ{n:Pu} hn=>vr (f:=LD) al hx (n:=n) hn;generalize ps.getD i []=w at*;obtain⟨r1,r2⟩:=cj 32 w;have c2:=j0 w 32 K0;rw[show(32:UInt8).toNat =32 from rfl,iM]at c2;have Cw: ∀x y z:aj,aH 32 w= [x,y,z]->LD w=(wN false 13 x).bind λa=>(wN true 13 y).bind λb=>(wN false 13 z).map λc=>(a,b,c):=λx y z h=>IL h;have hpb:=λh=>T8 (s:=w) h;generalize aH 32 w=wi at*;have hwn:=ee wi;by_cases h3:wi.length=3
   ·match wi,h3,r2,c2,Cw with
    | [x,y,z],_,r2,c2,Cw=>
     have g1:=r2 x (by simp);have g2:=r2 y (by simp);have g3:=r2 z (by simp);obtain⟨n1,d1,k1⟩:=om x K0;have d2:=iC y 13 bX K0;obtain⟨n3,d3,k3⟩:=om z K0;have Cw:=Cw x y z rfl;have hy:wN true 13 y=fN 13 y:=by unfold wN;cases fN 13 y<;>rfl
     rw[hy]at Cw
     cases hn1:wN false 13 x with
     |none=>
      rw[hn1]at Cw d1;rw[jU afI];clear ma hsn hpb k1 k3 Cw nn hy;generalize fN 13 y=yo at*;generalize (wN false 13 z).isSome =zo at*;unfold Np at d2;cases yo<;>cases zo
      all_goals
       exact tL
     |some a=>
      obtain rfl:=k1 a hn1;rw[hn1]at Cw d1
      cases hn2:fN 13 y with
      |none=>
       rw[hn2]at Cw d2;rw[jU afI];clear ma hsn hpb k1 k3 Cw nn hy;generalize (wN false 13 z).isSome =zo at*;unfold Np at d2;cases zo
       all_goals
        exact tL
      |some b=>
       rw[hn2]at Cw d2;unfold Np at d2
       cases hn3:wN false 13 z with
       |none=>
        rw[hn3]at Cw d3;rw[jU afI];clear ma hsn hpb k1 k3 Cw nn hy;exact tL
       |some c=>
        obtain rfl:=k3 c hn3;rw[hn3]at Cw d3;have io:=hsn Cw;clear ma hsn hpb k1 k3 Cw hy
        (try(refine tX 0 ?_;try exact Zt))
        exact⟨(i+1,l++[(a,b,c)]),⟨⟨al,by simp;omega⟩,io⟩,by dsimp only;omega,ai (by rw[Aj];kernel_rfl)⟩
   ·rw[jU (by rw[nn];exact zj (by rw[ma (hpb h3)];simp))];exact tL
  ·obtain rfl:i=ps.length:=by omega
   rw[mB]at hx;rw[hx]at nn;have nn:E5 s=some ⟨w0,v1,v2,(v3,u3),(v4,u4),l⟩:=nn;rw[Fa nn];have cc:=uT ⟨w0,v1,v2,(v3,u3),(v4,u4),l⟩ aca aca hI;generalize mO ⟨w0,v1,v2,(v3,u3),(v4,u4),l⟩=E at*;have cc:ac 303 [(true,[T w0,J v1,J v2,J v3,J u3,J v4,J u4,.view (l.map wb)])] (.one (I E.2)):=cc;exact ai4
def WT {l:List Pu}{q i:Nat}(h:i<l.length):rW (l.take (i+1)) q=rW (l.take i) q+if(q:Int)<=(l.getD i (0,0,0)).2.1.natAbs then 1 else 0:=by
 unfold rW;rw[Db,o8 h,show l.getD i (0,0,0)=l[i]by simp[jX,h],SR,tH];congr 1;show(List.filter (λp:Pu=>decide ((q:Int)<=p.2.1.natAbs)) [l[i]]).length =_;simp only[List.filter_cons,List.filter_nil,wX];split<;>rfl
def Us (l:List Pu)(q:Nat):rW l q<=l.length:=by unfold rW;exact L3 _ _
def A5 {l:List Pu}{n:Int}{q:Nat}:qK l n (q+1)=if n<=rW l (q+1)then q+1 else qK l n q:=rfl
def RF {x:G1}(h:(mO x).2=0):ac 304 [(true,Fo x)] (.aI [I (if x.least<=x.ps.length then(qK x.ps x.least 4096:Nat)else 0),Bo (decide (x.least<=x.ps.length))]):=by
 obtain⟨h1,h2,h3,_⟩:=CT h;clear h;obtain⟨nm,pe,le,⟨a,b⟩,⟨p,q⟩,ps⟩:=x;dsimp only at h1 h2 h3 ⊢;have hl:(ps.map wb).length =ps.length:=by simp
 show nR _ _ _ [(true,[T nm,J pe,J le,J a,J b,J p,J q,.view (ps.map wb)])] _
 have hz: ∀q:Nat,(∀v,q<v->v<=4096->¬le<=rW ps v)->qK ps le 4096=qK ps le q\/4096<=q:=λq hq=>by
  by_cases h:4096<=q
  ·exact .inr h
  ·left
   have: ∀k:Nat,q+k<=4096->qK ps le (q+k)=qK ps le q:=by
    intro k
    induction k with
    |zero=>intro _;rfl
    |succ k ih=>
     intro hk;rw[<- Mf,A5,if_neg (hq (q+k+1) K0 K0)];exact ih K0
   have:=this (4096 -q) K0;rwa [show q+(4096 -q)=4096 by omega]at this
 have tk:rW ps 1=ps.length:=by
  unfold rW;rw[List.filter_eq_self.2];intro r hr;have:=(h3 r hr).1;simp;omega
 refine sF f304 ?_
 (try(refine tX 0 ?_;try exact Zt))
 refine af (ι:=Nat) (λv=>v<=4096/\∀w,v<w->w<=4096->¬le<=rW ps w) (λv=>v) (λv=>⟨[(1,pP 0),(4,vI v)],[(0,some (.box 243 [.st (T nm),.st (J pe),.st (J le),.st (J a),.st (J b),.st (J p),.st (J q),.st (.view (ps.map wb))]))],1⟩) 4096 Zc ⟨dG _,λw h1 h2=>by omega⟩ ?_;rintro v ⟨hv,dm⟩;by_cases h0:v=0
 ·subst h0;have gk: ¬le<=ps.length:=by rw[<- tk];exact dm 1 K0 K0
  rw[if_neg K0,eJ K0];exact tA
 ·obtain⟨u,rfl⟩: ∃u,v=u+1:=⟨v -1,by omega⟩;have hzu:=hz (u+1) dm
  (try(refine tX 0 ?_;try exact Zt))
  refine af (ι:=Nat) (λi=>i<=ps.length) (λi=>ps.length -i) (λi=>⟨[(1,pP 0),(4,vI (u+1:Nat)),(5,vI (rW (ps.take i) (u+1):Nat)),(6,vI i)],[(0,some (.box 243 [.st (T nm),.st (J pe),.st (J le),.st (J a),.st (J b),.st (J p),.st (J q),.st (.view (ps.map wb))]))],1⟩) 0 Zc (dz _) ?_;intro i hi;by_cases al:i<ps.length
  ·have he:=aZ (f:=wb) al (0,0,0);have hb:=h3 _ (show ps.getD i (0,0,0)∈ps by rw[show ps.getD i (0,0,0)=ps[i]by simp[jX,al]];exact pd al);have hc:=WT (q:=u+1) al;have jc:=Us (ps.take i) (u+1);rw[Dc]at jc;generalize ps.getD i (0,0,0)=r at*;by_cases hq:((u+1:Nat):Int)<=r.2.1.natAbs
   ·rw[if_pos hq]at hc;repeat' ((first|(refine kO 7 rfl ?_;first|refine rG (λ_ z=>⟨_,TV _ K0,z⟩) ?_)|refine tX 0 ?_|exact Zt|refine bR ?_ ?_<;>intro h)<;>(try conv=>whnf))
    all_goals first|exact Zo|exact⟨i+1,al,by omega,ai (by rw[hc];kernel_rfl)⟩
   ·rw[if_neg hq]at hc;repeat' ((first|(refine kO 7 rfl ?_;first|refine rG (λ_ z=>⟨_,TV _ K0,z⟩) ?_)|refine tX 0 ?_|exact Zt|refine bR ?_ ?_<;>intro h)<;>(try conv=>whnf))
    all_goals first|exact Zo|exact⟨i+1,al,by omega,ai (by rw[hc];kernel_rfl)⟩
  ·obtain rfl:i=ps.length:=by omega
   rw[mB];have jc:=Us ps (u+1);by_cases hq:le<=rW ps (u+1)
   ·have e:qK ps le 4096=u+1:=by
     rcases hzu with h|h
     ·rw[h,A5,if_pos hq]
     ·have:u+1=4096:=by omega
      rw[<- this,A5,if_pos hq]
    rw[if_pos K0,fh K0,e];exact tA
   ·have ahd: ∀w,u<w->w<=4096->¬le<=rW ps w:=λw h1 h2=>by
     by_cases e:w=u+1
     ·subst e;exact hq
     ·exact dm w K0 h2
    repeat' ((first|refine tX 0 ?_|exact Zt|refine bR ?_ ?_<;>intro h)<;>(try conv=>whnf))
    all_goals first|exact Zo|exact⟨u,⟨by omega,ahd⟩,by omega,ai (by rw[show((u:Nat):Int)=((u+1:Nat):Int) -1 by omega];kernel_rfl)⟩
def Hj (x:G1)(hn:x.name.length<=1000000)(hp:x.ps.length<=1000000)(hi:Rk x):ac 257 [(true,Fo x)] (.aI [F2 (T7 x).1.1 (T7 x).1.2,I (T7 x).2]):=by
 have c:=uT x hn hp hi;have c2:=λh=>RF (x:=x) h;have e8:=λh=>CT (x:=x) h;have eA:=KJ x.ps x.least 4096;obtain⟨nm,pe,le,⟨a,b⟩,⟨p,q⟩,ps⟩:=x;unfold T7;dsimp only at hn hp e8 c c2 eA ⊢;generalize (mO ⟨nm,pe,le,(a,b),(p,q),ps⟩).2=E at*;generalize qK ps le 4096=lv at*;have c:ac 303 [(true,[T nm,J pe,J le,J a,J b,J p,J q,.view (ps.map wb)])] (.one (I E)):=c;show nR _ _ _ [(true,[T nm,J pe,J le,J a,J b,J p,J q,.view (ps.map wb)])] _;by_cases h0:E=0;rotate_left
 ·rw[if_neg h0];refine sF f257 ?_;exact tA
 obtain⟨h1,h2,_,h5,h6⟩:=e8 h0;rw[if_pos h0];have c3:ac 304 [(true,[T nm,J pe,J le,J a,J b,J p,J q,.view (ps.map wb)])] (.aI [I (if le<=ps.length then(lv:Nat)else 0),Bo (decide (le<=ps.length))]):=c2 h0;subst h0;clear e8 c2;by_cases h4:le<=ps.length;rotate_left
 ·rw[if_neg h4,eJ h4]at c3;rw[if_neg h4];refine sF f257 ?_;exact tA
 rw[if_pos h4,fh h4]at c3;rw[if_pos h4];have m1:=uP (a:=(lv:Nat)) (b:=a) K0 K0;have m2:=uP (a:=(lv:Nat)) (b:=p) K0 K0;refine sF f257 ?_;repeat' ((first|(refine kO 7 rfl ?_;first|refine rG (λ_ z=>⟨_,AG _ _ ⟨by omega,by omega⟩ K0,z⟩) ?_|refine rG (λ_ z=>⟨_,Nw _ _ ⟨by omega,by omega⟩ K0,z⟩) ?_)|refine tX 0 ?_|exact Zt|refine bR ?_ ?_<;>intro h)<;>(try conv=>whnf))
 all_goals exact Z0
end Go.Proofs.Tryz
