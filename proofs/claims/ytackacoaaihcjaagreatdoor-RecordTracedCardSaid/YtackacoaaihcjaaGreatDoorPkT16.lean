import Derived.Test.YtackacoaaihcjaaGreatDoorPkT3
import Derived.Test.YtackacoaaihcjaaGreatDoorPkT12
set_option linter.all false
set_option maxRecDepth 100000
set_option maxHeartbeats 8000000
namespace Go.Proofs.Tryz
open Go.Fw Go.IntWalk Go.Plain
abbrev vA (p:Pu):List SC:=[J p.1,J p.2.1,J p.2.2]
abbrev EV (x:Gp):List SC:=[T x.name,J x.per,J x.least,J x.lo.1,J x.lo.2,J x.hi.1,J x.hi.2,.view (x.ps.map vA)]
def QP (x:Gp):Prop:=(pU x.lo.1/\pU x.lo.2)/\pU x.hi.1/\pU x.hi.2
def rN {a b:Int × Int}(h:a.2≠0):oW a b=a:=if_pos h
def aab {a b:Int × Int}(h:a.2=0):oW a b=b:=if_neg UK
def NW (e:Int):ad 313 [Bo true,I e] (.one (I 0)):=qA true e
def EW (e:Int):ad 313 [Bo false,I e] (.one (I e)):=qA false e
def alI {b c d:Prop} [Decidable b] [Decidable c] [Decidable d]:fs [if b then 0 else 2,if c then 0 else 11,if d then 0 else 9]=if b then(if c then(if d then 0 else 9)else 11)else 2:=by by_cases x:b<;>by_cases y:c<;>by_cases z:d<;>simp[fs,x,y,z]
def dF {l:List Int}{E:Int}(h:fs l=E)(hl:l.length<=1000000:=by exact fP rfl):ad 312 [(false,[.ints l])] (.one (I E)):=by
 have:=EU l hl;rwa [h]at this
def qB (x:Gp)(hn:x.name.length<=1000000)(hp:x.ps.length<=1000000)(hi:QP x):ad 288 [(true,EV x)] (.aJ [I (mO x).1,I (mO x).2]):=by
 obtain⟨nm,pe,le,⟨a,b⟩,⟨c,d⟩,ps⟩:=x;dsimp only at hn hp;obtain⟨⟨i1,i2⟩,i3,i4⟩:=hi;dsimp only at i1 i2 i3 i4;have hl:(ps.map vA).length =ps.length:=by simp
 have c1:=NV nm hn;have c2:=aaa a b c d i1 i2 i3 i4;show nN _ _ _ [(true,[T nm,J pe,J le,J a,J b,J c,J d,.view (ps.map vA)])] _;have e:jp (if eK nm then 0 else 4) (jp (if(1<=pe/\pe<=1000000)/\1<=le/\le<=60 then 0 else 2) (jp (Ny (a,b) (c,d)) (if ps.length<=60 then 0 else 8)))=H8 ⟨nm,pe,le,(a,b),(c,d),ps⟩:=rfl;have hse:mO ⟨nm,pe,le,(a,b),(c,d),ps⟩=oW (0,H8 ⟨nm,pe,le,(a,b),(c,d),ps⟩) (cM (yV ps) ps.length):=rfl;rw[hse];clear hse;generalize H8 ⟨nm,pe,le,(a,b),(c,d),ps⟩=hE at*;generalize Ny (a,b) (c,d)=z at*
 have q1: ∀ {b' c':Prop} [Decidable b'] [Decidable c'],(b'↔(1<=pe/\pe<=1000000)/\1<=le/\le<=60)->(c'↔ps.length<=60)->fs [if eK nm then 0 else 4,if b' then 0 else 2,z,if c' then 0 else 8]=hE:=by
  intro b' c' _ _ h k;rw[<- e];unfold jp;simp only[fs,h,k];(repeat' split)<;>first|rfl|omega
 have q2: ∀ {c':Prop} [Decidable c'],¬((1<=pe/\pe<=1000000)/\1<=le/\le<=60)->(c'↔ps.length<=60)->fs [if eK nm then 0 else 4,2,z,if c' then 0 else 8]=hE:=by
  intro c' _ h k;rw[<- e];unfold jp;simp only[fs,h,k,kJ];(repeat' split)<;>first|rfl|omega
 clear e;by_cases h0:hE=0;rotate_left
 ·rw[rN h0];refine sF f288 ?_;repeat' ((first|(refine kO 7 rfl ?_;first|refine Rq (eF _ _ _) ?_|refine Rq (EW _) ?_|refine Rq (jB _) ?_|refine rG (λ_ z=>⟨_,dF (q1 K0 K0),z⟩) ?_|refine rG (λ_ z=>⟨_,dF (q2 K0 K0),z⟩) ?_)|refine tX 0 ?_|exact Zt|refine bR ?_ ?_<;>intro h)<;>(try conv=>whnf))
  all_goals exact Z0
 ·rw[aab h0];refine sF f288 ?_;repeat' ((first|(refine kO 7 rfl ?_;first|refine Rq (eF _ _ _) ?_|refine Rq (EW _) ?_|refine Rq (jB _) ?_|refine rG (λ_ z=>⟨_,dF (q1 K0 K0),z⟩) ?_|refine rG (λ_ z=>⟨_,dF (q2 K0 K0),z⟩) ?_)|refine tX 0 ?_|exact Zt|refine bR ?_ ?_<;>intro h)<;>(try conv=>whnf))
  all_goals
   refine af (ι:=Nat) (λi=>i<=ps.length/\∀j<i,yV ps j=0) (λi=>ps.length -i) (λi=>⟨[(1,pP 0),(36,some (.val (false,[.st (.view (ps.map vA))]))),(37,vI ps.length),(38,vI i)],[(0,some (.box 310 [.st (T nm),.st (J pe),.st (J le),.st (J a),.st (J b),.st (J c),.st (J d),.st (.view (ps.map vA))]))],1⟩) 0 (ai (by rw[<- hl];kernel_rfl)) ⟨dC _,λj hj=>by omega⟩ ?_;clear q1 q2 c1 c2;rintro i ⟨hi,dx⟩;by_cases ak:i<ps.length
   ·have he:=bg (f:=vA) ak (0,0,0);have Xn:=λk=>fK (f:=yV ps) ak dx k;have iT:=λk=>all_succ (f:=yV ps) dx k
    have pE:(if(0<=(ps.getD i (0,0,0)).1/\(ps.getD i (0,0,0)).1<=1000000000000)/\(-4096<=(ps.getD i (0,0,0)).2.1/\(ps.getD i (0,0,0)).2.1<=4096)/\1<=(ps.getD i (0,0,0)).2.2/\(ps.getD i (0,0,0)).2.2<=100 then
     (if(ps.getD i (0,0,0)).2.1=0 then 11 else if i=0\/(ps.getD (i -1) (0,0,0)).1< (ps.getD i (0,0,0)).1 then 0 else 9)else 2)=yV ps i:=rfl
    generalize yV ps i=hE at*;by_cases hz:i=0
    ·rw[if_pos (c:=(i=0\/_)) (.inl hz)]at pE;generalize ps.getD i (0,0,0)=q at*
     have p1: ∀ {b c:Prop} [Decidable b] [Decidable c],(b↔(0<=q.1/\q.1<=1000000000000)/\(-4096<=q.2.1/\q.2.1<=4096)/\1<=q.2.2/\q.2.2<=100)->(c↔q.2.1≠0)->fs [if b then 0 else 2,if c then 0 else 11,0]=hE:=by
      intro b c _ _ h k;have:=alI (b:=b) (c:=c) (d:=True);rw[if_pos trivial]at this;rw[this,<- pE];simp only[h,k];by_cases x:q.2.1=0<;>simp[x]
     have p2: ∀ {c:Prop} [Decidable c],¬((0<=q.1/\q.1<=1000000000000)/\(-4096<=q.2.1/\q.2.1<=4096)/\1<=q.2.2/\q.2.2<=100)->(c↔q.2.1≠0)->fs [2,if c then 0 else 11,0]=hE:=by
      intro c _ h k;rw[<- pE,if_neg h];rfl
     clear pE;by_cases hv:hE=0
     ·repeat' ((first|(refine kO 7 rfl ?_;first|refine Rq (eF _ _ _) ?_|refine rG (λ_ z=>⟨_,oR _ _ K9,z⟩) ?_|refine Rq (NW _) ?_|refine Rq (EW _) ?_|refine Rq (jB _) ?_|refine rG (λ_ z=>⟨_,dF (p1 K0 K0),z⟩) ?_|refine rG (λ_ z=>⟨_,dF (p2 K0 K0),z⟩) ?_)|refine tX 0 ?_|exact Zt|refine bR ?_ ?_<;>intro h)<;>(try conv=>whnf))
      all_goals first|exact Zo|exact⟨i+1,⟨ak,iT hv⟩,by omega,Zc⟩
     ·rw[Xn hv];repeat' ((first|(refine kO 7 rfl ?_;first|refine Rq (eF _ _ _) ?_|refine rG (λ_ z=>⟨_,oR _ _ K9,z⟩) ?_|refine Rq (NW _) ?_|refine Rq (EW _) ?_|refine Rq (jB _) ?_|refine rG (λ_ z=>⟨_,dF (p1 K0 K0),z⟩) ?_|refine rG (λ_ z=>⟨_,dF (p2 K0 K0),z⟩) ?_)|refine tX 0 ?_|exact Zt|refine bR ?_ ?_<;>intro h)<;>(try conv=>whnf))
      all_goals exact Z0
    ·obtain⟨k,rfl⟩: ∃k,i=k+1:=⟨i -1,by omega⟩;have he2:=bg (f:=vA) (l:=ps) (i:=k) K0 (0,0,0);rw[XJ]at pE;generalize ps.getD (k+1) (0,0,0)=q at*;generalize ps.getD k (0,0,0)=r at*
     have p1: ∀ {b c d:Prop} [Decidable b] [Decidable c] [Decidable d],(b↔(0<=q.1/\q.1<=1000000000000)/\(-4096<=q.2.1/\q.2.1<=4096)/\1<=q.2.2/\q.2.2<=100)->(c↔q.2.1≠0)->(d↔r.1<q.1)->fs [if b then 0 else 2,if c then 0 else 11,if d then 0 else 9]=hE:=by
      intro b c d _ _ _ h k' m;rw[alI,<- pE];simp only[h,k',m];by_cases x:q.2.1=0<;>simp[x]
     have p2: ∀ {c d:Prop} [Decidable c] [Decidable d],¬((0<=q.1/\q.1<=1000000000000)/\(-4096<=q.2.1/\q.2.1<=4096)/\1<=q.2.2/\q.2.2<=100)->(c↔q.2.1≠0)->(d↔r.1<q.1)->fs [2,if c then 0 else 11,if d then 0 else 9]=hE:=by
      intro c d _ _ h k' m;rw[<- pE,if_neg h];rfl
     clear pE;by_cases hv:hE=0
     ·repeat' ((first|(refine kO 7 rfl ?_;first|refine Rq (eF _ _ _) ?_|refine rG (λ_ z=>⟨_,oR _ _ K9,z⟩) ?_|refine Rq (NW _) ?_|refine Rq (EW _) ?_|refine Rq (jB _) ?_|refine rG (λ_ z=>⟨_,dF (p1 K0 K0 K0),z⟩) ?_|refine rG (λ_ z=>⟨_,dF (p2 K0 K0 K0),z⟩) ?_)|refine tX 0 ?_|exact Zt|refine bR ?_ ?_<;>intro h)<;>(try conv=>whnf))
      all_goals first|exact Zo|exact⟨k+1+1,⟨ak,iT hv⟩,by omega,Zc⟩
     ·rw[Xn hv];repeat' ((first|(refine kO 7 rfl ?_;first|refine Rq (eF _ _ _) ?_|refine rG (λ_ z=>⟨_,oR _ _ K9,z⟩) ?_|refine Rq (NW _) ?_|refine Rq (EW _) ?_|refine Rq (jB _) ?_|refine rG (λ_ z=>⟨_,dF (p1 K0 K0 K0),z⟩) ?_|refine rG (λ_ z=>⟨_,dF (p2 K0 K0 K0),z⟩) ?_)|refine tX 0 ?_|exact Zt|refine bR ?_ ?_<;>intro h)<;>(try conv=>whnf))
      all_goals exact Z0
   ·exact ajN
theorem yY {s:aj}{a b:Int}(h:pN s=some (a,b)):pU a/\pU b:=by
 have h:DW (wN false 13) (wN false 13) (av 47 s)=some (a,b):=h;generalize av 47 s=l at h
 match l,h with
 | [],h=>cases h
 | [_],h=>cases h
 |_::_::_::_,h=>cases h
 | [x,y],h=>
  obtain⟨h1,h2⟩:=oF.2 _ h;exact⟨HK K9 h1,HK K9 h2⟩
def AC (s:aj)(hl:s.length<=10000):ad 250 [SS s] (.aJ [(true,EV (Cn s).1),I (Cn s).2]):=by
 obtain⟨l1,l2⟩:=bZ 59 s;have c0:=rp s 59 K0;rw[show(59:UInt8).toNat =59 from rfl]at c0
 obtain⟨p,ps,zB⟩: ∃p ps,av 59 s=p::ps:=by
  cases h:av 59 s with
  |nil=>grind[lT]
  |cons p ps=>grind
 have ni:=λh=>TK (s:=s) zB h;have abk:=λh=>TL (s:=s) zB h;rw[zB]at l1 l2 c0;have lp:=l2 p (by simp);have l3:ps.length<=s.length:=by grind
 obtain⟨m1,m2⟩:=bZ 32 p;have c1:=rp p 32 K0;rw[show(32:UInt8).toNat =32 from rfl]at c1;generalize av 32 p=ws at*;have hn:=dZ ws;have IF:=dZ (p::ps);by_cases h5:ws.length=5;rotate_left
 ·rw[jR (abk h5)];refine sF f250 ?_;exact tL
 ·have ni:=ni h5;clear abk
  match ws,h5,m2,c1,ni with
  | [w0,w1,w2,w3,w4],_,m2,c1,ni=>
   have b0:=m2 w0 (by simp);have b1:=m2 w1 (by simp);have b2:=m2 w2 (by simp);have b3:=m2 w3 (by simp);have b4:=m2 w4 (by simp);obtain⟨v1,d1,k1⟩:=gk false w1 K0;obtain⟨v2,d2,k2⟩:=gk false w2 K0;obtain⟨v3,u3,d3,k3⟩:=Ii w3 K0;obtain⟨v4,u4,d4,k4⟩:=Ii w4 K0;have hh:(sj [w0,w1,w2,w3,w4]).isSome =((((wN false 13 w1).isSome &&(wN false 13 w2).isSome)&&(pN w3).isSome)&&(pN w4).isSome):=Ia;have hv: ∀h,sj [w0,w1,w2,w3,w4]=some h->h=(v1,v2,(v3,u3),(v4,u4)):=aiU
   have hI:(sj [w0,w1,w2,w3,w4]).isSome =true->(pU v3/\pU u3)/\pU v4/\pU u4:=by
    intro h;obtain⟨⟨a,b,c,d⟩,h⟩:=qJ.1 h;obtain⟨e1,e2,e3,e4⟩:=J3 h
    grind[yY]
   generalize sj [w0,w1,w2,w3,w4]=hd at*;clear k1 k2 k3 k4 m2;obtain⟨fl,oe⟩: ∃fl:Nat->Bool,∀i,fl i= !(hd.isSome&&(fR KY (ps.take i)).isSome):=⟨_,λ_=>rfl⟩
   have amz:fl 0=((((false || !(wN false 13 w1).isSome) || !(wN false 13 w2).isSome) || !(pN w3).isSome) || !(pN w4).isSome):=by
    rw[oe 0,hh];show(!(_&&true))=_;cases (wN false 13 w1).isSome <;>cases (wN false 13 w2).isSome <;>cases (pN w3).isSome <;>cases (pN w4).isSome <;>rfl
   have hsn:=dZ ps;refine sF f250 ?_;repeat((first|(refine kO 7 rfl ?_;first|refine ij (λ_ z=>⟨_,_,_,kU (d1 _) rfl,z⟩) ?_|refine ij (λ_ z=>⟨_,_,_,kU (d2 _) rfl,z⟩) ?_|refine ij (λ_ z=>⟨_,_,_,kU (d3 _) rfl,z⟩) ?_|refine ij (λ_ z=>⟨_,_,_,kU (d4 _) rfl,z⟩) ?_)|refine tX 0 ?_|exact Zt);(try conv=>whnf))
   refine af (ι:=Nat × List Pu) (λq=>(q.1<=ps.length/\q.2.length=q.1)/\∀x,fR KY (ps.take q.1)=some x->x=q.2) (λq=>ps.length -q.1)
    (λq=>⟨[(2,pP 0),(6,pP 1),(7,pP 2),(56,some (.val (false,[.st (.view (ab ps))]))),(57,vI ps.length),(58,vI q.1)],
     [(0,some (.box 310 [.st (T []),.st (J 0),.st (J 0),.st (J 0),.st (J 0),.st (J 0),.st (J 0),.nil])),(1,some (.box 351 [.st (K (fl q.1))])),
      (2,some (.box 310 [.st (T w0),.st (J v1),.st (J v2),.st (J v3),.st (J u3),.st (J v4),.st (J u4),.own 3])),(3,some (.row true 3 (.view (q.2.map vA))))],4⟩)
    (0,[]) (by
     refine bs.trans (iJ 66 7 3 (.view []) (T:=310) (cs:=[.st (T w0),.st (J v1),.st (J v2),.st (J v3),.st (J u3),.st (J v4),.st (J u4),.nil]) K9 rfl rfl rfl rfl) ?_
     exact ai (by rw[amz,<- hsn];kernel_rfl)) ⟨⟨dC _,rfl⟩,λx h=>by cases h;rfl⟩ ?_
   rintro⟨i,l⟩ ⟨⟨hi,vN⟩,hx⟩;dsimp only at hi vN hx ⊢;clear d1 d2 d3 d4 amz c0 c1;by_cases ak:i<ps.length
   ·have he:=sA ak;have hq:ps.getD i []∈ps:=by grind
    have hql:=l2 _ (i7 _ hq);have l6:=λh=>tK (f:=KY) ak h;have Uc:=V2 (f:=KY) ak;have oV:=λ{n:Pu} hn=>ZP (f:=KY) ak hx (n:=n) hn;generalize ps.getD i []=w at*;obtain⟨r1,r2⟩:=bZ 32 w;have c2:=rp w 32 K0;rw[show(32:UInt8).toNat =32 from rfl]at c2;have B7: ∀x y z:aj,av 32 w= [x,y,z]->KY w=(wN false 13 x).bind λa=>(wN true 13 y).bind λb=>(wN false 13 z).map λc=>(a,b,c):=λx y z h=>Ib h;have hpb:=λh=>TJ (s:=w) h;generalize av 32 w=wi at*;have hwn:=dZ wi;by_cases h3:wi.length=3
    ·match wi,h3,r2,c2,B7 with
     | [x,y,z],_,r2,c2,B7=>
      have g1:=r2 x (by simp);have g2:=r2 y (by simp);have g3:=r2 z (by simp);obtain⟨n1,d1,k1⟩:=gk false x K0;obtain⟨n2,d2,k2⟩:=gk true y K0;obtain⟨n3,d3,k3⟩:=gk false z K0;have B7:=B7 x y z rfl
      have RZ:fl (i+1)=(((fl i || !(wN false 13 x).isSome) || !(wN true 13 y).isSome) || !(wN false 13 z).isSome):=by
       rw[oe,oe,Uc,B7,V0];cases hd.isSome<;>cases (fR KY (ps.take i)).isSome <;>cases (wN false 13 x).isSome <;>cases (wN true 13 y).isSome <;>cases (wN false 13 z).isSome <;>rfl
      have iT:=oV (n:=(n1,n2,n3)) (by
       rintro⟨a,b,c⟩ e;rw[B7]at e;obtain⟨e1,e2,e3⟩:=ac8 e
       grind)
      clear oV l6 Uc B7 hpb k1 k2 k3;repeat((first|(refine kO 7 rfl ?_;first|refine ij (λ_ z=>⟨_,_,_,kU (d1 _) rfl,z⟩) ?_|refine ij (λ_ z=>⟨_,_,_,kU (d2 _) rfl,z⟩) ?_|refine ij (λ_ z=>⟨_,_,_,kU (d3 _) rfl,z⟩) ?_)|refine tX 0 ?_|exact Zt);(try conv=>whnf))
      exact⟨(i+1,l++[(n1,n2,n3)]),⟨⟨ak,by grind⟩,iT⟩,by grind,ai (by rw[RZ,wD];kernel_rfl)⟩
    ·rw[jR (by grind[yX])];exact tL
   ·obtain rfl:i=ps.length:=by omega
    rw[lu]at hx;have hf:=oe ps.length;rw[lu]at hf;by_cases hb:fl ps.length=true
    ·rw[hb]at hf;rw[jR (by grind[yX]),hb];exact tL
    ·have hb:fl ps.length=false:=by grind
     rw[hb]at hf;have hf2:hd.isSome=true/\(fR KY ps).isSome =true:=by grind
     have hI:=hI hf2.1;obtain⟨h,e1⟩:=qJ.1 hf2.1;obtain⟨x,e2⟩:=qJ.1 hf2.2;obtain rfl:=hv h e1;obtain rfl:=hx x e2;rw[e1,e2]at ni;have ni:EB s=some ⟨w0,v1,v2,(v3,u3),(v4,u4),x⟩:=ni;rw[EI ni,hb];have cc:=qB ⟨w0,v1,v2,(v3,u3),(v4,u4),x⟩ br br hI;generalize mO ⟨w0,v1,v2,(v3,u3),(v4,u4),x⟩=E at*;have cc:ad 288 [(true,[T w0,J v1,J v2,J v3,J u3,J v4,J u4,.view (x.map vA)])] (.aJ [I E.1,I E.2]):=cc;clear hf hf2 e1 e2 ni oe hsn vN;exact ajp
def anw {a b c:Int}(h:a=b):mb.aJ [I a,I c]= .aJ [I b,I c]:=by rw[h]
def Wg (x:Gp)(hn:x.name.length<=1000000)(hp:x.ps.length<=1000000)(hi:QP x):ad 318 [(true,EV x)] (.aJ [(true,EV x),I (mO x).2]):=by
 have c:=qB x hn hp hi;generalize mO x=E at*;refine sF f318 ?_;exact K1
def aae (xs:List Int)(h0:0<xs.length)(hl:xs.length<4611686018427387904):ad 320 [(false,[.ints xs])] (.uK 1 (.ints (srt xs))):=aad abC dp xs h0 hl
def Kl (x:Gp)(hn:x.name.length<=1000000)(hp:x.ps.length<=1000000)(hi:QP x):ad 289 [(true,EV x)] (.aJ [I (adh x).1,I (adh x).2]):=by
 have c:=Wg x hn hp hi;have fB:=λh=>Cs (x:=x) h;obtain⟨nm,pe,le,⟨a,b⟩,⟨p,q⟩,ps⟩:=x;dsimp only at hn hp fB;have hl:(ps.map vA).length =ps.length:=by simp
 unfold adh;generalize (mO ⟨nm,pe,le,(a,b),(p,q),ps⟩).2=E at*;dsimp only;have c:ad 318 [(true,[T nm,J pe,J le,J a,J b,J p,J q,.view (ps.map vA)])] (.aJ [(true,[T nm,J pe,J le,J a,J b,J p,J q,.view (ps.map vA)]),I E]):=c;show nN _ _ _ [(true,[T nm,J pe,J le,J a,J b,J p,J q,.view (ps.map vA)])] _;by_cases h0:E=0;rotate_left
 ·rw[if_neg h0];have hf:=λz=>dF (l:=[E,z]) (E:=E) (by simp[fs,h0]);refine sF f289 ?_;repeat' ((first|(refine kO 7 rfl ?_;first|refine Rq (jB _) ?_|refine Rq (hf _) ?_)|refine tX 0 ?_|exact Zt|refine bR ?_ ?_<;>intro h)<;>(try conv=>whnf))
  all_goals exact Z0
 obtain⟨h1,h2,h3,_⟩:=fB h0;rw[if_pos h0];subst h0;clear fB;by_cases h4:le<=ps.length;rotate_left
 ·rw[if_neg h4];have hf:=dF (l:=[0,12]) (E:=12) rfl;refine sF f289 ?_;repeat' ((first|(refine kO 7 rfl ?_;first|refine rG (λ_ z=>⟨_,QO K0 _,z⟩) ?_)|refine tX 0 ?_|exact Zt|refine bR ?_ ?_<;>intro h)<;>(try conv=>whnf))
  all_goals exact Z0
 rw[if_pos h4];have hf:=dF (l:=[0,0]) (E:=0) rfl;refine sF f289 ?_;repeat((first|(refine kO 7 rfl ?_;first|refine rG (λ_ z=>⟨_,NT K0 _,z⟩) ?_)|refine tX 0 ?_|exact Zt);(try conv=>whnf))
 have hm: ∀i<ps.length,(ps.take (i+1)).map (λp=>(p.2.1.natAbs:Int))=(ps.take i).map (λp=>(p.2.1.natAbs:Int))++[((ps.getD i (0,0,0)).2.1.natAbs :Int)]:=λi hi=>by
  rw[BH,nM hi,show ps.getD i (0,0,0)=ps[i]by simp[jE,hi],wD];rfl
 refine af (ι:=Nat) (λi=>i<=ps.length) (λi=>ps.length -i) (λi=>⟨[(1,pP 0),(6,pO 1),(29,some (.val (false,[.st (.view (ps.map vA))]))),(30,vI ps.length),(31,vI i)],
  [(0,some (.box 310 [.st (T nm),.st (J pe),.st (J le),.st (J a),.st (J b),.st (J p),.st (J q),.st (.view (ps.map vA))])),(1,some (.row true 1 (.ints ((ps.take i).map λp=>(p.2.1.natAbs:Int)))))],2⟩) 0 (by
   refine bs.trans (jz 6 1 (.ints []) K9 rfl rfl rfl) ?_
   exact ai (by rw[<- hl];kernel_rfl)) (dC _) ?_
 clear c hf;intro i hi;by_cases ak:i<ps.length
 ·have he:=bg (f:=vA) ak (0,0,0);have hm:=hm i ak;have hb:=h3 _ (show ps.getD i (0,0,0)∈ps by rw[show ps.getD i (0,0,0)=ps[i]by simp[jE,ak]];exact oh ak);have hz:((ps.take i).map λp=>(p.2.1.natAbs:Int)).length <=60:=by simp;omega
  generalize ps.getD i (0,0,0)=r at*;repeat' ((first|(refine kO 7 rfl ?_;first|refine rG (λ_ z=>⟨_,Ij r.2.1 K0 K0,z⟩) ?_)|refine tX 0 ?_|exact Zt|refine bR ?_ ?_<;>intro h)<;>(try conv=>whnf))
  all_goals first|exact Zo|exact⟨i+1,ak,by omega,ai (by rw[hm];kernel_rfl)⟩
 ·obtain rfl:i=ps.length:=by omega
  rw[lu];obtain⟨k,rfl⟩: ∃k:Nat,le=k:=⟨le.toNat,by omega⟩;have hk:k<=ps.length:=by omega
  have hv:=QR (l:=ps) (n:=k) K0 hk h3;have hsl:=(NY (ps.map λp=>(p.2.1.natAbs:Int))).length_eq;have hml:(ps.map λp=>(p.2.1.natAbs:Int)).length =ps.length:=by simp
  generalize ps.map (λp=>(p.2.1.natAbs:Int))=zs at*;have hs:=aae zs K0 K0;generalize srt zs=ss at*;generalize qz ps k 4096=lv at*;have hv:ss.getD ((ss.length:Int) -k).toNat 0=(lv:Nat):=by rw[show((ss.length:Int) -k).toNat =ps.length -k by omega];exact hv
  repeat' ((first|refine tX 0 ?_|exact Zt|refine bR ?_ ?_<;>intro h)<;>(try conv=>whnf))
  all_goals first|exact Zo|exact anw hv
def anx {a b c d e:Int}(h:a=b)(k:c=d):mb.aJ [F2 a c,I e]= .aJ [F2 b d,I e]:=by rw[h,k]
def adi (y:Int){q:Int}(hq:0<q):(y+q -1)/q= -(-y/q):=by
 have d1:=Sh (y+q -1) q;have d2:=CK (y+q -1) (by omega:q≠0);have d3:=Lr (y+q -1) hq;have d4:=Sh (-y) q;have d5:=CK (-y) (by omega:q≠0);have d6:=Lr (-y) hq;generalize (y+q -1)/q=A at*;generalize -y/q=B at*;generalize (y+q -1)%q=r at*;generalize -y%q=s at*;have e:q*(A+B)=q*A+q*B:=Int.mul_add _ _ _
 have h:A+B=0:=by
  generalize A+B=z at*;have h1:q*z<q:=by omega
  have h2: -q<q*z:=by omega
  have h3:z<1:=by
   apply Pn;intro h;have:=Xu (show 1<=z by omega) (show 0<=q by omega);omega
  have h4: -1<z:=by
   apply Pn;intro h;have:=Xu (show z<= -1 by omega) (show 0<=q by omega);omega
  omega
 omega
def Gz (x:Gp)(hn:x.name.length<=1000000)(hp:x.ps.length<=1000000)(hi:QP x):ad 251 [(true,EV x)] (.aJ [F2 (TH x).1.1 (TH x).1.2,I (TH x).2]):=by
 have c:=Kl x hn hp hi;have fB:=λh=>Cs (x:=x) h;have eu:=Kk x.ps x.least 4096;obtain⟨nm,pe,le,⟨a,b⟩,⟨p,q⟩,ps⟩:=x;unfold adh at c;unfold TH;dsimp only at hn hp fB c eu ⊢;generalize (mO ⟨nm,pe,le,(a,b),(p,q),ps⟩).2=E at*;generalize qz ps le 4096=lv at*;show nN _ _ _ [(true,[T nm,J pe,J le,J a,J b,J p,J q,.view (ps.map vA)])] _;by_cases h0:E=0;rotate_left
 ·rw[if_neg h0]at c ⊢;refine sF f251 ?_;exact tA
 obtain⟨h1,h2,_,h5,h6⟩:=fB h0;rw[if_pos h0]at c ⊢;subst h0;clear fB;by_cases h4:le<=ps.length;rotate_left
 ·rw[if_neg h4]at c ⊢;refine sF f251 ?_;exact tA
 rw[if_pos h4]at c ⊢;have c:ad 289 [(true,[T nm,J pe,J le,J a,J b,J p,J q,.view (ps.map vA)])] (.aJ [I (lv:Nat),I 0]):=c;have m1:=um (a:=(lv:Nat)) (b:=a) K0 K0;have m2:=um (a:=(lv:Nat)) (b:=p) K0 K0;have e2:=adi ((lv:Nat)*p) (q:=q) K0;refine sF f251 ?_;repeat' ((first|refine tX 0 ?_|exact Zt|refine bR ?_ ?_<;>intro h)<;>(try conv=>whnf))
 all_goals first|exact Zo|exact anx rfl e2
end Go.Proofs.Tryz
