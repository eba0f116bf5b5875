import Derived.Test.YtackacoaaihcjaaGreatDoorPkM4
import Derived.Test.YtackacoaaihcjaaGreatDoorPkM7
set_option linter.all false
set_option maxRecDepth 100000
set_option maxHeartbeats 8000000
namespace Go.Proofs.Tryz
open Go.Fw Go.IntWalk Go.Plain
abbrev vQ (p:Pu):List SC:=[J p.1,J p.2.1,J p.2.2]
abbrev EX (x:Gt):List SC:=[T x.name,J x.per,J x.least,J x.lo.1,J x.lo.2,J x.hi.1,J x.hi.2,.view (x.ps.map vQ)]
def QW (x:Gt):Prop:=(p9 x.lo.1/\p9 x.lo.2)/\p9 x.hi.1/\p9 x.hi.2
def se {a b:Int × Int}(h:a.2≠0):o8 a b=a:=if_pos h
def aav {a b:Int × Int}(h:a.2=0):o8 a b=b:=if_neg U1
def N9 (e:Int):ac 313 [Bo true,I e] (.one (I 0)):=qJ true e
def EY (e:Int):ac 313 [Bo false,I e] (.one (I e)):=qJ false e
def alV {b c d:Prop} [Decidable b] [Decidable c] [Decidable d]:fs [if b then 0 else 2,if c then 0 else 11,if d then 0 else 9]=if b then(if c then(if d then 0 else 9)else 11)else 2:=by by_cases x:b<;>by_cases y:c<;>by_cases z:d<;>simp[fs,x,y,z]
def dF {l:List Int}{E:Int}(h:fs l=E)(hl:l.length<=1000000:=by exact fO rfl):ac 312 [(false,[.ints l])] (.one (I E)):=by
 have:=EW l hl;rwa [h]at this
def qK (x:Gt)(hn:x.name.length<=1000000)(hp:x.ps.length<=1000000)(hi:QW x):ac 288 [(true,EX x)] (.aI [I (mP x).1,I (mP x).2]):=by
 obtain⟨nm,pe,le,⟨a,b⟩,⟨c,d⟩,ps⟩:=x;dsimp only at hn hp;obtain⟨⟨i1,i2⟩,i3,i4⟩:=hi;dsimp only at i1 i2 i3 i4;have hl:(ps.map vQ).length =ps.length:=by simp
 have c1:=N8 nm hn;have c2:=aau a b c d i1 i2 i3 i4;show nY _ _ _ [(true,[T nm,J pe,J le,J a,J b,J c,J d,.view (ps.map vQ)])] _;have e:ju (if jK nm then 0 else 4) (ju (if(1<=pe/\pe<=1000000)/\1<=le/\le<=60 then 0 else 2) (ju (NG (a,b) (c,d)) (if ps.length<=60 then 0 else 8)))=Ie ⟨nm,pe,le,(a,b),(c,d),ps⟩:=rfl;have hse:mP ⟨nm,pe,le,(a,b),(c,d),ps⟩=o8 (0,Ie ⟨nm,pe,le,(a,b),(c,d),ps⟩) (cR (zg ps) ps.length):=rfl;rw[hse];clear hse;generalize Ie ⟨nm,pe,le,(a,b),(c,d),ps⟩=hE at*;generalize NG (a,b) (c,d)=z at*
 have q1: ∀ {b' c':Prop} [Decidable b'] [Decidable c'],(b'↔(1<=pe/\pe<=1000000)/\1<=le/\le<=60)->(c'↔ps.length<=60)->fs [if jK nm then 0 else 4,if b' then 0 else 2,z,if c' then 0 else 8]=hE:=by
  intro b' c' _ _ h k;rw[<- e];unfold ju;simp only[fs,h,k];(repeat' split)<;>first|rfl|omega
 have q2: ∀ {c':Prop} [Decidable c'],¬((1<=pe/\pe<=1000000)/\1<=le/\le<=60)->(c'↔ps.length<=60)->fs [if jK nm then 0 else 4,2,z,if c' then 0 else 8]=hE:=by
  intro c' _ h k;rw[<- e];unfold ju;simp only[fs,h,k,kK];(repeat' split)<;>first|rfl|omega
 clear e;by_cases h0:hE=0;rotate_left
 ·rw[se h0];refine sF f288 ?_;repeat' ((first|(refine kO 7 rfl ?_;first|refine Rq (eH _ _ _) ?_|refine Rq (EY _) ?_|refine Rq (jD _) ?_|refine rG (λ_ z=>⟨_,dF (q1 K0 K0),z⟩) ?_|refine rG (λ_ z=>⟨_,dF (q2 K0 K0),z⟩) ?_)|refine tX 0 ?_|exact Zt|refine bR ?_ ?_<;>intro h)<;>(try conv=>whnf))
  all_goals exact Z0
 ·rw[aav h0];refine sF f288 ?_;repeat' ((first|(refine kO 7 rfl ?_;first|refine Rq (eH _ _ _) ?_|refine Rq (EY _) ?_|refine Rq (jD _) ?_|refine rG (λ_ z=>⟨_,dF (q1 K0 K0),z⟩) ?_|refine rG (λ_ z=>⟨_,dF (q2 K0 K0),z⟩) ?_)|refine tX 0 ?_|exact Zt|refine bR ?_ ?_<;>intro h)<;>(try conv=>whnf))
  all_goals
   refine af (ι:=Nat) (λi=>i<=ps.length/\∀j<i,zg ps j=0) (λi=>ps.length -i) (λi=>⟨[(1,pP 0),(36,some (.val (false,[.st (.view (ps.map vQ))]))),(37,vI ps.length),(38,vI i)],[(0,some (.box 310 [.st (T nm),.st (J pe),.st (J le),.st (J a),.st (J b),.st (J c),.st (J d),.st (.view (ps.map vQ))]))],1⟩) 0 (ai (by rw[<- hl];kernel_rfl)) ⟨dD _,λj hj=>by omega⟩ ?_;clear q1 q2 c1 c2;rintro i ⟨hi,dp⟩;by_cases ak:i<ps.length
   ·have he:=aV (f:=vQ) ak (0,0,0);have XF:=λk=>fI (f:=zg ps) ak dp k;have it:=λk=>all_succ (f:=zg ps) dp k
    have pL:(if(0<=(ps.getD i (0,0,0)).1/\(ps.getD i (0,0,0)).1<=1000000000000)/\(-4096<=(ps.getD i (0,0,0)).2.1/\(ps.getD i (0,0,0)).2.1<=4096)/\1<=(ps.getD i (0,0,0)).2.2/\(ps.getD i (0,0,0)).2.2<=100 then
     (if(ps.getD i (0,0,0)).2.1=0 then 11 else if i=0\/(ps.getD (i -1) (0,0,0)).1< (ps.getD i (0,0,0)).1 then 0 else 9)else 2)=zg ps i:=rfl
    generalize zg ps i=hE at*;by_cases hz:i=0
    ·rw[if_pos (c:=(i=0\/_)) (.inl hz)]at pL;generalize ps.getD i (0,0,0)=q at*
     have p1: ∀ {b c:Prop} [Decidable b] [Decidable c],(b↔(0<=q.1/\q.1<=1000000000000)/\(-4096<=q.2.1/\q.2.1<=4096)/\1<=q.2.2/\q.2.2<=100)->(c↔q.2.1≠0)->fs [if b then 0 else 2,if c then 0 else 11,0]=hE:=by
      intro b c _ _ h k;have:=alV (b:=b) (c:=c) (d:=True);rw[if_pos trivial]at this;rw[this,<- pL];simp only[h,k];by_cases x:q.2.1=0<;>simp[x]
     have p2: ∀ {c:Prop} [Decidable c],¬((0<=q.1/\q.1<=1000000000000)/\(-4096<=q.2.1/\q.2.1<=4096)/\1<=q.2.2/\q.2.2<=100)->(c↔q.2.1≠0)->fs [2,if c then 0 else 11,0]=hE:=by
      intro c _ h k;rw[<- pL,if_neg h];rfl
     clear pL;by_cases hv:hE=0
     ·repeat' ((first|(refine kO 7 rfl ?_;first|refine Rq (eH _ _ _) ?_|refine rG (λ_ z=>⟨_,o3 _ _ K9,z⟩) ?_|refine Rq (N9 _) ?_|refine Rq (EY _) ?_|refine Rq (jD _) ?_|refine rG (λ_ z=>⟨_,dF (p1 K0 K0),z⟩) ?_|refine rG (λ_ z=>⟨_,dF (p2 K0 K0),z⟩) ?_)|refine tX 0 ?_|exact Zt|refine bR ?_ ?_<;>intro h)<;>(try conv=>whnf))
      all_goals first|exact Zo|exact⟨i+1,⟨ak,it hv⟩,by omega,Zc⟩
     ·rw[XF hv];repeat' ((first|(refine kO 7 rfl ?_;first|refine Rq (eH _ _ _) ?_|refine rG (λ_ z=>⟨_,o3 _ _ K9,z⟩) ?_|refine Rq (N9 _) ?_|refine Rq (EY _) ?_|refine Rq (jD _) ?_|refine rG (λ_ z=>⟨_,dF (p1 K0 K0),z⟩) ?_|refine rG (λ_ z=>⟨_,dF (p2 K0 K0),z⟩) ?_)|refine tX 0 ?_|exact Zt|refine bR ?_ ?_<;>intro h)<;>(try conv=>whnf))
      all_goals exact Z0
    ·obtain⟨k,rfl⟩: ∃k,i=k+1:=⟨i -1,by omega⟩;have he2:=aV (f:=vQ) (l:=ps) (i:=k) K0 (0,0,0);rw[X5]at pL;generalize ps.getD (k+1) (0,0,0)=q at*;generalize ps.getD k (0,0,0)=r at*
     have p1: ∀ {b c d:Prop} [Decidable b] [Decidable c] [Decidable d],(b↔(0<=q.1/\q.1<=1000000000000)/\(-4096<=q.2.1/\q.2.1<=4096)/\1<=q.2.2/\q.2.2<=100)->(c↔q.2.1≠0)->(d↔r.1<q.1)->fs [if b then 0 else 2,if c then 0 else 11,if d then 0 else 9]=hE:=by
      intro b c d _ _ _ h k' m;rw[alV,<- pL];simp only[h,k',m];by_cases x:q.2.1=0<;>simp[x]
     have p2: ∀ {c d:Prop} [Decidable c] [Decidable d],¬((0<=q.1/\q.1<=1000000000000)/\(-4096<=q.2.1/\q.2.1<=4096)/\1<=q.2.2/\q.2.2<=100)->(c↔q.2.1≠0)->(d↔r.1<q.1)->fs [2,if c then 0 else 11,if d then 0 else 9]=hE:=by
      intro c d _ _ h k' m;rw[<- pL,if_neg h];rfl
     clear pL;by_cases hv:hE=0
     ·repeat' ((first|(refine kO 7 rfl ?_;first|refine Rq (eH _ _ _) ?_|refine rG (λ_ z=>⟨_,o3 _ _ K9,z⟩) ?_|refine Rq (N9 _) ?_|refine Rq (EY _) ?_|refine Rq (jD _) ?_|refine rG (λ_ z=>⟨_,dF (p1 K0 K0 K0),z⟩) ?_|refine rG (λ_ z=>⟨_,dF (p2 K0 K0 K0),z⟩) ?_)|refine tX 0 ?_|exact Zt|refine bR ?_ ?_<;>intro h)<;>(try conv=>whnf))
      all_goals first|exact Zo|exact⟨k+1+1,⟨ak,it hv⟩,by omega,Zc⟩
     ·rw[XF hv];repeat' ((first|(refine kO 7 rfl ?_;first|refine Rq (eH _ _ _) ?_|refine rG (λ_ z=>⟨_,o3 _ _ K9,z⟩) ?_|refine Rq (N9 _) ?_|refine Rq (EY _) ?_|refine Rq (jD _) ?_|refine rG (λ_ z=>⟨_,dF (p1 K0 K0 K0),z⟩) ?_|refine rG (λ_ z=>⟨_,dF (p2 K0 K0 K0),z⟩) ?_)|refine tX 0 ?_|exact Zt|refine bR ?_ ?_<;>intro h)<;>(try conv=>whnf))
      all_goals exact Z0
   ·exact ajX
theorem zj {s:aj}{a b:Int}(h:pW s=some (a,b)):p9 a/\p9 b:=by
 have h:DY (wN false 13) (wN false 13) (aJ 47 s)=some (a,b):=h;generalize aJ 47 s=l at h
 match l,h with
 | [],h=>cases h
 | [_],h=>cases h
 |_::_::_::_,h=>cases h
 | [x,y],h=>
  obtain⟨h1,h2⟩:=oQ.2 _ h;exact⟨HQ K9 h1,HQ K9 h2⟩
def AJ (s:aj)(hl:s.length<=10000):ac 250 [SS s] (.aI [(true,EX (Cu s).1),I (Cu s).2]):=by
 obtain⟨l1,l2⟩:=cj 59 s;have c0:=rK s 59 K0;rw[show(59:UInt8).toNat =59 from rfl]at c0
 obtain⟨p,ps,AU⟩: ∃p ps,aJ 59 s=p::ps:=by
  cases h:aJ 59 s with
  |nil=>grind[ng]
  |cons p ps=>grind
 have nv:=λh=>TV (s:=s) AU h;have abA:=λh=>TW (s:=s) AU h;rw[AU]at l1 l2 c0;have lp:=l2 p (by simp);have l3:ps.length<=s.length:=by grind
 obtain⟨m1,m2⟩:=cj 32 p;have c1:=rK p 32 K0;rw[show(32:UInt8).toNat =32 from rfl]at c1;generalize aJ 32 p=ws at*;have hn:=eo ws;have IE:=eo (p::ps);by_cases h5:ws.length=5;rotate_left
 ·rw[jV (abA h5)];refine sF f250 ?_;exact tL
 ·have nv:=nv h5;clear abA
  match ws,h5,m2,c1,nv with
  | [w0,w1,w2,w3,w4],_,m2,c1,nv=>
   have b0:=m2 w0 (by simp);have b1:=m2 w1 (by simp);have b2:=m2 w2 (by simp);have b3:=m2 w3 (by simp);have b4:=m2 w4 (by simp);obtain⟨v1,d1,k1⟩:=gk false w1 K0;obtain⟨v2,d2,k2⟩:=gk false w2 K0;obtain⟨v3,u3,d3,k3⟩:=In w3 K0;obtain⟨v4,u4,d4,k4⟩:=In w4 K0;have hh:(sB [w0,w1,w2,w3,w4]).isSome =((((wN false 13 w1).isSome &&(wN false 13 w2).isSome)&&(pW w3).isSome)&&(pW w4).isSome):=Ig;have hv: ∀h,sB [w0,w1,w2,w3,w4]=some h->h=(v1,v2,(v3,u3),(v4,u4)):=ai7
   have hI:(sB [w0,w1,w2,w3,w4]).isSome =true->(p9 v3/\p9 u3)/\p9 v4/\p9 u4:=by
    intro h;obtain⟨⟨a,b,c,d⟩,h⟩:=qW.1 h;obtain⟨e1,e2,e3,e4⟩:=J2 h
    grind[zj]
   generalize sB [w0,w1,w2,w3,w4]=hd at*;clear k1 k2 k3 k4 m2;obtain⟨fl,ox⟩: ∃fl:Nat->Bool,∀i,fl i= !(hd.isSome&&(fQ Lc (ps.take i)).isSome):=⟨_,λ_=>rfl⟩
   have amT:fl 0=((((false || !(wN false 13 w1).isSome) || !(wN false 13 w2).isSome) || !(pW w3).isSome) || !(pW w4).isSome):=by
    rw[ox 0,hh];show(!(_&&true))=_;cases (wN false 13 w1).isSome <;>cases (wN false 13 w2).isSome <;>cases (pW w3).isSome <;>cases (pW w4).isSome <;>rfl
   have hsn:=eo ps;refine sF f250 ?_;repeat((first|(refine kO 7 rfl ?_;first|refine im (λ_ z=>⟨_,_,_,kV (d1 _) rfl,z⟩) ?_|refine im (λ_ z=>⟨_,_,_,kV (d2 _) rfl,z⟩) ?_|refine im (λ_ z=>⟨_,_,_,kV (d3 _) rfl,z⟩) ?_|refine im (λ_ z=>⟨_,_,_,kV (d4 _) rfl,z⟩) ?_)|refine tX 0 ?_|exact Zt);(try conv=>whnf))
   refine af (ι:=Nat × List Pu) (λq=>(q.1<=ps.length/\q.2.length=q.1)/\∀x,fQ Lc (ps.take q.1)=some x->x=q.2) (λq=>ps.length -q.1)
    (λq=>⟨[(2,pP 0),(6,pP 1),(7,pP 2),(56,some (.val (false,[.st (.view (ab ps))]))),(57,vI ps.length),(58,vI q.1)],
     [(0,some (.box 310 [.st (T []),.st (J 0),.st (J 0),.st (J 0),.st (J 0),.st (J 0),.st (J 0),.nil])),(1,some (.box 351 [.st (K (fl q.1))])),
      (2,some (.box 310 [.st (T w0),.st (J v1),.st (J v2),.st (J v3),.st (J u3),.st (J v4),.st (J u4),.own 3])),(3,some (.row true 3 (.view (q.2.map vQ))))],4⟩)
    (0,[]) (by
     refine bp.trans (iQ 66 7 3 (.view []) (T:=310) (cs:=[.st (T w0),.st (J v1),.st (J v2),.st (J v3),.st (J u3),.st (J v4),.st (J u4),.nil]) K9 rfl rfl rfl rfl) ?_
     exact ai (by rw[amT,<- hsn];kernel_rfl)) ⟨⟨dD _,rfl⟩,λx h=>by cases h;rfl⟩ ?_
   rintro⟨i,l⟩ ⟨⟨hi,vV⟩,hx⟩;dsimp only at hi vV hx ⊢;clear d1 d2 d3 d4 amT c0 c1;by_cases ak:i<ps.length
   ·have he:=sA ak;have hq:ps.getD i []∈ps:=by grind
    have hql:=l2 _ (ji _ hq);have jt:=λh=>ug (f:=Lc) ak h;have UE:=Wl (f:=Lc) ak;have o7:=λ{n:Pu} hn=>aac (f:=Lc) ak hx (n:=n) hn;generalize ps.getD i []=w at*;obtain⟨r1,r2⟩:=cj 32 w;have c2:=rK w 32 K0;rw[show(32:UInt8).toNat =32 from rfl]at c2;have Cf: ∀x y z:aj,aJ 32 w= [x,y,z]->Lc w=(wN false 13 x).bind λa=>(wN true 13 y).bind λb=>(wN false 13 z).map λc=>(a,b,c):=λx y z h=>Ih h;have hpb:=λh=>TU (s:=w) h;generalize aJ 32 w=wi at*;have hwn:=eo wi;by_cases h3:wi.length=3
    ·match wi,h3,r2,c2,Cf with
     | [x,y,z],_,r2,c2,Cf=>
      have g1:=r2 x (by simp);have g2:=r2 y (by simp);have g3:=r2 z (by simp);obtain⟨n1,d1,k1⟩:=gk false x K0;obtain⟨n2,d2,k2⟩:=gk true y K0;obtain⟨n3,d3,k3⟩:=gk false z K0;have Cf:=Cf x y z rfl
      have RY:fl (i+1)=(((fl i || !(wN false 13 x).isSome) || !(wN true 13 y).isSome) || !(wN false 13 z).isSome):=by
       rw[ox,ox,UE,Cf,Wj];cases hd.isSome<;>cases (fQ Lc (ps.take i)).isSome <;>cases (wN false 13 x).isSome <;>cases (wN true 13 y).isSome <;>cases (wN false 13 z).isSome <;>rfl
      have it:=o7 (n:=(n1,n2,n3)) (by
       rintro⟨a,b,c⟩ e;rw[Cf]at e;obtain⟨e1,e2,e3⟩:=ads e
       grind)
      clear o7 jt UE Cf hpb k1 k2 k3;repeat((first|(refine kO 7 rfl ?_;first|refine im (λ_ z=>⟨_,_,_,kV (d1 _) rfl,z⟩) ?_|refine im (λ_ z=>⟨_,_,_,kV (d2 _) rfl,z⟩) ?_|refine im (λ_ z=>⟨_,_,_,kV (d3 _) rfl,z⟩) ?_)|refine tX 0 ?_|exact Zt);(try conv=>whnf))
      exact⟨(i+1,l++[(n1,n2,n3)]),⟨⟨ak,by grind⟩,it⟩,by grind,ai (by rw[RY,zZ];kernel_rfl)⟩
    ·rw[jV (by grind[zi])];exact tL
   ·obtain rfl:i=ps.length:=by omega
    rw[mA]at hx;have hf:=ox ps.length;rw[mA]at hf;by_cases hb:fl ps.length=true
    ·rw[hb]at hf;rw[jV (by grind[zi]),hb];exact tL
    ·have hb:fl ps.length=false:=by grind
     rw[hb]at hf;have hf2:hd.isSome=true/\(fQ Lc ps).isSome =true:=by grind
     have hI:=hI hf2.1;obtain⟨h,e1⟩:=qW.1 hf2.1;obtain⟨x,e2⟩:=qW.1 hf2.2;obtain rfl:=hv h e1;obtain rfl:=hx x e2;rw[e1,e2]at nv;have nv:ED s=some ⟨w0,v1,v2,(v3,u3),(v4,u4),x⟩:=nv;rw[EK nv,hb];have cc:=qK ⟨w0,v1,v2,(v3,u3),(v4,u4),x⟩ bv bv hI;generalize mP ⟨w0,v1,v2,(v3,u3),(v4,u4),x⟩=E at*;have cc:ac 288 [(true,[T w0,J v1,J v2,J v3,J u3,J v4,J u4,.view (x.map vQ)])] (.aI [I E.1,I E.2]):=cc;clear hf hf2 e1 e2 nv ox hsn vV;exact ajA
def anI {a b c:Int}(h:a=b):lO.aI [I a,I c]= .aI [I b,I c]:=by rw[h]
def Wy (x:Gt)(hn:x.name.length<=1000000)(hp:x.ps.length<=1000000)(hi:QW x):ac 318 [(true,EX x)] (.aI [(true,EX x),I (mP x).2]):=by
 have c:=qK x hn hp hi;generalize mP x=E at*;refine sF f318 ?_;exact K1
def aay (xs:List Int)(h0:0<xs.length)(hl:xs.length<4611686018427387904):ac 320 [(false,[.ints xs])] (.uV 1 (.ints (srt xs))):=aax abQ cT xs h0 hl
def Kk (x:Gt)(hn:x.name.length<=1000000)(hp:x.ps.length<=1000000)(hi:QW x):ac 289 [(true,EX x)] (.aI [I (adA x).1,I (adA x).2]):=by
 have c:=Wy x hn hp hi;have fC:=λh=>Cy (x:=x) h;obtain⟨nm,pe,le,⟨a,b⟩,⟨p,q⟩,ps⟩:=x;dsimp only at hn hp fC;have hl:(ps.map vQ).length =ps.length:=by simp
 unfold adA;generalize (mP ⟨nm,pe,le,(a,b),(p,q),ps⟩).2=E at*;dsimp only;have c:ac 318 [(true,[T nm,J pe,J le,J a,J b,J p,J q,.view (ps.map vQ)])] (.aI [(true,[T nm,J pe,J le,J a,J b,J p,J q,.view (ps.map vQ)]),I E]):=c;show nY _ _ _ [(true,[T nm,J pe,J le,J a,J b,J p,J q,.view (ps.map vQ)])] _;by_cases h0:E=0;rotate_left
 ·rw[if_neg h0];have hf:=λz=>dF (l:=[E,z]) (E:=E) (by simp[fs,h0]);refine sF f289 ?_;repeat' ((first|(refine kO 7 rfl ?_;first|refine Rq (jD _) ?_|refine Rq (hf _) ?_)|refine tX 0 ?_|exact Zt|refine bR ?_ ?_<;>intro h)<;>(try conv=>whnf))
  all_goals exact Z0
 obtain⟨h1,h2,h3,_⟩:=fC h0;rw[if_pos h0];subst h0;clear fC;by_cases h4:le<=ps.length;rotate_left
 ·rw[if_neg h4];have hf:=dF (l:=[0,12]) (E:=12) rfl;refine sF f289 ?_;repeat' ((first|(refine kO 7 rfl ?_;first|refine rG (λ_ z=>⟨_,QV K0 _,z⟩) ?_)|refine tX 0 ?_|exact Zt|refine bR ?_ ?_<;>intro h)<;>(try conv=>whnf))
  all_goals exact Z0
 rw[if_pos h4];have hf:=dF (l:=[0,0]) (E:=0) rfl;refine sF f289 ?_;repeat((first|(refine kO 7 rfl ?_;first|refine rG (λ_ z=>⟨_,N6 K0 _,z⟩) ?_)|refine tX 0 ?_|exact Zt);(try conv=>whnf))
 have hm: ∀i<ps.length,(ps.take (i+1)).map (λp=>(p.2.1.natAbs:Int))=(ps.take i).map (λp=>(p.2.1.natAbs:Int))++[((ps.getD i (0,0,0)).2.1.natAbs :Int)]:=λi hi=>by
  rw[CQ,pj hi,show ps.getD i (0,0,0)=ps[i]by simp[jN,hi],zZ];rfl
 refine af (ι:=Nat) (λi=>i<=ps.length) (λi=>ps.length -i) (λi=>⟨[(1,pP 0),(6,pO 1),(29,some (.val (false,[.st (.view (ps.map vQ))]))),(30,vI ps.length),(31,vI i)],
  [(0,some (.box 310 [.st (T nm),.st (J pe),.st (J le),.st (J a),.st (J b),.st (J p),.st (J q),.st (.view (ps.map vQ))])),(1,some (.row true 1 (.ints ((ps.take i).map λp=>(p.2.1.natAbs:Int)))))],2⟩) 0 (by
   refine bp.trans (iG 6 1 (.ints []) K9 rfl rfl rfl) ?_
   exact ai (by rw[<- hl];kernel_rfl)) (dD _) ?_
 clear c hf;intro i hi;by_cases ak:i<ps.length
 ·have he:=aV (f:=vQ) ak (0,0,0);have hm:=hm i ak;have hb:=h3 _ (show ps.getD i (0,0,0)∈ps by rw[show ps.getD i (0,0,0)=ps[i]by simp[jN,ak]];exact qd ak);have hz:((ps.take i).map λp=>(p.2.1.natAbs:Int)).length <=60:=by simp;omega
  generalize ps.getD i (0,0,0)=r at*;repeat' ((first|(refine kO 7 rfl ?_;first|refine rG (λ_ z=>⟨_,Io r.2.1 K0 K0,z⟩) ?_)|refine tX 0 ?_|exact Zt|refine bR ?_ ?_<;>intro h)<;>(try conv=>whnf))
  all_goals first|exact Zo|exact⟨i+1,ak,by omega,ai (by rw[hm];kernel_rfl)⟩
 ·obtain rfl:i=ps.length:=by omega
  rw[mA];obtain⟨k,rfl⟩: ∃k:Nat,le=k:=⟨le.toNat,by omega⟩;have hk:k<=ps.length:=by omega
  have hv:=QY (l:=ps) (n:=k) K0 hk h3;have hsl:=(Oa (ps.map λp=>(p.2.1.natAbs:Int))).length_eq;have hml:(ps.map λp=>(p.2.1.natAbs:Int)).length =ps.length:=by simp
  generalize ps.map (λp=>(p.2.1.natAbs:Int))=zs at*;have hs:=aay zs K0 K0;generalize srt zs=ss at*;generalize qI ps k 4096=lv at*;have hv:ss.getD ((ss.length:Int) -k).toNat 0=(lv:Nat):=by rw[show((ss.length:Int) -k).toNat =ps.length -k by omega];exact hv
  repeat' ((first|refine tX 0 ?_|exact Zt|refine bR ?_ ?_<;>intro h)<;>(try conv=>whnf))
  all_goals first|exact Zo|exact anI hv
def anJ {a b c d e:Int}(h:a=b)(k:c=d):lO.aI [F2 a c,I e]= .aI [F2 b d,I e]:=by rw[h,k]
def adB (y:Int){q:Int}(hq:0<q):(y+q -1)/q= -(-y/q):=by
 have d1:=Sr (y+q -1) q;have d2:=CR (y+q -1) (by omega:q≠0);have d3:=Lv (y+q -1) hq;have d4:=Sr (-y) q;have d5:=CR (-y) (by omega:q≠0);have d6:=Lv (-y) hq;generalize (y+q -1)/q=A at*;generalize -y/q=B at*;generalize (y+q -1)%q=r at*;generalize -y%q=s at*;have e:q*(A+B)=q*A+q*B:=Int.mul_add _ _ _
 have h:A+B=0:=by
  generalize A+B=z at*;have h1:q*z<q:=by omega
  have h2: -q<q*z:=by omega
  have h3:z<1:=by
   apply Pz;intro h;have:=XN (show 1<=z by omega) (show 0<=q by omega);omega
  have h4: -1<z:=by
   apply Pz;intro h;have:=XN (show z<= -1 by omega) (show 0<=q by omega);omega
  omega
 omega
def GC (x:Gt)(hn:x.name.length<=1000000)(hp:x.ps.length<=1000000)(hi:QW x):ac 251 [(true,EX x)] (.aI [F2 (TT x).1.1 (TT x).1.2,I (TT x).2]):=by
 have c:=Kk x hn hp hi;have fC:=λh=>Cy (x:=x) h;have eC:=Kj x.ps x.least 4096;obtain⟨nm,pe,le,⟨a,b⟩,⟨p,q⟩,ps⟩:=x;unfold adA at c;unfold TT;dsimp only at hn hp fC c eC ⊢;generalize (mP ⟨nm,pe,le,(a,b),(p,q),ps⟩).2=E at*;generalize qI ps le 4096=lv at*;show nY _ _ _ [(true,[T nm,J pe,J le,J a,J b,J p,J q,.view (ps.map vQ)])] _;by_cases h0:E=0;rotate_left
 ·rw[if_neg h0]at c ⊢;refine sF f251 ?_;exact tA
 obtain⟨h1,h2,_,h5,h6⟩:=fC h0;rw[if_pos h0]at c ⊢;subst h0;clear fC;by_cases h4:le<=ps.length;rotate_left
 ·rw[if_neg h4]at c ⊢;refine sF f251 ?_;exact tA
 rw[if_pos h4]at c ⊢;have c:ac 289 [(true,[T nm,J pe,J le,J a,J b,J p,J q,.view (ps.map vQ)])] (.aI [I (lv:Nat),I 0]):=c;have m1:=uE (a:=(lv:Nat)) (b:=a) K0 K0;have m2:=uE (a:=(lv:Nat)) (b:=p) K0 K0;have e2:=adB ((lv:Nat)*p) (q:=q) K0;refine sF f251 ?_;repeat' ((first|refine tX 0 ?_|exact Zt|refine bR ?_ ?_<;>intro h)<;>(try conv=>whnf))
 all_goals first|exact Zo|exact anJ rfl e2
end Go.Proofs.Tryz
