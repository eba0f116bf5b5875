import Derived.Test.YtackacoaaihcjaaGreatDoorPkF3
import Derived.Test.YtackacoaaihcjaaGreatDoorPkF12
set_option linter.all false
set_option maxRecDepth 100000
set_option maxHeartbeats 8000000
namespace Go.Proofs.Tryz
open Go.Fw Go.IntWalk Go.Plain
abbrev vz (p:Pu):List SC:=[J p.1,J p.2.1,J p.2.2]
abbrev EV (x:Gq):List SC:=[T x.name,J x.per,J x.least,J x.lo.1,J x.lo.2,J x.hi.1,J x.hi.2,.view (x.ps.map vz)]
def QV (x:Gq):Prop:=(pW x.lo.1/\pW x.lo.2)/\pW x.hi.1/\pW x.hi.2
def rW {a b:Int × Int}(h:a.2≠0):oV a b=a:=if_pos h
def aan {a b:Int × Int}(h:a.2=0):oV a b=b:=if_neg UY
def Oa (e:Int):ac 313 [Bo true,I e] (.one (I 0)):=qH true e
def EW (e:Int):ac 313 [Bo false,I e] (.one (I e)):=qH false e
def alJ {b c d:Prop} [Decidable b] [Decidable c] [Decidable d]:fs [if b then 0 else 2,if c then 0 else 11,if d then 0 else 9]=if b then(if c then(if d then 0 else 9)else 11)else 2:=by by_cases x:b<;>by_cases y:c<;>by_cases z:d<;>simp[fs,x,y,z]
def dF {l:List Int}{E:Int}(h:fs l=E)(hl:l.length<=1000000:=by exact fO rfl):ac 312 [(false,[.ints l])] (.one (I E)):=by
 have:=EU l hl;rwa [h]at this
def qI (x:Gq)(hn:x.name.length<=1000000)(hp:x.ps.length<=1000000)(hi:QV x):ac 288 [(true,EV x)] (.aJ [I (mM x).1,I (mM x).2]):=by
 obtain⟨nm,pe,le,⟨a,b⟩,⟨c,d⟩,ps⟩:=x;dsimp only at hn hp;obtain⟨⟨i1,i2⟩,i3,i4⟩:=hi;dsimp only at i1 i2 i3 i4;have hl:(ps.map vz).length =ps.length:=by simp
 have c1:=N9 nm hn;have c2:=aam a b c d i1 i2 i3 i4;show nN _ _ _ [(true,[T nm,J pe,J le,J a,J b,J c,J d,.view (ps.map vz)])] _;have e:jr (if eK nm then 0 else 4) (jr (if(1<=pe/\pe<=1000000)/\1<=le/\le<=60 then 0 else 2) (jr (NH (a,b) (c,d)) (if ps.length<=60 then 0 else 8)))=H9 ⟨nm,pe,le,(a,b),(c,d),ps⟩:=rfl;have hse:mM ⟨nm,pe,le,(a,b),(c,d),ps⟩=oV (0,H9 ⟨nm,pe,le,(a,b),(c,d),ps⟩) (cN (yV ps) ps.length):=rfl;rw[hse];clear hse;generalize H9 ⟨nm,pe,le,(a,b),(c,d),ps⟩=hE at*;generalize NH (a,b) (c,d)=z at*
 have q1: ∀ {b' c':Prop} [Decidable b'] [Decidable c'],(b'↔(1<=pe/\pe<=1000000)/\1<=le/\le<=60)->(c'↔ps.length<=60)->fs [if eK nm then 0 else 4,if b' then 0 else 2,z,if c' then 0 else 8]=hE:=by
  intro b' c' _ _ h k;rw[<- e];unfold jr;simp only[fs,h,k];(repeat' split)<;>first|rfl|omega
 have q2: ∀ {c':Prop} [Decidable c'],¬((1<=pe/\pe<=1000000)/\1<=le/\le<=60)->(c'↔ps.length<=60)->fs [if eK nm then 0 else 4,2,z,if c' then 0 else 8]=hE:=by
  intro c' _ h k;rw[<- e];unfold jr;simp only[fs,h,k,kM];(repeat' split)<;>first|rfl|omega
 clear e;by_cases h0:hE=0;rotate_left
 ·rw[rW h0];refine sF f288 ?_;repeat' ((first|(refine kO 7 rfl ?_;first|refine Rq (eF _ _ _) ?_|refine Rq (EW _) ?_|refine Rq (jE _) ?_|refine rG (λ_ z=>⟨_,dF (q1 K0 K0),z⟩) ?_|refine rG (λ_ z=>⟨_,dF (q2 K0 K0),z⟩) ?_)|refine tX 0 ?_|exact Zt|refine bR ?_ ?_<;>intro h)<;>(try conv=>whnf))
  all_goals exact Z0
 ·rw[aan h0];refine sF f288 ?_;repeat' ((first|(refine kO 7 rfl ?_;first|refine Rq (eF _ _ _) ?_|refine Rq (EW _) ?_|refine Rq (jE _) ?_|refine rG (λ_ z=>⟨_,dF (q1 K0 K0),z⟩) ?_|refine rG (λ_ z=>⟨_,dF (q2 K0 K0),z⟩) ?_)|refine tX 0 ?_|exact Zt|refine bR ?_ ?_<;>intro h)<;>(try conv=>whnf))
  all_goals
   refine af (ι:=Nat) (λi=>i<=ps.length/\∀j<i,yV ps j=0) (λi=>ps.length -i) (λi=>⟨[(1,pP 0),(36,some (.val (false,[.st (.view (ps.map vz))]))),(37,vI ps.length),(38,vI i)],[(0,some (.box 310 [.st (T nm),.st (J pe),.st (J le),.st (J a),.st (J b),.st (J c),.st (J d),.st (.view (ps.map vz))]))],1⟩) 0 (ai (by rw[<- hl];kernel_rfl)) ⟨dM _,λj hj=>by omega⟩ ?_;clear q1 q2 c1 c2;rintro i ⟨hi,dy⟩;by_cases ak:i<ps.length
   ·have he:=bg (f:=vz) ak (0,0,0);have XA:=λk=>fJ (f:=yV ps) ak dy k;have iU:=λk=>all_succ (f:=yV ps) dy k
    have pG:(if(0<=(ps.getD i (0,0,0)).1/\(ps.getD i (0,0,0)).1<=1000000000000)/\(-4096<=(ps.getD i (0,0,0)).2.1/\(ps.getD i (0,0,0)).2.1<=4096)/\1<=(ps.getD i (0,0,0)).2.2/\(ps.getD i (0,0,0)).2.2<=100 then
     (if(ps.getD i (0,0,0)).2.1=0 then 11 else if i=0\/(ps.getD (i -1) (0,0,0)).1< (ps.getD i (0,0,0)).1 then 0 else 9)else 2)=yV ps i:=rfl
    generalize yV ps i=hE at*;by_cases hz:i=0
    ·rw[if_pos (c:=(i=0\/_)) (.inl hz)]at pG;generalize ps.getD i (0,0,0)=q at*
     have p1: ∀ {b c:Prop} [Decidable b] [Decidable c],(b↔(0<=q.1/\q.1<=1000000000000)/\(-4096<=q.2.1/\q.2.1<=4096)/\1<=q.2.2/\q.2.2<=100)->(c↔q.2.1≠0)->fs [if b then 0 else 2,if c then 0 else 11,0]=hE:=by
      intro b c _ _ h k;have:=alJ (b:=b) (c:=c) (d:=True);rw[if_pos trivial]at this;rw[this,<- pG];simp only[h,k];by_cases x:q.2.1=0<;>simp[x]
     have p2: ∀ {c:Prop} [Decidable c],¬((0<=q.1/\q.1<=1000000000000)/\(-4096<=q.2.1/\q.2.1<=4096)/\1<=q.2.2/\q.2.2<=100)->(c↔q.2.1≠0)->fs [2,if c then 0 else 11,0]=hE:=by
      intro c _ h k;rw[<- pG,if_neg h];rfl
     clear pG;by_cases hv:hE=0
     ·repeat' ((first|(refine kO 7 rfl ?_;first|refine Rq (eF _ _ _) ?_|refine rG (λ_ z=>⟨_,oQ _ _ K9,z⟩) ?_|refine Rq (Oa _) ?_|refine Rq (EW _) ?_|refine Rq (jE _) ?_|refine rG (λ_ z=>⟨_,dF (p1 K0 K0),z⟩) ?_|refine rG (λ_ z=>⟨_,dF (p2 K0 K0),z⟩) ?_)|refine tX 0 ?_|exact Zt|refine bR ?_ ?_<;>intro h)<;>(try conv=>whnf))
      all_goals first|exact Zo|exact⟨i+1,⟨ak,iU hv⟩,by omega,Zc⟩
     ·rw[XA hv];repeat' ((first|(refine kO 7 rfl ?_;first|refine Rq (eF _ _ _) ?_|refine rG (λ_ z=>⟨_,oQ _ _ K9,z⟩) ?_|refine Rq (Oa _) ?_|refine Rq (EW _) ?_|refine Rq (jE _) ?_|refine rG (λ_ z=>⟨_,dF (p1 K0 K0),z⟩) ?_|refine rG (λ_ z=>⟨_,dF (p2 K0 K0),z⟩) ?_)|refine tX 0 ?_|exact Zt|refine bR ?_ ?_<;>intro h)<;>(try conv=>whnf))
      all_goals exact Z0
    ·obtain⟨k,rfl⟩: ∃k,i=k+1:=⟨i -1,by omega⟩;have he2:=bg (f:=vz) (l:=ps) (i:=k) K0 (0,0,0);rw[XW]at pG;generalize ps.getD (k+1) (0,0,0)=q at*;generalize ps.getD k (0,0,0)=r at*
     have p1: ∀ {b c d:Prop} [Decidable b] [Decidable c] [Decidable d],(b↔(0<=q.1/\q.1<=1000000000000)/\(-4096<=q.2.1/\q.2.1<=4096)/\1<=q.2.2/\q.2.2<=100)->(c↔q.2.1≠0)->(d↔r.1<q.1)->fs [if b then 0 else 2,if c then 0 else 11,if d then 0 else 9]=hE:=by
      intro b c d _ _ _ h k' m;rw[alJ,<- pG];simp only[h,k',m];by_cases x:q.2.1=0<;>simp[x]
     have p2: ∀ {c d:Prop} [Decidable c] [Decidable d],¬((0<=q.1/\q.1<=1000000000000)/\(-4096<=q.2.1/\q.2.1<=4096)/\1<=q.2.2/\q.2.2<=100)->(c↔q.2.1≠0)->(d↔r.1<q.1)->fs [2,if c then 0 else 11,if d then 0 else 9]=hE:=by
      intro c d _ _ h k' m;rw[<- pG,if_neg h];rfl
     clear pG;by_cases hv:hE=0
     ·repeat' ((first|(refine kO 7 rfl ?_;first|refine Rq (eF _ _ _) ?_|refine rG (λ_ z=>⟨_,oQ _ _ K9,z⟩) ?_|refine Rq (Oa _) ?_|refine Rq (EW _) ?_|refine Rq (jE _) ?_|refine rG (λ_ z=>⟨_,dF (p1 K0 K0 K0),z⟩) ?_|refine rG (λ_ z=>⟨_,dF (p2 K0 K0 K0),z⟩) ?_)|refine tX 0 ?_|exact Zt|refine bR ?_ ?_<;>intro h)<;>(try conv=>whnf))
      all_goals first|exact Zo|exact⟨k+1+1,⟨ak,iU hv⟩,by omega,Zc⟩
     ·rw[XA hv];repeat' ((first|(refine kO 7 rfl ?_;first|refine Rq (eF _ _ _) ?_|refine rG (λ_ z=>⟨_,oQ _ _ K9,z⟩) ?_|refine Rq (Oa _) ?_|refine Rq (EW _) ?_|refine Rq (jE _) ?_|refine rG (λ_ z=>⟨_,dF (p1 K0 K0 K0),z⟩) ?_|refine rG (λ_ z=>⟨_,dF (p2 K0 K0 K0),z⟩) ?_)|refine tX 0 ?_|exact Zt|refine bR ?_ ?_<;>intro h)<;>(try conv=>whnf))
      all_goals exact Z0
   ·exact ajN
theorem yY {s:aj}{a b:Int}(h:pS s=some (a,b)):pW a/\pW b:=by
 have h:DU (wN false 13) (wN false 13) (ar 47 s)=some (a,b):=h;generalize ar 47 s=l at h
 match l,h with
 | [],h=>cases h
 | [_],h=>cases h
 |_::_::_::_,h=>cases h
 | [x,y],h=>
  obtain⟨h1,h2⟩:=oE.2 _ h;exact⟨HM K9 h1,HM K9 h2⟩
def AD (s:aj)(hl:s.length<=10000):ac 250 [SS s] (.aJ [(true,EV (Cr s).1),I (Cr s).2]):=by
 obtain⟨l1,l2⟩:=cd 59 s;have c0:=rE s 59 K0;rw[show(59:UInt8).toNat =59 from rfl]at c0
 obtain⟨p,ps,qO⟩: ∃p ps,ar 59 s=p::ps:=by
  cases h:ar 59 s with
  |nil=>grind[lU]
  |cons p ps=>grind
 have ni:=λh=>TV (s:=s) qO h;have aby:=λh=>TW (s:=s) qO h;rw[qO]at l1 l2 c0;have lp:=l2 p (by simp);have l3:ps.length<=s.length:=by grind
 obtain⟨m1,m2⟩:=cd 32 p;have c1:=rE p 32 K0;rw[show(32:UInt8).toNat =32 from rfl]at c1;generalize ar 32 p=ws at*;have hn:=eh ws;have IH:=eh (p::ps);by_cases h5:ws.length=5;rotate_left
 ·rw[jU (aby h5)];refine sF f250 ?_;exact tL
 ·have ni:=ni h5;clear aby
  match ws,h5,m2,c1,ni with
  | [w0,w1,w2,w3,w4],_,m2,c1,ni=>
   have b0:=m2 w0 (by simp);have b1:=m2 w1 (by simp);have b2:=m2 w2 (by simp);have b3:=m2 w3 (by simp);have b4:=m2 w4 (by simp);obtain⟨v1,d1,k1⟩:=gi false w1 K0;obtain⟨v2,d2,k2⟩:=gi false w2 K0;obtain⟨v3,u3,d3,k3⟩:=Ik w3 K0;obtain⟨v4,u4,d4,k4⟩:=Ik w4 K0;have hh:(sq [w0,w1,w2,w3,w4]).isSome =((((wN false 13 w1).isSome &&(wN false 13 w2).isSome)&&(pS w3).isSome)&&(pS w4).isSome):=Ib;have hv: ∀h,sq [w0,w1,w2,w3,w4]=some h->h=(v1,v2,(v3,u3),(v4,u4)):=aiX
   have hI:(sq [w0,w1,w2,w3,w4]).isSome =true->(pW v3/\pW u3)/\pW v4/\pW u4:=by
    intro h;obtain⟨⟨a,b,c,d⟩,h⟩:=qQ.1 h;obtain⟨e1,e2,e3,e4⟩:=J5 h
    grind[yY]
   generalize sq [w0,w1,w2,w3,w4]=hd at*;clear k1 k2 k3 k4 m2;obtain⟨fl,og⟩: ∃fl:Nat->Bool,∀i,fl i= !(hd.isSome&&(fQ Lf (ps.take i)).isSome):=⟨_,λ_=>rfl⟩
   have amh:fl 0=((((false || !(wN false 13 w1).isSome) || !(wN false 13 w2).isSome) || !(pS w3).isSome) || !(pS w4).isSome):=by
    rw[og 0,hh];show(!(_&&true))=_;cases (wN false 13 w1).isSome <;>cases (wN false 13 w2).isSome <;>cases (pS w3).isSome <;>cases (pS w4).isSome <;>rfl
   have hsn:=eh ps;refine sF f250 ?_;repeat((first|(refine kO 7 rfl ?_;first|refine ii (λ_ z=>⟨_,_,_,kX (d1 _) rfl,z⟩) ?_|refine ii (λ_ z=>⟨_,_,_,kX (d2 _) rfl,z⟩) ?_|refine ii (λ_ z=>⟨_,_,_,kX (d3 _) rfl,z⟩) ?_|refine ii (λ_ z=>⟨_,_,_,kX (d4 _) rfl,z⟩) ?_)|refine tX 0 ?_|exact Zt);(try conv=>whnf))
   refine af (ι:=Nat × List Pu) (λq=>(q.1<=ps.length/\q.2.length=q.1)/\∀x,fQ Lf (ps.take q.1)=some x->x=q.2) (λq=>ps.length -q.1)
    (λq=>⟨[(2,pP 0),(6,pP 1),(7,pP 2),(56,some (.val (false,[.st (.view (ab ps))]))),(57,vI ps.length),(58,vI q.1)],
     [(0,some (.box 310 [.st (T []),.st (J 0),.st (J 0),.st (J 0),.st (J 0),.st (J 0),.st (J 0),.nil])),(1,some (.box 351 [.st (K (fl q.1))])),
      (2,some (.box 310 [.st (T w0),.st (J v1),.st (J v2),.st (J v3),.st (J u3),.st (J v4),.st (J u4),.own 3])),(3,some (.row true 3 (.view (q.2.map vz))))],4⟩)
    (0,[]) (by
     refine bs.trans (iK 66 7 3 (.view []) (T:=310) (cs:=[.st (T w0),.st (J v1),.st (J v2),.st (J v3),.st (J u3),.st (J v4),.st (J u4),.nil]) K9 rfl rfl rfl rfl) ?_
     exact ai (by rw[amh,<- hsn];kernel_rfl)) ⟨⟨dM _,rfl⟩,λx h=>by cases h;rfl⟩ ?_
   rintro⟨i,l⟩ ⟨⟨hi,uF⟩,hx⟩;dsimp only at hi uF hx ⊢;clear d1 d2 d3 d4 amh c0 c1;by_cases ak:i<ps.length
   ·have he:=sA ak;have hq:ps.getD i []∈ps:=by grind
    have hql:=l2 _ (i8 _ hq);have l5:=λh=>tM (f:=Lf) ak h;have Ux:=Wh (f:=Lf) ak;have oU:=λ{n:Pu} hn=>Z4 (f:=Lf) ak hx (n:=n) hn;generalize ps.getD i []=w at*;obtain⟨r1,r2⟩:=cd 32 w;have c2:=rE w 32 K0;rw[show(32:UInt8).toNat =32 from rfl]at c2;have Cd: ∀x y z:aj,ar 32 w= [x,y,z]->Lf w=(wN false 13 x).bind λa=>(wN true 13 y).bind λb=>(wN false 13 z).map λc=>(a,b,c):=λx y z h=>Ic h;have hpb:=λh=>TU (s:=w) h;generalize ar 32 w=wi at*;have hwn:=eh wi;by_cases h3:wi.length=3
    ·match wi,h3,r2,c2,Cd with
     | [x,y,z],_,r2,c2,Cd=>
      have g1:=r2 x (by simp);have g2:=r2 y (by simp);have g3:=r2 z (by simp);obtain⟨n1,d1,k1⟩:=gi false x K0;obtain⟨n2,d2,k2⟩:=gi true y K0;obtain⟨n3,d3,k3⟩:=gi false z K0;have Cd:=Cd x y z rfl
      have R9:fl (i+1)=(((fl i || !(wN false 13 x).isSome) || !(wN true 13 y).isSome) || !(wN false 13 z).isSome):=by
       rw[og,og,Ux,Cd,Wg];cases hd.isSome<;>cases (fQ Lf (ps.take i)).isSome <;>cases (wN false 13 x).isSome <;>cases (wN true 13 y).isSome <;>cases (wN false 13 z).isSome <;>rfl
      have iU:=oU (n:=(n1,n2,n3)) (by
       rintro⟨a,b,c⟩ e;rw[Cd]at e;obtain⟨e1,e2,e3⟩:=adf e
       grind)
      clear oU l5 Ux Cd hpb k1 k2 k3;repeat((first|(refine kO 7 rfl ?_;first|refine ii (λ_ z=>⟨_,_,_,kX (d1 _) rfl,z⟩) ?_|refine ii (λ_ z=>⟨_,_,_,kX (d2 _) rfl,z⟩) ?_|refine ii (λ_ z=>⟨_,_,_,kX (d3 _) rfl,z⟩) ?_)|refine tX 0 ?_|exact Zt);(try conv=>whnf))
      exact⟨(i+1,l++[(n1,n2,n3)]),⟨⟨ak,by grind⟩,iU⟩,by grind,ai (by rw[R9,wx];kernel_rfl)⟩
    ·rw[jU (by grind[yX])];exact tL
   ·obtain rfl:i=ps.length:=by omega
    rw[mW]at hx;have hf:=og ps.length;rw[mW]at hf;by_cases hb:fl ps.length=true
    ·rw[hb]at hf;rw[jU (by grind[yX]),hb];exact tL
    ·have hb:fl ps.length=false:=by grind
     rw[hb]at hf;have hf2:hd.isSome=true/\(fQ Lf ps).isSome =true:=by grind
     have hI:=hI hf2.1;obtain⟨h,e1⟩:=qQ.1 hf2.1;obtain⟨x,e2⟩:=qQ.1 hf2.2;obtain rfl:=hv h e1;obtain rfl:=hx x e2;rw[e1,e2]at ni;have ni:EA s=some ⟨w0,v1,v2,(v3,u3),(v4,u4),x⟩:=ni;rw[EH ni,hb];have cc:=qI ⟨w0,v1,v2,(v3,u3),(v4,u4),x⟩ bq bq hI;generalize mM ⟨w0,v1,v2,(v3,u3),(v4,u4),x⟩=E at*;have cc:ac 288 [(true,[T w0,J v1,J v2,J v3,J u3,J v4,J u4,.view (x.map vz)])] (.aJ [I E.1,I E.2]):=cc;clear hf hf2 e1 e2 ni og hsn uF;exact ajq
def anC {a b c:Int}(h:a=b):ma.aJ [I a,I c]= .aJ [I b,I c]:=by rw[h]
def Wt (x:Gq)(hn:x.name.length<=1000000)(hp:x.ps.length<=1000000)(hi:QV x):ac 318 [(true,EV x)] (.aJ [(true,EV x),I (mM x).2]):=by
 have c:=qI x hn hp hi;generalize mM x=E at*;refine sF f318 ?_;exact K1
def aaq (xs:List Int)(h0:0<xs.length)(hl:xs.length<4611686018427387904):ac 320 [(false,[.ints xs])] (.uK 1 (.ints (srt xs))):=aap abJ dl xs h0 hl
def Kn (x:Gq)(hn:x.name.length<=1000000)(hp:x.ps.length<=1000000)(hi:QV x):ac 289 [(true,EV x)] (.aJ [I (adn x).1,I (adn x).2]):=by
 have c:=Wt x hn hp hi;have fC:=λh=>Cw (x:=x) h;obtain⟨nm,pe,le,⟨a,b⟩,⟨p,q⟩,ps⟩:=x;dsimp only at hn hp fC;have hl:(ps.map vz).length =ps.length:=by simp
 unfold adn;generalize (mM ⟨nm,pe,le,(a,b),(p,q),ps⟩).2=E at*;dsimp only;have c:ac 318 [(true,[T nm,J pe,J le,J a,J b,J p,J q,.view (ps.map vz)])] (.aJ [(true,[T nm,J pe,J le,J a,J b,J p,J q,.view (ps.map vz)]),I E]):=c;show nN _ _ _ [(true,[T nm,J pe,J le,J a,J b,J p,J q,.view (ps.map vz)])] _;by_cases h0:E=0;rotate_left
 ·rw[if_neg h0];have hf:=λz=>dF (l:=[E,z]) (E:=E) (by simp[fs,h0]);refine sF f289 ?_;repeat' ((first|(refine kO 7 rfl ?_;first|refine Rq (jE _) ?_|refine Rq (hf _) ?_)|refine tX 0 ?_|exact Zt|refine bR ?_ ?_<;>intro h)<;>(try conv=>whnf))
  all_goals exact Z0
 obtain⟨h1,h2,h3,_⟩:=fC h0;rw[if_pos h0];subst h0;clear fC;by_cases h4:le<=ps.length;rotate_left
 ·rw[if_neg h4];have hf:=dF (l:=[0,12]) (E:=12) rfl;refine sF f289 ?_;repeat' ((first|(refine kO 7 rfl ?_;first|refine rG (λ_ z=>⟨_,QU K0 _,z⟩) ?_)|refine tX 0 ?_|exact Zt|refine bR ?_ ?_<;>intro h)<;>(try conv=>whnf))
  all_goals exact Z0
 rw[if_pos h4];have hf:=dF (l:=[0,0]) (E:=0) rfl;refine sF f289 ?_;repeat((first|(refine kO 7 rfl ?_;first|refine rG (λ_ z=>⟨_,N7 K0 _,z⟩) ?_)|refine tX 0 ?_|exact Zt);(try conv=>whnf))
 have hm: ∀i<ps.length,(ps.take (i+1)).map (λp=>(p.2.1.natAbs:Int))=(ps.take i).map (λp=>(p.2.1.natAbs:Int))++[((ps.getD i (0,0,0)).2.1.natAbs :Int)]:=λi hi=>by
  rw[CK,oX hi,show ps.getD i (0,0,0)=ps[i]by simp[jP,hi],wx];rfl
 refine af (ι:=Nat) (λi=>i<=ps.length) (λi=>ps.length -i) (λi=>⟨[(1,pP 0),(6,pO 1),(29,some (.val (false,[.st (.view (ps.map vz))]))),(30,vI ps.length),(31,vI i)],
  [(0,some (.box 310 [.st (T nm),.st (J pe),.st (J le),.st (J a),.st (J b),.st (J p),.st (J q),.st (.view (ps.map vz))])),(1,some (.row true 1 (.ints ((ps.take i).map λp=>(p.2.1.natAbs:Int)))))],2⟩) 0 (by
   refine bs.trans (jB 6 1 (.ints []) K9 rfl rfl rfl) ?_
   exact ai (by rw[<- hl];kernel_rfl)) (dM _) ?_
 clear c hf;intro i hi;by_cases ak:i<ps.length
 ·have he:=bg (f:=vz) ak (0,0,0);have hm:=hm i ak;have hb:=h3 _ (show ps.getD i (0,0,0)∈ps by rw[show ps.getD i (0,0,0)=ps[i]by simp[jP,ak]];exact pH ak);have hz:((ps.take i).map λp=>(p.2.1.natAbs:Int)).length <=60:=by simp;omega
  generalize ps.getD i (0,0,0)=r at*;repeat' ((first|(refine kO 7 rfl ?_;first|refine rG (λ_ z=>⟨_,Il r.2.1 K0 K0,z⟩) ?_)|refine tX 0 ?_|exact Zt|refine bR ?_ ?_<;>intro h)<;>(try conv=>whnf))
  all_goals first|exact Zo|exact⟨i+1,ak,by omega,ai (by rw[hm];kernel_rfl)⟩
 ·obtain rfl:i=ps.length:=by omega
  rw[mW];obtain⟨k,rfl⟩: ∃k:Nat,le=k:=⟨le.toNat,by omega⟩;have hk:k<=ps.length:=by omega
  have hv:=QX (l:=ps) (n:=k) K0 hk h3;have hsl:=(Ob (ps.map λp=>(p.2.1.natAbs:Int))).length_eq;have hml:(ps.map λp=>(p.2.1.natAbs:Int)).length =ps.length:=by simp
  generalize ps.map (λp=>(p.2.1.natAbs:Int))=zs at*;have hs:=aaq zs K0 K0;generalize srt zs=ss at*;generalize qE ps k 4096=lv at*;have hv:ss.getD ((ss.length:Int) -k).toNat 0=(lv:Nat):=by rw[show((ss.length:Int) -k).toNat =ps.length -k by omega];exact hv
  repeat' ((first|refine tX 0 ?_|exact Zt|refine bR ?_ ?_<;>intro h)<;>(try conv=>whnf))
  all_goals first|exact Zo|exact anC hv
def anD {a b c d e:Int}(h:a=b)(k:c=d):ma.aJ [F2 a c,I e]= .aJ [F2 b d,I e]:=by rw[h,k]
def ado (y:Int){q:Int}(hq:0<q):(y+q -1)/q= -(-y/q):=by
 have d1:=Ss (y+q -1) q;have d2:=CN (y+q -1) (by omega:q≠0);have d3:=Ly (y+q -1) hq;have d4:=Ss (-y) q;have d5:=CN (-y) (by omega:q≠0);have d6:=Ly (-y) hq;generalize (y+q -1)/q=A at*;generalize -y/q=B at*;generalize (y+q -1)%q=r at*;generalize -y%q=s at*;have e:q*(A+B)=q*A+q*B:=Int.mul_add _ _ _
 have h:A+B=0:=by
  generalize A+B=z at*;have h1:q*z<q:=by omega
  have h2: -q<q*z:=by omega
  have h3:z<1:=by
   apply Pw;intro h;have:=XH (show 1<=z by omega) (show 0<=q by omega);omega
  have h4: -1<z:=by
   apply Pw;intro h;have:=XH (show z<= -1 by omega) (show 0<=q by omega);omega
  omega
 omega
def Gz (x:Gq)(hn:x.name.length<=1000000)(hp:x.ps.length<=1000000)(hi:QV x):ac 251 [(true,EV x)] (.aJ [F2 (TT x).1.1 (TT x).1.2,I (TT x).2]):=by
 have c:=Kn x hn hp hi;have fC:=λh=>Cw (x:=x) h;have eB:=Km x.ps x.least 4096;obtain⟨nm,pe,le,⟨a,b⟩,⟨p,q⟩,ps⟩:=x;unfold adn at c;unfold TT;dsimp only at hn hp fC c eB ⊢;generalize (mM ⟨nm,pe,le,(a,b),(p,q),ps⟩).2=E at*;generalize qE ps le 4096=lv at*;show nN _ _ _ [(true,[T nm,J pe,J le,J a,J b,J p,J q,.view (ps.map vz)])] _;by_cases h0:E=0;rotate_left
 ·rw[if_neg h0]at c ⊢;refine sF f251 ?_;exact tA
 obtain⟨h1,h2,_,h5,h6⟩:=fC h0;rw[if_pos h0]at c ⊢;subst h0;clear fC;by_cases h4:le<=ps.length;rotate_left
 ·rw[if_neg h4]at c ⊢;refine sF f251 ?_;exact tA
 rw[if_pos h4]at c ⊢;have c:ac 289 [(true,[T nm,J pe,J le,J a,J b,J p,J q,.view (ps.map vz)])] (.aJ [I (lv:Nat),I 0]):=c;have m1:=uo (a:=(lv:Nat)) (b:=a) K0 K0;have m2:=uo (a:=(lv:Nat)) (b:=p) K0 K0;have e2:=ado ((lv:Nat)*p) (q:=q) K0;refine sF f251 ?_;repeat' ((first|refine tX 0 ?_|exact Zt|refine bR ?_ ?_<;>intro h)<;>(try conv=>whnf))
 all_goals first|exact Zo|exact anD rfl e2
end Go.Proofs.Tryz
