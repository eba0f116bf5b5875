import Derived.Test.YtackacoaaihcjaaGreatDoorPkM3
set_option linter.all false
set_option maxRecDepth 100000
set_option maxHeartbeats 8000000
namespace Go.Proofs.Tryz
open Go.Fw Go.IntWalk Go.Plain
def pH {st:Int}{l:List Int}(h:dn st l=0):(1<=st/\st<=1000000)/\3<=l.length/\l.length<=64/\jb l (-4096) 4096:=by grind[dn]
def fM (e:Int)(q:Sp)(ch:List Sp)(st:Int)(l:List Int):Int:=if aY e q ch≠0 then aY e q ch else dn st l
def zm {e:Int}{q:Sp}{ch:List Sp}{st:Int}{l:List Int}(h:fM e q ch st l=0):aY e q ch=0/\dn st l=0:=by grind[fM]
def BG (e:Int)(q:Sp)(ch:List Sp)(st:Int)(l:List Int)(hq:qC q)(vW: ∀s∈ch,qC s)(hl:l.length<=maxLen):ac 150 [Ru e q ch,Rc st l] (.one (I (fM e q ch st l))):=by
 have s1:=ni e q ch hq vW;have s2:=lZ st l hl;unfold fM;by_cases h:aY e q ch=0
 ·rw[if_neg K0];rw[h]at s1;refine sF f150 ?_;exact tL
 ·rw[if_pos h];generalize aY e q ch=z at*;refine sF f150 ?_;exact tL
def Wu (e:Int)(q:Sp)(ch:List Sp)(st:Int)(l:List Int)(hq:qC q)(vW: ∀s∈ch,qC s)(hc:ch.length<=4294967296)(hl:l.length<=maxLen):ac 141 [Ru e q ch,Rc st l] (.aI [Rr l e,I (fM e q ch st l)]):=by
 have s1:=k7 e q ch hq vW hc;have s2:=jZ st l hl;have f:=fs2 (aY e q ch) (dn st l);rw[show(if aY e q ch≠0 then aY e q ch else dn st l)=fM e q ch st l from rfl]at f;rw[<- f];refine sF f141 ?_;exact tL
abbrev bRu (e:Int)(q:Sp)(ch:List Sp):Option cD:=some (.box 164 [.st (J e),.st (J q.1),.st (J q.2.1),.st (J q.2.2.1),.st (J q.2.2.2),.st (.view (ch.map sp))])
abbrev bRc (st:Int)(l:List Int):Option cD:=some (.box 168 [.st (J st),.st (.ints l)])
abbrev bRg (a b:Int):Option cD:=some (.box 52 [.st (J a),.st (J b)])
def Ka (e:Int)(q:Sp)(ch:List Sp)(st:Int)(l:List Int)(he:0<=e/\e<=1000)(h0:0<l.length)(hl:l.length<=64)(hA:jb l (-4096) 4096):ac 151 [Ru e q ch,Rc st l] (.aI [I (pk l:Nat),F2 (pG l -e) (pG l+e)]):=by
 refine sF f151 ?_
 (try(refine tX 0 ?_;try exact Zt))
 refine af (ι:=Nat) (λi=>i<=l.length) (λi=>l.length -i) (λi=>⟨[(2,pP 0),(3,pP 1),(5,pP 2),(6,vI (Cv l i:Nat)),(7,vI i)],[(0,bRu e q ch),(1,bRc st l),(2,bRg 0 0)],3⟩) 0 Zc (dD _) ?_;intro i hi
 have hp:Cv l i<l.length:=by
  by_cases e0:i=0
  ·subst e0;exact h0
  ·have:=AA (l:=l) (i:=i) K0;omega
 (try(refine tX 0 ?_;try exact Zt))
 (refine bR ?_ ?_<;>intro h<;>(try conv=>whnf))
 ·have ak:i<l.length:=by omega
  (try(refine tX 0 ?_;try exact Zt))
  (refine bR ?_ ?_<;>intro h<;>(try conv=>whnf))
  ·have hs:Cv l (i+1)=i:=if_pos h;exact K85
  ·have hs:Cv l (i+1)=Cv l i:=if_neg h;exact K85
 ·obtain rfl:i=l.length:=by omega
  have hb:=jC hA hp;exact K1
def zp (e:Int)(q:Sp)(ch:List Sp)(st:Int)(l:List Int)(t x y:Int)(he:0<=e/\e<=1000)(hl:l.length<=64)(h:jb l (-4096) 4096)(ht:0<=t/\t<=10)(hx:smp x)(hy:smp y):ac 152 [Ru e q ch,Rc st l,I t,F2 x y] (.one (F2 (fF (EN e t x) l 0) (fF (EP e t y) l 0))):=by
 have m1:=J9 ht hx;have m2:=J9 ht hy;refine sF f152 ?_
 (try(refine tX 0 ?_;try exact Zt))
 refine af (ι:=Int) (λi=> -1<=i/\i<l.length) (λi=>(i+1).toNat) (λi=>⟨[(2,vI t),(4,pP 0),(5,pP 1),(7,pP 2),(8,pP 3),(9,pP 4),(10,vI i)],[(0,bRu e q ch),(1,bRc st l),(2,bRg x y),(3,bRg 0 0),(4,bRg (fF (EN e t x) l (i+1).toNat) (fF (EP e t y) l (i+1).toNat))],5⟩) ((l.length:Int) -1) (ai ai0) ⟨by omega,by omega⟩ ?_;rintro i ⟨zO,hi⟩;by_cases hz:0<=i
 ·have ak:i.toNat<l.length:=by omega
  have hb:=jC h ak;have s1:=vr (p:=EN e t x) ak;have s2:=vr (p:=EP e t y) ak;rw[show i.toNat+1=(i+1).toNat by omega,show((i.toNat:Nat):Int)=i by omega]at s1 s2;unfold EN at s1;unfold EP at s2;simp only[SK]at s1 s2;by_cases k1:10*(l.getD i.toNat 0+e)>=t*x
  ·rw[if_pos k1]at s1;by_cases k2:10*(l.getD i.toNat 0 -e)>=t*y
   ·rw[if_pos k2]at s2;exact K41
   ·rw[if_neg k2]at s2;exact K41
  ·rw[if_neg k1]at s1;by_cases k2:10*(l.getD i.toNat 0 -e)>=t*y
   ·rw[if_pos k2]at s2;exact K41
   ·rw[if_neg k2]at s2;exact K41
 ·obtain rfl:i= -1:=by omega
  exact tL
def NS (e:Int)(q:Sp)(ch:List Sp)(st:Int)(l:List Int)(a:Nat)(x y:Int)(he:0<=e/\e<=1000)(hl:l.length<=64)(h:jb l (-4096) 4096)(ha:a<l.length):ac 153 [Ru e q ch,Rc st l,I (a:Nat),F2 x y] (.one (F2 (fF (J7 e y) l (a+1)) (fF (J8 e x) l (a+1)))):=by
 refine sF f153 ?_
 (try(refine tX 0 ?_;try exact Zt))
 refine af (ι:=Int) (λi=>(a:Int)<=i/\i<l.length) (λi=>(i+1).toNat) (λi=>⟨[(2,vI (a:Nat)),(4,pP 0),(5,pP 1),(7,pP 2),(8,pP 3),(9,pP 4),(10,vI i)],[(0,bRu e q ch),(1,bRc st l),(2,bRg x y),(3,bRg 0 0),(4,bRg (fF (J7 e y) l (i+1).toNat) (fF (J8 e x) l (i+1).toNat))],5⟩) ((l.length:Int) -1) (ai ai0) ⟨by omega,by omega⟩ ?_;rintro i ⟨zO,hi⟩;by_cases hz:(a:Int)<i
 ·have ak:i.toNat<l.length:=by omega
  have hb:=jC h ak;have s1:=vr (p:=J7 e y) ak;have s2:=vr (p:=J8 e x) ak;rw[show i.toNat+1=(i+1).toNat by omega,show((i.toNat:Nat):Int)=i by omega]at s1 s2;unfold J7 at s1;unfold J8 at s2;simp only[SK]at s1 s2;by_cases k1:2*(l.getD i.toNat 0 -e)<=y
  ·rw[if_pos k1]at s1;by_cases k2:2*(l.getD i.toNat 0+e)<=x
   ·rw[if_pos k2]at s2;exact K42
   ·rw[if_neg k2]at s2;exact K42
  ·rw[if_neg k1]at s1;by_cases k2:2*(l.getD i.toNat 0+e)<=x
   ·rw[if_pos k2]at s2;exact K42
   ·rw[if_neg k2]at s2;exact K42
 ·obtain rfl:i=(a:Int):=by omega
  exact tL
def QR (l:List Int)(e:Int):Int:=fF (EN e 3 (pG l -e)) l 0
def EQ (l:List Int)(e:Int):Int:=fF (EP e 3 (pG l+e)) l 0
def QS (l:List Int)(e:Int):Int:=fF (EN e 9 (pG l -e)) l 0
def ER (l:List Int)(e:Int):Int:=fF (EP e 9 (pG l+e)) l 0
def ox (l:List Int)(e:Int):Int:=fF (J7 e (pG l+e)) l (pk l+1)
def hfh (l:List Int)(e:Int):Int:=fF (J8 e (pG l -e)) l (pk l+1)
abbrev FG (l:List Int)(e:Int):SV:=F9 (pk l:Nat) (pG l -e) (pG l+e) (QR l e) (EQ l e) (QS l e) (ER l e) (ox l e) (hfh l e)
def NT (l:List Int)(e:Int):Int:=if pG l -e<=0 then 21 else if EQ l e<0\/ER l e<0\/hfh l e<0 then 12 else 0
def sY (e:Int)(q:Sp)(ch:List Sp)(st:Int)(l:List Int):Int:=if fM e q ch st l≠0 then fM e q ch st l else NT l e
def anF (a b c:Int):(if c< (if b<a then b else a)then c else if b<a then b else a)<0↔a<0\/b<0\/c<0:=by (repeat' split)<;>omega
def Gv (e:Int)(q:Sp)(ch:List Sp)(st:Int)(l:List Int)(hq:qC q)(vW: ∀s∈ch,qC s)(hc:ch.length<=4294967296)(hl:l.length<=maxLen):ac 74 [Ru e q ch,Rc st l] (.aI (if sY e q ch st l=0 then [FG l e,I 0]else [F9 0 0 0 0 0 0 0 0 0,I (sY e q ch st l)])):=by
 have s1:=Wu e q ch st l hq vW hc hl;by_cases h:fM e q ch st l=0
 ·have FD:sY e q ch st l=NT l e:=by unfold sY;rw[if_neg K0]
  rw[FD];clear FD;rw[h]at s1;obtain⟨h1,h2⟩:=zm h;obtain⟨he,_⟩:=iZ h1;obtain⟨_,k1,k2,k3⟩:=pH h2;have hv:=QO K0 k3;have hp:pk l<l.length:=AA K0;have s2:=Wr (l:=l) (e:=e) K0 hl k3 K0;have s3:=Ij (l:=l) (e:=e) (t:=3) (x:=pG l -e) (y:=pG l+e) hl k3 K0 K0 K0 K0;have s4:=Ij (l:=l) (e:=e) (t:=9) (x:=pG l -e) (y:=pG l+e) hl k3 K0 K0 K0 K0;have s5:=aai (l:=l) (e:=e) (x:=pG l -e) (y:=pG l+e) hp hl k3 K0;change ac _ _ (.one (F2 (QR l e) (EQ l e)))at s3;change ac _ _ (.one (F2 (QS l e) (ER l e)))at s4;change ac _ _ (.one (F2 (ox l e) (hfh l e)))at s5;unfold NT;by_cases hz:pG l -e<=0
  ·rw[if_pos hz,if_neg K0];refine sF f74 ?_;exact K1
  ·rw[if_neg hz];have m:=anF (EQ l e) (ER l e) (hfh l e);by_cases k:EQ l e<0\/ER l e<0\/hfh l e<0
   ·rw[if_pos k,if_neg K0];refine sF f74 ?_
    (try(refine tX 0 ?_;try exact Zt))
    (refine bR ?_ ?_<;>intro h<;>(try conv=>whnf))
    ·exact K1
    ·exact absurd (m.2 k) h
   ·rw[if_neg k,if_pos rfl];refine sF f74 ?_
    (try(refine tX 0 ?_;try exact Zt))
    (refine bR ?_ ?_<;>intro h<;>(try conv=>whnf))
    ·exact absurd (m.1 h) k
    ·exact K1
 ·have FD:sY e q ch st l=fM e q ch st l:=by unfold sY;rw[if_pos h]
  rw[FD,if_neg h];generalize fM e q ch st l=z at*;refine sF f74 ?_;exact K1
def AC (e:Int)(q:Sp)(ch:List Sp)(st:Int)(l:List Int)(hq:qC q)(vW: ∀s∈ch,qC s)(hl:l.length<=maxLen):ac 78 [Ru e q ch,Rc st l] (.aI (if sY e q ch st l=0 then [FG l e,I 0]else [F9 0 0 0 0 0 0 0 0 0,I (sY e q ch st l)])):=by
 have s1:=BG e q ch st l hq vW hl;by_cases h:fM e q ch st l=0
 ·have FD:sY e q ch st l=NT l e:=by unfold sY;rw[if_neg K0]
  rw[FD];clear FD;rw[h]at s1;obtain⟨h1,h2⟩:=zm h;obtain⟨he,_⟩:=iZ h1;obtain⟨_,k1,k2,k3⟩:=pH h2;have hv:=QO K0 k3;have hp:pk l<l.length:=AA K0;have s2:=Ka e q ch st l K0 K0 k2 k3;have s3:=zp e q ch st l 3 (pG l -e) (pG l+e) K0 k2 k3 K0 K0 K0;have s4:=zp e q ch st l 9 (pG l -e) (pG l+e) K0 k2 k3 K0 K0 K0;have s5:=NS e q ch st l (pk l) (pG l -e) (pG l+e) K0 k2 k3 hp;change ac _ _ (.one (F2 (QR l e) (EQ l e)))at s3;change ac _ _ (.one (F2 (QS l e) (ER l e)))at s4;change ac _ _ (.one (F2 (ox l e) (hfh l e)))at s5;unfold NT;by_cases hz:pG l -e<=0
  ·rw[if_pos hz,if_neg K0];refine sF f78 ?_;exact K1
  ·rw[if_neg hz];by_cases k:EQ l e<0\/ER l e<0\/hfh l e<0
   ·rw[if_pos k,if_neg K0];refine sF f78 ?_;exact K5
   ·rw[if_neg k,if_pos rfl];refine sF f78 ?_;exact K1
 ·have FD:sY e q ch st l=fM e q ch st l:=by unfold sY;rw[if_pos h]
  rw[FD,if_neg h];generalize fM e q ch st l=z at*;refine sF f78 ?_;exact K1
abbrev Il (x:Qn):Prop:=(-5000<=x.1/\x.1<=5000)/\1<=x.2/\x.2<=5000
abbrev BI (s:Iv):Prop:=Il s.1/\Il s.2
abbrev qv (x:Qn):SV:=(true,[J x.1,J x.2])
abbrev iv (s:Iv):List SC:=[J s.1.1,J s.1.2,J s.2.1,J s.2.2]
def Ke {x y:Qn}(hx:Il x)(hy:Il y):Qw (x.1*y.2):=by
 have:=alQ (x:=x.1) (y:=y.2) (A:=5000) (B:=5000) hx.1 K0 K0;omega
def aas {x:Qn}(h:Il x):nk x:=by have:=h.2.1;show 0<x.2;omega
def T1 {s:Iv}(h:BI s):nQ s:=⟨aas h.1,aas h.2⟩
def AH {x y:Qn}(hx:Il x)(hy:Il y):ac 263 [qv x,qv y] (.one (Bo (decide (pX x y)))):=H4 x.1 x.2 y.1 y.2 (Ke hx hy) (Ke hy hx)
def BJ {x y:Qn}(hx:Il x)(hy:Il y):ac 369 [qv x,qv y] (.one (qv (zx x y))):=by
 have g:=AH hy hx;unfold zx;by_cases h:pX y x
 ·rw[fL h]at g;rw[if_pos h];refine sF f369 ?_;exact tL
 ·rw[fj h]at g;rw[if_neg h];refine sF f369 ?_;exact tL
def BK {x y:Qn}(hx:Il x)(hy:Il y):ac 368 [qv x,qv y] (.one (qv (zw x y))):=by
 have g:=AH hx hy;unfold zw;by_cases h:pX x y
 ·rw[fL h]at g;rw[if_pos h];refine sF f368 ?_;exact tL
 ·rw[fj h]at g;rw[if_neg h];refine sF f368 ?_;exact tL
def NW {s:Iv}(h:BI s):ac 323 [(true,iv s)] (.one (Bo (decide (ki s)))):=by
 have g:=AH h.2 h.1;refine sF f323 ?_;exact tL
def afg {x y:Qn}(hx:Il x)(hy:Il y):Il (zw x y):=by unfold zw;split<;>assumption
def afh {x y:Qn}(hx:Il x)(hy:Il y):Il (zx x y):=by unfold zx;split<;>assumption
def vt {n d:Int}(hn: -5000<=n/\n<=5000)(hd:1<=d/\d<=5000):Il (lD n d):=by
 have h1:=adb n d;have h2:=agO (n:=n) (d:=d) K0;have h3:=wX (n:=n) (d:=d) K0;show(-5000<=fu n d/\fu n d<=5000)/\1<=eG n d/\eG n d<=5000;omega
abbrev b5 (n:Int):Prop:= -5000<=n/\n<=5000
def NY {s:Iv}{n m:Int}(h:BI s)(hn:b5 n)(hm:b5 m):BI (oX s n m):=by
 unfold oX;split
 ·exact⟨h.1,afh h.2 (vt hm K0)⟩
 ·split
  ·exact⟨afg h.1 (vt K0 K0),h.2⟩
  ·split
   ·unfold agT;exact⟨⟨by decide,by decide⟩,by decide,by decide⟩
   ·exact h
def agU {s o:Iv}(h:BI s)(k:BI o):BI (s6 s o):=⟨afg h.1 k.1,afh h.2 k.2⟩
def ady {s o:Iv}(h:BI s)(k:BI o):ac 348 [(true,iv s),(true,iv o)] (.one (true,iv (s6 s o))):=by
 have g1:=BK h.1 k.1;have g2:=BJ h.2 k.2;refine sF f348 ?_;exact tL
def NZ {n d:Int}(hn:b5 n)(hd:1<=d/\d<=5000):ac 350 [I n,I d] (.one (qv (lD n d))):=Bx n d ⟨by omega,by omega⟩ K0
def EU {s:Iv}{n m:Int}(h:BI s)(hn:b5 n)(hm:b5 m):ac 370 [(true,iv s),I n,I m] (.one (true,iv (oX s n m))):=by
 unfold oX;by_cases h1:n>0
 ·rw[if_pos h1];have g1:=NZ (n:=m) (d:=n) hm K0;have g2:=BJ h.2 (vt (n:=m) (d:=n) hm K0);exact acm
 ·rw[if_neg h1];by_cases h2:n<0
  ·rw[if_pos h2];have g1:=NZ (n:= -m) (d:= -n) K0 K0;have g2:=BK h.1 (vt (n:= -m) (d:= -n) K0 K0);exact acm
  ·rw[if_neg h2];by_cases h3:m<0
   ·rw[if_pos h3];exact acm
   ·rw[if_neg h3];exact acm
abbrev Pr (F:Iv)(e:Int)(a b:List Int):SV:=(true,[J F.1.1,J F.1.2,J F.2.1,J F.2.2,J e,.ints a,.ints b])
abbrev B7 (l:List Int):Prop:=jb l (-4096) 4096
def afi {F:Iv}{e x y:Int}(h:BI F)(he:0<=e/\e<=100)(hx: -4096<=x/\x<=4096)(hy: -4096<=y/\y<=4096):BI (atS F e x y):=NY (NY h K0 K0) K0 K0
def agV {F:Iv}{e:Int}{a b:List Int}{i:Int}(h:BI F)(he:0<=e/\e<=100)(hl:a.length=b.length)(ha:B7 a)(hb:B7 b)(hi:0<=i/\i<a.length):ac 349 [Pr F e a b,I i] (.one (true,iv (atS F e (a.getD i.toNat 0) (b.getD i.toNat 0)))):=by
 have hx:=jC ha (show i.toNat<a.length by omega);have hy:=jC hb (show i.toNat<b.length by omega);have g1:=EU (n:=a.getD i.toNat 0 -e) (m:=b.getD i.toNat 0+e) h K0 K0;have g2:=EU (n:= -a.getD i.toNat 0 -e) (m:=e -b.getD i.toNat 0) (NY (n:=a.getD i.toNat 0 -e) (m:=b.getD i.toNat 0+e) h K0 K0) K0 K0;unfold atS;refine sF f349 ?_;exact tL
def PI (a b ix:List Int):List (Int × Int):=ix.map λw=>(a.getD w.toNat 0,b.getD w.toNat 0)
def EV (n:Nat):List Int:=(List.range n).map λ(i:Nat)=>(i:Int)
def N4 (n:Nat):EV (n+1)=EV n++[(n:Int)]:=by simp[EV,List.range_succ]
def T2 (n:Nat):(EV n).length =n:=by simp[EV]
def Im (F:Iv)(e:Int)(p:Int × Int): ∀(l:List (Int × Int)) (s:Iv),uD F e (l++[p]) s=s6 (uD F e l s) (atS F e p.1 p.2)
 | [],_=>rfl
 |_::l,_=>Im F e p l _
def T3 (a b ix:List Int)(w:Int):PI a b (ix++[w])=PI a b ix++[(a.getD w.toNat 0,b.getD w.toNat 0)]:=by simp[PI]
theorem Ap {l:List Int}{i:Nat}(h:i<l.length):l.take (i+1)=l.take i++[l.getD i 0]:=by rw[List.take_succ_eq_append_getElem h];simp[jN,h]
def Kf {F:Iv}{e:Int}(h:BI F)(he:0<=e/\e<=100): ∀(l:List (Int × Int)) (s:Iv),BI s->(∀p∈l,(-4096<=p.1/\p.1<=4096)/\ -4096<=p.2/\p.2<=4096)->BI (uD F e l s)
 | [],_,hs,_=>hs
 |p::l,_,hs,hp=>Kf h he l _ (agU hs (afi h he (hp p (jx ..)).1 (hp p (jx ..)).2)) λp Le=>hp p (ji _ Le)
def aat {a b ix:List Int}(ha:B7 a)(hb:B7 b)(hl:a.length=b.length)(hi: ∀w∈ix,0<=w/\w<a.length): ∀p∈PI a b ix,(-4096<=p.1/\p.1<=4096)/\ -4096<=p.2/\p.2<=4096:=by
 intro p hp;obtain⟨w,hw,rfl⟩:=dT.1 hp;have:=hi w hw;exact⟨jC ha K0,jC hb K0⟩
def QU (n:Nat): ∀w∈EV n,0<=w/\w<n:=by
 intro w hw;obtain⟨i,hi,rfl⟩:=dT.1 hw;have:=List.mem_range.1 hi;omega
def adz {F:Iv}{e:Int}{a b:List Int}(h:BI F)(he:0<=e/\e<=100)(hl:a.length=b.length)(hn:a.length<=64)(ha:B7 a)(hb:B7 b):ac 322 [Pr F e a b] (.one (true,iv (uD F e (PI a b (EV a.length)) F))):=by
 refine sF f322 ?_
 (try(refine tX 0 ?_;try exact Zt))
 refine af (ι:=Nat) (λi=>i<=a.length) (λi=>a.length -i) (λi=>⟨[(1,pP 0),(2,pP 1),(3,pP 2),(9,vI a.length),(10,vI i)],[(0,some (.box 396 [.st (J F.1.1),.st (J F.1.2),.st (J F.2.1),.st (J F.2.2),.st (J e),.st (.ints a),.st (.ints b)])),(1,some (.box 394 [.st (J 0),.st (J 0),.st (J 0),.st (J 0)])),
  (2,some (.box 394 ((iv (uD F e (PI a b (EV i)) F)).map .st)))],3⟩) 0 Zc (dD _) ?_
 intro i hi;have hB:=Kf h he (PI a b (EV i)) F h (aat ha hb hl (λw hw=>by have:=QU i w hw;omega));by_cases ak:i<a.length
 ·have g1:=agV (i:=(i:Int)) h he hl ha hb K0;have g2:=ady hB (afi h he (jC ha (show(i:Int).toNat <a.length by omega)) (jC hb (show(i:Int).toNat <b.length by omega)));have e1:uD F e (PI a b (EV (i+1))) F=s6 (uD F e (PI a b (EV i)) F) (atS F e (a.getD (i:Int).toNat 0) (b.getD (i:Int).toNat 0)):=by rw[N4,T3,Im]
  generalize uD F e (PI a b (EV i)) F=S at*
  (try(refine tX 0 ?_;try exact Zt))
  exact⟨i+1,ak,by omega,ai (by rw[e1];kernel_rfl)⟩
 ·obtain rfl:i=a.length:=by omega
  exact K1
abbrev GA (q:Sp):Iv:=((q.1,q.2.1),(q.2.2.1,q.2.2.2))
def agW {q:Sp}(h:dN q=0):BI (GA q):=by
 obtain⟨⟨h1,h2,h3,h4⟩,_⟩:=mM h;exact⟨⟨⟨show -5000<=q.1 by omega,show q.1<=5000 by omega⟩,show 1<=q.2.1 by omega,show q.2.1<=5000 by omega⟩,⟨show -5000<=q.2.2.1 by omega,show q.2.2.1<=5000 by omega⟩,show 1<=q.2.2.2 by omega,show q.2.2.2<=5000 by omega⟩
def agX {q:Sp}(h:dN q=0): ¬ki (GA q):=(mM h).2.2.2
def dC (e:Int)(q:Sp)(ch:List Sp)(sa:Int)(la:List Int)(sb:Int)(lb:List Int):Int:=if aY e q ch≠0 then aY e q ch else if dn sa la≠0 then dn sa la else if dn sb lb≠0 then dn sb lb else if sa=sb/\(la.length:Int)=lb.length then 0 else 10
def Kg {e:Int}{q:Sp}{ch:List Sp}{sa:Int}{la:List Int}{sb:Int}{lb:List Int}(h:dC e q ch sa la sb lb=0):aY e q ch=0/\dn sa la=0/\dn sb lb=0/\sa=sb/\la.length=lb.length:=by
 unfold dC at h;repeat' split at h
 all_goals first|omega|exact⟨by omega,by omega,by omega,by omega,by omega⟩
def xb {e:Int}{q:Sp}{ch:List Sp}{sa:Int}{la:List Int}{sb:Int}{lb:List Int}(h:dC e q ch sa la sb lb=0):(0<=e/\e<=100)/\BI (GA q)/\¬ki (GA q)/\(3<=la.length/\la.length<=64)/\la.length=lb.length/\B7 la/\B7 lb:=by
 obtain⟨h1,h2,h3,_,h5⟩:=Kg h;obtain⟨g1,g2,_⟩:=iZ h1;obtain⟨_,k1,k2,k3⟩:=pH h2;obtain⟨_,_,_,m3⟩:=pH h3;exact⟨g1,agW g2,agX g2,⟨k1,k2⟩,h5,k3,m3⟩
def T4 (e:Int)(q:Sp)(la lb:List Int):Iv:=uD (GA q) e (PI la lb (EV la.length)) (GA q)
def agY {e:Int}{q:Sp}{la lb:List Int}(h:BI (GA q))(he:0<=e/\e<=100)(hl:la.length=lb.length)(ha:B7 la)(hb:B7 lb):BI (T4 e q la lb):=
 Kf h he _ _ h (aat ha hb hl (λw hw=>by have:=QU _ w hw;omega))
def Kh (e:Int)(q:Sp)(ch:List Sp)(sa:Int)(la:List Int)(sb:Int)(lb:List Int)(hq:qC q)(vW: ∀s∈ch,qC s)(hc:ch.length<=4294967296)(R9:la.length<=maxLen)(O5:lb.length<=maxLen):
  ac 321 [Ru e q ch,Rc sa la,Rc sb lb] (.aI [Pr (GA q) e la lb,I (dC e q ch sa la sb lb)]):=by
 have s1:=k7 e q ch hq vW hc;have s2:=jZ sa la R9;have s3:=jZ sb lb O5;have f:=fs4 (aY e q ch) (dn sa la) (dn sb lb) (if sa=sb/\(la.length:Int)=lb.length then 0 else 10);have f':fs [aY e q ch,dn sa la,dn sb lb,if sa=sb/\(la.length:Int)=lb.length then 0 else 10]=dC e q ch sa la sb lb:=by rw[f];unfold dC;(repeat' split)<;>first|omega|rfl
 rw[<- f'];clear f f';by_cases h1:sa=sb
 ·by_cases h2:(la.length:Int)=lb.length
  ·rw[if_pos ⟨h1,h2⟩];refine sF f321 ?_;repeat((first|(refine kO 7 rfl ?_;first|refine rG (λ_ z=>⟨_,M4 (show _ by simp[h1,h2]) _,z⟩) ?_|refine rG (λ_ z=>⟨_,g9 _ (fO rfl),z⟩) ?_)|refine tX 0 ?_|exact Zt);(try conv=>whnf))
   exact K7
  ·rw[if_neg (λh=>h2 h.2)];refine sF f321 ?_;repeat((first|(refine kO 7 rfl ?_;first|refine rG (λ_ z=>⟨_,D8 (show ¬_ by simp[h1,h2]) _,z⟩) ?_|refine rG (λ_ z=>⟨_,g9 _ (fO rfl),z⟩) ?_)|refine tX 0 ?_|exact Zt);(try conv=>whnf))
   exact K7
 ·rw[if_neg (λh=>h1 h.1)];refine sF f321 ?_;repeat((first|(refine kO 7 rfl ?_;first|refine rG (λ_ z=>⟨_,D8 (show ¬_ by simp[h1]) _,z⟩) ?_|refine rG (λ_ z=>⟨_,g9 _ (fO rfl),z⟩) ?_)|refine tX 0 ?_|exact Zt);(try conv=>whnf))
  exact K7
def Wx (z e:Int)(s:Iv):List SV:=if z≠0 then [I 0,I z]else if ki s then [I 2,I 0]else if e=0 then [I 0,I 0]else [I 1,I 0]
def AI (e:Int)(q:Sp)(ch:List Sp)(sa:Int)(la:List Int)(sb:Int)(lb:List Int)(hq:qC q)(vW: ∀s∈ch,qC s)(hc:ch.length<=4294967296)(R9:la.length<=maxLen)(O5:lb.length<=maxLen):
  ac 291 [Ru e q ch,Rc sa la,Rc sb lb] (.aI (Wx (dC e q ch sa la sb lb) e (T4 e q la lb))):=by
 have s1:=Kh e q ch sa la sb lb hq vW hc R9 O5;unfold Wx;by_cases h:dC e q ch sa la sb lb=0
 ·rw[h]at s1 ⊢;rw[if_neg K0];obtain⟨he,hF,_,hn,hl,ha,hb⟩:=xb h;have s2:=adz hF he hl K0 ha hb;have s3:=NW (agY (q:=q) hF he hl ha hb);rw[show uD (GA q) e (PI la lb (EV la.length)) (GA q)=T4 e q la lb from rfl]at s2;generalize T4 e q la lb=S at*;by_cases hE:ki S
  ·rw[if_pos hE];rw[fL hE]at s3;refine sF f291 ?_;exact K1
  ·rw[if_neg hE];rw[fj hE]at s3;by_cases h0:e=0
   ·rw[if_pos h0];refine sF f291 ?_;exact K1
   ·rw[if_neg h0];refine sF f291 ?_;exact K1
 ·rw[if_pos h];generalize dC e q ch sa la sb lb=z at*;refine sF f291 ?_;exact K1
def Ow (e:Int)(q:Sp)(ch:List Sp)(sa:Int)(la:List Int)(sb:Int)(lb:List Int)(hq:qC q)(vW: ∀s∈ch,qC s)(R9:la.length<=maxLen)(O5:lb.length<=maxLen):
  ac 339 [Ru e q ch,Rc sa la,Rc sb lb] (.one (I (dC e q ch sa la sb lb))):=by
 have s1:=BG e q ch sa la hq vW R9;have s2:=lZ sb lb O5;have f:dC e q ch sa la sb lb=if fM e q ch sa la≠0 then fM e q ch sa la else if dn sb lb≠0 then dn sb lb else if sa=sb/\(la.length:Int)=lb.length then 0 else 10:=by unfold dC fM;(repeat' split)<;>first|omega|rfl
 rw[f];clear f;generalize fM e q ch sa la=u at*;generalize dn sb lb=v at*;by_cases h1:u=0
 ·rw[if_neg K0];by_cases h2:v=0
  ·rw[if_neg K0];subst h1 h2;by_cases h3:sa=sb
   ·by_cases h4:(la.length:Int)=lb.length
    ·rw[if_pos ⟨h3,h4⟩];refine sF f339 ?_;exact K1
    ·rw[if_neg (λh=>h4 h.2)];refine sF f339 ?_;exact K1
   ·rw[if_neg (λh=>h3 h.1)];refine sF f339 ?_;exact K1
  ·rw[if_pos h2];subst h1;refine sF f339 ?_;exact K1
 ·rw[if_pos h1];refine sF f339 ?_;exact K1
def Ox {n d:Int}(hn:b5 n)(hd:1<=d/\d<=5000):ac 371 [I n,I d] (.one (qv (lD n d))):=Qq n d ⟨by omega,by omega⟩ K0
def Ug {n g:Int}(hn:TE (-n))(hg:0<g)(hd:g∣n):IntKind.i64.wrap (n.tdiv (-g))= -n/g:=by
 rw[Int.tdiv_neg,<- Int.neg_tdiv];exact JS hn hg (Int.dvd_neg.2 hd)
def KA {n d:Int}(hn:b5 n)(hd: -5000<=d/\d<= -1):ac 371 [I n,I d] (.one (qv (lD (-n) (-d)))):=by
 have g:=JO n d ⟨by omega,by omega⟩ ⟨by omega,by omega⟩ (λ_=>by omega);have hp:=aeA n (show d≠0 by omega)
 have eC:Int.gcd n d<=5000:=by
  have:=Nat.le_of_dvd K0 (Int.gcd_dvd_natAbs_right n d);omega
 have e1:Int.gcd (-n) (-d)=Int.gcd n d:=by rw[Int.gcd_neg,Int.neg_gcd]
 unfold lD fu eG;rw[e1];have d1:(Int.gcd n d:Int)∣n:=Int.gcd_dvd_left ..;have d2:(Int.gcd n d:Int)∣d:=Int.gcd_dvd_right ..;generalize hk:(Int.gcd n d:Int)=k at*;refine sF f371 ?_
 (try(refine tX 0 ?_;try exact Zt))
 exact Zz (Ug ⟨by omega,by omega⟩ K0 d1) (Ug ⟨by omega,by omega⟩ K0 d2)
def cq (x y:Qn):Int:=Qv x.1 x.2 y.1 y.2
def al9 (x y:Qn):cq x y<0↔pX x y:=by unfold cq Qv pX;(repeat' split)<;>omega
def afn (x y:Qn):cq x y>0↔pX y x:=by unfold cq Qv pX;(repeat' split)<;>omega
def ama (x y:Qn):cq x y<=0↔¬pX y x:=by rw[<- afn];omega
def Fj {x y:Qn}(hx:Il x)(hy:Il y):ac 269 [qv x,qv y] (.one (I (cq x y))):=by
 have h1:=Ke hx hy;have h2:=Ke hy hx;exact JT x.1 x.2 y.1 y.2 (by unfold Qw at h1;omega) (by unfold Qw at h2;omega)
def lm (s:Iv)(n m:Int):Iv × Bool:=if n=0/\m<0 then(s,false)else(oX s n m,decide (¬ki (oX s n m)))
def IB {s:Iv}{n m:Int}(h:BI s)(hn:b5 n)(hm:b5 m):ac 352 [(true,iv s),I n,I m] (.aI [(true,iv (lm s n m).1),Bo (lm s n m).2]):=by
 have hB:=NY h hn hm;have g3:=Fj hB.1 hB.2;have e3:decide (¬ki (oX s n m))=decide (cq (oX s n m).1 (oX s n m).2<=0):=decide_eq_decide.2 (ama _ _).symm;unfold lm;by_cases h0:n=0/\m<0
 ·rw[if_pos h0];refine sF f352 ?_;exact K1
 ·rw[if_neg h0,e3];clear e3 hB;dsimp only;by_cases h1:n>0
  ·have g1:=Ox (n:=m) (d:=n) hm K0;have g2:=Fj (vt (n:=m) (d:=n) K0 K0) h.2;have ea:oX s n m=(s.1,zx s.2 (lD m n)):=if_pos h1;rw[ea]at g3 ⊢;dsimp only at g3 ⊢;have c2:=al9 (lD m n) s.2;by_cases hL:pX (lD m n) s.2
   ·have hc:=c2.2 hL;rw[show zx s.2 (lD m n)=lD m n from if_pos hL]at g3 ⊢;generalize cq (lD m n) s.2=k2 at*;generalize lD m n=f at*;generalize cq s.1 f=k3 at*;refine sF f352 ?_;exact K1
   ·have hc:=λhh=>hL (c2.1 hh);rw[show zx s.2 (lD m n)=s.2 from if_neg hL]at g3 ⊢;generalize cq (lD m n) s.2=k2 at*;generalize lD m n=f at*;generalize cq s.1 s.2=k3 at*;refine sF f352 ?_;exact K1
  ·by_cases h2:n<0
   ·have g1:=KA (n:=m) (d:=n) hm K0;have g2:=Fj (vt (n:= -m) (d:= -n) K0 K0) h.1;have ea:oX s n m=(zw s.1 (lD (-m) (-n)),s.2):=by unfold oX;rw[if_neg h1,if_pos h2]
    rw[ea]at g3 ⊢;dsimp only at g3 ⊢;have c2:=afn (lD (-m) (-n)) s.1;by_cases hL:pX s.1 (lD (-m) (-n))
    ·have hc:=c2.2 hL;rw[show zw s.1 (lD (-m) (-n))=lD (-m) (-n)from if_pos hL]at g3 ⊢;generalize cq (lD (-m) (-n)) s.1=k2 at*;generalize lD (-m) (-n)=f at*;generalize cq f s.2=k3 at*;refine sF f352 ?_;exact K1
    ·have hc:=λhh=>hL (c2.1 hh);rw[show zw s.1 (lD (-m) (-n))=s.1 from if_neg hL]at g3 ⊢;generalize cq (lD (-m) (-n)) s.1=k2 at*;generalize lD (-m) (-n)=f at*;generalize cq s.1 s.2=k3 at*;refine sF f352 ?_;exact K1
   ·have ea:oX s n m=s:=by unfold oX;rw[if_neg h1,if_neg h2,if_neg K0]
    rw[ea]at g3 ⊢;generalize cq s.1 s.2=k3 at*;refine sF f352 ?_;exact K1
def Fk (e:Int)(k:List (Int × Int)): ∀(l:List (Int × Int)) (s:Option Iv),sc e (l++k) s=sc e k (sc e l s)
 | [],_=>rfl
 |_::l,_=>Fk e k l _
def Uh (s:Iv)(n m:Int):QT s n m=if(lm s n m).2 then some (lm s n m).1 else none:=by
 unfold QT lm;by_cases h:n=0/\m<0
 ·rw[if_pos h,if_pos h];simp
 ·rw[if_neg h,if_neg h];by_cases h':ki (oX s n m)
  ·rw[if_pos h'];simp[h']
  ·rw[if_neg h'];simp[h']
def afo {s:Iv}{n m:Int}(h:BI s)(hn:b5 n)(hm:b5 m):BI (lm s n m).1:=by
 unfold lm;split
 ·exact h
 ·exact NY h hn hm
abbrev vBo (b:Bool):Option DV:=some (.val (false,[.st (.lit (.bool b))]))
def ahd (o:Option Iv):List SV:=match o with|some s=>[(true,iv s),Bo true]|none=>[F4 0 0 0 0,Bo false]
def Fl {e:Int}{q:Sp}(ch:List Sp)(sa sb:Int){la lb ix:List Int}(h:BI (GA q))(he:0<=e/\e<=100)(hl:la.length=lb.length)(hx:ix.length<=70)(ha:B7 la)(hb:B7 lb)(hi: ∀w∈ix,0<=w/\w<la.length):
  ac 340 [Ru e q ch,Rc sa la,Rc sb lb,L ix] (.aI (ahd (sc e (PI la lb ix) (some (GA q))))):=by
 refine sF f340 ?_
 (try(refine tX 0 ?_;try exact Zt))
 refine af (ι:=Nat × Iv × Bool) (λp=>p.1<=ix.length/\BI p.2.1/\if p.2.2 then sc e (PI la lb (ix.take p.1)) (some (GA q))=some p.2.1 else sc e (PI la lb ix) (some (GA q))=none) (λp=>ix.length -p.1)
  (λp=>⟨[(3,vL ix),(4,pP 0),(5,pP 1),(6,pP 2),(8,pP 3),(10,pP 4),(11,vBo p.2.2),(12,vI p.1)],[(0,bRu e q ch),(1,bRc sa la),(2,bRc sb lb),(3,some (.box 161 [.st (J 0),.st (J 0),.st (J 0),.st (J 0)])),(4,some (.box 161 ((iv p.2.1).map .st)))],5⟩) (0,GA q,true) Zc ⟨dD _,h,rfl⟩ ?_
 rintro⟨i,s,ok⟩ ⟨lA,hB,hs⟩;dsimp only at lA hB hs ⊢;cases ok
 ·rw[if_neg K9]at hs;rw[hs];by_cases ak:i<ix.length
  ·exact K1
  ·exact K1
 ·rw[if_pos rfl]at hs;by_cases ak:i<ix.length
  ·have hw:=hi _ (qB (d:=0) ak);have hwx:=jC ha (show(ix.getD i 0).toNat <la.length by omega);have hwy:=jC hb (show(ix.getD i 0).toNat <lb.length by omega);have e1:sc e (PI la lb (ix.take (i+1))) (some (GA q))=Ik s e (la.getD (ix.getD i 0).toNat 0) (lb.getD (ix.getD i 0).toNat 0):=by rw[Ap ak,T3,Fk,hs];rfl
   have e2:sc e (PI la lb ix) (some (GA q))=sc e (PI la lb (ix.drop (i+1))) (sc e (PI la lb (ix.take (i+1))) (some (GA q))):=by rw[<- Fk,PI,PI,PI,<- zZ,LB]
   have g1:=IB (s:=s) (n:=la.getD (ix.getD i 0).toNat 0 -e) (m:=lb.getD (ix.getD i 0).toNat 0+e) hB K0 K0;have d1:=afo (s:=s) (n:=la.getD (ix.getD i 0).toNat 0 -e) (m:=lb.getD (ix.getD i 0).toNat 0+e) hB K0 K0;unfold Ik at e1;rw[Uh]at e1;generalize lm s (la.getD (ix.getD i 0).toNat 0 -e) (lb.getD (ix.getD i 0).toNat 0+e)=A at*;obtain⟨s1,o1⟩:=A;dsimp only at g1 d1 e1;cases o1
   ·rw[if_neg K9,Option.bind_none]at e1;rw[e1,zB]at e2
    (try(refine tX 0 ?_;try exact Zt))
    exact⟨(i+1,s1,false),⟨ak,d1,by dsimp only;rw[if_neg K9];exact e2⟩,by dsimp only;omega,Zc⟩
   ·rw[if_pos rfl,LI,Uh]at e1;have g2:=IB (s:=s1) (n:= -la.getD (ix.getD i 0).toNat 0 -e) (m:=e -lb.getD (ix.getD i 0).toNat 0) d1 K0 K0;have d2:=afo (s:=s1) (n:= -la.getD (ix.getD i 0).toNat 0 -e) (m:=e -lb.getD (ix.getD i 0).toNat 0) d1 K0 K0;generalize lm s1 (-la.getD (ix.getD i 0).toNat 0 -e) (e -lb.getD (ix.getD i 0).toNat 0)=A at*;obtain⟨s2,o2⟩:=A;dsimp only at g2 d2 e1
    (try(refine tX 0 ?_;try exact Zt))
    refine⟨(i+1,s2,o2),⟨ak,d2,?_⟩,by dsimp only;omega,Zc⟩;dsimp only;cases o2
    ·rw[if_neg K9]at e1 ⊢;rw[e1,zB]at e2;exact e2
    ·exact e1
  ·obtain rfl:i=ix.length:=by omega
   rw[mA]at hs;rw[hs];exact K1
def Ri (st:Int){l:List Int}(h:1<=l.length/\l.length<=64):ac 341 [Rc st l] (.own 1 (.ints (EV l.length))):=by
 refine sF f341 ?_
 (try(refine tX 0 ?_;try exact Zt))
 refine aA ?_
 (try(refine tX 0 ?_;try exact Zt))
 refine af (ι:=Nat) (λi=>1<=i/\i<=l.length) (λi=>l.length -i) (λi=>⟨[(1,pP 0),(3,pO 1),(4,vI i)],[(0,bRc st l),(1,some (.row true 1 (.ints (EV i))))],2⟩) 1 Zc ⟨by omega,by omega⟩ ?_;rintro i ⟨h1,h2⟩;by_cases ak:i<l.length
 ·have n1:=T2 i;have e1:=N4 i;generalize EV i=r at*
  (try(refine tX 0 ?_;try exact Zt))
  exact⟨i+1,⟨by omega,ak⟩,by omega,ai (by rw[e1];kernel_rfl)⟩
 ·obtain rfl:i=l.length:=by omega
  exact K1
def Oy {e:Int}{q:Sp}{ch:List Sp}{sa:Int}{la:List Int}{sb:Int}{lb:List Int}(h:dC e q ch sa la sb lb=0):
  (∃o,sc e (PI la lb (EV la.length)) (some (GA q))=some o/\T4 e q la lb=o/\¬ki o)\/(sc e (PI la lb (EV la.length)) (some (GA q))=none/\ki (T4 e q la lb)):=by
 obtain⟨_,hF,eU,_⟩:=xb h;exact TZ (T1 hF) (PI la lb (EV la.length)) (T1 hF) (uC _) eU
def vT (e:Int)(q:Sp)(ch:List Sp)(sa:Int)(la:List Int)(sb:Int)(lb:List Int)(hq:qC q)(vW: ∀s∈ch,qC s)(R9:la.length<=maxLen)(O5:lb.length<=maxLen):
  ac 309 [Ru e q ch,Rc sa la,Rc sb lb] (.aI (Wx (dC e q ch sa la sb lb) e (T4 e q la lb))):=by
 have s1:=Ow e q ch sa la sb lb hq vW R9 O5;unfold Wx;by_cases h:dC e q ch sa la sb lb=0
 ·obtain⟨he,hF,_,hn,hl,ha,hb⟩:=xb h;have s2:=Ri sa (l:=la) K0;have s3:=Fl (ix:=EV la.length) ch sa sb hF he hl (by rw[T2];omega) ha hb (λw hw=>QU _ w hw);have hf:=Oy h;rw[h]at s1 ⊢;rw[if_neg K0];generalize T4 e q la lb=S at*;generalize sc e (PI la lb (EV la.length)) (some (GA q))=O at*;generalize EV la.length=r at*
  rcases hf with⟨o,rfl,rfl,h1⟩|⟨rfl,h1⟩
  ·rw[if_neg h1];unfold ahd at s3;by_cases h0:e=0
   ·rw[if_pos h0];refine sF f309 ?_;exact K1
   ·rw[if_neg h0];refine sF f309 ?_;exact K1
  ·rw[if_pos h1];unfold ahd at s3;refine sF f309 ?_;exact K1
 ·rw[if_pos h];generalize dC e q ch sa la sb lb=z at*;refine sF f309 ?_;exact K1
end Go.Proofs.Tryz
