import Derived.Test.YtolnfpljgjpbpaaGreatDoorPk9
import Derived.Test.YtolnfpljgjpbpaaGreatDoorPk10
set_option linter.all false
set_option maxRecDepth 100000
set_option maxHeartbeats 8000000
namespace Go.Proofs.Tryz
open Go.Fw Go.IntWalk Go.Plain
def pJ {st:Int}{l:List Int}(h:dj st l=0):(1<=st/\st<=1000000)/\3<=l.length/\l.length<=64/\i6 l (-4096) 4096:=by grind[dj]
def fK (e:Int)(q:Sp)(ch:List Sp)(st:Int)(l:List Int):Int:=if aV e q ch≠0 then aV e q ch else dj st l
def zp {e:Int}{q:Sp}{ch:List Sp}{st:Int}{l:List Int}(h:fK e q ch st l=0):aV e q ch=0/\dj st l=0:=by grind[fK]
def BX (e:Int)(q:Sp)(ch:List Sp)(st:Int)(l:List Int)(hq:qE q)(wl: ∀s∈ch,qE s)(hl:l.length<=maxLen):ac 311 [Ru e q ch,Rc st l] (.one (I (fK e q ch st l))):=by
 have s1:=ni e q ch hq wl;have s2:=lX st l hl;unfold fK;by_cases h:aV e q ch=0
 ·rw[if_neg K0];rw[h]at s1;refine sF f311 ?_;exact tL
 ·rw[if_pos h];generalize aV e q ch=z at*;refine sF f311 ?_;exact tL
def Wz (e:Int)(q:Sp)(ch:List Sp)(st:Int)(l:List Int)(hq:qE q)(wl: ∀s∈ch,qE s)(hc:ch.length<=4294967296)(hl:l.length<=maxLen):ac 229 [Ru e q ch,Rc st l] (.aI [Rr l e,I (fK e q ch st l)]):=by
 have s1:=k6 e q ch hq wl hc;have s2:=j6 st l hl;have f:=fs2 (aV e q ch) (dj st l);rw[show(if aV e q ch≠0 then aV e q ch else dj st l)=fK e q ch st l from rfl]at f;rw[<- f];refine sF f229 ?_;exact tL
abbrev bRu (e:Int)(q:Sp)(ch:List Sp):Option cC:=some (.box 181 [.st (J e),.st (J q.1),.st (J q.2.1),.st (J q.2.2.1),.st (J q.2.2.2),.st (.view (ch.map sp))])
abbrev bRc (st:Int)(l:List Int):Option cC:=some (.box 249 [.st (J st),.st (.ints l)])
abbrev bRg (a b:Int):Option cC:=some (.box 71 [.st (J a),.st (J b)])
def KA (e:Int)(q:Sp)(ch:List Sp)(st:Int)(l:List Int)(he:0<=e/\e<=1000)(h0:0<l.length)(hl:l.length<=64)(hA:i6 l (-4096) 4096):ac 312 [Ru e q ch,Rc st l] (.aI [I (pk l:Nat),F2 (pI l -e) (pI l+e)]):=by
 refine sF f312 ?_
 (try(refine tX 0 ?_;try exact Zt))
 refine af (ι:=Nat) (λi=>i<=l.length) (λi=>l.length -i) (λi=>⟨[(2,pP 0),(3,pP 1),(5,pP 2),(6,vI (CQ l i:Nat)),(7,vI i)],[(0,bRu e q ch),(1,bRc st l),(2,bRg 0 0)],3⟩) 0 Zc (dz _) ?_;intro i hi
 have hp:CQ l i<l.length:=by
  by_cases e0:i=0
  ·subst e0;exact h0
  ·have:=AO (l:=l) (i:=i) K0;omega
 (try(refine tX 0 ?_;try exact Zt))
 (refine bR ?_ ?_<;>intro h<;>(try conv=>whnf))
 ·have al:i<l.length:=by omega
  (try(refine tX 0 ?_;try exact Zt))
  (refine bR ?_ ?_<;>intro h<;>(try conv=>whnf))
  ·have hs:CQ l (i+1)=i:=if_pos h;exact K76
  ·have hs:CQ l (i+1)=CQ l i:=if_neg h;exact K76
 ·obtain rfl:i=l.length:=by omega
  have hb:=jA hA hp;exact K1
def zq (e:Int)(q:Sp)(ch:List Sp)(st:Int)(l:List Int)(t x y:Int)(he:0<=e/\e<=1000)(hl:l.length<=64)(h:i6 l (-4096) 4096)(ht:0<=t/\t<=10)(hx:smp x)(hy:smp y):ac 313 [Ru e q ch,Rc st l,I t,F2 x y] (.one (F2 (fF (Fe e t x) l 0) (fF (Ff e t y) l 0))):=by
 have m1:=Kz ht hx;have m2:=Kz ht hy;refine sF f313 ?_
 (try(refine tX 0 ?_;try exact Zt))
 refine af (ι:=Int) (λi=> -1<=i/\i<l.length) (λi=>(i+1).toNat) (λi=>⟨[(2,vI t),(4,pP 0),(5,pP 1),(7,pP 2),(8,pP 3),(9,pP 4),(10,vI i)],[(0,bRu e q ch),(1,bRc st l),(2,bRg x y),(3,bRg 0 0),(4,bRg (fF (Fe e t x) l (i+1).toNat) (fF (Ff e t y) l (i+1).toNat))],5⟩) ((l.length:Int) -1) (ai aiy) ⟨by omega,by omega⟩ ?_;rintro i ⟨xJ,hi⟩;by_cases hz:0<=i
 ·have al:i.toNat<l.length:=by omega
  have hb:=jA h al;have s1:=vJ (p:=Fe e t x) al;have s2:=vJ (p:=Ff e t y) al;rw[show i.toNat+1=(i+1).toNat by omega,show((i.toNat:Nat):Int)=i by omega]at s1 s2;unfold Fe at s1;unfold Ff at s2;simp only[SY]at s1 s2;by_cases k1:10*(l.getD i.toNat 0+e)>=t*x
  ·rw[if_pos k1]at s1;by_cases k2:10*(l.getD i.toNat 0 -e)>=t*y
   ·rw[if_pos k2]at s2;exact K36
   ·rw[if_neg k2]at s2;exact K36
  ·rw[if_neg k1]at s1;by_cases k2:10*(l.getD i.toNat 0 -e)>=t*y
   ·rw[if_pos k2]at s2;exact K36
   ·rw[if_neg k2]at s2;exact K36
 ·obtain rfl:i= -1:=by omega
  exact tL
def Om (e:Int)(q:Sp)(ch:List Sp)(st:Int)(l:List Int)(a:Nat)(x y:Int)(he:0<=e/\e<=1000)(hl:l.length<=64)(h:i6 l (-4096) 4096)(ha:a<l.length):ac 314 [Ru e q ch,Rc st l,I (a:Nat),F2 x y] (.one (F2 (fF (Kx e y) l (a+1)) (fF (Ky e x) l (a+1)))):=by
 refine sF f314 ?_
 (try(refine tX 0 ?_;try exact Zt))
 refine af (ι:=Int) (λi=>(a:Int)<=i/\i<l.length) (λi=>(i+1).toNat) (λi=>⟨[(2,vI (a:Nat)),(4,pP 0),(5,pP 1),(7,pP 2),(8,pP 3),(9,pP 4),(10,vI i)],[(0,bRu e q ch),(1,bRc st l),(2,bRg x y),(3,bRg 0 0),(4,bRg (fF (Kx e y) l (i+1).toNat) (fF (Ky e x) l (i+1).toNat))],5⟩) ((l.length:Int) -1) (ai aiy) ⟨by omega,by omega⟩ ?_;rintro i ⟨xJ,hi⟩;by_cases hz:(a:Int)<i
 ·have al:i.toNat<l.length:=by omega
  have hb:=jA h al;have s1:=vJ (p:=Kx e y) al;have s2:=vJ (p:=Ky e x) al;rw[show i.toNat+1=(i+1).toNat by omega,show((i.toNat:Nat):Int)=i by omega]at s1 s2;unfold Kx at s1;unfold Ky at s2;simp only[SY]at s1 s2;by_cases k1:2*(l.getD i.toNat 0 -e)<=y
  ·rw[if_pos k1]at s1;by_cases k2:2*(l.getD i.toNat 0+e)<=x
   ·rw[if_pos k2]at s2;exact K37
   ·rw[if_neg k2]at s2;exact K37
  ·rw[if_neg k1]at s1;by_cases k2:2*(l.getD i.toNat 0+e)<=x
   ·rw[if_pos k2]at s2;exact K37
   ·rw[if_neg k2]at s2;exact K37
 ·obtain rfl:i=(a:Int):=by omega
  exact tL
def Re (l:List Int)(e:Int):Int:=fF (Fe e 3 (pI l -e)) l 0
def Fg (l:List Int)(e:Int):Int:=fF (Ff e 3 (pI l+e)) l 0
def Rf (l:List Int)(e:Int):Int:=fF (Fe e 9 (pI l -e)) l 0
def Fh (l:List Int)(e:Int):Int:=fF (Ff e 9 (pI l+e)) l 0
def ov (l:List Int)(e:Int):Int:=fF (Kx e (pI l+e)) l (pk l+1)
def hfh (l:List Int)(e:Int):Int:=fF (Ky e (pI l -e)) l (pk l+1)
abbrev FG (l:List Int)(e:Int):SV:=F9 (pk l:Nat) (pI l -e) (pI l+e) (Re l e) (Fg l e) (Rf l e) (Fh l e) (ov l e) (hfh l e)
def On (l:List Int)(e:Int):Int:=if pI l -e<=0 then 21 else if Fg l e<0\/Fh l e<0\/hfh l e<0 then 12 else 0
def s8 (e:Int)(q:Sp)(ch:List Sp)(st:Int)(l:List Int):Int:=if fK e q ch st l≠0 then fK e q ch st l else On l e
def amN (a b c:Int):(if c< (if b<a then b else a)then c else if b<a then b else a)<0↔a<0\/b<0\/c<0:=by (repeat' split)<;>omega
def G3 (e:Int)(q:Sp)(ch:List Sp)(st:Int)(l:List Int)(hq:qE q)(wl: ∀s∈ch,qE s)(hc:ch.length<=4294967296)(hl:l.length<=maxLen):ac 183 [Ru e q ch,Rc st l] (.aI (if s8 e q ch st l=0 then [FG l e,I 0]else [F9 0 0 0 0 0 0 0 0 0,I (s8 e q ch st l)])):=by
 have s1:=Wz e q ch st l hq wl hc hl;by_cases h:fK e q ch st l=0
 ·have Gi:s8 e q ch st l=On l e:=by unfold s8;rw[if_neg K0]
  rw[Gi];clear Gi;rw[h]at s1;obtain⟨h1,h2⟩:=zp h;obtain⟨he,_⟩:=iU h1;obtain⟨_,k1,k2,k3⟩:=pJ h2;have hv:=Ra K0 k3;have hp:pk l<l.length:=AO K0;have s2:=Ww (l:=l) (e:=e) K0 hl k3 K0;have s3:=IN (l:=l) (e:=e) (t:=3) (x:=pI l -e) (y:=pI l+e) hl k3 K0 K0 K0 K0;have s4:=IN (l:=l) (e:=e) (t:=9) (x:=pI l -e) (y:=pI l+e) hl k3 K0 K0 K0 K0;have s5:=aaj (l:=l) (e:=e) (x:=pI l -e) (y:=pI l+e) hp hl k3 K0;change ac _ _ (.one (F2 (Re l e) (Fg l e)))at s3;change ac _ _ (.one (F2 (Rf l e) (Fh l e)))at s4;change ac _ _ (.one (F2 (ov l e) (hfh l e)))at s5;unfold On;by_cases hz:pI l -e<=0
  ·rw[if_pos hz,if_neg K0];refine sF f183 ?_;exact K1
  ·rw[if_neg hz];have m:=amN (Fg l e) (Fh l e) (hfh l e);by_cases k:Fg l e<0\/Fh l e<0\/hfh l e<0
   ·rw[if_pos k,if_neg K0];refine sF f183 ?_
    (try(refine tX 0 ?_;try exact Zt))
    (refine bR ?_ ?_<;>intro h<;>(try conv=>whnf))
    ·exact K1
    ·exact absurd (m.2 k) h
   ·rw[if_neg k,if_pos rfl];refine sF f183 ?_
    (try(refine tX 0 ?_;try exact Zt))
    (refine bR ?_ ?_<;>intro h<;>(try conv=>whnf))
    ·exact absurd (m.1 h) k
    ·exact K1
 ·have Gi:s8 e q ch st l=fK e q ch st l:=by unfold s8;rw[if_pos h]
  rw[Gi,if_neg h];generalize fK e q ch st l=z at*;refine sF f183 ?_;exact K1
def AQ (e:Int)(q:Sp)(ch:List Sp)(st:Int)(l:List Int)(hq:qE q)(wl: ∀s∈ch,qE s)(hl:l.length<=maxLen):ac 261 [Ru e q ch,Rc st l] (.aI (if s8 e q ch st l=0 then [FG l e,I 0]else [F9 0 0 0 0 0 0 0 0 0,I (s8 e q ch st l)])):=by
 have s1:=BX e q ch st l hq wl hl;by_cases h:fK e q ch st l=0
 ·have Gi:s8 e q ch st l=On l e:=by unfold s8;rw[if_neg K0]
  rw[Gi];clear Gi;rw[h]at s1;obtain⟨h1,h2⟩:=zp h;obtain⟨he,_⟩:=iU h1;obtain⟨_,k1,k2,k3⟩:=pJ h2;have hv:=Ra K0 k3;have hp:pk l<l.length:=AO K0;have s2:=KA e q ch st l K0 K0 k2 k3;have s3:=zq e q ch st l 3 (pI l -e) (pI l+e) K0 k2 k3 K0 K0 K0;have s4:=zq e q ch st l 9 (pI l -e) (pI l+e) K0 k2 k3 K0 K0 K0;have s5:=Om e q ch st l (pk l) (pI l -e) (pI l+e) K0 k2 k3 hp;change ac _ _ (.one (F2 (Re l e) (Fg l e)))at s3;change ac _ _ (.one (F2 (Rf l e) (Fh l e)))at s4;change ac _ _ (.one (F2 (ov l e) (hfh l e)))at s5;unfold On;by_cases hz:pI l -e<=0
  ·rw[if_pos hz,if_neg K0];refine sF f261 ?_;exact K1
  ·rw[if_neg hz];by_cases k:Fg l e<0\/Fh l e<0\/hfh l e<0
   ·rw[if_pos k,if_neg K0];refine sF f261 ?_;exact K3
   ·rw[if_neg k,if_pos rfl];refine sF f261 ?_;exact K1
 ·have Gi:s8 e q ch st l=fK e q ch st l:=by unfold s8;rw[if_pos h]
  rw[Gi,if_neg h];generalize fK e q ch st l=z at*;refine sF f261 ?_;exact K1
abbrev IQ (x:Qn):Prop:=(-5000<=x.1/\x.1<=5000)/\1<=x.2/\x.2<=5000
abbrev BZ (s:Iv):Prop:=IQ s.1/\IQ s.2
abbrev qv (x:Qn):SV:=(true,[J x.1,J x.2])
abbrev iv (s:Iv):List SC:=[J s.1.1,J s.1.2,J s.2.1,J s.2.2]
def KE {x y:Qn}(hx:IQ x)(hy:IQ y):QS (x.1*y.2):=by
 have:=ala (x:=x.1) (y:=y.2) (A:=5000) (B:=5000) hx.1 K0 K0;omega
def aat {x:Qn}(h:IQ x):nk x:=by have:=h.2.1;show 0<x.2;omega
def Uf {s:Iv}(h:BZ s):nM s:=⟨aat h.1,aat h.2⟩
def AV {x y:Qn}(hx:IQ x)(hy:IQ y):ac 251 [qv x,qv y] (.one (Bo (decide (pZ x y)))):=Iz x.1 x.2 y.1 y.2 (KE hx hy) (KE hy hx)
def B0 {x y:Qn}(hx:IQ x)(hy:IQ y):ac 354 [qv x,qv y] (.one (qv (zy x y))):=by
 have g:=AV hy hx;unfold zy;by_cases h:pZ y x
 ·rw[fh h]at g;rw[if_pos h];refine sF f354 ?_;exact tL
 ·rw[eJ h]at g;rw[if_neg h];refine sF f354 ?_;exact tL
def B4 {x y:Qn}(hx:IQ x)(hy:IQ y):ac 353 [qv x,qv y] (.one (qv (zx x y))):=by
 have g:=AV hx hy;unfold zx;by_cases h:pZ x y
 ·rw[fh h]at g;rw[if_pos h];refine sF f353 ?_;exact tL
 ·rw[eJ h]at g;rw[if_neg h];refine sF f353 ?_;exact tL
def Ot {s:Iv}(h:BZ s):ac 278 [(true,iv s)] (.one (Bo (decide (km s)))):=by
 have g:=AV h.2 h.1;refine sF f278 ?_;exact tL
def ae5 {x y:Qn}(hx:IQ x)(hy:IQ y):IQ (zx x y):=by unfold zx;split<;>assumption
def ae6 {x y:Qn}(hx:IQ x)(hy:IQ y):IQ (zy x y):=by unfold zy;split<;>assumption
def vK {n d:Int}(hn: -5000<=n/\n<=5000)(hd:1<=d/\d<=5000):IQ (lD n d):=by
 have h1:=ac7 n d;have h2:=agu (n:=n) (d:=d) K0;have h3:=xj (n:=n) (d:=d) K0;show(-5000<=fu n d/\fu n d<=5000)/\1<=eE n d/\eE n d<=5000;omega
abbrev b5 (n:Int):Prop:= -5000<=n/\n<=5000
def Ou {s:Iv}{n m:Int}(h:BZ s)(hn:b5 n)(hm:b5 m):BZ (oW s n m):=by
 unfold oW;split
 ·exact⟨h.1,ae6 h.2 (vK hm K0)⟩
 ·split
  ·exact⟨ae5 h.1 (vK K0 K0),h.2⟩
  ·split
   ·unfold agz;exact⟨⟨by decide,by decide⟩,by decide,by decide⟩
   ·exact h
def agA {s o:Iv}(h:BZ s)(k:BZ o):BZ (tg s o):=⟨ae5 h.1 k.1,ae6 h.2 k.2⟩
def adu {s o:Iv}(h:BZ s)(k:BZ o):ac 324 [(true,iv s),(true,iv o)] (.one (true,iv (tg s o))):=by
 have g1:=B4 h.1 k.1;have g2:=B0 h.2 k.2;refine sF f324 ?_;exact tL
def Ov {n d:Int}(hn:b5 n)(hd:1<=d/\d<=5000):ac 327 [I n,I d] (.one (qv (lD n d))):=BN n d ⟨by omega,by omega⟩ K0
def Fk {s:Iv}{n m:Int}(h:BZ s)(hn:b5 n)(hm:b5 m):ac 355 [(true,iv s),I n,I m] (.one (true,iv (oW s n m))):=by
 unfold oW;by_cases h1:n>0
 ·rw[if_pos h1];have g1:=Ov (n:=m) (d:=n) hm K0;have g2:=B0 h.2 (vK (n:=m) (d:=n) hm K0);exact acm
 ·rw[if_neg h1];by_cases h2:n<0
  ·rw[if_pos h2];have g1:=Ov (n:= -m) (d:= -n) K0 K0;have g2:=B4 h.1 (vK (n:= -m) (d:= -n) K0 K0);exact acm
  ·rw[if_neg h2];by_cases h3:m<0
   ·rw[if_pos h3];exact acm
   ·rw[if_neg h3];exact acm
abbrev Pr (F:Iv)(e:Int)(a b:List Int):SV:=(true,[J F.1.1,J F.1.2,J F.2.1,J F.2.2,J e,.ints a,.ints b])
abbrev Co (l:List Int):Prop:=i6 l (-4096) 4096
def ae7 {F:Iv}{e x y:Int}(h:BZ F)(he:0<=e/\e<=100)(hx: -4096<=x/\x<=4096)(hy: -4096<=y/\y<=4096):BZ (atS F e x y):=Ou (Ou h K0 K0) K0 K0
def agB {F:Iv}{e:Int}{a b:List Int}{i:Int}(h:BZ F)(he:0<=e/\e<=100)(hl:a.length=b.length)(ha:Co a)(hb:Co b)(hi:0<=i/\i<a.length):ac 325 [Pr F e a b,I i] (.one (true,iv (atS F e (a.getD i.toNat 0) (b.getD i.toNat 0)))):=by
 have hx:=jA ha (show i.toNat<a.length by omega);have hy:=jA hb (show i.toNat<b.length by omega);have g1:=Fk (n:=a.getD i.toNat 0 -e) (m:=b.getD i.toNat 0+e) h K0 K0;have g2:=Fk (n:= -a.getD i.toNat 0 -e) (m:=e -b.getD i.toNat 0) (Ou (n:=a.getD i.toNat 0 -e) (m:=b.getD i.toNat 0+e) h K0 K0) K0 K0;unfold atS;refine sF f325 ?_;exact tL
def PI (a b ix:List Int):List (Int × Int):=ix.map λw=>(a.getD w.toNat 0,b.getD w.toNat 0)
def Fl (n:Nat):List Int:=(List.range n).map λ(i:Nat)=>(i:Int)
def Ow (n:Nat):Fl (n+1)=Fl n++[(n:Int)]:=by simp[Fl,List.range_succ]
def Ug (n:Nat):(Fl n).length =n:=by simp[Fl]
def IR (F:Iv)(e:Int)(p:Int × Int): ∀(l:List (Int × Int)) (s:Iv),uO F e (l++[p]) s=tg (uO F e l s) (atS F e p.1 p.2)
 | [],_=>rfl
 |_::l,_=>IR F e p l _
def Uh (a b ix:List Int)(w:Int):PI a b (ix++[w])=PI a b ix++[(a.getD w.toNat 0,b.getD w.toNat 0)]:=by simp[PI]
theorem AD {l:List Int}{i:Nat}(h:i<l.length):l.take (i+1)=l.take i++[l.getD i 0]:=by rw[List.take_succ_eq_append_getElem h];simp[jX,h]
def KF {F:Iv}{e:Int}(h:BZ F)(he:0<=e/\e<=100): ∀(l:List (Int × Int)) (s:Iv),BZ s->(∀p∈l,(-4096<=p.1/\p.1<=4096)/\ -4096<=p.2/\p.2<=4096)->BZ (uO F e l s)
 | [],_,hs,_=>hs
 |p::l,_,hs,hp=>KF h he l _ (agA hs (ae7 h he (hp p (je ..)).1 (hp p (je ..)).2)) λp Gv=>hp p (jt _ Gv)
def aau {a b ix:List Int}(ha:Co a)(hb:Co b)(hl:a.length=b.length)(hi: ∀w∈ix,0<=w/\w<a.length): ∀p∈PI a b ix,(-4096<=p.1/\p.1<=4096)/\ -4096<=p.2/\p.2<=4096:=by
 intro p hp;obtain⟨w,hw,rfl⟩:=dC.1 hp;have:=hi w hw;exact⟨jA ha K0,jA hb K0⟩
def Ri (n:Nat): ∀w∈Fl n,0<=w/\w<n:=by
 intro w hw;obtain⟨i,hi,rfl⟩:=dC.1 hw;have:=List.mem_range.1 hi;omega
def adv {F:Iv}{e:Int}{a b:List Int}(h:BZ F)(he:0<=e/\e<=100)(hl:a.length=b.length)(hn:a.length<=64)(ha:Co a)(hb:Co b):ac 277 [Pr F e a b] (.one (true,iv (uO F e (PI a b (Fl a.length)) F))):=by
 refine sF f277 ?_
 (try(refine tX 0 ?_;try exact Zt))
 refine af (ι:=Nat) (λi=>i<=a.length) (λi=>a.length -i) (λi=>⟨[(1,pP 0),(2,pP 1),(3,pP 2),(9,vI a.length),(10,vI i)],[(0,some (.box 351 [.st (J F.1.1),.st (J F.1.2),.st (J F.2.1),.st (J F.2.2),.st (J e),.st (.ints a),.st (.ints b)])),(1,some (.box 349 [.st (J 0),.st (J 0),.st (J 0),.st (J 0)])),
  (2,some (.box 349 ((iv (uO F e (PI a b (Fl i)) F)).map .st)))],3⟩) 0 Zc (dz _) ?_
 intro i hi;have hB:=KF h he (PI a b (Fl i)) F h (aau ha hb hl (λw hw=>by have:=Ri i w hw;omega));by_cases al:i<a.length
 ·have g1:=agB (i:=(i:Int)) h he hl ha hb K0;have g2:=adu hB (ae7 h he (jA ha (show(i:Int).toNat <a.length by omega)) (jA hb (show(i:Int).toNat <b.length by omega)));have e1:uO F e (PI a b (Fl (i+1))) F=tg (uO F e (PI a b (Fl i)) F) (atS F e (a.getD (i:Int).toNat 0) (b.getD (i:Int).toNat 0)):=by rw[Ow,Uh,IR]
  generalize uO F e (PI a b (Fl i)) F=S at*
  (try(refine tX 0 ?_;try exact Zt))
  exact⟨i+1,al,by omega,ai (by rw[e1];kernel_rfl)⟩
 ·obtain rfl:i=a.length:=by omega
  exact K1
abbrev G9 (q:Sp):Iv:=((q.1,q.2.1),(q.2.2.1,q.2.2.2))
def agC {q:Sp}(h:dK q=0):BZ (G9 q):=by
 obtain⟨⟨h1,h2,h3,h4⟩,_⟩:=mL h;exact⟨⟨⟨show -5000<=q.1 by omega,show q.1<=5000 by omega⟩,show 1<=q.2.1 by omega,show q.2.1<=5000 by omega⟩,⟨show -5000<=q.2.2.1 by omega,show q.2.2.1<=5000 by omega⟩,show 1<=q.2.2.2 by omega,show q.2.2.2<=5000 by omega⟩
def agD {q:Sp}(h:dK q=0): ¬km (G9 q):=(mL h).2.2.2
def dx (e:Int)(q:Sp)(ch:List Sp)(sa:Int)(la:List Int)(sb:Int)(lb:List Int):Int:=if aV e q ch≠0 then aV e q ch else if dj sa la≠0 then dj sa la else if dj sb lb≠0 then dj sb lb else if sa=sb/\(la.length:Int)=lb.length then 0 else 10
def KG {e:Int}{q:Sp}{ch:List Sp}{sa:Int}{la:List Int}{sb:Int}{lb:List Int}(h:dx e q ch sa la sb lb=0):aV e q ch=0/\dj sa la=0/\dj sb lb=0/\sa=sb/\la.length=lb.length:=by
 unfold dx at h;repeat' split at h
 all_goals first|omega|exact⟨by omega,by omega,by omega,by omega,by omega⟩
def xw {e:Int}{q:Sp}{ch:List Sp}{sa:Int}{la:List Int}{sb:Int}{lb:List Int}(h:dx e q ch sa la sb lb=0):(0<=e/\e<=100)/\BZ (G9 q)/\¬km (G9 q)/\(3<=la.length/\la.length<=64)/\la.length=lb.length/\Co la/\Co lb:=by
 obtain⟨h1,h2,h3,_,h5⟩:=KG h;obtain⟨g1,g2,_⟩:=iU h1;obtain⟨_,k1,k2,k3⟩:=pJ h2;obtain⟨_,_,_,m3⟩:=pJ h3;exact⟨g1,agC g2,agD g2,⟨k1,k2⟩,h5,k3,m3⟩
def Ui (e:Int)(q:Sp)(la lb:List Int):Iv:=uO (G9 q) e (PI la lb (Fl la.length)) (G9 q)
def agE {e:Int}{q:Sp}{la lb:List Int}(h:BZ (G9 q))(he:0<=e/\e<=100)(hl:la.length=lb.length)(ha:Co la)(hb:Co lb):BZ (Ui e q la lb):=
 KF h he _ _ h (aau ha hb hl (λw hw=>by have:=Ri _ w hw;omega))
def KH (e:Int)(q:Sp)(ch:List Sp)(sa:Int)(la:List Int)(sb:Int)(lb:List Int)(hq:qE q)(wl: ∀s∈ch,qE s)(hc:ch.length<=4294967296)(hla:la.length<=maxLen)(hlb:lb.length<=maxLen):
  ac 276 [Ru e q ch,Rc sa la,Rc sb lb] (.aI [Pr (G9 q) e la lb,I (dx e q ch sa la sb lb)]):=by
 have s1:=k6 e q ch hq wl hc;have s2:=j6 sa la hla;have s3:=j6 sb lb hlb;have f:=fs4 (aV e q ch) (dj sa la) (dj sb lb) (if sa=sb/\(la.length:Int)=lb.length then 0 else 10);have f':fs [aV e q ch,dj sa la,dj sb lb,if sa=sb/\(la.length:Int)=lb.length then 0 else 10]=dx e q ch sa la sb lb:=by rw[f];unfold dx;(repeat' split)<;>first|omega|rfl
 rw[<- f'];clear f f';by_cases h1:sa=sb
 ·by_cases h2:(la.length:Int)=lb.length
  ·rw[if_pos ⟨h1,h2⟩];refine sF f276 ?_;repeat((first|(refine kO 7 rfl ?_;first|refine rG (λ_ z=>⟨_,Nu (show _ by simp[h1,h2]) _,z⟩) ?_|refine rG (λ_ z=>⟨_,gW _ (fM rfl),z⟩) ?_)|refine tX 0 ?_|exact Zt);(try conv=>whnf))
   exact K5
  ·rw[if_neg (λh=>h2 h.2)];refine sF f276 ?_;repeat((first|(refine kO 7 rfl ?_;first|refine rG (λ_ z=>⟨_,EG (show ¬_ by simp[h1,h2]) _,z⟩) ?_|refine rG (λ_ z=>⟨_,gW _ (fM rfl),z⟩) ?_)|refine tX 0 ?_|exact Zt);(try conv=>whnf))
   exact K5
 ·rw[if_neg (λh=>h1 h.1)];refine sF f276 ?_;repeat((first|(refine kO 7 rfl ?_;first|refine rG (λ_ z=>⟨_,EG (show ¬_ by simp[h1]) _,z⟩) ?_|refine rG (λ_ z=>⟨_,gW _ (fM rfl),z⟩) ?_)|refine tX 0 ?_|exact Zt);(try conv=>whnf))
  exact K5
def WC (z e:Int)(s:Iv):List SV:=if z≠0 then [I 0,I z]else if km s then [I 2,I 0]else if e=0 then [I 0,I 0]else [I 1,I 0]
def AW (e:Int)(q:Sp)(ch:List Sp)(sa:Int)(la:List Int)(sb:Int)(lb:List Int)(hq:qE q)(wl: ∀s∈ch,qE s)(hc:ch.length<=4294967296)(hla:la.length<=maxLen)(hlb:lb.length<=maxLen):
  ac 228 [Ru e q ch,Rc sa la,Rc sb lb] (.aI (WC (dx e q ch sa la sb lb) e (Ui e q la lb))):=by
 have s1:=KH e q ch sa la sb lb hq wl hc hla hlb;unfold WC;by_cases h:dx e q ch sa la sb lb=0
 ·rw[h]at s1 ⊢;rw[if_neg K0];obtain⟨he,hF,_,hn,hl,ha,hb⟩:=xw h;have s2:=adv hF he hl K0 ha hb;have s3:=Ot (agE (q:=q) hF he hl ha hb);rw[show uO (G9 q) e (PI la lb (Fl la.length)) (G9 q)=Ui e q la lb from rfl]at s2;generalize Ui e q la lb=S at*;by_cases hE:km S
  ·rw[if_pos hE];rw[fh hE]at s3;refine sF f228 ?_;exact K1
  ·rw[if_neg hE];rw[eJ hE]at s3;by_cases h0:e=0
   ·rw[if_pos h0];refine sF f228 ?_;exact K1
   ·rw[if_neg h0];refine sF f228 ?_;exact K1
 ·rw[if_pos h];generalize dx e q ch sa la sb lb=z at*;refine sF f228 ?_;exact K1
def ON (e:Int)(q:Sp)(ch:List Sp)(sa:Int)(la:List Int)(sb:Int)(lb:List Int)(hq:qE q)(wl: ∀s∈ch,qE s)(hla:la.length<=maxLen)(hlb:lb.length<=maxLen):
  ac 308 [Ru e q ch,Rc sa la,Rc sb lb] (.one (I (dx e q ch sa la sb lb))):=by
 have s1:=BX e q ch sa la hq wl hla;have s2:=lX sb lb hlb;have f:dx e q ch sa la sb lb=if fK e q ch sa la≠0 then fK e q ch sa la else if dj sb lb≠0 then dj sb lb else if sa=sb/\(la.length:Int)=lb.length then 0 else 10:=by unfold dx fK;(repeat' split)<;>first|omega|rfl
 rw[f];clear f;generalize fK e q ch sa la=u at*;generalize dj sb lb=v at*;by_cases h1:u=0
 ·rw[if_neg K0];by_cases h2:v=0
  ·rw[if_neg K0];subst h1 h2;by_cases h3:sa=sb
   ·by_cases h4:(la.length:Int)=lb.length
    ·rw[if_pos ⟨h3,h4⟩];refine sF f308 ?_;exact K1
    ·rw[if_neg (λh=>h4 h.2)];refine sF f308 ?_;exact K1
   ·rw[if_neg (λh=>h3 h.1)];refine sF f308 ?_;exact K1
  ·rw[if_pos h2];subst h1;refine sF f308 ?_;exact K1
 ·rw[if_pos h1];refine sF f308 ?_;exact K1
def OO {n d:Int}(hn:b5 n)(hd:1<=d/\d<=5000):ac 358 [I n,I d] (.one (qv (lD n d))):=QM n d ⟨by omega,by omega⟩ K0
def Ut {n g:Int}(hn:TS (-n))(hg:0<g)(hd:g∣n):IntKind.i64.wrap (n.tdiv (-g))= -n/g:=by
 rw[Int.tdiv_neg,<- Int.neg_tdiv];exact Ki hn hg (Int.dvd_neg.2 hd)
def KV {n d:Int}(hn:b5 n)(hd: -5000<=d/\d<= -1):ac 358 [I n,I d] (.one (qv (lD (-n) (-d)))):=by
 have g:=Ke n d ⟨by omega,by omega⟩ ⟨by omega,by omega⟩ (λ_=>by omega);have hp:=aeo n (show d≠0 by omega)
 have eA:Int.gcd n d<=5000:=by
  have:=Nat.le_of_dvd K0 (Int.gcd_dvd_natAbs_right n d);omega
 have e1:Int.gcd (-n) (-d)=Int.gcd n d:=by rw[Int.gcd_neg,Int.neg_gcd]
 unfold lD fu eE;rw[e1];have d1:(Int.gcd n d:Int)∣n:=Int.gcd_dvd_left ..;have d2:(Int.gcd n d:Int)∣d:=Int.gcd_dvd_right ..;generalize hk:(Int.gcd n d:Int)=k at*;refine sF f358 ?_
 (try(refine tX 0 ?_;try exact Zt))
 exact ZB (Ut ⟨by omega,by omega⟩ K0 d1) (Ut ⟨by omega,by omega⟩ K0 d2)
def cq (x y:Qn):Int:=QR x.1 x.2 y.1 y.2
def alt (x y:Qn):cq x y<0↔pZ x y:=by unfold cq QR pZ;(repeat' split)<;>omega
def afc (x y:Qn):cq x y>0↔pZ y x:=by unfold cq QR pZ;(repeat' split)<;>omega
def alu (x y:Qn):cq x y<=0↔¬pZ y x:=by rw[<- afc];omega
def FI {x y:Qn}(hx:IQ x)(hy:IQ y):ac 253 [qv x,qv y] (.one (I (cq x y))):=by
 have h1:=KE hx hy;have h2:=KE hy hx;exact Kj x.1 x.2 y.1 y.2 (by unfold QS at h1;omega) (by unfold QS at h2;omega)
def lm (s:Iv)(n m:Int):Iv × Bool:=if n=0/\m<0 then(s,false)else(oW s n m,decide (¬km (oW s n m)))
def I2 {s:Iv}{n m:Int}(h:BZ s)(hn:b5 n)(hm:b5 m):ac 337 [(true,iv s),I n,I m] (.aI [(true,iv (lm s n m).1),Bo (lm s n m).2]):=by
 have hB:=Ou h hn hm;have g3:=FI hB.1 hB.2;have e3:decide (¬km (oW s n m))=decide (cq (oW s n m).1 (oW s n m).2<=0):=decide_eq_decide.2 (alu _ _).symm;unfold lm;by_cases h0:n=0/\m<0
 ·rw[if_pos h0];refine sF f337 ?_;exact K1
 ·rw[if_neg h0,e3];clear e3 hB;dsimp only;by_cases h1:n>0
  ·have g1:=OO (n:=m) (d:=n) hm K0;have g2:=FI (vK (n:=m) (d:=n) K0 K0) h.2;have ea:oW s n m=(s.1,zy s.2 (lD m n)):=if_pos h1;rw[ea]at g3 ⊢;dsimp only at g3 ⊢;have c2:=alt (lD m n) s.2;by_cases hL:pZ (lD m n) s.2
   ·have hc:=c2.2 hL;rw[show zy s.2 (lD m n)=lD m n from if_pos hL]at g3 ⊢;generalize cq (lD m n) s.2=k2 at*;generalize lD m n=f at*;generalize cq s.1 f=k3 at*;refine sF f337 ?_;exact K1
   ·have hc:=λhh=>hL (c2.1 hh);rw[show zy s.2 (lD m n)=s.2 from if_neg hL]at g3 ⊢;generalize cq (lD m n) s.2=k2 at*;generalize lD m n=f at*;generalize cq s.1 s.2=k3 at*;refine sF f337 ?_;exact K1
  ·by_cases h2:n<0
   ·have g1:=KV (n:=m) (d:=n) hm K0;have g2:=FI (vK (n:= -m) (d:= -n) K0 K0) h.1;have ea:oW s n m=(zx s.1 (lD (-m) (-n)),s.2):=by unfold oW;rw[if_neg h1,if_pos h2]
    rw[ea]at g3 ⊢;dsimp only at g3 ⊢;have c2:=afc (lD (-m) (-n)) s.1;by_cases hL:pZ s.1 (lD (-m) (-n))
    ·have hc:=c2.2 hL;rw[show zx s.1 (lD (-m) (-n))=lD (-m) (-n)from if_pos hL]at g3 ⊢;generalize cq (lD (-m) (-n)) s.1=k2 at*;generalize lD (-m) (-n)=f at*;generalize cq f s.2=k3 at*;refine sF f337 ?_;exact K1
    ·have hc:=λhh=>hL (c2.1 hh);rw[show zx s.1 (lD (-m) (-n))=s.1 from if_neg hL]at g3 ⊢;generalize cq (lD (-m) (-n)) s.1=k2 at*;generalize lD (-m) (-n)=f at*;generalize cq s.1 s.2=k3 at*;refine sF f337 ?_;exact K1
   ·have ea:oW s n m=s:=by unfold oW;rw[if_neg h1,if_neg h2,if_neg K0]
    rw[ea]at g3 ⊢;generalize cq s.1 s.2=k3 at*;refine sF f337 ?_;exact K1
def FJ (e:Int)(k:List (Int × Int)): ∀(l:List (Int × Int)) (s:Option Iv),sc e (l++k) s=sc e k (sc e l s)
 | [],_=>rfl
 |_::l,_=>FJ e k l _
def Uu (s:Iv)(n m:Int):Rg s n m=if(lm s n m).2 then some (lm s n m).1 else none:=by
 unfold Rg lm;by_cases h:n=0/\m<0
 ·rw[if_pos h,if_pos h];simp
 ·rw[if_neg h,if_neg h];by_cases h':km (oW s n m)
  ·rw[if_pos h'];simp[h']
  ·rw[if_neg h'];simp[h']
def afd {s:Iv}{n m:Int}(h:BZ s)(hn:b5 n)(hm:b5 m):BZ (lm s n m).1:=by
 unfold lm;split
 ·exact h
 ·exact Ou h hn hm
abbrev vBo (b:Bool):Option DV:=some (.val (false,[.st (.lit (.bool b))]))
def agR (o:Option Iv):List SV:=match o with|some s=>[(true,iv s),Bo true]|none=>[F4 0 0 0 0,Bo false]
def FK {e:Int}{q:Sp}(ch:List Sp)(sa sb:Int){la lb ix:List Int}(h:BZ (G9 q))(he:0<=e/\e<=100)(hl:la.length=lb.length)(hx:ix.length<=70)(ha:Co la)(hb:Co lb)(hi: ∀w∈ix,0<=w/\w<la.length):
  ac 309 [Ru e q ch,Rc sa la,Rc sb lb,L ix] (.aI (agR (sc e (PI la lb ix) (some (G9 q))))):=by
 refine sF f309 ?_
 (try(refine tX 0 ?_;try exact Zt))
 refine af (ι:=Nat × Iv × Bool) (λp=>p.1<=ix.length/\BZ p.2.1/\if p.2.2 then sc e (PI la lb (ix.take p.1)) (some (G9 q))=some p.2.1 else sc e (PI la lb ix) (some (G9 q))=none) (λp=>ix.length -p.1)
  (λp=>⟨[(3,vL ix),(4,pP 0),(5,pP 1),(6,pP 2),(8,pP 3),(10,pP 4),(11,vBo p.2.2),(12,vI p.1)],[(0,bRu e q ch),(1,bRc sa la),(2,bRc sb lb),(3,some (.box 178 [.st (J 0),.st (J 0),.st (J 0),.st (J 0)])),(4,some (.box 178 ((iv p.2.1).map .st)))],5⟩) (0,G9 q,true) Zc ⟨dz _,h,rfl⟩ ?_
 rintro⟨i,s,ok⟩ ⟨lA,hB,hs⟩;dsimp only at lA hB hs ⊢;cases ok
 ·rw[if_neg bX]at hs;rw[hs];by_cases al:i<ix.length
  ·exact K1
  ·exact K1
 ·rw[if_pos rfl]at hs;by_cases al:i<ix.length
  ·have hw:=hi _ (qD (d:=0) al);have hwx:=jA ha (show(ix.getD i 0).toNat <la.length by omega);have hwy:=jA hb (show(ix.getD i 0).toNat <lb.length by omega);have e1:sc e (PI la lb (ix.take (i+1))) (some (G9 q))=IP s e (la.getD (ix.getD i 0).toNat 0) (lb.getD (ix.getD i 0).toNat 0):=by rw[AD al,Uh,FJ,hs];rfl
   have e2:sc e (PI la lb ix) (some (G9 q))=sc e (PI la lb (ix.drop (i+1))) (sc e (PI la lb (ix.take (i+1))) (some (G9 q))):=by rw[<- FJ,PI,PI,PI,<- Aj,L2]
   have g1:=I2 (s:=s) (n:=la.getD (ix.getD i 0).toNat 0 -e) (m:=lb.getD (ix.getD i 0).toNat 0+e) hB K0 K0;have d1:=afd (s:=s) (n:=la.getD (ix.getD i 0).toNat 0 -e) (m:=lb.getD (ix.getD i 0).toNat 0+e) hB K0 K0;unfold IP at e1;rw[Uu]at e1;generalize lm s (la.getD (ix.getD i 0).toNat 0 -e) (lb.getD (ix.getD i 0).toNat 0+e)=A at*;obtain⟨s1,o1⟩:=A;dsimp only at g1 d1 e1;cases o1
   ·rw[if_neg bX,Option.bind_none]at e1;rw[e1,zC]at e2
    (try(refine tX 0 ?_;try exact Zt))
    exact⟨(i+1,s1,false),⟨al,d1,by dsimp only;rw[if_neg bX];exact e2⟩,by dsimp only;omega,Zc⟩
   ·rw[if_pos rfl,Ma,Uu]at e1;have g2:=I2 (s:=s1) (n:= -la.getD (ix.getD i 0).toNat 0 -e) (m:=e -lb.getD (ix.getD i 0).toNat 0) d1 K0 K0;have d2:=afd (s:=s1) (n:= -la.getD (ix.getD i 0).toNat 0 -e) (m:=e -lb.getD (ix.getD i 0).toNat 0) d1 K0 K0;generalize lm s1 (-la.getD (ix.getD i 0).toNat 0 -e) (e -lb.getD (ix.getD i 0).toNat 0)=A at*;obtain⟨s2,o2⟩:=A;dsimp only at g2 d2 e1
    (try(refine tX 0 ?_;try exact Zt))
    refine⟨(i+1,s2,o2),⟨al,d2,?_⟩,by dsimp only;omega,Zc⟩;dsimp only;cases o2
    ·rw[if_neg bX]at e1 ⊢;rw[e1,zC]at e2;exact e2
    ·exact e1
  ·obtain rfl:i=ix.length:=by omega
   rw[mB]at hs;rw[hs];exact K1
def RG (st:Int){l:List Int}(h:1<=l.length/\l.length<=64):ac 310 [Rc st l] (.own 1 (.ints (Fl l.length))):=by
 refine sF f310 ?_
 (try(refine tX 0 ?_;try exact Zt))
 refine aA ?_
 (try(refine tX 0 ?_;try exact Zt))
 refine af (ι:=Nat) (λi=>1<=i/\i<=l.length) (λi=>l.length -i) (λi=>⟨[(1,pP 0),(3,pO 1),(4,vI i)],[(0,bRc st l),(1,some (.row true 1 (.ints (Fl i))))],2⟩) 1 Zc ⟨by omega,by omega⟩ ?_;rintro i ⟨h1,h2⟩;by_cases al:i<l.length
 ·have n1:=Ug i;have e1:=Ow i;generalize Fl i=r at*
  (try(refine tX 0 ?_;try exact Zt))
  exact⟨i+1,⟨by omega,al⟩,by omega,ai (by rw[e1];kernel_rfl)⟩
 ·obtain rfl:i=l.length:=by omega
  exact K1
end Go.Proofs.Tryz
