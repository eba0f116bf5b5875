import Derived.Test.YtackacoaaihcjaaGreatDoorPkM3
set_option linter.all false
namespace Go.Proofs.Tryz
open Go.Fw Go.IntWalk Go.Plain
set_option maxRecDepth 100000
set_option maxHeartbeats 8000000
abbrev NU (a b:Int):Prop:=(-1000000000000000<=a/\a<=1000000000000000)/\ -1000000000000000<=b/\b<=1000000000000000
def sZ (a b:Int):Int:=if NU a b then(if a<=b then 0 else 9)else 2
def Kc (a b:Int):ac 285 [F2 a b] (.one (I (sZ a b))):=by
 have g:=Ea [a,b] 1000000000000000 K0 (fO rfl);have ea:jb [a,b] (-1000000000000000) 1000000000000000↔NU a b:=by simp[jb]
 have f:=fs2 (if NU a b then 0 else 2) (if a<=b then 0 else 9);have e:fs [if NU a b then 0 else 2,if a<=b then 0 else 9]=sZ a b:=by grind[sZ]
 simp only[ea]at g;rw[<- e];refine sF f285 ?_;exact tL
def sC (a b:Int):ac 331 [F2 a b] (.one (I (sZ a b))):=by
 unfold sZ;by_cases h:NU a b
 ·rw[if_pos h];by_cases h':a<=b
  ·rw[if_pos h'];refine sF f331 ?_;exact tL
  ·rw[if_neg h'];refine sF f331 ?_;exact tL
 ·rw[if_neg h];refine sF f331 ?_;exact tL
def rZ (a b c d:Int):Int:=if sZ a b≠0 then sZ a b else sZ c d
def Ww (a b c d:Int):Int:=if c<=a/\b<=d then 2 else if b<c\/a>d then 0 else 1
def Gx (a b c d:Int):ac 249 [F2 a b,F2 c d] (.aI (if rZ a b c d=0 then [I (Ww a b c d),I 0]else [I 0,I (rZ a b c d)])):=by
 have f:=fs2 (sZ a b) (sZ c d);rw[show(if sZ a b≠0 then sZ a b else sZ c d)=rZ a b c d from rfl]at f;refine sF f249 ?_;repeat((first|(refine kO 7 rfl ?_;first|refine Rq (Kc _ _) ?_|refine rG (λ_ z=>⟨_,g9 _ (fO rfl),z⟩) ?_)|refine tX 0 ?_|exact Zt);(try conv=>whnf))
 rw[f]
 (refine bR ?_ ?_<;>intro h<;>(try conv=>whnf))
 ·exact afS
 ·rw[if_pos (show rZ a b c d=0 by omega)];unfold Ww;by_cases h1:c<=a/\b<=d
  ·rw[if_pos h1];exact tL
  ·rw[if_neg h1];by_cases h2:b<c\/a>d
   ·rw[if_pos h2];exact tL
   ·rw[if_neg h2];exact tL
def Gy (a b c d:Int):ac 332 [F2 a b,F2 c d] (.one (I (Ww a b c d))):=by
 unfold Ww;by_cases h1:c<=a/\b<=d
 ·rw[if_pos h1];refine sF f332 ?_;exact tL
 ·rw[if_neg h1];by_cases h2:b<c\/a>d
  ·rw[if_pos h2];refine sF f332 ?_;exact tL
  ·rw[if_neg h2];refine sF f332 ?_;exact tL
def AD (a b c d:Int):ac 305 [F2 a b,F2 c d] (.aI (if rZ a b c d=0 then [I (Ww a b c d),I 0]else [I 0,I (rZ a b c d)])):=by
 have s1:=sC a b;have s2:=sC c d;have s3:=Gy a b c d;unfold rZ;by_cases h1:sZ a b=0
 ·rw[if_neg (show ¬sZ a b≠0 by omega)];rw[h1]at s1;by_cases h2:sZ c d=0
  ·rw[if_pos h2];rw[h2]at s2;refine sF f305 ?_;exact tL
  ·rw[if_neg h2];generalize sZ c d=z at*;refine sF f305 ?_;exact tL
 ·rw[if_pos h1,if_neg h1];generalize sZ a b=z at*;refine sF f305 ?_;exact tL
def aaj (p:Int)(S:Sp):Int:=p*S.1/S.2.1
def aak (p:Int)(S:Sp):Int:= -(-(p*S.2.2.1)/S.2.2.2)
def jM (e:Int)(q:Sp)(ch:List Sp)(g:Int):Int:=if kz e q ch≠0 then kz e q ch else g
def ES {e:Int}{q:Sp}{ch:List Sp}(h:kz e q ch=0):aY e q ch=0/\k8 (i7 ch)/\scB 1000000000 (i7 ch):=by
 unfold kz at h;split at h
 grind
 ·rename_i h1;split at h
  ·rename_i h2;have h0:aY e q ch=0:=by omega
   obtain⟨_,_,h4,hf⟩:=iZ h0;have hS:scB 1000000000000 (i7 ch):=Et hf h4 (dE _)
   grind
  ·omega
def Gz (e:Int)(q:Sp)(ch:List Sp)(hq:qC q)(vW: ∀s∈ch,qC s)(hl:ch.length<=4294967296)(t p r a b c d i j:Int):ac 253 [Ru e q ch,F9 t p r a b c d i j] (.aI (if jM e q ch (eT t p r a b c d i j)=0 then [F2 (aaj p (i7 ch)) (aak r (i7 ch)),I 0]else [F2 0 0,I (jM e q ch (eT t p r a b c d i j))])):=by
 have s1:=Nn e q ch hq vW hl;have s2:=AB t p r a b c d i j;by_cases h1:kz e q ch=0
 ·have he:jM e q ch (eT t p r a b c d i j)=eT t p r a b c d i j:=by unfold jM;grind
  rw[he];rw[if_pos h1]at s1;obtain⟨_,_,hS⟩:=ES h1;generalize i7 ch=S at*;by_cases h2:eT t p r a b c d i j=0
  ·obtain⟨⟨⟨k1,k2,k3⟩,_⟩,_⟩:=BH h2;have m1:=Gq (A:=4196) (B:=1000000000) k2 hS.1;have m2:=Gq (A:=4196) (B:=1000000000) k3 hS.2.2.1;have g:=M5 (p*S.1) S.2.1 (r*S.2.2.1) S.2.2.2 K0 K0 K0 K0;rw[if_pos h2];rw[h2]at s2;refine sF f253 ?_;exact tL
  ·rw[if_neg h2];generalize eT t p r a b c d i j=z at*;refine sF f253 ?_;repeat((first|(refine kO 7 rfl ?_;first|refine Rq VP ?_)|refine tX 0 ?_|exact Zt);(try conv=>whnf))
   exact K7
 ·have he:jM e q ch (eT t p r a b c d i j)=kz e q ch:=by unfold jM;grind
  rw[he,if_neg h1];rw[if_neg h1]at s1;have f:=VO (x:=kz e q ch) (y:=eT t p r a b c d i j) h1;generalize kz e q ch=z at*;refine sF f253 ?_;exact tL
def AE (e:Int)(q:Sp)(ch:List Sp)(hq:qC q)(vW: ∀s∈ch,qC s)(t p r a b c d i j:Int):ac 310 [Ru e q ch,F9 t p r a b c d i j] (.aI (if jM e q ch (eT t p r a b c d i j)=0 then [F2 (aaj p (i7 ch)) (aak r (i7 ch)),I 0]else [F2 0 0,I (jM e q ch (eT t p r a b c d i j))])):=by
 have s1:=ni e q ch hq vW;have s2:=Gw t p r a b c d i j;by_cases h0:aY e q ch=0
 ·have s3:=JZ h0;rw[h0]at s1;by_cases hs:k8 (i7 ch)
  ·have h1:kz e q ch=0:=by unfold kz;grind
   have he:jM e q ch (eT t p r a b c d i j)=eT t p r a b c d i j:=by unfold jM;grind
   rw[he];rw[if_pos hs]at s3;obtain⟨_,_,hS⟩:=ES h1;generalize i7 ch=S at*;by_cases h2:eT t p r a b c d i j=0
   ·obtain⟨⟨⟨k1,k2,k3⟩,_⟩,_⟩:=BH h2;have m1:=Gq (A:=4196) (B:=1000000000) k2 hS.1;have m2:=Gq (A:=4196) (B:=1000000000) k3 hS.2.2.1;have g1:=As (p*S.1) S.2.1 K0 K0;have g2:=M6 (r*S.2.2.1) S.2.2.2 K0 K0;rw[if_pos h2];rw[h2]at s2;exact acl
   ·rw[if_neg h2];generalize eT t p r a b c d i j=z at*;exact acl
  ·have h1:kz e q ch=8:=by unfold kz;grind
   have he:jM e q ch (eT t p r a b c d i j)=8:=by unfold jM;grind
   rw[he,if_neg K0];rw[if_neg hs]at s3;exact acl
 ·have h1:kz e q ch=aY e q ch:=by unfold kz;grind
  have he:jM e q ch (eT t p r a b c d i j)=aY e q ch:=by unfold jM;grind
  rw[he,if_neg h0];generalize aY e q ch=z at*;exact acl
def anK (a b:Int):fs [a,b]=ju a b:=by unfold ju;simp only[fs];split<;>(try rfl);split<;>omega
def anL (a b c:Int):fs [a,b,c]=ju a (ju b c):=by unfold ju;simp only[fs];split<;>(try rfl);split<;>(try rfl);split<;>omega
def gF2 (a b:Int):ac 100 [(false,[.ints [a,b]])] (.one (I (ju a b))):=by
 have h:=EG [a,b] (fO rfl);rwa [anK]at h
def gF3 (a b c:Int):ac 100 [(false,[.ints [a,b,c]])] (.one (I (ju a (ju b c)))):=by
 have h:=EG [a,b,c] (fO rfl);rwa [anL]at h
def Oe (n:Int):ac 195 [I n] (.one (Bo (decide (0<=n)&&decide (n<=2)))):=by
 refine sF f195 ?_;repeat((first|(refine kO 7 rfl ?_;first|refine Rq (pF _ _ _) ?_)|refine tX 0 ?_|exact Zt);(try conv=>whnf))
 exact K7
def pJ (w:Py):ac 101 [(true,wdC w)] (.one (I (wdE w))):=by
 obtain⟨k,t,s,r⟩:=w;refine sF f101 ?_;repeat' ((first|(refine kO 7 rfl ?_;first|refine Rq (Oe _) ?_|refine Rq (pF _ _ _) ?_|refine Rq (Ay _) ?_|refine Rq (gF2 _ _) ?_)|refine tX 0 ?_|exact Zt|refine bR ?_ ?_<;>intro h)<;>(try conv=>whnf))
 all_goals exact mH (by dsimp only at*;unfold wdE ju;dsimp only;(repeat' split)<;>first|rfl|omega|(exfalso;simp_all;done)|(exfalso;simp_all;omega))
def E2 (a b:Py)(c:Int):ac 60 [(true,wdC a++wdC b++[J c])] (.one (I (NE a b c))):=by
 obtain⟨k,t,s,r⟩:=a;obtain⟨k',t',s',r'⟩:=b;have h1:=pJ ⟨k,t,s,r⟩;have h2:=pJ ⟨k',t',s',r'⟩;unfold NE;generalize wdE ⟨k,t,s,r⟩=x at*;generalize wdE ⟨k',t',s',r'⟩=y at*;refine sF f60 ?_;repeat((first|(refine kO 7 rfl ?_;first|refine Rq (pF _ _ _) ?_|refine Rq (Ay _) ?_|refine Rq (gF3 _ _ _) ?_)|refine tX 0 ?_|exact Zt);(try conv=>whnf))
 exact mH (by unfold stE;(repeat' split)<;>first|rfl|omega)
def aaG {x:Option Py}{y:Option Py}{z:Option Int}(h: ¬((x.isSome=true/\y.isSome=true)/\z.isSome=true)):puO x y z=(wi0,7):=by cases x<;>cases y<;>cases z<;>first|rfl|exact absurd ⟨⟨rfl,rfl⟩,rfl⟩ h
def E3 (s:aj)(hl:s.length<=100000):ac 20 [SS s] (.aI [(true,Wc (NF s).1),I (NF s).2]):=by
 obtain⟨l1,l2⟩:=cj 32 s;have c0:=rK s 32 K0;rw[show(32:UInt8).toNat =32 from rfl]at c0;unfold NF;generalize aJ 32 s=ws at*;have hn:=eo ws;by_cases h3:ws.length=3
 ·rw[if_pos h3]
  match ws,h3,l2,c0 with
  | [a,b,c],_,l2,c0=>
   have la:=l2 a (by simp);have lb:=l2 b (by simp);have lc:=l2 c (by simp);obtain⟨w1,c1,k1⟩:=zh a K0;obtain⟨w2,c2,k2⟩:=zh b K0;obtain⟨n,c3,k3⟩:=mQ c K0;show nY _ _ _ _ (.aI [(true,Wc (puO (Ax a) (Ax b) (wN false 4 c)).1),I (puO (Ax a) (Ax b) (wN false 4 c)).2]);by_cases hall:((Ax a).isSome =true/\(Ax b).isSome =true)/\(wN false 4 c).isSome =true
   ·obtain⟨⟨ha,hb⟩,hc⟩:=hall;rw[ha]at c1;rw[hb]at c2;rw[hc]at c3;obtain⟨x,hx⟩:=qW.1 ha;obtain⟨y,hy⟩:=qW.1 hb;obtain⟨z,hz⟩:=qW.1 hc;rw[hx,hy,hz];obtain rfl:=k1 x hx;obtain rfl:=k2 y hy;obtain rfl:=k3 z hz;show nY _ _ _ _ (.aI [(true,Wc (puE x y z).1),I (puE x y z).2]);have c4:=E2 x y z;unfold puE;generalize NE x y z=e at*;clear k1 k2 k3 ha hb hc hx hy hz;by_cases he:e=0
    ·rw[if_pos he];refine sF f20 ?_;exact tA
    ·rw[if_neg he];refine sF f20 ?_;exact tA
   ·rw[aaG hall];generalize (Ax a).isSome =x at*;generalize (Ax b).isSome =y at*;generalize (wN false 4 c).isSome =z at*;refine sF f20 ?_;exact aiX
 ·rw[if_neg h3];refine sF f20 ?_;exact tA
end Go.Proofs.Tryz
