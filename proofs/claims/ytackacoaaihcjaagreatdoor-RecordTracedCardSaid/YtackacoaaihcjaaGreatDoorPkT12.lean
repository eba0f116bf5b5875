import Derived.Test.YtackacoaaihcjaaGreatDoorPkT7
import Derived.Test.YtackacoaaihcjaaGreatDoorPkT8
set_option linter.all false
namespace Go.Proofs.Tryz
open Go.Fw Go.IntWalk Go.Plain
set_option maxRecDepth 100000
set_option maxHeartbeats 8000000
def QK (l:List Int)(e:Int):Int:=fF (EL e 3 (pA l -e)) l 0
def EN (l:List Int)(e:Int):Int:=fF (EM e 3 (pA l+e)) l 0
def QL (l:List Int)(e:Int):Int:=fF (EL e 9 (pA l -e)) l 0
def EP (l:List Int)(e:Int):Int:=fF (EM e 9 (pA l+e)) l 0
def oe (l:List Int)(e:Int):Int:=fF (J8 e (pA l+e)) l (pk l+1)
def ZX (l:List Int)(e:Int):Int:=fF (J9 e (pA l -e)) l (pk l+1)
abbrev FG (l:List Int)(e:Int):SV:=F9 (pk l:Nat) (pA l -e) (pA l+e) (QK l e) (EN l e) (QL l e) (EP l e) (oe l e) (ZX l e)
def NL (l:List Int)(e:Int):Int:=if pA l -e<=0 then 21 else if EN l e<0\/EP l e<0\/ZX l e<0 then 12 else 0
def sL (e:Int)(q:Sp)(ch:List Sp)(st:Int)(l:List Int):Int:=if fN e q ch st l≠0 then fN e q ch st l else NL l e
def ant (a b c:Int):(if c< (if b<a then b else a)then c else if b<a then b else a)<0↔a<0\/b<0\/c<0:=by (repeat' split)<;>omega
def Gr (e:Int)(q:Sp)(ch:List Sp)(st:Int)(l:List Int)(hq:qr q)(vJ: ∀s∈ch,qr s)(hc:ch.length<=4294967296)(hl:l.length<=maxLen):ad 74 [Ru e q ch,Rc st l] (.aJ (if sL e q ch st l=0 then [FG l e,I 0]else [F9 0 0 0 0 0 0 0 0 0,I (sL e q ch st l)])):=by
 have s1:=Wb e q ch st l hq vJ hc hl;by_cases h:fN e q ch st l=0
 ·have Fz:sL e q ch st l=NL l e:=by unfold sL;rw[if_neg K0]
  rw[Fz];clear Fz;rw[h]at s1;obtain⟨h1,h2⟩:=y7 h;obtain⟨he,_⟩:=iS h1;obtain⟨_,k1,k2,k3⟩:=pB h2;have hv:=QH K0 k3;have hp:pk l<l.length:=At K0;have s2:=V8 (l:=l) (e:=e) K0 hl k3 K0;have s3:=Ie (l:=l) (e:=e) (t:=3) (x:=pA l -e) (y:=pA l+e) hl k3 K0 K0 K0 K0;have s4:=Ie (l:=l) (e:=e) (t:=9) (x:=pA l -e) (y:=pA l+e) hl k3 K0 K0 K0 K0;have s5:=ZW (l:=l) (e:=e) (x:=pA l -e) (y:=pA l+e) hp hl k3 K0;change ad _ _ (.one (F2 (QK l e) (EN l e)))at s3;change ad _ _ (.one (F2 (QL l e) (EP l e)))at s4;change ad _ _ (.one (F2 (oe l e) (ZX l e)))at s5;unfold NL;by_cases hz:pA l -e<=0
  ·rw[if_pos hz,if_neg K0];refine sF f74 ?_;exact K1
  ·rw[if_neg hz];have m:=ant (EN l e) (EP l e) (ZX l e);by_cases k:EN l e<0\/EP l e<0\/ZX l e<0
   ·rw[if_pos k,if_neg K0];refine sF f74 ?_
    (try(refine tX 0 ?_;try exact Zt))
    (refine bR ?_ ?_<;>intro h<;>(try conv=>whnf))
    ·exact K1
    ·exact absurd (m.2 k) h
   ·rw[if_neg k,if_pos rfl];refine sF f74 ?_
    (try(refine tX 0 ?_;try exact Zt))
    (refine bR ?_ ?_<;>intro h<;>(try conv=>whnf))
    ·exact absurd (m.1 h) k
    ·exact K1
 ·have Fz:sL e q ch st l=fN e q ch st l:=by unfold sL;rw[if_pos h]
  rw[Fz,if_neg h];generalize fN e q ch st l=z at*;refine sF f74 ?_;exact K1
def Av (e:Int)(q:Sp)(ch:List Sp)(st:Int)(l:List Int)(hq:qr q)(vJ: ∀s∈ch,qr s)(hl:l.length<=maxLen):ad 78 [Ru e q ch,Rc st l] (.aJ (if sL e q ch st l=0 then [FG l e,I 0]else [F9 0 0 0 0 0 0 0 0 0,I (sL e q ch st l)])):=by
 have s1:=Bw e q ch st l hq vJ hl;by_cases h:fN e q ch st l=0
 ·have Fz:sL e q ch st l=NL l e:=by unfold sL;rw[if_neg K0]
  rw[Fz];clear Fz;rw[h]at s1;obtain⟨h1,h2⟩:=y7 h;obtain⟨he,_⟩:=iS h1;obtain⟨_,k1,k2,k3⟩:=pB h2;have hv:=QH K0 k3;have hp:pk l<l.length:=At K0;have s2:=Kb e q ch st l K0 K0 k2 k3;have s3:=y8 e q ch st l 3 (pA l -e) (pA l+e) K0 k2 k3 K0 K0 K0;have s4:=y8 e q ch st l 9 (pA l -e) (pA l+e) K0 k2 k3 K0 K0 K0;have s5:=NK e q ch st l (pk l) (pA l -e) (pA l+e) K0 k2 k3 hp;change ad _ _ (.one (F2 (QK l e) (EN l e)))at s3;change ad _ _ (.one (F2 (QL l e) (EP l e)))at s4;change ad _ _ (.one (F2 (oe l e) (ZX l e)))at s5;unfold NL;by_cases hz:pA l -e<=0
  ·rw[if_pos hz,if_neg K0];refine sF f78 ?_;exact K1
  ·rw[if_neg hz];by_cases k:EN l e<0\/EP l e<0\/ZX l e<0
   ·rw[if_pos k,if_neg K0];refine sF f78 ?_;exact K5
   ·rw[if_neg k,if_pos rfl];refine sF f78 ?_;exact K1
 ·have Fz:sL e q ch st l=fN e q ch st l:=by unfold sL;rw[if_pos h]
  rw[Fz,if_neg h];generalize fN e q ch st l=z at*;refine sF f78 ?_;exact K1
def dF3 (a b c:Int):ad 312 [(false,[.ints [a,b,c]])] (.one (I (jp a (jp b c)))):=by
 have h:=EU [a,b,c] (fP rfl);rwa [show fs [a,b,c]=jp a (jp b c)by unfold jp;simp only[fs];split<;>(try rfl);split<;>(try rfl);split<;>omega]at h
def um {a b:Int}(ha:0<=a/\a<=1000000000)(hb:0<=b/\b<=1000000000):0<=a*b/\a*b<=1000000000000000000:=by
 refine⟨CM ha.1 hb.1,?_⟩;have h1:=CV ha.2 hb.2 hb.1 K9;omega
def aaa (a b c d:Int)(ha:pU a)(hb:pU b)(hc:pU c)(hd:pU d):ad 316 [F4 a b c d] (.one (I (Ny (a,b) (c,d)))):=by
 have hw:((1<=a/\a<=1000000000)/\1<=b/\b<=1000000000)/\(1<=c/\c<=1000000000)/\1<=d/\d<=1000000000->IntKind.i64.wrap (a*d)=a*d/\IntKind.i64.wrap (c*b)=c*b:=by
  rintro⟨⟨h1,h2⟩,h3,h4⟩;have e1:=um (a:=a) (b:=d) K0 K0;have e2:=um (a:=c) (b:=b) K0 K0;exact⟨i64_in _ K0,i64_in _ K0⟩
 refine sF f316 ?_;repeat' ((first|(refine kO 7 rfl ?_;first|refine rG (λ_ z=>⟨_,NU _ _ FW FW,z⟩) ?_|refine Rq (Gy _ _ _) ?_|refine Rq (jB _) ?_|refine Rq (dF3 _ _ _) ?_)|refine tX 0 ?_|exact Zt|refine bR ?_ ?_<;>intro h)<;>(try conv=>whnf))
 all_goals
  refine mH ?_;unfold Ny jp;dsimp only at*;generalize IntKind.i64.wrap (a*d)=u at*;generalize IntKind.i64.wrap (c*b)=v at*;generalize a*d=x at*;generalize c*b=y at*;generalize Int.gcd a b=g at*;generalize Int.gcd c d=k at*
  (repeat' split)<;>first|rfl|omega|contradiction
end Go.Proofs.Tryz
