import Derived.Test.YtackacoaaihcjaaGreatDoorPkF7
import Derived.Test.YtackacoaaihcjaaGreatDoorPkF8
set_option linter.all false
namespace Go.Proofs.Tryz
open Go.Fw Go.IntWalk Go.Plain
set_option maxRecDepth 100000
set_option maxHeartbeats 8000000
def QQ (l:List Int)(e:Int):Int:=fF (EL e 3 (py l -e)) l 0
def EN (l:List Int)(e:Int):Int:=fF (EM e 3 (py l+e)) l 0
def QR (l:List Int)(e:Int):Int:=fF (EL e 9 (py l -e)) l 0
def EP (l:List Int)(e:Int):Int:=fF (EM e 9 (py l+e)) l 0
def og (l:List Int)(e:Int):Int:=fF (Ka e (py l+e)) l (pk l+1)
def hfh (l:List Int)(e:Int):Int:=fF (Kb e (py l -e)) l (pk l+1)
abbrev FG (l:List Int)(e:Int):SV:=F9 (pk l:Nat) (py l -e) (py l+e) (QQ l e) (EN l e) (QR l e) (EP l e) (og l e) (hfh l e)
def NU (l:List Int)(e:Int):Int:=if py l -e<=0 then 21 else if EN l e<0\/EP l e<0\/hfh l e<0 then 12 else 0
def qF (e:Int)(q:Sp)(ch:List Sp)(st:Int)(l:List Int):Int:=if fM e q ch st l≠0 then fM e q ch st l else NU l e
def anz (a b c:Int):(if c< (if b<a then b else a)then c else if b<a then b else a)<0↔a<0\/b<0\/c<0:=by (repeat' split)<;>omega
def wc (e:Int)(q:Sp)(ch:List Sp)(st:Int)(l:List Int)(hq:qy q)(vH: ∀s∈ch,qy s)(hc:ch.length<=4294967296)(hl:l.length<=maxLen):ac 74 [Ru e q ch,Rc st l] (.aJ (if qF e q ch st l=0 then [FG l e,I 0]else [F9 0 0 0 0 0 0 0 0 0,I (qF e q ch st l)])):=by
 have s1:=Wp e q ch st l hq vH hc hl;by_cases h:fM e q ch st l=0
 ·have FC:qF e q ch st l=NU l e:=by unfold qF;rw[if_neg K0]
  rw[FC];clear FC;rw[h]at s1;obtain⟨h1,h2⟩:=zb h;obtain⟨he,_⟩:=iT h1;obtain⟨_,k1,k2,k3⟩:=pA h2;have hv:=QN K0 k3;have hp:pk l<l.length:=Av K0;have s2:=Wm (l:=l) (e:=e) K0 hl k3 K0;have s3:=Ig (l:=l) (e:=e) (t:=3) (x:=py l -e) (y:=py l+e) hl k3 K0 K0 K0 K0;have s4:=Ig (l:=l) (e:=e) (t:=9) (x:=py l -e) (y:=py l+e) hl k3 K0 K0 K0 K0;have s5:=aaa (l:=l) (e:=e) (x:=py l -e) (y:=py l+e) hp hl k3 K0;change ac _ _ (.one (F2 (QQ l e) (EN l e)))at s3;change ac _ _ (.one (F2 (QR l e) (EP l e)))at s4;change ac _ _ (.one (F2 (og l e) (hfh l e)))at s5;unfold NU;by_cases hz:py l -e<=0
  ·rw[if_pos hz,if_neg K0];refine sF f74 ?_;exact K1
  ·rw[if_neg hz];have m:=anz (EN l e) (EP l e) (hfh l e);by_cases k:EN l e<0\/EP l e<0\/hfh l e<0
   ·rw[if_pos k,if_neg K0];refine sF f74 ?_
    (try(refine tX 0 ?_;try exact Zt))
    (refine bR ?_ ?_<;>intro h<;>(try conv=>whnf))
    ·exact K1
    ·exact absurd (m.2 k) h
   ·rw[if_neg k,if_pos rfl];refine sF f74 ?_
    (try(refine tX 0 ?_;try exact Zt))
    (refine bR ?_ ?_<;>intro h<;>(try conv=>whnf))
    ·exact absurd (m.1 h) k
    ·exact K1
 ·have FC:qF e q ch st l=fM e q ch st l:=by unfold qF;rw[if_pos h]
  rw[FC,if_neg h];generalize fM e q ch st l=z at*;refine sF f74 ?_;exact K1
def qG (e:Int)(q:Sp)(ch:List Sp)(st:Int)(l:List Int)(hq:qy q)(vH: ∀s∈ch,qy s)(hl:l.length<=maxLen):ac 78 [Ru e q ch,Rc st l] (.aJ (if qF e q ch st l=0 then [FG l e,I 0]else [F9 0 0 0 0 0 0 0 0 0,I (qF e q ch st l)])):=by
 have s1:=BA e q ch st l hq vH hl;by_cases h:fM e q ch st l=0
 ·have FC:qF e q ch st l=NU l e:=by unfold qF;rw[if_neg K0]
  rw[FC];clear FC;rw[h]at s1;obtain⟨h1,h2⟩:=zb h;obtain⟨he,_⟩:=iT h1;obtain⟨_,k1,k2,k3⟩:=pA h2;have hv:=QN K0 k3;have hp:pk l<l.length:=Av K0;have s2:=Kd e q ch st l K0 K0 k2 k3;have s3:=zc e q ch st l 3 (py l -e) (py l+e) K0 k2 k3 K0 K0 K0;have s4:=zc e q ch st l 9 (py l -e) (py l+e) K0 k2 k3 K0 K0 K0;have s5:=NT e q ch st l (pk l) (py l -e) (py l+e) K0 k2 k3 hp;change ac _ _ (.one (F2 (QQ l e) (EN l e)))at s3;change ac _ _ (.one (F2 (QR l e) (EP l e)))at s4;change ac _ _ (.one (F2 (og l e) (hfh l e)))at s5;unfold NU;by_cases hz:py l -e<=0
  ·rw[if_pos hz,if_neg K0];refine sF f78 ?_;exact K1
  ·rw[if_neg hz];by_cases k:EN l e<0\/EP l e<0\/hfh l e<0
   ·rw[if_pos k,if_neg K0];refine sF f78 ?_;exact K5
   ·rw[if_neg k,if_pos rfl];refine sF f78 ?_;exact K1
 ·have FC:qF e q ch st l=fM e q ch st l:=by unfold qF;rw[if_pos h]
  rw[FC,if_neg h];generalize fM e q ch st l=z at*;refine sF f78 ?_;exact K1
def dF3 (a b c:Int):ac 312 [(false,[.ints [a,b,c]])] (.one (I (jr a (jr b c)))):=by
 have h:=EU [a,b,c] (fO rfl);rwa [show fs [a,b,c]=jr a (jr b c)by unfold jr;simp only[fs];split<;>(try rfl);split<;>(try rfl);split<;>omega]at h
def uo {a b:Int}(ha:0<=a/\a<=1000000000)(hb:0<=b/\b<=1000000000):0<=a*b/\a*b<=1000000000000000000:=by
 refine⟨CO ha.1 hb.1,?_⟩;have h1:=CV ha.2 hb.2 hb.1 K9;omega
def aam (a b c d:Int)(ha:pW a)(hb:pW b)(hc:pW c)(hd:pW d):ac 316 [F4 a b c d] (.one (I (NH (a,b) (c,d)))):=by
 have hw:((1<=a/\a<=1000000000)/\1<=b/\b<=1000000000)/\(1<=c/\c<=1000000000)/\1<=d/\d<=1000000000->IntKind.i64.wrap (a*d)=a*d/\IntKind.i64.wrap (c*b)=c*b:=by
  rintro⟨⟨h1,h2⟩,h3,h4⟩;have e1:=uo (a:=a) (b:=d) K0 K0;have e2:=uo (a:=c) (b:=b) K0 K0;exact⟨i64_in _ K0,i64_in _ K0⟩
 refine sF f316 ?_;repeat' ((first|(refine kO 7 rfl ?_;first|refine rG (λ_ z=>⟨_,N8 _ _ FX FX,z⟩) ?_|refine Rq (Gy _ _ _) ?_|refine Rq (jE _) ?_|refine Rq (dF3 _ _ _) ?_)|refine tX 0 ?_|exact Zt|refine bR ?_ ?_<;>intro h)<;>(try conv=>whnf))
 all_goals
  refine mF ?_;unfold NH jr;dsimp only at*;generalize IntKind.i64.wrap (a*d)=u at*;generalize IntKind.i64.wrap (c*b)=v at*;generalize a*d=x at*;generalize c*b=y at*;generalize Int.gcd a b=g at*;generalize Int.gcd c d=k at*
  (repeat' split)<;>first|rfl|omega|contradiction
end Go.Proofs.Tryz
