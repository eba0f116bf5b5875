import Derived.Test.YtolnfpljgjpbpaaGreatDoorPk8
import Derived.Test.YtolnfpljgjpbpaaGreatDoorPk9
import Derived.Test.YtolnfpljgjpbpaaGreatDoorPk10
set_option linter.all false
set_option maxRecDepth 100000
set_option maxHeartbeats 8000000
namespace Go.Proofs.Tryz
open Go.Fw Go.IntWalk Go.Plain
abbrev Oo (a b:Int):Prop:=(-1000000000000000<=a/\a<=1000000000000000)/\ -1000000000000000<=b/\b<=1000000000000000
def s9 (a b:Int):Int:=if Oo a b then(if a<=b then 0 else 9)else 2
def KC (a b:Int):ac 221 [F2 a b] (.one (I (s9 a b))):=by
 have g:=EI [a,b] 1000000000000000 K0 (fM rfl);have ea:i6 [a,b] (-1000000000000000) 1000000000000000↔Oo a b:=by simp[i6]
 have f:=fs2 (if Oo a b then 0 else 2) (if a<=b then 0 else 9);have e:fs [if Oo a b then 0 else 2,if a<=b then 0 else 9]=s9 a b:=by grind[s9]
 simp only[ea]at g;rw[<- e];refine sF f221 ?_;exact tL
def sK (a b:Int):ac 299 [F2 a b] (.one (I (s9 a b))):=by
 unfold s9;by_cases h:Oo a b
 ·rw[if_pos h];by_cases h':a<=b
  ·rw[if_pos h'];refine sF f299 ?_;exact tL
  ·rw[if_neg h'];refine sF f299 ?_;exact tL
 ·rw[if_neg h];refine sF f299 ?_;exact tL
def rZ (a b c d:Int):Int:=if s9 a b≠0 then s9 a b else s9 c d
def WB (a b c d:Int):Int:=if c<=a/\b<=d then 2 else if b<c\/a>d then 0 else 1
def G6 (a b c d:Int):ac 178 [F2 a b,F2 c d] (.aI (if rZ a b c d=0 then [I (WB a b c d),I 0]else [I 0,I (rZ a b c d)])):=by
 have f:=fs2 (s9 a b) (s9 c d);rw[show(if s9 a b≠0 then s9 a b else s9 c d)=rZ a b c d from rfl]at f;refine sF f178 ?_;repeat((first|(refine kO 7 rfl ?_;first|refine Rq (KC _ _) ?_|refine rG (λ_ z=>⟨_,gW _ (fM rfl),z⟩) ?_)|refine tX 0 ?_|exact Zt);(try conv=>whnf))
 rw[f]
 (refine bR ?_ ?_<;>intro h<;>(try conv=>whnf))
 ·exact afC
 ·rw[if_pos (show rZ a b c d=0 by omega)];unfold WB;by_cases h1:c<=a/\b<=d
  ·rw[if_pos h1];exact tL
  ·rw[if_neg h1];by_cases h2:b<c\/a>d
   ·rw[if_pos h2];exact tL
   ·rw[if_neg h2];exact tL
def G7 (a b c d:Int):ac 300 [F2 a b,F2 c d] (.one (I (WB a b c d))):=by
 unfold WB;by_cases h1:c<=a/\b<=d
 ·rw[if_pos h1];refine sF f300 ?_;exact tL
 ·rw[if_neg h1];by_cases h2:b<c\/a>d
  ·rw[if_pos h2];refine sF f300 ?_;exact tL
  ·rw[if_neg h2];refine sF f300 ?_;exact tL
def AR (a b c d:Int):ac 255 [F2 a b,F2 c d] (.aI (if rZ a b c d=0 then [I (WB a b c d),I 0]else [I 0,I (rZ a b c d)])):=by
 have s1:=sK a b;have s2:=sK c d;have s3:=G7 a b c d;unfold rZ;by_cases h1:s9 a b=0
 ·rw[if_neg (show ¬s9 a b≠0 by omega)];rw[h1]at s1;by_cases h2:s9 c d=0
  ·rw[if_pos h2];rw[h2]at s2;refine sF f255 ?_;exact tL
  ·rw[if_neg h2];generalize s9 c d=z at*;refine sF f255 ?_;exact tL
 ·rw[if_pos h1,if_neg h1];generalize s9 a b=z at*;refine sF f255 ?_;exact tL
def aak (p:Int)(S:Sp):Int:=p*S.1/S.2.1
def aal (p:Int)(S:Sp):Int:= -(-(p*S.2.2.1)/S.2.2.2)
def jM (e:Int)(q:Sp)(ch:List Sp)(g:Int):Int:=if kC e q ch≠0 then kC e q ch else g
def Fi {e:Int}{q:Sp}{ch:List Sp}(h:kC e q ch=0):aV e q ch=0/\k7 (iW ch)/\scB 1000000000 (iW ch):=by
 unfold kC at h;split at h
 grind
 ·rename_i h1;split at h
  ·rename_i h2;have h0:aV e q ch=0:=by omega
   obtain⟨_,_,h4,hf⟩:=iU h0;have hS:scB 1000000000000 (iW ch):=EW hf h4 (dG _)
   grind
  ·omega
def G8 (e:Int)(q:Sp)(ch:List Sp)(hq:qE q)(wl: ∀s∈ch,qE s)(hl:ch.length<=4294967296)(t p r a b c d i j:Int):ac 184 [Ru e q ch,F9 t p r a b c d i j] (.aI (if jM e q ch (eT t p r a b c d i j)=0 then [F2 (aak p (iW ch)) (aal r (iW ch)),I 0]else [F2 0 0,I (jM e q ch (eT t p r a b c d i j))])):=by
 have s1:=NL e q ch hq wl hl;have s2:=AP t p r a b c d i j;by_cases h1:kC e q ch=0
 ·have he:jM e q ch (eT t p r a b c d i j)=eT t p r a b c d i j:=by unfold jM;grind
  rw[he];rw[if_pos h1]at s1;obtain⟨_,_,hS⟩:=Fi h1;generalize iW ch=S at*;by_cases h2:eT t p r a b c d i j=0
  ·obtain⟨⟨⟨k1,k2,k3⟩,_⟩,_⟩:=BY h2;have m1:=GZ (A:=4196) (B:=1000000000) k2 hS.1;have m2:=GZ (A:=4196) (B:=1000000000) k3 hS.2.2.1;have g:=Nv (p*S.1) S.2.1 (r*S.2.2.1) S.2.2.2 K0 K0 K0 K0;rw[if_pos h2];rw[h2]at s2;refine sF f184 ?_;exact tL
  ·rw[if_neg h2];generalize eT t p r a b c d i j=z at*;refine sF f184 ?_;repeat((first|(refine kO 7 rfl ?_;first|refine Rq VU ?_)|refine tX 0 ?_|exact Zt);(try conv=>whnf))
   exact K5
 ·have he:jM e q ch (eT t p r a b c d i j)=kC e q ch:=by unfold jM;grind
  rw[he,if_neg h1];rw[if_neg h1]at s1;have f:=VT (x:=kC e q ch) (y:=eT t p r a b c d i j) h1;generalize kC e q ch=z at*;refine sF f184 ?_;exact tL
def AS (e:Int)(q:Sp)(ch:List Sp)(hq:qE q)(wl: ∀s∈ch,qE s)(t p r a b c d i j:Int):ac 262 [Ru e q ch,F9 t p r a b c d i j] (.aI (if jM e q ch (eT t p r a b c d i j)=0 then [F2 (aak p (iW ch)) (aal r (iW ch)),I 0]else [F2 0 0,I (jM e q ch (eT t p r a b c d i j))])):=by
 have s1:=ni e q ch hq wl;have s2:=G4 t p r a b c d i j;by_cases h0:aV e q ch=0
 ·have s3:=Kp h0;rw[h0]at s1;by_cases hs:k7 (iW ch)
  ·have h1:kC e q ch=0:=by unfold kC;grind
   have he:jM e q ch (eT t p r a b c d i j)=eT t p r a b c d i j:=by unfold jM;grind
   rw[he];rw[if_pos hs]at s3;obtain⟨_,_,hS⟩:=Fi h1;generalize iW ch=S at*;by_cases h2:eT t p r a b c d i j=0
   ·obtain⟨⟨⟨k1,k2,k3⟩,_⟩,_⟩:=BY h2;have m1:=GZ (A:=4196) (B:=1000000000) k2 hS.1;have m2:=GZ (A:=4196) (B:=1000000000) k3 hS.2.2.1;have g1:=AG (p*S.1) S.2.1 K0 K0;have g2:=Nw (r*S.2.2.1) S.2.2.2 K0 K0;rw[if_pos h2];rw[h2]at s2;exact acl
   ·rw[if_neg h2];generalize eT t p r a b c d i j=z at*;exact acl
  ·have h1:kC e q ch=8:=by unfold kC;grind
   have he:jM e q ch (eT t p r a b c d i j)=8:=by unfold jM;grind
   rw[he,if_neg K0];rw[if_neg hs]at s3;exact acl
 ·have h1:kC e q ch=aV e q ch:=by unfold kC;grind
  have he:jM e q ch (eT t p r a b c d i j)=aV e q ch:=by unfold jM;grind
  rw[he,if_neg h0];generalize aV e q ch=z at*;exact acl
def agF {s:aj}(hs: ∃y∈s,y=(47:UInt8)):wN false 13 s=none:=by
 obtain⟨y,hy,rfl⟩:=hs
 cases hw:wN false 13 s with
 |none=>rfl
 |some n=>
  have:=Eo hw 47 hy;unfold dq at this;exfalso
  revert this;decide
def IS (s:aj)(hl:s.length<=100000): ∃a b,(∀fl:Bool,bA cx 223 1 ((false,[.ptr 1 0])::[SS s].map dyn) [(1,some (.box 291 ([K fl].map .st)))] [1] (.val (dyn (true,[J a,J b]))) [(1,some (.box 291 ([K (fl || !(pY s).isSome)].map .st)))])/\∀x,pY s=some x->x=(a,b):=by
 have c1:=gT s 47 K0
 rcases vp s 47 with⟨h1,h2⟩|⟨a,b,h1,h2,h3,h4⟩
 ·rw[h1]at c1;have e:pY s=none:=yU h2;rw[e];obtain⟨v,c2,_⟩:=gi false s K0;obtain⟨u,c3,_⟩:=gi false [] (by simp);refine⟨v,u,λfl=>?_,λx h=>by cases h⟩;cases fl
  all_goals
   exact K72
 ·rw[h1]at c1;have e:pY s=(wN false 13 a).bind λx=>(wN false 13 b).map λy=>(x,y):=yV (c:=47) (λs=>agF) h2;rw[e];obtain⟨v,c2,k1⟩:=gi false a K0;obtain⟨u,c3,k2⟩:=gi false b K0;refine⟨v,u,λfl=>?_,λp hp=>?_⟩
  ·rw[oM.1];clear e k1 k2;generalize (wN false 13 a).isSome =x at*;generalize (wN false 13 b).isSome =y at*;cases fl<;>cases x<;>cases y
   all_goals
    exact K72
  ·obtain⟨h5,h6⟩:=oM.2 p hp;exact Prod.ext (k1 _ h5) (k2 _ h6)
def eF (n lo hi:Int):ac 269 [I n,I lo,I hi] (.one (Bo (decide (lo<=n)&&decide (n<=hi)))):=by
 refine sF f269 ?_;repeat' ((first|refine tX 0 ?_|exact Zt|refine bR ?_ ?_<;>intro h)<;>(try conv=>whnf))
 all_goals exact gS wY
def qL (b:Bool)(e:Int):ac 267 [Bo b,I e] (.one (I (if b=true then 0 else e))):=by
 refine sF f267 ?_
 (try(refine tX 0 ?_;try exact Zt))
 cases b
 ·exact K1
 ·exact K1
def jC {b:Bool}{p:Prop} [BP b p] [Decidable p](e:Int):ac 267 [Bo b,I e] (.one (I (if p then 0 else e))):=by
 have h:=qL b e;exact afx
def Rj {b:Bool}{p:Prop} [BP b p](hp: ¬p)(e:Int):ac 267 [Bo b,I e] (.one (I e)):=by
 have h:=qL b e;exact afE
def Oy {b:Bool}{p:Prop} [BP b p](hp:p)(e:Int):ac 267 [Bo b,I e] (.one (I 0)):=by
 have h:=qL b e;exact afM
def Fm (l:List Int)(hl:l.length<=1000000):ac 266 [(false,[.ints l])] (.one (I (fs l))):=by
 have hd: ∀i,i<l.length->fs (l.drop i)=if l.getD i 0≠0 then l.getD i 0 else fs (l.drop (i+1)):=λi hi=>by exact ah1
 refine sF f266 ?_
 (try(refine tX 0 ?_;try exact Zt))
 refine af (ι:=Nat) (λi=>i<=l.length/\fs (l.drop i)=fs l) (λi=>l.length -i) (λi=>⟨[(5,some (.val (false,[.st (.ints l)]))),(6,vI l.length),(7,vI i)],[],0⟩) 0 Zc ⟨dz _,rfl⟩ ?_;rintro i ⟨hi,he⟩;by_cases al:i<l.length
 ·have h1:=hd i al;by_cases hz:l.getD i 0=0
  ·rw[if_neg K0]at h1;exact K59
  ·rw[if_pos hz]at h1;repeat' ((first|refine tX 0 ?_|exact Zt|refine bR ?_ ?_<;>intro h)<;>(try conv=>whnf))
   all_goals first
    |(exfalso;omega)
    |exact mH K0
 ·exact K51
def IT (n:Int)(h0: -9223372036854775807<=n)(h1:n<=9223372036854775807):ac 273 [I n] (.one (I (n.natAbs:Nat))):=by
 refine sF f273 ?_
 (try(refine tX 0 ?_;try exact Zt))
 refine mH ?_;show(if -n>n then -n else n)=_;split<;>omega
def KI (a b:Int)(ha:qd a)(hb:TS b)(R3:a= -9223372036854775808->b≠0):ac 342 [I a,I b] (.one (I (Int.gcd a b))):=by
 refine sF f342 ?_
 (try(refine tX 0 ?_;try exact Zt))
 refine af (ι:=Int × Int) (λp=>Int.gcd p.1 p.2=Int.gcd a b/\qd p.1/\TS p.2/\(p.1= -9223372036854775808->p.2≠0)) (λp=>p.2.natAbs) (λp=>⟨[(0,vI p.1),(1,vI p.2)],[],0⟩) (a,b) Zc ⟨rfl,ha,hb,R3⟩ ?_;rintro⟨x,y⟩ ⟨hg,hx,hy,hxy⟩;dsimp only at hg hx hy hxy;have Hu:=hx.1;have hx2:=hx.2;have hy1:=hy.1;have hy2:=hy.2;by_cases gk:y=0
 ·subst gk;have hx3:x≠ -9223372036854775808:=λe=>hxy e rfl;repeat((first|(refine kO 7 rfl ?_;first|refine rG (λ_ z=>⟨_,IT x K0 hx2,z⟩) ?_)|refine tX 0 ?_|exact Zt);(try conv=>whnf))
  exact mH (by rw[<- hg];simp)
 ·have h1:(x.tmod y).natAbs =x.natAbs%y.natAbs:=HD _ _;have h2:x.natAbs%y.natAbs<y.natAbs:=tQ _ K0
  (try(refine tX 0 ?_;try exact Zt))
  refine⟨(y,x.tmod y),⟨?_,⟨by dsimp only;omega,hy2⟩,⟨by dsimp only;omega,by dsimp only;omega⟩,λe=>absurd e aca⟩,by dsimp only;omega,Zc⟩;exact K55
def Oz (n d:Int)(hn:qd n)(hd:qd d):ac 320 [F2 n d] (.one (Bo (decide (0<d/\Int.gcd n d=1)))):=by
 have:=hd.2;refine sF f320 ?_;repeat' ((first|(refine kO 7 rfl ?_;first|refine rG (λ_ z=>⟨_,KI n d hn ⟨by omega,by omega⟩ (λ_=>by omega),z⟩) ?_)|refine tX 0 ?_|exact Zt|refine bR ?_ ?_<;>intro h)<;>(try conv=>whnf))
 all_goals first|(exact gS (eJ K0).symm)|(exact gS (by rw[vY,beq_iff_eq,wX];omega))
def Ha (n d m:Int):ac 321 [F2 n d,I m] (.one (Bo (decide ((1<=n/\n<=m)/\1<=d/\d<=m)))):=by
 refine sF f321 ?_;repeat' ((first|(refine kO 7 rfl ?_;first|refine Rq (eF _ _ _) ?_)|refine tX 0 ?_|exact Zt|refine bR ?_ ?_<;>intro h)<;>(try conv=>whnf))
 all_goals exact gS (by rw[vY];simp only[sU,wX,tE,false_iff];omega)
def o0 (n m:Int)(hm:0<=m/\m<=1000000000):ac 271 [I n,I m] (.one (Bo (decide (-m<=n)&&decide (n<=m)))):=by
 refine sF f271 ?_;repeat((first|(refine kO 7 rfl ?_;first|refine Rq (eF _ _ _) ?_)|refine tX 0 ?_|exact Zt);(try conv=>whnf))
 exact K5
def OA (s:aj)(hl:s.length<=1000000):ac 268 [SS s] (.one (Bo (decide (jJ s)))):=by
 have hb:=vt s;refine sF f268 ?_
 (try(refine tX 0 ?_;try exact Zt))
 refine af (ι:=Nat) (λi=>i<=s.length/\QE s i) (λi=>s.length -i) (λi=>⟨[(0,lS s),(7,some (.val (false,[.st (.view (kS (B s)))]))),(8,vI s.length),(9,vI i)],[],0⟩) 0 (ai ab5) ⟨dz _,λj hj=>by omega⟩ ?_;rintro i ⟨hi,hp⟩;by_cases al:i<s.length
 ·have hg:=Kf al;have dm:=λh=>QF (s:=s) (i:=i) al h;have l6:=λh=>AA (s:=s) (i:=i) hp h;have Gq:((s.getD i 0).toNat :Int)<=255:=by exact U3
  unfold okc at dm l6;generalize (s.getD i 0).toNat =c at*;repeat' ((first|(refine kO 7 rfl ?_;first|refine Rq (eF _ _ _) ?_)|refine tX 0 ?_|exact Zt|refine bR ?_ ?_<;>intro h)<;>(try conv=>whnf))
  all_goals first
   |(exfalso;omega)
   |exact gS (eJ (dm K0)).symm
   |exact⟨i+1,⟨al,l6 K0⟩,by omega,Zc⟩
 ·obtain rfl:i=s.length:=by omega
  repeat' ((first|(refine kO 7 rfl ?_;first|refine Rq (eF _ _ _) ?_)|refine tX 0 ?_|exact Zt|refine bR ?_ ?_<;>intro h)<;>(try conv=>whnf))
  all_goals first
   |(exfalso;omega)
   |exact gS ahO
def dF3 (a b c:Int):ac 266 [(false,[.ints [a,b,c]])] (.one (I (jp a (jp b c)))):=by
 have h:=Fm [a,b,c] (fM rfl);rwa [show fs [a,b,c]=jp a (jp b c)by unfold jp;simp only[fs];split<;>(try rfl);split<;>(try rfl);split<;>omega]at h
def uP {a b:Int}(ha:0<=a/\a<=1000000000)(hb:0<=b/\b<=1000000000):0<=a*b/\a*b<=1000000000000000000:=by
 refine⟨De ha.1 hb.1,?_⟩;have h1:=Dk ha.2 hb.2 hb.1 bX;omega
def aav (a b c d:Int)(ha:qd a)(hb:qd b)(hc:qd c)(hd:qd d):ac 270 [F4 a b c d] (.one (I (N9 (a,b) (c,d)))):=by
 have hw:((1<=a/\a<=1000000000)/\1<=b/\b<=1000000000)/\(1<=c/\c<=1000000000)/\1<=d/\d<=1000000000->IntKind.i64.wrap (a*d)=a*d/\IntKind.i64.wrap (c*b)=c*b:=by
  rintro⟨⟨h1,h2⟩,h3,h4⟩;have e1:=uP (a:=a) (b:=d) K0 K0;have e2:=uP (a:=c) (b:=b) K0 K0;exact⟨i64_in _ K0,i64_in _ K0⟩
 refine sF f270 ?_;repeat' ((first|(refine kO 7 rfl ?_;first|refine rG (λ_ z=>⟨_,Oz _ _ HL HL,z⟩) ?_|refine Rq (Ha _ _ _) ?_|refine Rq (jC _) ?_|refine Rq (dF3 _ _ _) ?_)|refine tX 0 ?_|exact Zt|refine bR ?_ ?_<;>intro h)<;>(try conv=>whnf))
 all_goals
  refine mH ?_;unfold N9 jp;dsimp only at*;generalize IntKind.i64.wrap (a*d)=u at*;generalize IntKind.i64.wrap (c*b)=v at*;generalize a*d=x at*;generalize c*b=y at*;generalize Int.gcd a b=g at*;generalize Int.gcd c d=k at*
  (repeat' split)<;>first|rfl|omega|contradiction
end Go.Proofs.Tryz
