import Derived.Test.YtackacoaaihcjaaGreatDoorPkM3
set_option linter.all false
set_option maxRecDepth 100000
set_option maxHeartbeats 8000000
namespace Go.Proofs.Tryz
open Go.Fw Go.IntWalk Go.Plain
def agZ {s:aj}(hs: ∃y∈s,y=(47:UInt8)):wN false 13 s=none:=by
 obtain⟨y,hy,rfl⟩:=hs
 cases hw:wN false 13 s with
 |none=>rfl
 |some n=>
  have:=DW hw 47 hy;unfold dt at this;exfalso
  revert this;decide
def In (s:aj)(hl:s.length<=100000): ∃a b,(∀fl:Bool,bx cx 287 1 ((false,[.ptr 1 0])::[SS s].map dyn) [(1,some (.box 351 ([K fl].map .st)))] [1] (.val (dyn (true,[J a,J b]))) [(1,some (.box 351 ([K (fl || !(pW s).isSome)].map .st)))])/\∀x,pW s=some x->x=(a,b):=by
 have c1:=gZ s 47 K0
 rcases u6 s 47 with⟨h1,h2⟩|⟨a,b,h1,h2,h3,h4⟩
 ·rw[h1]at c1;have e:pW s=none:=yP h2;rw[e];obtain⟨v,c2,_⟩:=gk false s K0;obtain⟨u,c3,_⟩:=gk false [] (by simp);refine⟨v,u,λfl=>?_,λx h=>by cases h⟩;cases fl
  all_goals
   exact K80
 ·rw[h1]at c1;have e:pW s=(wN false 13 a).bind λx=>(wN false 13 b).map λy=>(x,y):=yQ (c:=47) (λs=>agZ) h2;rw[e];obtain⟨v,c2,k1⟩:=gk false a K0;obtain⟨u,c3,k2⟩:=gk false b K0;refine⟨v,u,λfl=>?_,λp hp=>?_⟩
  ·rw[oQ.1];clear e k1 k2;generalize (wN false 13 a).isSome =x at*;generalize (wN false 13 b).isSome =y at*;cases fl<;>cases x<;>cases y
   all_goals
    exact K80
  ·obtain⟨h5,h6⟩:=oQ.2 p hp;exact Prod.ext (k1 _ h5) (k2 _ h6)
def eH (n lo hi:Int):ac 315 [I n,I lo,I hi] (.one (Bo (decide (lo<=n)&&decide (n<=hi)))):=by
 refine sF f315 ?_;repeat' ((first|refine tX 0 ?_|exact Zt|refine bR ?_ ?_<;>intro h)<;>(try conv=>whnf))
 all_goals exact gX wa
def qJ (b:Bool)(e:Int):ac 313 [Bo b,I e] (.one (I (if b=true then 0 else e))):=by
 refine sF f313 ?_
 (try(refine tX 0 ?_;try exact Zt))
 cases b
 ·exact K1
 ·exact K1
def jD {b:Bool}{p:Prop} [BP b p] [Decidable p](e:Int):ac 313 [Bo b,I e] (.one (I (if p then 0 else e))):=by
 have h:=qJ b e;exact afN
def QV {b:Bool}{p:Prop} [BP b p](hp: ¬p)(e:Int):ac 313 [Bo b,I e] (.one (I e)):=by
 have h:=qJ b e;exact afU
def N6 {b:Bool}{p:Prop} [BP b p](hp:p)(e:Int):ac 313 [Bo b,I e] (.one (I 0)):=by
 have h:=qJ b e;exact af4
def EW (l:List Int)(hl:l.length<=1000000):ac 312 [(false,[.ints l])] (.one (I (fs l))):=by
 have hd: ∀i,i<l.length->fs (l.drop i)=if l.getD i 0≠0 then l.getD i 0 else fs (l.drop (i+1)):=λi hi=>by exact ais
 refine sF f312 ?_
 (try(refine tX 0 ?_;try exact Zt))
 refine af (ι:=Nat) (λi=>i<=l.length/\fs (l.drop i)=fs l) (λi=>l.length -i) (λi=>⟨[(5,some (.val (false,[.st (.ints l)]))),(6,vI l.length),(7,vI i)],[],0⟩) 0 Zc ⟨dD _,rfl⟩ ?_;rintro i ⟨hi,he⟩;by_cases ak:i<l.length
 ·have h1:=hd i ak;by_cases hz:l.getD i 0=0
  ·rw[if_neg K0]at h1;exact K66
  ·rw[if_pos hz]at h1;repeat' ((first|refine tX 0 ?_|exact Zt|refine bR ?_ ?_<;>intro h)<;>(try conv=>whnf))
   all_goals first
    |(exfalso;omega)
    |exact mH K0
 ·exact K56
def Io (n:Int)(h0: -9223372036854775807<=n)(h1:n<=9223372036854775807):ac 319 [I n] (.one (I (n.natAbs:Nat))):=by
 refine sF f319 ?_
 (try(refine tX 0 ?_;try exact Zt))
 refine mH ?_;show(if -n>n then -n else n)=_;split<;>omega
def Ki (a b:Int)(ha:p9 a)(hb:TE b)(Sb:a= -9223372036854775808->b≠0):ac 357 [I a,I b] (.one (I (Int.gcd a b))):=by
 refine sF f357 ?_
 (try(refine tX 0 ?_;try exact Zt))
 refine af (ι:=Int × Int) (λp=>Int.gcd p.1 p.2=Int.gcd a b/\p9 p.1/\TE p.2/\(p.1= -9223372036854775808->p.2≠0)) (λp=>p.2.natAbs) (λp=>⟨[(0,vI p.1),(1,vI p.2)],[],0⟩) (a,b) Zc ⟨rfl,ha,hb,Sb⟩ ?_;rintro⟨x,y⟩ ⟨hg,hx,hy,hxy⟩;dsimp only at hg hx hy hxy;have GY:=hx.1;have hx2:=hx.2;have hy1:=hy.1;have hy2:=hy.2;by_cases eU:y=0
 ·subst eU;have hx3:x≠ -9223372036854775808:=λe=>hxy e rfl;repeat((first|(refine kO 7 rfl ?_;first|refine rG (λ_ z=>⟨_,Io x K0 hx2,z⟩) ?_)|refine tX 0 ?_|exact Zt);(try conv=>whnf))
  exact mH (by rw[<- hg];simp)
 ·have h1:(x.tmod y).natAbs =x.natAbs%y.natAbs:=G6 _ _;have h2:x.natAbs%y.natAbs<y.natAbs:=tq _ K0
  (try(refine tX 0 ?_;try exact Zt))
  refine⟨(y,x.tmod y),⟨?_,⟨by dsimp only;omega,hy2⟩,⟨by dsimp only;omega,by dsimp only;omega⟩,λe=>absurd e aca⟩,by dsimp only;omega,Zc⟩;exact K60
def N7 (n d:Int)(hn:p9 n)(hd:p9 d):ac 344 [F2 n d] (.one (Bo (decide (0<d/\Int.gcd n d=1)))):=by
 have:=hd.2;refine sF f344 ?_;repeat' ((first|(refine kO 7 rfl ?_;first|refine rG (λ_ z=>⟨_,Ki n d hn ⟨by omega,by omega⟩ (λ_=>by omega),z⟩) ?_)|refine tX 0 ?_|exact Zt|refine bR ?_ ?_<;>intro h)<;>(try conv=>whnf))
 all_goals first|(exact gX (fj K0).symm)|(exact gX (by rw[vN,beq_iff_eq,vJ];omega))
def GB (n d m:Int):ac 345 [F2 n d,I m] (.one (Bo (decide ((1<=n/\n<=m)/\1<=d/\d<=m)))):=by
 refine sF f345 ?_;repeat' ((first|(refine kO 7 rfl ?_;first|refine Rq (eH _ _ _) ?_)|refine tX 0 ?_|exact Zt|refine bR ?_ ?_<;>intro h)<;>(try conv=>whnf))
 all_goals exact gX (by rw[vN];simp only[sQ,vJ,to,false_iff];omega)
def o3 (n m:Int)(hm:0<=m/\m<=1000000000):ac 317 [I n,I m] (.one (Bo (decide (-m<=n)&&decide (n<=m)))):=by
 refine sF f317 ?_;repeat((first|(refine kO 7 rfl ?_;first|refine Rq (eH _ _ _) ?_)|refine tX 0 ?_|exact Zt);(try conv=>whnf))
 exact K7
def N8 (s:aj)(hl:s.length<=1000000):ac 314 [SS s] (.one (Bo (decide (jK s)))):=by
 have hb:=vg s;refine sF f314 ?_
 (try(refine tX 0 ?_;try exact Zt))
 refine af (ι:=Nat) (λi=>i<=s.length/\Qh s i) (λi=>s.length -i) (λi=>⟨[(0,lS s),(7,some (.val (false,[.st (.view (kQ (B s)))]))),(8,vI s.length),(9,vI i)],[],0⟩) 0 (ai ab5) ⟨dD _,λj hj=>by omega⟩ ?_;rintro i ⟨hi,hp⟩;by_cases ak:i<s.length
 ·have hg:=JP ak;have dp:=λh=>Qi (s:=s) (i:=i) ak h;have l8:=λh=>An (s:=s) (i:=i) hp h;have FJ:((s.getD i 0).toNat :Int)<=255:=by exact UX
  unfold okc at dp l8;generalize (s.getD i 0).toNat =c at*;repeat' ((first|(refine kO 7 rfl ?_;first|refine Rq (eH _ _ _) ?_)|refine tX 0 ?_|exact Zt|refine bR ?_ ?_<;>intro h)<;>(try conv=>whnf))
  all_goals first
   |(exfalso;omega)
   |exact gX (fj (dp K0)).symm
   |exact⟨i+1,⟨ak,l8 K0⟩,by omega,Zc⟩
 ·obtain rfl:i=s.length:=by omega
  repeat' ((first|(refine kO 7 rfl ?_;first|refine Rq (eH _ _ _) ?_)|refine tX 0 ?_|exact Zt|refine bR ?_ ?_<;>intro h)<;>(try conv=>whnf))
  all_goals first
   |(exfalso;omega)
   |exact gX aie
def dF3 (a b c:Int):ac 312 [(false,[.ints [a,b,c]])] (.one (I (ju a (ju b c)))):=by
 have h:=EW [a,b,c] (fO rfl);rwa [show fs [a,b,c]=ju a (ju b c)by unfold ju;simp only[fs];split<;>(try rfl);split<;>(try rfl);split<;>omega]at h
def uE {a b:Int}(ha:0<=a/\a<=1000000000)(hb:0<=b/\b<=1000000000):0<=a*b/\a*b<=1000000000000000000:=by
 refine⟨CS ha.1 hb.1,?_⟩;have h1:=CY ha.2 hb.2 hb.1 K9;omega
def aau (a b c d:Int)(ha:p9 a)(hb:p9 b)(hc:p9 c)(hd:p9 d):ac 316 [F4 a b c d] (.one (I (NG (a,b) (c,d)))):=by
 have hw:((1<=a/\a<=1000000000)/\1<=b/\b<=1000000000)/\(1<=c/\c<=1000000000)/\1<=d/\d<=1000000000->IntKind.i64.wrap (a*d)=a*d/\IntKind.i64.wrap (c*b)=c*b:=by
  rintro⟨⟨h1,h2⟩,h3,h4⟩;have e1:=uE (a:=a) (b:=d) K0 K0;have e2:=uE (a:=c) (b:=b) K0 K0;exact⟨i64_in _ K0,i64_in _ K0⟩
 refine sF f316 ?_;repeat' ((first|(refine kO 7 rfl ?_;first|refine rG (λ_ z=>⟨_,N7 _ _ F3 F3,z⟩) ?_|refine Rq (GB _ _ _) ?_|refine Rq (jD _) ?_|refine Rq (dF3 _ _ _) ?_)|refine tX 0 ?_|exact Zt|refine bR ?_ ?_<;>intro h)<;>(try conv=>whnf))
 all_goals
  refine mH ?_;unfold NG ju;dsimp only at*;generalize IntKind.i64.wrap (a*d)=u at*;generalize IntKind.i64.wrap (c*b)=v at*;generalize a*d=x at*;generalize c*b=y at*;generalize Int.gcd a b=g at*;generalize Int.gcd c d=k at*
  (repeat' split)<;>first|rfl|omega|contradiction
end Go.Proofs.Tryz
