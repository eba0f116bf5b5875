import Derived.Test.YtackacoaaihcjaaGreatDoorPkF7
set_option linter.all false
set_option maxRecDepth 100000
set_option maxHeartbeats 8000000
namespace Go.Proofs.Tryz
open Go.Fw Go.IntWalk Go.Plain
abbrev Gx (q:Sp):Iv:=((q.1,q.2.1),(q.2.2.1,q.2.2.2))
def agM {q:Sp}(h:dG q=0):BC (Gx q):=by
 obtain⟨⟨h1,h2,h3,h4⟩,_⟩:=mJ h;exact⟨⟨⟨show -5000<=q.1 by omega,show q.1<=5000 by omega⟩,show 1<=q.2.1 by omega,show q.2.1<=5000 by omega⟩,⟨show -5000<=q.2.2.1 by omega,show q.2.2.1<=5000 by omega⟩,show 1<=q.2.2.2 by omega,show q.2.2.2<=5000 by omega⟩
def agN {q:Sp}(h:dG q=0): ¬ki (Gx q):=(mJ h).2.2.2
def dx (e:Int)(q:Sp)(ch:List Sp)(sa:Int)(la:List Int)(sb:Int)(lb:List Int):Int:=if aV e q ch≠0 then aV e q ch else if di sa la≠0 then di sa la else if di sb lb≠0 then di sb lb else if sa=sb/\(la.length:Int)=lb.length then 0 else 10
def Kj {e:Int}{q:Sp}{ch:List Sp}{sa:Int}{la:List Int}{sb:Int}{lb:List Int}(h:dx e q ch sa la sb lb=0):aV e q ch=0/\di sa la=0/\di sb lb=0/\sa=sb/\la.length=lb.length:=by
 unfold dx at h;repeat' split at h
 all_goals first|omega|exact⟨by omega,by omega,by omega,by omega,by omega⟩
def wV {e:Int}{q:Sp}{ch:List Sp}{sa:Int}{la:List Int}{sb:Int}{lb:List Int}(h:dx e q ch sa la sb lb=0):(0<=e/\e<=100)/\BC (Gx q)/\¬ki (Gx q)/\(3<=la.length/\la.length<=64)/\la.length=lb.length/\BY la/\BY lb:=by
 obtain⟨h1,h2,h3,_,h5⟩:=Kj h;obtain⟨g1,g2,_⟩:=iT h1;obtain⟨_,k1,k2,k3⟩:=pA h2;obtain⟨_,_,_,m3⟩:=pA h3;exact⟨g1,agM g2,agN g2,⟨k1,k2⟩,h5,k3,m3⟩
def T4 (e:Int)(q:Sp)(la lb:List Int):Iv:=um (Gx q) e (PI la lb (ET la.length)) (Gx q)
def agO {e:Int}{q:Sp}{la lb:List Int}(h:BC (Gx q))(he:0<=e/\e<=100)(hl:la.length=lb.length)(ha:BY la)(hb:BY lb):BC (T4 e q la lb):=
 Ki h he _ _ h (aal ha hb hl (λw hw=>by have:=QT _ w hw;omega))
def Kk (e:Int)(q:Sp)(ch:List Sp)(sa:Int)(la:List Int)(sb:Int)(lb:List Int)(hq:qy q)(vH: ∀s∈ch,qy s)(hc:ch.length<=4294967296)(hla:la.length<=maxLen)(hlb:lb.length<=maxLen):
  ac 321 [Ru e q ch,Rc sa la,Rc sb lb] (.aJ [Pr (Gx q) e la lb,I (dx e q ch sa la sb lb)]):=by
 have s1:=k5 e q ch hq vH hc;have s2:=jZ sa la hla;have s3:=jZ sb lb hlb;have f:=fs4 (aV e q ch) (di sa la) (di sb lb) (if sa=sb/\(la.length:Int)=lb.length then 0 else 10);have f':fs [aV e q ch,di sa la,di sb lb,if sa=sb/\(la.length:Int)=lb.length then 0 else 10]=dx e q ch sa la sb lb:=by rw[f];unfold dx;(repeat' split)<;>first|omega|rfl
 rw[<- f'];clear f f';by_cases h1:sa=sb
 ·by_cases h2:(la.length:Int)=lb.length
  ·rw[if_pos ⟨h1,h2⟩];refine sF f321 ?_;repeat((first|(refine kO 7 rfl ?_;first|refine rG (λ_ z=>⟨_,M5 (show _ by simp[h1,h2]) _,z⟩) ?_|refine rG (λ_ z=>⟨_,g9 _ (fO rfl),z⟩) ?_)|refine tX 0 ?_|exact Zt);(try conv=>whnf))
   exact K7
  ·rw[if_neg (λh=>h2 h.2)];refine sF f321 ?_;repeat((first|(refine kO 7 rfl ?_;first|refine rG (λ_ z=>⟨_,D6 (show ¬_ by simp[h1,h2]) _,z⟩) ?_|refine rG (λ_ z=>⟨_,g9 _ (fO rfl),z⟩) ?_)|refine tX 0 ?_|exact Zt);(try conv=>whnf))
   exact K7
 ·rw[if_neg (λh=>h1 h.1)];refine sF f321 ?_;repeat((first|(refine kO 7 rfl ?_;first|refine rG (λ_ z=>⟨_,D6 (show ¬_ by simp[h1]) _,z⟩) ?_|refine rG (λ_ z=>⟨_,g9 _ (fO rfl),z⟩) ?_)|refine tX 0 ?_|exact Zt);(try conv=>whnf))
  exact K7
def Ws (z e:Int)(s:Iv):List SV:=if z≠0 then [I 0,I z]else if ki s then [I 2,I 0]else if e=0 then [I 0,I 0]else [I 1,I 0]
def AC (e:Int)(q:Sp)(ch:List Sp)(sa:Int)(la:List Int)(sb:Int)(lb:List Int)(hq:qy q)(vH: ∀s∈ch,qy s)(hc:ch.length<=4294967296)(hla:la.length<=maxLen)(hlb:lb.length<=maxLen):
  ac 291 [Ru e q ch,Rc sa la,Rc sb lb] (.aJ (Ws (dx e q ch sa la sb lb) e (T4 e q la lb))):=by
 have s1:=Kk e q ch sa la sb lb hq vH hc hla hlb;unfold Ws;by_cases h:dx e q ch sa la sb lb=0
 ·rw[h]at s1 ⊢;rw[if_neg K0];obtain⟨he,hF,_,hn,hl,ha,hb⟩:=wV h;have s2:=adm hF he hl K0 ha hb;have s3:=NY (agO (q:=q) hF he hl ha hb);rw[show um (Gx q) e (PI la lb (ET la.length)) (Gx q)=T4 e q la lb from rfl]at s2;generalize T4 e q la lb=S at*;by_cases hE:ki S
  ·rw[if_pos hE];rw[fG hE]at s3;refine sF f291 ?_;exact K1
  ·rw[if_neg hE];rw[eU hE]at s3;by_cases h0:e=0
   ·rw[if_pos h0];refine sF f291 ?_;exact K1
   ·rw[if_neg h0];refine sF f291 ?_;exact K1
 ·rw[if_pos h];generalize dx e q ch sa la sb lb=z at*;refine sF f291 ?_;exact K1
def Ov (e:Int)(q:Sp)(ch:List Sp)(sa:Int)(la:List Int)(sb:Int)(lb:List Int)(hq:qy q)(vH: ∀s∈ch,qy s)(hla:la.length<=maxLen)(hlb:lb.length<=maxLen):
  ac 339 [Ru e q ch,Rc sa la,Rc sb lb] (.one (I (dx e q ch sa la sb lb))):=by
 have s1:=BA e q ch sa la hq vH hla;have s2:=lX sb lb hlb;have f:dx e q ch sa la sb lb=if fM e q ch sa la≠0 then fM e q ch sa la else if di sb lb≠0 then di sb lb else if sa=sb/\(la.length:Int)=lb.length then 0 else 10:=by unfold dx fM;(repeat' split)<;>first|omega|rfl
 rw[f];clear f;generalize fM e q ch sa la=u at*;generalize di sb lb=v at*;by_cases h1:u=0
 ·rw[if_neg K0];by_cases h2:v=0
  ·rw[if_neg K0];subst h1 h2;by_cases h3:sa=sb
   ·by_cases h4:(la.length:Int)=lb.length
    ·rw[if_pos ⟨h3,h4⟩];refine sF f339 ?_;exact K1
    ·rw[if_neg (λh=>h4 h.2)];refine sF f339 ?_;exact K1
   ·rw[if_neg (λh=>h3 h.1)];refine sF f339 ?_;exact K1
  ·rw[if_pos h2];subst h1;refine sF f339 ?_;exact K1
 ·rw[if_pos h1];refine sF f339 ?_;exact K1
def Ow {n d:Int}(hn:b5 n)(hd:1<=d/\d<=5000):ac 371 [I n,I d] (.one (qv (lB n d))):=Qp n d ⟨by omega,by omega⟩ K0
def Ug {n g:Int}(hn:TE (-n))(hg:0<g)(hd:g∣n):IntKind.i64.wrap (n.tdiv (-g))= -n/g:=by
 rw[Int.tdiv_neg,<- Int.neg_tdiv];exact JV hn hg (Int.dvd_neg.2 hd)
def KF {n d:Int}(hn:b5 n)(hd: -5000<=d/\d<= -1):ac 371 [I n,I d] (.one (qv (lB (-n) (-d)))):=by
 have g:=JR n d ⟨by omega,by omega⟩ ⟨by omega,by omega⟩ (λ_=>by omega);have hp:=aeu n (show d≠0 by omega)
 have eB:Int.gcd n d<=5000:=by
  have:=Nat.le_of_dvd K0 (Int.gcd_dvd_natAbs_right n d);omega
 have e1:Int.gcd (-n) (-d)=Int.gcd n d:=by rw[Int.gcd_neg,Int.neg_gcd]
 unfold lB fu eE;rw[e1];have d1:(Int.gcd n d:Int)∣n:=Int.gcd_dvd_left ..;have d2:(Int.gcd n d:Int)∣d:=Int.gcd_dvd_right ..;generalize hk:(Int.gcd n d:Int)=k at*;refine sF f371 ?_
 (try(refine tX 0 ?_;try exact Zt))
 exact Zn (Ug ⟨by omega,by omega⟩ K0 d1) (Ug ⟨by omega,by omega⟩ K0 d2)
def cq (x y:Qn):Int:=Qu x.1 x.2 y.1 y.2
def al1 (x y:Qn):cq x y<0↔pT x y:=by unfold cq Qu pT;(repeat' split)<;>omega
def afh (x y:Qn):cq x y>0↔pT y x:=by unfold cq Qu pT;(repeat' split)<;>omega
def al2 (x y:Qn):cq x y<=0↔¬pT y x:=by rw[<- afh];omega
def Fk {x y:Qn}(hx:Ii x)(hy:Ii y):ac 269 [qv x,qv y] (.one (I (cq x y))):=by
 have h1:=Kh hx hy;have h2:=Kh hy hx;exact JW x.1 x.2 y.1 y.2 (by unfold Qv at h1;omega) (by unfold Qv at h2;omega)
def lm (s:Iv)(n m:Int):Iv × Bool:=if n=0/\m<0 then(s,false)else(oL s n m,decide (¬ki (oL s n m)))
def Iy {s:Iv}{n m:Int}(h:BC s)(hn:b5 n)(hm:b5 m):ac 352 [(true,iv s),I n,I m] (.aJ [(true,iv (lm s n m).1),Bo (lm s n m).2]):=by
 have hB:=NZ h hn hm;have g3:=Fk hB.1 hB.2;have e3:decide (¬ki (oL s n m))=decide (cq (oL s n m).1 (oL s n m).2<=0):=decide_eq_decide.2 (al2 _ _).symm;unfold lm;by_cases h0:n=0/\m<0
 ·rw[if_pos h0];refine sF f352 ?_;exact K1
 ·rw[if_neg h0,e3];clear e3 hB;dsimp only;by_cases h1:n>0
  ·have g1:=Ow (n:=m) (d:=n) hm K0;have g2:=Fk (vh (n:=m) (d:=n) K0 K0) h.2;have ea:oL s n m=(s.1,zg s.2 (lB m n)):=if_pos h1;rw[ea]at g3 ⊢;dsimp only at g3 ⊢;have c2:=al1 (lB m n) s.2;by_cases hL:pT (lB m n) s.2
   ·have hc:=c2.2 hL;rw[show zg s.2 (lB m n)=lB m n from if_pos hL]at g3 ⊢;generalize cq (lB m n) s.2=k2 at*;generalize lB m n=f at*;generalize cq s.1 f=k3 at*;refine sF f352 ?_;exact K1
   ·have hc:=λhh=>hL (c2.1 hh);rw[show zg s.2 (lB m n)=s.2 from if_neg hL]at g3 ⊢;generalize cq (lB m n) s.2=k2 at*;generalize lB m n=f at*;generalize cq s.1 s.2=k3 at*;refine sF f352 ?_;exact K1
  ·by_cases h2:n<0
   ·have g1:=KF (n:=m) (d:=n) hm K0;have g2:=Fk (vh (n:= -m) (d:= -n) K0 K0) h.1;have ea:oL s n m=(zf s.1 (lB (-m) (-n)),s.2):=by unfold oL;rw[if_neg h1,if_pos h2]
    rw[ea]at g3 ⊢;dsimp only at g3 ⊢;have c2:=afh (lB (-m) (-n)) s.1;by_cases hL:pT s.1 (lB (-m) (-n))
    ·have hc:=c2.2 hL;rw[show zf s.1 (lB (-m) (-n))=lB (-m) (-n)from if_pos hL]at g3 ⊢;generalize cq (lB (-m) (-n)) s.1=k2 at*;generalize lB (-m) (-n)=f at*;generalize cq f s.2=k3 at*;refine sF f352 ?_;exact K1
    ·have hc:=λhh=>hL (c2.1 hh);rw[show zf s.1 (lB (-m) (-n))=s.1 from if_neg hL]at g3 ⊢;generalize cq (lB (-m) (-n)) s.1=k2 at*;generalize lB (-m) (-n)=f at*;generalize cq s.1 s.2=k3 at*;refine sF f352 ?_;exact K1
   ·have ea:oL s n m=s:=by unfold oL;rw[if_neg h1,if_neg h2,if_neg K0]
    rw[ea]at g3 ⊢;generalize cq s.1 s.2=k3 at*;refine sF f352 ?_;exact K1
def Fl (e:Int)(k:List (Int × Int)): ∀(l:List (Int × Int)) (s:Option Iv),rV e (l++k) s=rV e k (rV e l s)
 | [],_=>rfl
 |_::l,_=>Fl e k l _
def Uh (s:Iv)(n m:Int):QS s n m=if(lm s n m).2 then some (lm s n m).1 else none:=by
 unfold QS lm;by_cases h:n=0/\m<0
 ·rw[if_pos h,if_pos h];simp
 ·rw[if_neg h,if_neg h];by_cases h':ki (oL s n m)
  ·rw[if_pos h'];simp[h']
  ·rw[if_neg h'];simp[h']
def afi {s:Iv}{n m:Int}(h:BC s)(hn:b5 n)(hm:b5 m):BC (lm s n m).1:=by
 unfold lm;split
 ·exact h
 ·exact NZ h hn hm
abbrev vBo (b:Bool):Option DV:=some (.val (false,[.st (.lit (.bool b))]))
def ag1 (o:Option Iv):List SV:=match o with|some s=>[(true,iv s),Bo true]|none=>[F4 0 0 0 0,Bo false]
def Fm {e:Int}{q:Sp}(ch:List Sp)(sa sb:Int){la lb ix:List Int}(h:BC (Gx q))(he:0<=e/\e<=100)(hl:la.length=lb.length)(hx:ix.length<=70)(ha:BY la)(hb:BY lb)(hi: ∀w∈ix,0<=w/\w<la.length):
  ac 340 [Ru e q ch,Rc sa la,Rc sb lb,L ix] (.aJ (ag1 (rV e (PI la lb ix) (some (Gx q))))):=by
 refine sF f340 ?_
 (try(refine tX 0 ?_;try exact Zt))
 refine af (ι:=Nat × Iv × Bool) (λp=>p.1<=ix.length/\BC p.2.1/\if p.2.2 then rV e (PI la lb (ix.take p.1)) (some (Gx q))=some p.2.1 else rV e (PI la lb ix) (some (Gx q))=none) (λp=>ix.length -p.1)
  (λp=>⟨[(3,vL ix),(4,pP 0),(5,pP 1),(6,pP 2),(8,pP 3),(10,pP 4),(11,vBo p.2.2),(12,vI p.1)],[(0,bRu e q ch),(1,bRc sa la),(2,bRc sb lb),(3,some (.box 161 [.st (J 0),.st (J 0),.st (J 0),.st (J 0)])),(4,some (.box 161 ((iv p.2.1).map .st)))],5⟩) (0,Gx q,true) Zc ⟨dM _,h,rfl⟩ ?_
 rintro⟨i,s,ok⟩ ⟨kH,hB,hs⟩;dsimp only at kH hB hs ⊢;cases ok
 ·rw[if_neg K9]at hs;rw[hs];by_cases ak:i<ix.length
  ·exact K1
  ·exact K1
 ·rw[if_pos rfl]at hs;by_cases ak:i<ix.length
  ·have hw:=hi _ (qx (d:=0) ak);have hwx:=jC ha (show(ix.getD i 0).toNat <la.length by omega);have hwy:=jC hb (show(ix.getD i 0).toNat <lb.length by omega);have e1:rV e (PI la lb (ix.take (i+1))) (some (Gx q))=Ih s e (la.getD (ix.getD i 0).toNat 0) (lb.getD (ix.getD i 0).toNat 0):=by rw[Ak ak,T3,Fl,hs];rfl
   have e2:rV e (PI la lb ix) (some (Gx q))=rV e (PI la lb (ix.drop (i+1))) (rV e (PI la lb (ix.take (i+1))) (some (Gx q))):=by rw[<- Fl,PI,PI,PI,<- wx,LA]
   have g1:=Iy (s:=s) (n:=la.getD (ix.getD i 0).toNat 0 -e) (m:=lb.getD (ix.getD i 0).toNat 0+e) hB K0 K0;have d1:=afi (s:=s) (n:=la.getD (ix.getD i 0).toNat 0 -e) (m:=lb.getD (ix.getD i 0).toNat 0+e) hB K0 K0;unfold Ih at e1;rw[Uh]at e1;generalize lm s (la.getD (ix.getD i 0).toNat 0 -e) (lb.getD (ix.getD i 0).toNat 0+e)=A at*;obtain⟨s1,o1⟩:=A;dsimp only at g1 d1 e1;cases o1
   ·rw[if_neg K9,Option.bind_none]at e1;rw[e1,zj]at e2
    (try(refine tX 0 ?_;try exact Zt))
    exact⟨(i+1,s1,false),⟨ak,d1,by dsimp only;rw[if_neg K9];exact e2⟩,by dsimp only;omega,Zc⟩
   ·rw[if_pos rfl,LJ,Uh]at e1;have g2:=Iy (s:=s1) (n:= -la.getD (ix.getD i 0).toNat 0 -e) (m:=e -lb.getD (ix.getD i 0).toNat 0) d1 K0 K0;have d2:=afi (s:=s1) (n:= -la.getD (ix.getD i 0).toNat 0 -e) (m:=e -lb.getD (ix.getD i 0).toNat 0) d1 K0 K0;generalize lm s1 (-la.getD (ix.getD i 0).toNat 0 -e) (e -lb.getD (ix.getD i 0).toNat 0)=A at*;obtain⟨s2,o2⟩:=A;dsimp only at g2 d2 e1
    (try(refine tX 0 ?_;try exact Zt))
    refine⟨(i+1,s2,o2),⟨ak,d2,?_⟩,by dsimp only;omega,Zc⟩;dsimp only;cases o2
    ·rw[if_neg K9]at e1 ⊢;rw[e1,zj]at e2;exact e2
    ·exact e1
  ·obtain rfl:i=ix.length:=by omega
   rw[mW]at hs;rw[hs];exact K1
def Rj (st:Int){l:List Int}(h:1<=l.length/\l.length<=64):ac 341 [Rc st l] (.own 1 (.ints (ET l.length))):=by
 refine sF f341 ?_
 (try(refine tX 0 ?_;try exact Zt))
 refine aD ?_
 (try(refine tX 0 ?_;try exact Zt))
 refine af (ι:=Nat) (λi=>1<=i/\i<=l.length) (λi=>l.length -i) (λi=>⟨[(1,pP 0),(3,pO 1),(4,vI i)],[(0,bRc st l),(1,some (.row true 1 (.ints (ET i))))],2⟩) 1 Zc ⟨by omega,by omega⟩ ?_;rintro i ⟨h1,h2⟩;by_cases ak:i<l.length
 ·have n1:=T2 i;have e1:=N5 i;generalize ET i=r at*
  (try(refine tX 0 ?_;try exact Zt))
  exact⟨i+1,⟨by omega,ak⟩,by omega,ai (by rw[e1];kernel_rfl)⟩
 ·obtain rfl:i=l.length:=by omega
  exact K1
def Ox {e:Int}{q:Sp}{ch:List Sp}{sa:Int}{la:List Int}{sb:Int}{lb:List Int}(h:dx e q ch sa la sb lb=0):
  (∃o,rV e (PI la lb (ET la.length)) (some (Gx q))=some o/\T4 e q la lb=o/\¬ki o)\/(rV e (PI la lb (ET la.length)) (some (Gx q))=none/\ki (T4 e q la lb)):=by
 obtain⟨_,hF,fh,_⟩:=wV h;exact TZ (T1 hF) (PI la lb (ET la.length)) (T1 hF) (uk _) fh
def vD (e:Int)(q:Sp)(ch:List Sp)(sa:Int)(la:List Int)(sb:Int)(lb:List Int)(hq:qy q)(vH: ∀s∈ch,qy s)(hla:la.length<=maxLen)(hlb:lb.length<=maxLen):
  ac 309 [Ru e q ch,Rc sa la,Rc sb lb] (.aJ (Ws (dx e q ch sa la sb lb) e (T4 e q la lb))):=by
 have s1:=Ov e q ch sa la sb lb hq vH hla hlb;unfold Ws;by_cases h:dx e q ch sa la sb lb=0
 ·obtain⟨he,hF,_,hn,hl,ha,hb⟩:=wV h;have s2:=Rj sa (l:=la) K0;have s3:=Fm (ix:=ET la.length) ch sa sb hF he hl (by rw[T2];omega) ha hb (λw hw=>QT _ w hw);have hf:=Ox h;rw[h]at s1 ⊢;rw[if_neg K0];generalize T4 e q la lb=S at*;generalize rV e (PI la lb (ET la.length)) (some (Gx q))=O at*;generalize ET la.length=r at*
  rcases hf with⟨o,rfl,rfl,h1⟩|⟨rfl,h1⟩
  ·rw[if_neg h1];unfold ag1 at s3;by_cases h0:e=0
   ·rw[if_pos h0];refine sF f309 ?_;exact K1
   ·rw[if_neg h0];refine sF f309 ?_;exact K1
  ·rw[if_pos h1];unfold ag1 at s3;refine sF f309 ?_;exact K1
 ·rw[if_pos h];generalize dx e q ch sa la sb lb=z at*;refine sF f309 ?_;exact K1
end Go.Proofs.Tryz
