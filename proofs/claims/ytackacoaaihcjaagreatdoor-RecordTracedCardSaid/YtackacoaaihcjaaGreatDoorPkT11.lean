import Derived.Test.YtackacoaaihcjaaGreatDoorPkT7
set_option linter.all false
set_option maxRecDepth 100000
set_option maxHeartbeats 8000000
namespace Go.Proofs.Tryz
open Go.Fw Go.IntWalk Go.Plain
abbrev Gx (q:Sp):Iv:=((q.1,q.2.1),(q.2.2.1,q.2.2.2))
def agI {q:Sp}(h:dE q=0):By (Gx q):=by
 obtain⟨⟨h1,h2,h3,h4⟩,_⟩:=mL h;exact⟨⟨⟨show -5000<=q.1 by omega,show q.1<=5000 by omega⟩,show 1<=q.2.1 by omega,show q.2.1<=5000 by omega⟩,⟨show -5000<=q.2.2.1 by omega,show q.2.2.1<=5000 by omega⟩,show 1<=q.2.2.2 by omega,show q.2.2.2<=5000 by omega⟩
def agJ {q:Sp}(h:dE q=0): ¬kf (Gx q):=(mL h).2.2.2
def du (e:Int)(q:Sp)(ch:List Sp)(sa:Int)(la:List Int)(sb:Int)(lb:List Int):Int:=if aV e q ch≠0 then aV e q ch else if cZ sa la≠0 then cZ sa la else if cZ sb lb≠0 then cZ sb lb else if sa=sb/\(la.length:Int)=lb.length then 0 else 10
def Kh {e:Int}{q:Sp}{ch:List Sp}{sa:Int}{la:List Int}{sb:Int}{lb:List Int}(h:du e q ch sa la sb lb=0):aV e q ch=0/\cZ sa la=0/\cZ sb lb=0/\sa=sb/\la.length=lb.length:=by
 unfold du at h;repeat' split at h
 all_goals first|omega|exact⟨by omega,by omega,by omega,by omega,by omega⟩
def w5 {e:Int}{q:Sp}{ch:List Sp}{sa:Int}{la:List Int}{sb:Int}{lb:List Int}(h:du e q ch sa la sb lb=0):(0<=e/\e<=100)/\By (Gx q)/\¬kf (Gx q)/\(3<=la.length/\la.length<=64)/\la.length=lb.length/\BV la/\BV lb:=by
 obtain⟨h1,h2,h3,_,h5⟩:=Kh h;obtain⟨g1,g2,_⟩:=iS h1;obtain⟨_,k1,k2,k3⟩:=pB h2;obtain⟨_,_,_,m3⟩:=pB h3;exact⟨g1,agI g2,agJ g2,⟨k1,k2⟩,h5,k3,m3⟩
def TS (e:Int)(q:Sp)(la lb:List Int):Iv:=uk (Gx q) e (PI la lb (ET la.length)) (Gx q)
def agK {e:Int}{q:Sp}{la lb:List Int}(h:By (Gx q))(he:0<=e/\e<=100)(hl:la.length=lb.length)(ha:BV la)(hb:BV lb):By (TS e q la lb):=
 Kg h he _ _ h (Z9 ha hb hl (λw hw=>by have:=QN _ w hw;omega))
def Ki (e:Int)(q:Sp)(ch:List Sp)(sa:Int)(la:List Int)(sb:Int)(lb:List Int)(hq:qr q)(vJ: ∀s∈ch,qr s)(hc:ch.length<=4294967296)(hla:la.length<=maxLen)(hlb:lb.length<=maxLen):
  ad 321 [Ru e q ch,Rc sa la,Rc sb lb] (.aJ [Pr (Gx q) e la lb,I (du e q ch sa la sb lb)]):=by
 have s1:=kY e q ch hq vJ hc;have s2:=jW sa la hla;have s3:=jW sb lb hlb;have f:=fs4 (aV e q ch) (cZ sa la) (cZ sb lb) (if sa=sb/\(la.length:Int)=lb.length then 0 else 10);have f':fs [aV e q ch,cZ sa la,cZ sb lb,if sa=sb/\(la.length:Int)=lb.length then 0 else 10]=du e q ch sa la sb lb:=by rw[f];unfold du;(repeat' split)<;>first|omega|rfl
 rw[<- f'];clear f f';by_cases h1:sa=sb
 ·by_cases h2:(la.length:Int)=lb.length
  ·rw[if_pos ⟨h1,h2⟩];refine sF f321 ?_;repeat((first|(refine kO 7 rfl ?_;first|refine rG (λ_ z=>⟨_,MU (show _ by simp[h1,h2]) _,z⟩) ?_|refine rG (λ_ z=>⟨_,g9 _ (fP rfl),z⟩) ?_)|refine tX 0 ?_|exact Zt);(try conv=>whnf))
   exact K7
  ·rw[if_neg (λh=>h2 h.2)];refine sF f321 ?_;repeat((first|(refine kO 7 rfl ?_;first|refine rG (λ_ z=>⟨_,D7 (show ¬_ by simp[h1,h2]) _,z⟩) ?_|refine rG (λ_ z=>⟨_,g9 _ (fP rfl),z⟩) ?_)|refine tX 0 ?_|exact Zt);(try conv=>whnf))
   exact K7
 ·rw[if_neg (λh=>h1 h.1)];refine sF f321 ?_;repeat((first|(refine kO 7 rfl ?_;first|refine rG (λ_ z=>⟨_,D7 (show ¬_ by simp[h1]) _,z⟩) ?_|refine rG (λ_ z=>⟨_,g9 _ (fP rfl),z⟩) ?_)|refine tX 0 ?_|exact Zt);(try conv=>whnf))
  exact K7
def Wf (z e:Int)(s:Iv):List SV:=if z≠0 then [I 0,I z]else if kf s then [I 2,I 0]else if e=0 then [I 0,I 0]else [I 1,I 0]
def AB (e:Int)(q:Sp)(ch:List Sp)(sa:Int)(la:List Int)(sb:Int)(lb:List Int)(hq:qr q)(vJ: ∀s∈ch,qr s)(hc:ch.length<=4294967296)(hla:la.length<=maxLen)(hlb:lb.length<=maxLen):
  ad 291 [Ru e q ch,Rc sa la,Rc sb lb] (.aJ (Wf (du e q ch sa la sb lb) e (TS e q la lb))):=by
 have s1:=Ki e q ch sa la sb lb hq vJ hc hla hlb;unfold Wf;by_cases h:du e q ch sa la sb lb=0
 ·rw[h]at s1 ⊢;rw[if_neg K0];obtain⟨he,hF,_,hn,hl,ha,hb⟩:=w5 h;have s2:=adg hF he hl K0 ha hb;have s3:=NO (agK (q:=q) hF he hl ha hb);rw[show uk (Gx q) e (PI la lb (ET la.length)) (Gx q)=TS e q la lb from rfl]at s2;generalize TS e q la lb=S at*;by_cases hE:kf S
  ·rw[if_pos hE];rw[fH hE]at s3;refine sF f291 ?_;exact K1
  ·rw[if_neg hE];rw[eT hE]at s3;by_cases h0:e=0
   ·rw[if_pos h0];refine sF f291 ?_;exact K1
   ·rw[if_neg h0];refine sF f291 ?_;exact K1
 ·rw[if_pos h];generalize du e q ch sa la sb lb=z at*;refine sF f291 ?_;exact K1
def Ol (e:Int)(q:Sp)(ch:List Sp)(sa:Int)(la:List Int)(sb:Int)(lb:List Int)(hq:qr q)(vJ: ∀s∈ch,qr s)(hla:la.length<=maxLen)(hlb:lb.length<=maxLen):
  ad 339 [Ru e q ch,Rc sa la,Rc sb lb] (.one (I (du e q ch sa la sb lb))):=by
 have s1:=Bw e q ch sa la hq vJ hla;have s2:=lW sb lb hlb;have f:du e q ch sa la sb lb=if fN e q ch sa la≠0 then fN e q ch sa la else if cZ sb lb≠0 then cZ sb lb else if sa=sb/\(la.length:Int)=lb.length then 0 else 10:=by unfold du fN;(repeat' split)<;>first|omega|rfl
 rw[f];clear f;generalize fN e q ch sa la=u at*;generalize cZ sb lb=v at*;by_cases h1:u=0
 ·rw[if_neg K0];by_cases h2:v=0
  ·rw[if_neg K0];subst h1 h2;by_cases h3:sa=sb
   ·by_cases h4:(la.length:Int)=lb.length
    ·rw[if_pos ⟨h3,h4⟩];refine sF f339 ?_;exact K1
    ·rw[if_neg (λh=>h4 h.2)];refine sF f339 ?_;exact K1
   ·rw[if_neg (λh=>h3 h.1)];refine sF f339 ?_;exact K1
  ·rw[if_pos h2];subst h1;refine sF f339 ?_;exact K1
 ·rw[if_pos h1];refine sF f339 ?_;exact K1
def Om {n d:Int}(hn:b5 n)(hd:1<=d/\d<=5000):ad 371 [I n,I d] (.one (qv (lA n d))):=Qh n d ⟨by omega,by omega⟩ K0
def T3 {n g:Int}(hn:Tt (-n))(hg:0<g)(hd:g∣n):IntKind.i64.wrap (n.tdiv (-g))= -n/g:=by
 rw[Int.tdiv_neg,<- Int.neg_tdiv];exact JT hn hg (Int.dvd_neg.2 hd)
def Kz {n d:Int}(hn:b5 n)(hd: -5000<=d/\d<= -1):ad 371 [I n,I d] (.one (qv (lA (-n) (-d)))):=by
 have g:=JP n d ⟨by omega,by omega⟩ ⟨by omega,by omega⟩ (λ_=>by omega);have hp:=aep n (show d≠0 by omega)
 have eu:Int.gcd n d<=5000:=by
  have:=Nat.le_of_dvd K0 (Int.gcd_dvd_natAbs_right n d);omega
 have e1:Int.gcd (-n) (-d)=Int.gcd n d:=by rw[Int.gcd_neg,Int.neg_gcd]
 unfold lA fq eE;rw[e1];have d1:(Int.gcd n d:Int)∣n:=Int.gcd_dvd_left ..;have d2:(Int.gcd n d:Int)∣d:=Int.gcd_dvd_right ..;generalize hk:(Int.gcd n d:Int)=k at*;refine sF f371 ?_
 (try(refine tX 0 ?_;try exact Zt))
 exact Y4 (T3 ⟨by omega,by omega⟩ K0 d1) (T3 ⟨by omega,by omega⟩ K0 d2)
def cq (x y:Qn):Int:=Qm x.1 x.2 y.1 y.2
def alX (x y:Qn):cq x y<0↔pQ x y:=by unfold cq Qm pQ;(repeat' split)<;>omega
def afe (x y:Qn):cq x y>0↔pQ y x:=by unfold cq Qm pQ;(repeat' split)<;>omega
def alY (x y:Qn):cq x y<=0↔¬pQ y x:=by rw[<- afe];omega
def Fj {x y:Qn}(hx:Ig x)(hy:Ig y):ad 269 [qv x,qv y] (.one (I (cq x y))):=by
 have h1:=Kf hx hy;have h2:=Kf hy hx;exact JU x.1 x.2 y.1 y.2 (by unfold Qo at h1;omega) (by unfold Qo at h2;omega)
def lm (s:Iv)(n m:Int):Iv × Bool:=if n=0/\m<0 then(s,false)else(oM s n m,decide (¬kf (oM s n m)))
def Iw {s:Iv}{n m:Int}(h:By s)(hn:b5 n)(hm:b5 m):ad 352 [(true,iv s),I n,I m] (.aJ [(true,iv (lm s n m).1),Bo (lm s n m).2]):=by
 have hB:=NP h hn hm;have g3:=Fj hB.1 hB.2;have e3:decide (¬kf (oM s n m))=decide (cq (oM s n m).1 (oM s n m).2<=0):=decide_eq_decide.2 (alY _ _).symm;unfold lm;by_cases h0:n=0/\m<0
 ·rw[if_pos h0];refine sF f352 ?_;exact K1
 ·rw[if_neg h0,e3];clear e3 hB;dsimp only;by_cases h1:n>0
  ·have g1:=Om (n:=m) (d:=n) hm K0;have g2:=Fj (vh (n:=m) (d:=n) K0 K0) h.2;have ea:oM s n m=(s.1,zc s.2 (lA m n)):=if_pos h1;rw[ea]at g3 ⊢;dsimp only at g3 ⊢;have c2:=alX (lA m n) s.2;by_cases hL:pQ (lA m n) s.2
   ·have hc:=c2.2 hL;rw[show zc s.2 (lA m n)=lA m n from if_pos hL]at g3 ⊢;generalize cq (lA m n) s.2=k2 at*;generalize lA m n=f at*;generalize cq s.1 f=k3 at*;refine sF f352 ?_;exact K1
   ·have hc:=λhh=>hL (c2.1 hh);rw[show zc s.2 (lA m n)=s.2 from if_neg hL]at g3 ⊢;generalize cq (lA m n) s.2=k2 at*;generalize lA m n=f at*;generalize cq s.1 s.2=k3 at*;refine sF f352 ?_;exact K1
  ·by_cases h2:n<0
   ·have g1:=Kz (n:=m) (d:=n) hm K0;have g2:=Fj (vh (n:= -m) (d:= -n) K0 K0) h.1;have ea:oM s n m=(zb s.1 (lA (-m) (-n)),s.2):=by unfold oM;rw[if_neg h1,if_pos h2]
    rw[ea]at g3 ⊢;dsimp only at g3 ⊢;have c2:=afe (lA (-m) (-n)) s.1;by_cases hL:pQ s.1 (lA (-m) (-n))
    ·have hc:=c2.2 hL;rw[show zb s.1 (lA (-m) (-n))=lA (-m) (-n)from if_pos hL]at g3 ⊢;generalize cq (lA (-m) (-n)) s.1=k2 at*;generalize lA (-m) (-n)=f at*;generalize cq f s.2=k3 at*;refine sF f352 ?_;exact K1
    ·have hc:=λhh=>hL (c2.1 hh);rw[show zb s.1 (lA (-m) (-n))=s.1 from if_neg hL]at g3 ⊢;generalize cq (lA (-m) (-n)) s.1=k2 at*;generalize lA (-m) (-n)=f at*;generalize cq s.1 s.2=k3 at*;refine sF f352 ?_;exact K1
   ·have ea:oM s n m=s:=by unfold oM;rw[if_neg h1,if_neg h2,if_neg K0]
    rw[ea]at g3 ⊢;generalize cq s.1 s.2=k3 at*;refine sF f352 ?_;exact K1
def Fk (e:Int)(k:List (Int × Int)): ∀(l:List (Int × Int)) (s:Option Iv),rM e (l++k) s=rM e k (rM e l s)
 | [],_=>rfl
 |_::l,_=>Fk e k l _
def T4 (s:Iv)(n m:Int):QM s n m=if(lm s n m).2 then some (lm s n m).1 else none:=by
 unfold QM lm;by_cases h:n=0/\m<0
 ·rw[if_pos h,if_pos h];simp
 ·rw[if_neg h,if_neg h];by_cases h':kf (oM s n m)
  ·rw[if_pos h'];simp[h']
  ·rw[if_neg h'];simp[h']
def aff {s:Iv}{n m:Int}(h:By s)(hn:b5 n)(hm:b5 m):By (lm s n m).1:=by
 unfold lm;split
 ·exact h
 ·exact NP h hn hm
abbrev vBo (b:Bool):Option DV:=some (.val (false,[.st (.lit (.bool b))]))
def agX (o:Option Iv):List SV:=match o with|some s=>[(true,iv s),Bo true]|none=>[F4 0 0 0 0,Bo false]
def Fl {e:Int}{q:Sp}(ch:List Sp)(sa sb:Int){la lb ix:List Int}(h:By (Gx q))(he:0<=e/\e<=100)(hl:la.length=lb.length)(hx:ix.length<=70)(ha:BV la)(hb:BV lb)(hi: ∀w∈ix,0<=w/\w<la.length):
  ad 340 [Ru e q ch,Rc sa la,Rc sb lb,L ix] (.aJ (agX (rM e (PI la lb ix) (some (Gx q))))):=by
 refine sF f340 ?_
 (try(refine tX 0 ?_;try exact Zt))
 refine af (ι:=Nat × Iv × Bool) (λp=>p.1<=ix.length/\By p.2.1/\if p.2.2 then rM e (PI la lb (ix.take p.1)) (some (Gx q))=some p.2.1 else rM e (PI la lb ix) (some (Gx q))=none) (λp=>ix.length -p.1)
  (λp=>⟨[(3,vL ix),(4,pP 0),(5,pP 1),(6,pP 2),(8,pP 3),(10,pP 4),(11,vBo p.2.2),(12,vI p.1)],[(0,bRu e q ch),(1,bRc sa la),(2,bRc sb lb),(3,some (.box 161 [.st (J 0),.st (J 0),.st (J 0),.st (J 0)])),(4,some (.box 161 ((iv p.2.1).map .st)))],5⟩) (0,Gx q,true) Zc ⟨dC _,h,rfl⟩ ?_
 rintro⟨i,s,ok⟩ ⟨kA,hB,hs⟩;dsimp only at kA hB hs ⊢;cases ok
 ·rw[if_neg K9]at hs;rw[hs];by_cases ak:i<ix.length
  ·exact K1
  ·exact K1
 ·rw[if_pos rfl]at hs;by_cases ak:i<ix.length
  ·have hw:=hi _ (qq (d:=0) ak);have hwx:=jA ha (show(ix.getD i 0).toNat <la.length by omega);have hwy:=jA hb (show(ix.getD i 0).toNat <lb.length by omega);have e1:rM e (PI la lb (ix.take (i+1))) (some (Gx q))=If s e (la.getD (ix.getD i 0).toNat 0) (lb.getD (ix.getD i 0).toNat 0):=by rw[Ai ak,TR,Fk,hs];rfl
   have e2:rM e (PI la lb ix) (some (Gx q))=rM e (PI la lb (ix.drop (i+1))) (rM e (PI la lb (ix.take (i+1))) (some (Gx q))):=by rw[<- Fk,PI,PI,PI,<- wD,Lu]
   have g1:=Iw (s:=s) (n:=la.getD (ix.getD i 0).toNat 0 -e) (m:=lb.getD (ix.getD i 0).toNat 0+e) hB K0 K0;have d1:=aff (s:=s) (n:=la.getD (ix.getD i 0).toNat 0 -e) (m:=lb.getD (ix.getD i 0).toNat 0+e) hB K0 K0;unfold If at e1;rw[T4]at e1;generalize lm s (la.getD (ix.getD i 0).toNat 0 -e) (lb.getD (ix.getD i 0).toNat 0+e)=A at*;obtain⟨s1,o1⟩:=A;dsimp only at g1 d1 e1;cases o1
   ·rw[if_neg K9,Option.bind_none]at e1;rw[e1,zf]at e2
    (try(refine tX 0 ?_;try exact Zt))
    exact⟨(i+1,s1,false),⟨ak,d1,by dsimp only;rw[if_neg K9];exact e2⟩,by dsimp only;omega,Zc⟩
   ·rw[if_pos rfl,LB,T4]at e1;have g2:=Iw (s:=s1) (n:= -la.getD (ix.getD i 0).toNat 0 -e) (m:=e -lb.getD (ix.getD i 0).toNat 0) d1 K0 K0;have d2:=aff (s:=s1) (n:= -la.getD (ix.getD i 0).toNat 0 -e) (m:=e -lb.getD (ix.getD i 0).toNat 0) d1 K0 K0;generalize lm s1 (-la.getD (ix.getD i 0).toNat 0 -e) (e -lb.getD (ix.getD i 0).toNat 0)=A at*;obtain⟨s2,o2⟩:=A;dsimp only at g2 d2 e1
    (try(refine tX 0 ?_;try exact Zt))
    refine⟨(i+1,s2,o2),⟨ak,d2,?_⟩,by dsimp only;omega,Zc⟩;dsimp only;cases o2
    ·rw[if_neg K9]at e1 ⊢;rw[e1,zf]at e2;exact e2
    ·exact e1
  ·obtain rfl:i=ix.length:=by omega
   rw[lu]at hs;rw[hs];exact K1
def Q9 (st:Int){l:List Int}(h:1<=l.length/\l.length<=64):ad 341 [Rc st l] (.own 1 (.ints (ET l.length))):=by
 refine sF f341 ?_
 (try(refine tX 0 ?_;try exact Zt))
 refine aD ?_
 (try(refine tX 0 ?_;try exact Zt))
 refine af (ι:=Nat) (λi=>1<=i/\i<=l.length) (λi=>l.length -i) (λi=>⟨[(1,pP 0),(3,pO 1),(4,vI i)],[(0,bRc st l),(1,some (.row true 1 (.ints (ET i))))],2⟩) 1 Zc ⟨by omega,by omega⟩ ?_;rintro i ⟨h1,h2⟩;by_cases ak:i<l.length
 ·have n1:=TQ i;have e1:=NR i;generalize ET i=r at*
  (try(refine tX 0 ?_;try exact Zt))
  exact⟨i+1,⟨by omega,ak⟩,by omega,ai (by rw[e1];kernel_rfl)⟩
 ·obtain rfl:i=l.length:=by omega
  exact K1
def On {e:Int}{q:Sp}{ch:List Sp}{sa:Int}{la:List Int}{sb:Int}{lb:List Int}(h:du e q ch sa la sb lb=0):
  (∃o,rM e (PI la lb (ET la.length)) (some (Gx q))=some o/\TS e q la lb=o/\¬kf o)\/(rM e (PI la lb (ET la.length)) (some (Gx q))=none/\kf (TS e q la lb)):=by
 obtain⟨_,hF,e8,_⟩:=w5 h;exact TO (TP hF) (PI la lb (ET la.length)) (TP hF) (uj _) e8
def vH (e:Int)(q:Sp)(ch:List Sp)(sa:Int)(la:List Int)(sb:Int)(lb:List Int)(hq:qr q)(vJ: ∀s∈ch,qr s)(hla:la.length<=maxLen)(hlb:lb.length<=maxLen):
  ad 309 [Ru e q ch,Rc sa la,Rc sb lb] (.aJ (Wf (du e q ch sa la sb lb) e (TS e q la lb))):=by
 have s1:=Ol e q ch sa la sb lb hq vJ hla hlb;unfold Wf;by_cases h:du e q ch sa la sb lb=0
 ·obtain⟨he,hF,_,hn,hl,ha,hb⟩:=w5 h;have s2:=Q9 sa (l:=la) K0;have s3:=Fl (ix:=ET la.length) ch sa sb hF he hl (by rw[TQ];omega) ha hb (λw hw=>QN _ w hw);have hf:=On h;rw[h]at s1 ⊢;rw[if_neg K0];generalize TS e q la lb=S at*;generalize rM e (PI la lb (ET la.length)) (some (Gx q))=O at*;generalize ET la.length=r at*
  rcases hf with⟨o,rfl,rfl,h1⟩|⟨rfl,h1⟩
  ·rw[if_neg h1];unfold agX at s3;by_cases h0:e=0
   ·rw[if_pos h0];refine sF f309 ?_;exact K1
   ·rw[if_neg h0];refine sF f309 ?_;exact K1
  ·rw[if_pos h1];unfold agX at s3;refine sF f309 ?_;exact K1
 ·rw[if_pos h];generalize du e q ch sa la sb lb=z at*;refine sF f309 ?_;exact K1
end Go.Proofs.Tryz
