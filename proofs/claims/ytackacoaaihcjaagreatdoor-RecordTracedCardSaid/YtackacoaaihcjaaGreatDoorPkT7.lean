import Derived.Test.YtackacoaaihcjaaGreatDoorPkT4
import Derived.Test.YtackacoaaihcjaaGreatDoorPkT6
set_option linter.all false
set_option maxRecDepth 100000
set_option maxHeartbeats 8000000
namespace Go.Proofs.Tryz
open Go.Fw Go.IntWalk Go.Plain
theorem Zy (u:Int)(hu:0<=u/\u<1000000000):ad 376 [Wd 1 [u]] (.aJ [I u,Bo true]):=by
 have hl:([u]:List Int).length =1:=rfl;have hg:([u]:List Int).getD ((([u]:List Int).length :Int) -1).toNat 0=u:=rfl;have hg2:([u]:List Int).getD 0 0=u:=rfl;refine sF f376 ?_
 (try(refine tX 0 ?_;try exact Zt))
 refine aD ?_
 (try(refine tX 0 ?_;try exact Zt))
 refine aD ?_
 (try(refine tX 0 ?_;try exact Zt))
 grind[i64_in]
theorem Zz (u v:Int)(hu:0<=u/\u<1000000000)(hv:0<=v/\v<1000000000):ad 376 [Wd 1 [u,v]] (.aJ [I (v*1000000000+u),Bo true]):=by
 have hl:([u,v]:List Int).length =2:=rfl;have hg:([u,v]:List Int).getD ((([u,v]:List Int).length :Int) -1).toNat 0=v:=rfl;have hg2:([u,v]:List Int).getD 1 0=v:=rfl;have hg3:([u,v]:List Int).getD 0 0=u:=rfl;have Um:([u,v]:List Int).getD ((([u,v]:List Int).length :Int) -1 -1).toNat 0=u:=rfl;refine sF f376 ?_
 (try(refine tX 0 ?_;try exact Zt))
 refine aD ?_
 (try(refine tX 0 ?_;try exact Zt))
 refine aD ?_
 (try(refine tX 0 ?_;try exact Zt))
 refine aD ?_
 (try(refine tX 0 ?_;try exact Zt))
 simp[i64_in u K0,i64_in v K0,i64_in (v*1000000000) K0,i64_in (v*1000000000+u) K0]
def Bt {x:Int}(hx:0<x/\x<1000000000000000000):ad 376 [wd x] (.aJ [I x,Bo true]):=by
 have fx:=VC x;have e:x.sign=1:=by omega
 unfold wd
 grind[qu,cY,Zy,Zz]
def wj {n d:Int}(hn:0<n/\n<1000000000000000000)(hd:0<d/\d<1000000000000000000):ad 356 [rt n d] (.aJ (if n<=1000000000/\d<=1000000000 then [F2 n d,Bo true]else [F2 0 0,Bo false])):=by
 have g1:=Bt hn;have g2:=Bt hd;by_cases h:n<=1000000000/\d<=1000000000
 ·rw[if_pos h];refine sF f356 ?_;exact tL
 ·rw[if_neg h];refine sF f356 ?_;exact tL
def Qu (s q:Sp):Sp:=(fq (s.1*q.1) (s.2.1*q.2.1),eE (s.1*q.1) (s.2.1*q.2.1),fq (s.2.2.1*q.2.2.1) (s.2.2.2*q.2.2.2),eE (s.2.2.1*q.2.2.1) (s.2.2.2*q.2.2.2))
def Em (ch:List Sp)(k:Nat):Sp:=(ch.take k).foldl Qu (1,1,1,1)
def Eo {ch:List Sp}{k:Nat}(h:k<ch.length):Em ch (k+1)=Qu (Em ch k) (ch.getD k (0,0,0,0)):=by grind[Em,List.take_succ_eq_append_getElem]
def iV (ch:List Sp):Sp:=Em ch ch.length
abbrev scB (B:Int)(s:Sp):Prop:=(1<=s.1/\s.1<=B)/\(1<=s.2.1/\s.2.1<=B)/\(1<=s.2.2.1/\s.2.2.1<=B)/\1<=s.2.2.2/\s.2.2.2<=B
def mL {q:Sp}(h:dE q=0):scB 1000 q/\Int.gcd q.1 q.2.1=1/\Int.gcd q.2.2.1 q.2.2.2=1/\¬q.2.2.1*q.2.1<q.1*q.2.2.2:=by
 unfold dE at h
 grind
def Nf {n d B:Int}(hn:1<=n/\n<=B)(hd:1<=d/\d<=B):(1<=fq n d/\fq n d<=B)/\1<=eE n d/\eE n d<=B:=by
 have h1:=agy (show 0<=n by omega) (show 0<d by omega);have h2:=Gi (n:=n) (d:=d) K0;have h3:=wS (n:=n) (show 0<d by omega);have h4:=Qk n d
 grind
def Gl {a b A B:Int}(ha:1<=a/\a<=A)(hb:1<=b/\b<=B):1<=a*b/\a*b<=A*B:=by
 have h1:1*1<=a*b:=CV ha.1 hb.1 K0 K0;have h2:a*b<=A*B:=CV ha.2 hb.2 K0 K0;omega
def ZA {s q:Sp}{B:Int}(hs:scB B s)(hq:scB 1000 q):scB (B*1000) (Qu s q):=by
 obtain⟨s1,s2,s3,s4⟩:=hs;obtain⟨q1,q2,q3,q4⟩:=hq;have a:=Nf (Gl s1 q1) (Gl s2 q2);have b:=Nf (Gl s3 q3) (Gl s4 q4);exact⟨a.1,a.2,b.1,b.2⟩
def alC {ch:List Sp}(hc: ∀q∈ch,dE q=0): ∀k,k<=ch.length->scB (1000^k) (Em ch k):=by
 intro k
 induction k with
 |zero=>grind[Em]
 |succ k ih=>
  intro hk;rw[Eo hk,Int.pow_succ];exact ZA (ih K0) (mL (hc _ (Ea hk))).1
def anr {k:Nat}(h:k<=4):(1000:Int)^k<=1000000000000:=by rcases(show k=0\/k=1\/k=2\/k=3\/k=4 by omega)with rfl|rfl|rfl|rfl|rfl<;>decide
def Ep {ch:List Sp}(hc: ∀q∈ch,dE q=0)(hl:ch.length<=4){k:Nat}(hk:k<=ch.length):scB 1000000000000 (Em ch k):=by
 have h:=alC hc k hk;have:=anr (k:=k) K0;omega
def iS {e:Int}{q:Sp}{ch:List Sp}(h:aV e q ch=0):(0<=e/\e<=100)/\dE q=0/\ch.length<=4/\∀s∈ch,dE s=0:=by
 unfold aV at h;split at h
 ·rename_i h1;split at h
  grind
  ·rename_i h2;split at h
   ·rename_i h3;refine⟨h1,by omega,h3,?_⟩;clear h2 h3
    induction ch with
    |nil=>grind
    |cons x ch ih=>
     simp only[ju,fs]at h
     grind
   ·omega
 ·omega
def yR {a b c d:Int}(ha:1<=a/\a<=1000000000000)(hb:1<=b/\b<=1000000000000)(hc:1<=c/\c<=1000)(hd:1<=d/\d<=1000):ad 324 [F2 a b,F2 c d] (.one (F2 (fq (a*c) (b*d)) (eE (a*c) (b*d)))):=by
 have m1:=Gl ha hc;have m2:=Gl hb hd;have g:=Bm (a*c) (b*d) ⟨by omega,by omega⟩ K0;refine sF f324 ?_;exact tL
abbrev kZ (s:Sp):Prop:=(s.1<=1000000000/\s.2.1<=1000000000)/\s.2.2.1<=1000000000/\s.2.2.2<=1000000000
def kw (e:Int)(q:Sp)(ch:List Sp):Int:=if aV e q ch≠0 then aV e q ch else if kZ (iV ch)then 0 else 8
def Ng (e:Int)(q:Sp)(ch:List Sp)(hq:qr q)(vJ: ∀s∈ch,qr s)(hl:ch.length<=4294967296):ad 292 [Ru e q ch] (.aJ (if kw e q ch=0 then [(true,sp (iV ch)),I 0]else [F4 0 0 0 0,I (kw e q ch)])):=by
 have g0:=kY e q ch hq vJ hl;by_cases h0:aV e q ch=0
 ·obtain⟨_,_,h4,hf⟩:=iS h0;have hS:=Ep hf h4 (dw _);rw[h0]at g0;have he:kw e q ch=if kZ (iV ch)then 0 else 8:=by unfold kw;grind
  rw[he];clear he;refine sF f292 ?_
  (try(refine tX 0 ?_;try exact Zt))
  refine af (ι:=Nat) (λi=>i<=ch.length) (λi=>ch.length -i) (λi=>⟨[(2,pP 0),(6,pP 1),(20,some (.val (false,[.st (.view (ch.map sp))]))),(21,vI ch.length),(22,vI i)],[(0,some (.box 161 [.st (J 0),.st (J 0),.st (J 0),.st (J 0)])),(1,some (.box 161 [.st (J (Em ch i).1),.st (J (Em ch i).2.1),.st (J (Em ch i).2.2.1),.st (J (Em ch i).2.2.2)]))],2⟩) 0 (ai aka) (dC _) ?_;intro i hi;have hB:=Ep hf h4 hi
  (try(refine tX 0 ?_;try exact Zt))
  (refine bR ?_ ?_<;>intro h<;>(try conv=>whnf))
  ·have ak:i<ch.length:=by omega
   have iP:=JV ak;have hs:=Eo ak;have hQ:=(mL (hf _ (Ea ak))).1;generalize ch.getD i (0,0,0,0)=Q at*;have p1:=yR hB.1 hB.2.1 hQ.1 hQ.2.1;have p2:=yR hB.2.2.1 hB.2.2.2 hQ.2.2.1 hQ.2.2.2;exact K85
  ·obtain rfl:i=ch.length:=by omega
   change scB 1000000000000 (iV ch)at hB;show m6 _ _ ⟨_,[_,(1,some (.box 161 [.st (J (iV ch).1),.st (J (iV ch).2.1),.st (J (iV ch).2.2.1),.st (J (iV ch).2.2.2)]))],_⟩ _ _ _;generalize iV ch=S at*;by_cases k1:S.1<=1000000000/\S.2.1<=1000000000
   ·by_cases k2:S.2.2.1<=1000000000/\S.2.2.2<=1000000000
    ·rw[if_pos (show kZ S from⟨k1,k2⟩),if_pos rfl];repeat((first|(refine kO 7 rfl ?_;first|refine Rq (nE _ _) ?_)|refine tX 0 ?_|exact Zt);(try conv=>whnf))
     exact K7
    ·rw[if_neg (show ¬kZ S from λh=>k2 h.2),if_neg K0];repeat((first|(refine kO 7 rfl ?_;first|refine Rq (nE _ _) ?_)|refine tX 0 ?_|exact Zt);(try conv=>whnf))
     exact K7
   ·rw[if_neg (show ¬kZ S from λh=>k1 h.1),if_neg K0];repeat((first|(refine kO 7 rfl ?_;first|refine Rq (nE _ _) ?_)|refine tX 0 ?_|exact Zt);(try conv=>whnf))
    exact K7
 ·have he:kw e q ch=aV e q ch:=by unfold kw;grind
  rw[he,if_neg h0];generalize aV e q ch=z0 at*;refine sF f292 ?_;exact K1
def uf {n:Int}(h:1<=n/\n<=1000000000000):Sz 20000 n:=(An K0).mono K0
def TD {n d:Int}(hn:1<=n/\n<=1000)(hd:1<=d/\d<=1000)(hg:Int.gcd n d=1):ad 355 [F2 n d] (.one (rt n d)):=by
 have g:=Gk (n:=n) (d:=d) K0 K0;have h1:fq n d=n:=by unfold fq;rw[hg];simp
 have h2:eE n d=d:=by unfold eE;rw[hg];simp
 rwa [h1,h2]at g
def J0 {e:Int}{q:Sp}{ch:List Sp}(h0:aV e q ch=0):ad 342 [Ru e q ch] (.aJ (if kZ (iV ch)then [(true,sp (iV ch)),Bo true]else [F4 0 0 0 0,Bo false])):=by
 obtain⟨_,_,h4,hf⟩:=iS h0;have hS:=Ep hf h4 (dw _);have o1:=JY 1 K0;refine sF f342 ?_
 (try(refine tX 0 ?_;try exact Zt))
 refine af (ι:=Nat) (λi=>i<=ch.length) (λi=>ch.length -i) (λi=>⟨[(1,pP 0),(2,pP 1),(4,pP 2),(5,pP 3),(6,vI i)],[(0,some (.box 164 [.st (J e),.st (J q.1),.st (J q.2.1),.st (J q.2.2.1),.st (J q.2.2.2),.st (.view (ch.map sp))])),(1,some (.box 161 [.st (J 0),.st (J 0),.st (J 0),.st (J 0)])),
  (2,some (.box 425 [.st (J (Em ch i).1.sign),.st (.ints (be (Em ch i).1.natAbs)),.st (J (Em ch i).2.1.sign),.st (.ints (be (Em ch i).2.1.natAbs))])),(3,some (.box 425 [.st (J (Em ch i).2.2.1.sign),.st (.ints (be (Em ch i).2.2.1.natAbs)),.st (J (Em ch i).2.2.2.sign),.st (.ints (be (Em ch i).2.2.2.natAbs))]))],4⟩) 0 Zc (dC _) ?_
 intro i hi;have hB:=Ep hf h4 hi
 (try(refine tX 0 ?_;try exact Zt))
 (refine bR ?_ ?_<;>intro h<;>(try conv=>whnf))
 ·have ak:i<ch.length:=by rw[ja]at h;omega
  have iP:=JV ak;have hs:=Eo ak;have hQ:=mL (hf _ (Ea ak));generalize ch.getD i (0,0,0,0)=Q at*;obtain⟨hQ,hg1,hg2,_⟩:=hQ;have p1:=TD hQ.1 hQ.2.1 hg1;have p2:=TD hQ.2.2.1 hQ.2.2.2 hg2;have p3:=yQ (n:=(Em ch i).1) (d:=(Em ch i).2.1) (m:=Q.1) (e:=Q.2.1) (uf hB.1) (uf hB.2.1) (uf K0) (uf K0) (Int.mul_pos K0 K0);have p4:=yQ (n:=(Em ch i).2.2.1) (d:=(Em ch i).2.2.2) (m:=Q.2.2.1) (e:=Q.2.2.2) (uf hB.2.2.1) (uf hB.2.2.2) (uf K0) (uf K0) (Int.mul_pos K0 K0);exact K85
 ·obtain rfl:i=ch.length:=by rw[ja]at h;omega
  have f1:=wj (n:=(iV ch).1) (d:=(iV ch).2.1) abH abH;have f2:=wj (n:=(iV ch).2.2.1) (d:=(iV ch).2.2.2) abH abH;by_cases k1:(iV ch).1<=1000000000/\(iV ch).2.1<=1000000000
  ·rw[if_pos k1]at f1;by_cases k2:(iV ch).2.2.1<=1000000000/\(iV ch).2.2.2<=1000000000
   ·rw[if_pos k2]at f2;rw[if_pos (show kZ (iV ch)from⟨k1,k2⟩)];exact K1
   ·rw[if_neg k2]at f2;rw[if_neg (show ¬kZ (iV ch)from λh=>k2 h.2)];exact K1
  ·rw[if_neg k1]at f1;rw[if_neg (show ¬kZ (iV ch)from λh=>k1 h.1)];by_cases k2:(iV ch).2.2.1<=1000000000/\(iV ch).2.2.2<=1000000000
   ·rw[if_pos k2]at f2;exact K1
   ·rw[if_neg k2]at f2;exact K1
def na (e:Int)(q:Sp)(ch:List Sp)(hq:qr q)(vJ: ∀s∈ch,qr s):ad 147 [Ru e q ch] (.one (I (aV e q ch))):=by
 have g:=qt q hq;unfold aV;by_cases h1:0<=e/\e<=100
 ·rw[if_pos h1];by_cases h2:dE q=0
  ·rw[if_neg K0];rw[h2]at g;by_cases h3:ch.length<=4
   ·rw[if_pos h3];have bB:(ch.map sp).length =ch.length:=ja ..;refine sF f147 ?_;repeat((first|(refine kO 7 rfl ?_;first|refine Rq (dm _ _ _) ?_)|refine tX 0 ?_|exact Zt);(try conv=>whnf))
    refine af (ι:=Nat) (λi=>i<=ch.length/\fs (ch.map dE)=fs ((ch.drop i).map dE)) (λi=>ch.length -i) (λi=>⟨[(1,pP 0),(4,vI i)],[(0,some (.box 164 [.st (J e),.st (J q.1),.st (J q.2.1),.st (J q.2.2.1),.st (J q.2.2.2),.st (.view (ch.map sp))]))],1⟩) 0 Zc ⟨dC _,rfl⟩ ?_;rintro i ⟨hi,he⟩
    (try(refine tX 0 ?_;try exact Zt))
    (refine bR ?_ ?_<;>intro h<;>(try conv=>whnf))
    ·have ak:i<ch.length:=by omega
     have iP:=JV ak;have g:=qt _ (vJ _ (Ea ak));rw[Tw ak]at he
     (try(refine tX 0 ?_;try exact Zt))
     (refine bR ?_ ?_<;>intro h<;>(try conv=>whnf))
     ·exact ai4
     ·rw[if_neg h]at he
      (try(refine tX 0 ?_;try exact Zt))
      exact⟨i+1,⟨ak,he⟩,by omega,Zc⟩
    ·exact aiw
   ·rw[if_neg h3];have bB:(ch.map sp).length =ch.length:=ja ..;exact K70
  ·rw[if_pos h2];generalize dE q=z at*;refine sF f147 ?_;repeat((first|(refine kO 7 rfl ?_;first|refine Rq (dm _ _ _) ?_)|refine tX 0 ?_|exact Zt);(try conv=>whnf))
   exact K7
 ·rw[if_neg h1];exact K70
def dQ (o:Option (Int × List Int)):(Int × List Int) × Int:=match o with
 |some (st,l)=>if cZ st l=0 then((st,l),0)else((0,[]),cZ st l)
 |none=>((0,[]),7)
abbrev PR (r:(Int × List Int) × Int):List SV:=[Rc r.1.1 r.1.2,I r.2]
def u9 {l:List (List UInt8)}{i:Nat}(h:i<l.length):(ab l)[i]? =some [.lit (.string (B (l.getD i [])))]:=aja
def lX (s:List UInt8)(hl:s.length<=10000):ad 73 [SS s] (.aJ (PR (dQ (cD (av 32 s))))):=by
 obtain⟨h1,h2⟩:=tJ s 32;obtain⟨h3,h4⟩:=bZ 32 s;have c1:=Ak s 32 K0 h2;rw[h1,show(32:UInt8).toNat =32 from rfl]at c1;generalize av 32 s=ws at*;have hn:=dZ ws;refine sF f73 ?_
 (try(refine tX 0 ?_;try exact Zt))
 refine af (ι:=Nat × Int × List Int) (λp=>(p.1<=ws.length/\p.2.2.length<=p.1)/\cD (ws.take p.1)=some p.2) (λp=>ws.length -p.1)
  (λp=>⟨[(2,pP 0),(4,pP 1),(15,pO 2),(16,vI ws.length),(17,vI p.1)],[(0,some (.box 168 [.st (J 0),.nil])),(1,some (.box 168 [.st (J p.2.1),.own 3])),(2,some (.row false 1 (.view (ab ws)))),(3,some (.row true 1 (.ints p.2.2)))],4⟩)
  (0,0,[]) (by
   refine bs.trans (dh 14 rfl) ?_;refine bs.trans (iJ 10 1 1 (.ints []) (T:=168) (cs:=[.st (J 0),.nil]) K9 rfl rfl rfl rfl) ?_
   exact ai Pv) ⟨⟨dC _,dw _⟩,rfl⟩ ?_
 rintro⟨i,st,l⟩ ⟨⟨hi,ha⟩,hg⟩;dsimp only at hi ha hg ⊢;by_cases ak:i<ws.length
 ·have he:=u9 ak
  have Ue:(ws.getD i []).length <=10000:=by
   have:=h4 (ws.getD i []) afy;omega
  have l6:=D0 ak;by_cases h0:i=0
  ·have hb:decide ((i:Int)>0)=false:=eT K0;have hz:=λn=>Bi (ws:=ws) K0 (n:=n);rw[if_pos h0]at l6;rw[<- h0]at hz;have sq:l= []:=IR K0;subst sq;generalize ws.getD i []=w at*
   cases hd:wN false 7 w with
   |some n=>
    have c:=rz (d:=7) K9 K0 hd;rw[<- hb]at c;have hz:=hz n hd;exact K93
   |none=>
    rw[l6 hd];obtain⟨v,c⟩:=rA (d:=7) K0 hd;rw[<- hb]at c;exact K5
  ·have hb:decide ((i:Int)>0)=true:=fH K0;have hz:=λn=>Bj K0 ak hg (n:=n);rw[if_neg h0,<- Ch]at l6;rw[<- Ch]at hz;generalize ws.getD i []=w at*
   cases hd:wN true 7 w with
   |some n=>
    have c:=rz (d:=7) K9 K0 hd;rw[<- hb]at c;exact K77
   |none=>
    rw[l6 hd];obtain⟨v,c⟩:=rA (d:=7) K0 hd;rw[<- hb]at c;exact K5
 ·obtain rfl:i=ws.length:=by omega
  rw[lu]at hg;rw[hg];have c3:=jW st l abM;have e:dQ (some (st,l))=if cZ st l=0 then((st,l),0)else((0,[]),cZ st l):=rfl
  rw[e];generalize cZ st l=x at*;by_cases hx:x=0
  ·rw[if_pos hx];exact K5
  ·rw[if_neg hx];exact K5
def ka (s:List UInt8)(hl:s.length<=10000):ad 77 [SS s] (.aJ (PR (dQ (cD (av 32 s))))):=by
 obtain⟨h3,h4⟩:=bZ 32 s;have c1:=jV s 32 K0;rw[show(32:UInt8).toNat =32 from rfl,iK]at c1;generalize av 32 s=ws at*;have hn:=dZ ws;refine sF f77 ?_
 (try(refine tX 0 ?_;try exact Zt))
 refine af (ι:=Nat × Int × List Int) (λp=>(p.1<=ws.length/\p.2.2.length<=p.1)/\cD (ws.take p.1)=some p.2) (λp=>ws.length -p.1)
  (λp=>⟨[(2,pP 0),(4,pP 1),(5,pO 2),(6,vI p.1)],[(0,some (.box 168 [.st (J 0),.nil])),(1,some (.box 168 [.st (J p.2.1),.own 3])),(2,some (.row false 1 (.view (ab ws)))),(3,some (.row true 1 (.ints p.2.2)))],4⟩)
  (0,0,[]) (by
   refine bs.trans (dh 14 rfl) ?_;refine bs.trans (iJ 10 1 1 (.ints []) (T:=168) (cs:=[.st (J 0),.nil]) K9 rfl rfl rfl rfl) ?_
   exact Zc) ⟨⟨dC _,dw _⟩,rfl⟩ ?_
 rintro⟨i,st,l⟩ ⟨⟨hi,ha⟩,hg⟩;dsimp only at hi ha hg ⊢;by_cases ak:i<ws.length
 ·have he:=u9 ak
  have Ue:(ws.getD i []).length <=10000:=by
   have:=h4 (ws.getD i []) afy;omega
  have l6:=D0 ak;by_cases h0:i=0
  ·have hz:=λn=>Bi (ws:=ws) K0 (n:=n);rw[if_pos h0]at l6;rw[<- h0]at hz;have sq:l= []:=IR K0;subst sq;generalize ws.getD i []=w at*;have c:=iB w 7 K9 K0
   cases hd:fQ 7 w with
   |some n=>
    rw[hd]at c;have hwp:=yC hd;have hp:=P6 hd;by_cases KL:(w.getD 0 0).toNat =45
    ·rw[if_pos KL]at hp;rw[l6 hp];exact K5
    ·rw[if_neg KL]at hp;have hz:=hz n hp;exact K93
   |none=>
    rw[hd]at c;rw[l6 (Tn hd)];exact K5
  ·have hz:=λn=>Bj K0 ak hg (n:=n);rw[if_neg h0]at l6;generalize ws.getD i []=w at*;have c:=iB w 7 K9 K0
   cases hd:fQ 7 w with
   |some n=>
    rw[hd]at c;exact K77
   |none=>
    rw[hd]at c;rw[l6 hd];exact K5
 ·obtain rfl:i=ws.length:=by omega
  rw[lu]at hg;rw[hg];have c3:=lW st l abM;have e:dQ (some (st,l))=if cZ st l=0 then((st,l),0)else((0,[]),cZ st l):=rfl
  rw[e];generalize cZ st l=x at*;by_cases hx:x=0
  ·rw[if_pos hx];exact K5
  ·rw[if_neg hx];exact K5
def iD (o:Option (Int × MJ × List MJ)):(Int × MJ × List MJ) × Int:=match o with
 |some (e,q,ch)=>if aV e q ch=0 then((e,q,ch),0)else((0,(0,0,0,0),[]),aV e q ch)
 |none=>((0,(0,0,0,0),[]),7)
abbrev PQ (r:(Int × MJ × List MJ) × Int):List SV:=[Ru r.1.1 r.1.2.1 r.1.2.2,I r.2]
abbrev z4:MJ:=(0,0,0,0)
def ZB (l:List Sp)(x:Sp):(SC.view (l.map sp++[sp x])).zK 4:=aip
def nf (s:List UInt8)(hl:s.length<=10000):ad 72 [SS s] (.aJ (PQ (iD (eC (av 59 s))))):=by
 obtain⟨h1,h2⟩:=tJ s 59;obtain⟨h3,h4⟩:=bZ 59 s;have h5:=lT 59 s;have c1:=Ak s 59 K0 h2;rw[h1,show(59:UInt8).toNat =59 from rfl]at c1;generalize av 59 s=ws at*;have hn:=dZ ws;have h6:0<ws.length:=Lq.2 h5;have RS:=u9 h6;have Cz:(ws.getD 0 []).length <=10000:=aiy
 cases hd:wN false 4 (ws.getD 0 [])with
 |none=>
  obtain⟨v,c0⟩:=rA (d:=4) K0 hd;rw[HJ hd];generalize ws.getD 0 []=w at*;refine sF f72 ?_;refine aS ?_;(refine aR ?_;conv=>whnf);(try(refine tX 2 ?_;try exact Zt));refine aS ?_;refine aS ?_;(refine aR ?_;conv=>whnf);(try(refine tX 2 ?_;try exact Zt))
  (try refine tB 0 ?_)
  refine aQ ?_;(refine aR ?_;conv=>whnf);(try(refine tX 2 ?_;try exact Zt));refine⟨_,dh 12 rfl,?_⟩;exact K5
 |some n=>
  have c0:=rz (d:=4) K9 K0 hd;have hsm:=λq ch=>Bk (q:=q) (ch:=ch) hd;generalize ws.getD 0 []=w at*;by_cases h7:ws.length<2
  ·have e:fR Bg (ws.drop 1)=some []:=by rw[Sc K0];rfl
   rw[D2 e];refine sF f72 ?_;refine aS ?_;(refine aR ?_;conv=>whnf);(try(refine tX 2 ?_;try exact Zt));refine aS ?_;refine aS ?_;(refine aR ?_;conv=>whnf);(try(refine tX 2 ?_;try exact Zt))
   (try refine tB 0 ?_)
   refine aQ ?_;(refine aR ?_;conv=>whnf);(try(refine tX 2 ?_;try exact Zt));refine⟨_,dh 12 rfl,?_⟩;exact K5
  ·have zB:(ab ws).drop 1=ab (ws.drop 1):=by simp
   have hpn:ws.length -1=(ws.drop 1).length :=by simp
   have pE:(ab (ws.drop 1)).length =(ws.drop 1).length :=dZ _;have hbd:=D1 (ws:=ws);have Ue: ∀w∈ws.drop 1,w.length<=10000:=λw hw=>by have:=h4 w (Ps hw);omega
   generalize hpd:ws.drop 1=ps at*;refine sF f72 ?_;refine aS ?_;(refine aR ?_;conv=>whnf);(try(refine tX 2 ?_;try exact Zt));refine aS ?_;refine aS ?_;(refine aR ?_;conv=>whnf);(try(refine tX 2 ?_;try exact Zt))
   (try refine tB 0 ?_)
   refine aQ ?_;(refine aR ?_;conv=>whnf);(try(refine tX 2 ?_;try exact Zt));refine⟨_,dh 12 rfl,?_⟩
   (try(refine tX 0 ?_;try exact Zt))
   refine af (ι:=Nat × List Sp) (λp=>(p.1<=ps.length/\p.2.length=p.1)/\fR Bg (ps.take p.1)=some p.2) (λp=>ps.length -p.1)
    (λp=>⟨[(2,pP 0),(7,pP 1),(37,some (.val (false,[.st (.view (ab ps))]))),(38,vI ps.length),(39,vI p.1)],[(0,some (.box 164 [.st (J 0),.st (J 0),.st (J 0),.st (J 0),.st (J 0),.nil])),(1,some (.box 164 [.st (J n),.st (J (p.2.getD 0 z4).1),.st (J (p.2.getD 0 z4).2.1),.st (J (p.2.getD 0 z4).2.2.1),.st (J (p.2.getD 0 z4).2.2.2),.own 2])),(2,some (.row true 4 (.view ((p.2.drop 1).map sp))))],3⟩)
    (0,[]) (by
     refine bs.trans (iJ 52 5 4 (.view []) (T:=164) (cs:=[.st (J n),.st (J 0),.st (J 0),.st (J 0),.st (J 0),.nil]) K9 rfl rfl rfl rfl) ?_
     exact ai (by rw[<- pE];kernel_rfl)) ⟨⟨dC _,rfl⟩,rfl⟩ ?_
   rintro⟨i,qs⟩ ⟨⟨hi,ha⟩,hg⟩;dsimp only at hi ha hg ⊢;by_cases ak:i<ps.length
   ·have he:=u9 ak;have Ue:(ps.getD i []).length <=10000:=Ue _ aiR;have hz:=λn=>uT ak hg (n:=n);have l6:=tK (f:=Bg) ak;generalize ps.getD i []=x at*;obtain⟨q,c,k⟩:=JW x K0
    cases hx:Bg x with
    |some p=>
     have hpq:=k p hx;subst hpq;have hz:=hz _ hx;rw[hx,XL]at c;by_cases h0:i=0
     ·have sq:qs= []:=IR K0;subst sq;repeat' ((first|refine tX 0 ?_|exact Zt|refine bR ?_ ?_<;>intro h)<;>(try conv=>whnf))
      all_goals first|exact Zo|(exact absurd rfl h)|(exact⟨(i+1,[p]),⟨⟨ak,by dsimp only[List.length_cons,List.length_nil];omega⟩,hz⟩,by dsimp only;omega,Zc⟩)
     ·have e1:(qs++[p]).getD 0 z4=qs.getD 0 z4:=by
       exact aj2
      have e2:((qs++[p]).drop 1).map sp=(qs.drop 1).map sp++[sp p]:=ajY;have hap:(qs++[p]).length =qs.length+1:=by simp
      have jd:((qs.drop 1).map sp).length =qs.length -1:=by simp
      have u:=ZB (qs.drop 1) p;generalize hC:(qs.drop 1).map sp=C at*;generalize hQ:qs.getD 0 z4=Q at*;have amW:(C++[sp p]).length =C.length+1:=by simp
      repeat' ((first|refine tX 0 ?_|exact Zt|refine bR ?_ ?_<;>intro h)<;>(try conv=>whnf))
      all_goals first|exact Zo|(exact absurd rfl h)|(exact⟨(i+1,qs++[p]),⟨⟨ak,by dsimp only;omega⟩,hz⟩,by dsimp only;omega,ai aj5⟩)
    |none=>
     rw[hbd (l6 hx)];rw[hx,XM]at c;exact K5
   ·obtain rfl:i=ps.length:=by omega
    rw[lu]at hg
    match qs,ha,hg with
    | [],ha,hg=>exfalso;simp at ha;omega
    |q::ch,ha,hg=>
     rw[hsm q ch hg];have zJ:=yH (P:=qr) (λs x=>P8) hg;have c3:=kY n q ch (zJ q (by simp)) (λs hs=>zJ s (by simp[hs])) (by simp at ha;omega);have e:iD (some (n,q,ch))=if aV n q ch=0 then((n,q,ch),0)else((0,(0,0,0,0),[]),aV n q ch):=rfl
     rw[e];generalize aV n q ch=x at*;by_cases hx:x=0
     ·rw[if_pos hx];exact K5
     ·rw[if_neg hx];exact K5
def Qv {ws:List (List UInt8)}{i:Nat}(h:1<=i):(ws.drop 1).getD (i -1) []=ws.getD i []:=ai7
def k5 (s:List UInt8)(hl:s.length<=10000):ad 76 [SS s] (.aJ (PQ (iD (eC (av 59 s))))):=by
 obtain⟨h3,h4⟩:=bZ 59 s;have h5:=lT 59 s;have c1:=jV s 59 K0;rw[show(59:UInt8).toNat =59 from rfl,iK]at c1;generalize av 59 s=ws at*;have hn:=dZ ws;have h6:0<ws.length:=Lq.2 h5;have RS:=u9 h6;have Cz:(ws.getD 0 []).length <=10000:=aiy;obtain⟨n,c0,k0⟩:=Eb (ws.getD 0 []) K0
 cases hd:wN false 4 (ws.getD 0 [])with
 |none=>
  rw[hd,XM]at c0;rw[HJ hd];generalize ws.getD 0 []=w at*;refine sF f76 ?_;exact K5
 |some n'=>
  have hnn:=k0 _ hd;subst hnn;rw[hd,XL]at c0;have hsm:=λq ch=>Bk (q:=q) (ch:=ch) hd;generalize ws.getD 0 []=w at*;by_cases h7:ws.length<2
  ·have e:fR Bg (ws.drop 1)=some []:=by rw[Sc K0];rfl
   rw[D2 e];refine sF f76 ?_;exact K5
  ·have hbd:=D1 (ws:=ws);have hpn:(ws.drop 1).length =ws.length -1:=by simp
   have hgt:=λi=>Qv (ws:=ws) (i:=i);have Ue: ∀w∈ws,w.length<=10000:=λw hw=>by have:=h4 w hw;omega
   generalize hpd:ws.drop 1=ps at*;refine sF f76 ?_
   (try(refine tX 0 ?_;try exact Zt))
   refine af (ι:=Nat × List Sp) (λp=>(1<=p.1/\p.1<=ws.length/\p.2.length=p.1 -1)/\fR Bg (ps.take (p.1 -1))=some p.2) (λp=>ws.length -p.1)
    (λp=>⟨[(2,pP 0),(4,pO 1),(7,pP 2),(8,vI p.1)],[(0,some (.box 164 [.st (J 0),.st (J 0),.st (J 0),.st (J 0),.st (J 0),.nil])),(1,some (.row true 1 (.view (ab ws)))),(2,some (.box 164 [.st (J n),.st (J (p.2.getD 0 z4).1),.st (J (p.2.getD 0 z4).2.1),.st (J (p.2.getD 0 z4).2.2.1),.st (J (p.2.getD 0 z4).2.2.2),.own 3])),(3,some (.row true 4 (.view ((p.2.drop 1).map sp))))],4⟩)
    (1,[]) (by
     refine bs.trans (iJ 52 5 4 (.view []) (T:=164) (cs:=[.st (J n),.st (J 0),.st (J 0),.st (J 0),.st (J 0),.nil]) K9 rfl rfl rfl rfl) ?_
     exact Zc) ⟨⟨dw _,by dsimp only;omega,rfl⟩,rfl⟩ ?_
   rintro⟨i,qs⟩ ⟨⟨zE,hi,ha⟩,hg⟩;dsimp only at zE hi ha hg ⊢;by_cases ak:i<ws.length
   ·have he:=u9 ak;have Ue:(ws.getD i []).length <=10000:=Ue _ afy;have hz:=λn=>uT K0 hg (n:=n);have l6:=tK (f:=Bg) (l:=ps) (i:=i -1) K0;rw[show i -1+1=i+1 -1 by omega,hgt i zE]at hz;rw[hgt i zE]at l6;generalize ws.getD i []=x at*;obtain⟨q,c,k⟩:=VB x K0
    cases hx:Bg x with
    |some p=>
     have hpq:=k p hx;subst hpq;have hz:=hz _ hx;rw[hx,XL]at c;by_cases h0:i=1
     ·have sq:qs= []:=IR K0;subst sq;repeat' ((first|refine tX 0 ?_|exact Zt|refine bR ?_ ?_<;>intro h)<;>(try conv=>whnf))
      all_goals first|exact Zo|(exact absurd rfl h)|(exact⟨(i+1,[p]),⟨⟨by dsimp only;omega,ak,by dsimp only[List.length_cons,List.length_nil];omega⟩,hz⟩,by dsimp only;omega,Zc⟩)
     ·have e1:(qs++[p]).getD 0 z4=qs.getD 0 z4:=by
       exact aj2
      have e2:((qs++[p]).drop 1).map sp=(qs.drop 1).map sp++[sp p]:=ajY;have hap:(qs++[p]).length =qs.length+1:=by simp
      have jd:((qs.drop 1).map sp).length =qs.length -1:=by simp
      have u:=ZB (qs.drop 1) p;generalize hC:(qs.drop 1).map sp=C at*;generalize hQ:qs.getD 0 z4=Q at*;have amW:(C++[sp p]).length =C.length+1:=by simp
      repeat' ((first|refine tX 0 ?_|exact Zt|refine bR ?_ ?_<;>intro h)<;>(try conv=>whnf))
      all_goals first|exact Zo|(exact absurd rfl h)|(exact⟨(i+1,qs++[p]),⟨⟨by dsimp only;omega,ak,by dsimp only;omega⟩,hz⟩,by dsimp only;omega,ai aj5⟩)
    |none=>
     rw[hbd (l6 hx)];rw[hx,XM]at c;exact K5
   ·obtain rfl:i=ws.length:=by omega
    rw[o0 K0]at hg
    match qs,ha,hg with
    | [],ha,hg=>exfalso;simp at ha;omega
    |q::ch,ha,hg=>
     rw[hsm q ch hg];have zJ:=yH (P:=qr) (λs x=>P8) hg;have c3:=na n q ch (zJ q (by simp)) (λs hs=>zJ s (by simp[hs]));have e:iD (some (n,q,ch))=if aV n q ch=0 then((n,q,ch),0)else((0,(0,0,0,0),[]),aV n q ch):=rfl
     rw[e];generalize aV n q ch=x at*;by_cases hx:x=0
     ·rw[if_pos hx];exact K5
     ·rw[if_neg hx];exact K5
def pB {st:Int}{l:List Int}(h:cZ st l=0):(1<=st/\st<=1000000)/\3<=l.length/\l.length<=64/\iZ l (-4096) 4096:=by grind[cZ]
def fN (e:Int)(q:Sp)(ch:List Sp)(st:Int)(l:List Int):Int:=if aV e q ch≠0 then aV e q ch else cZ st l
def y7 {e:Int}{q:Sp}{ch:List Sp}{st:Int}{l:List Int}(h:fN e q ch st l=0):aV e q ch=0/\cZ st l=0:=by grind[fN]
def Bw (e:Int)(q:Sp)(ch:List Sp)(st:Int)(l:List Int)(hq:qr q)(vJ: ∀s∈ch,qr s)(hl:l.length<=maxLen):ad 150 [Ru e q ch,Rc st l] (.one (I (fN e q ch st l))):=by
 have s1:=na e q ch hq vJ;have s2:=lW st l hl;unfold fN;by_cases h:aV e q ch=0
 ·rw[if_neg K0];rw[h]at s1;refine sF f150 ?_;exact tL
 ·rw[if_pos h];generalize aV e q ch=z at*;refine sF f150 ?_;exact tL
def Wb (e:Int)(q:Sp)(ch:List Sp)(st:Int)(l:List Int)(hq:qr q)(vJ: ∀s∈ch,qr s)(hc:ch.length<=4294967296)(hl:l.length<=maxLen):ad 141 [Ru e q ch,Rc st l] (.aJ [Rr l e,I (fN e q ch st l)]):=by
 have s1:=kY e q ch hq vJ hc;have s2:=jW st l hl;have f:=fs2 (aV e q ch) (cZ st l);rw[show(if aV e q ch≠0 then aV e q ch else cZ st l)=fN e q ch st l from rfl]at f;rw[<- f];refine sF f141 ?_;exact tL
abbrev bRu (e:Int)(q:Sp)(ch:List Sp):Option co:=some (.box 164 [.st (J e),.st (J q.1),.st (J q.2.1),.st (J q.2.2.1),.st (J q.2.2.2),.st (.view (ch.map sp))])
abbrev bRc (st:Int)(l:List Int):Option co:=some (.box 168 [.st (J st),.st (.ints l)])
abbrev bRg (a b:Int):Option co:=some (.box 52 [.st (J a),.st (J b)])
def Kb (e:Int)(q:Sp)(ch:List Sp)(st:Int)(l:List Int)(he:0<=e/\e<=1000)(h0:0<l.length)(hl:l.length<=64)(hA:iZ l (-4096) 4096):ad 151 [Ru e q ch,Rc st l] (.aJ [I (pk l:Nat),F2 (pA l -e) (pA l+e)]):=by
 refine sF f151 ?_
 (try(refine tX 0 ?_;try exact Zt))
 refine af (ι:=Nat) (λi=>i<=l.length) (λi=>l.length -i) (λi=>⟨[(2,pP 0),(3,pP 1),(5,pP 2),(6,vI (Cp l i:Nat)),(7,vI i)],[(0,bRu e q ch),(1,bRc st l),(2,bRg 0 0)],3⟩) 0 Zc (dC _) ?_;intro i hi
 have hp:Cp l i<l.length:=by
  by_cases e0:i=0
  ·subst e0;exact h0
  ·have:=At (l:=l) (i:=i) K0;omega
 (try(refine tX 0 ?_;try exact Zt))
 (refine bR ?_ ?_<;>intro h<;>(try conv=>whnf))
 ·have ak:i<l.length:=by omega
  (try(refine tX 0 ?_;try exact Zt))
  (refine bR ?_ ?_<;>intro h<;>(try conv=>whnf))
  ·have hs:Cp l (i+1)=i:=if_pos h;exact K85
  ·have hs:Cp l (i+1)=Cp l i:=if_neg h;exact K85
 ·obtain rfl:i=l.length:=by omega
  have hb:=jA hA hp;exact K1
def y8 (e:Int)(q:Sp)(ch:List Sp)(st:Int)(l:List Int)(t x y:Int)(he:0<=e/\e<=1000)(hl:l.length<=64)(h:iZ l (-4096) 4096)(ht:0<=t/\t<=10)(hx:ZV x)(hy:ZV y):ad 152 [Ru e q ch,Rc st l,I t,F2 x y] (.one (F2 (fF (EL e t x) l 0) (fF (EM e t y) l 0))):=by
 have m1:=Ka ht hx;have m2:=Ka ht hy;refine sF f152 ?_
 (try(refine tX 0 ?_;try exact Zt))
 refine af (ι:=Int) (λi=> -1<=i/\i<l.length) (λi=>(i+1).toNat) (λi=>⟨[(2,vI t),(4,pP 0),(5,pP 1),(7,pP 2),(8,pP 3),(9,pP 4),(10,vI i)],[(0,bRu e q ch),(1,bRc st l),(2,bRg x y),(3,bRg 0 0),(4,bRg (fF (EL e t x) l (i+1).toNat) (fF (EM e t y) l (i+1).toNat))],5⟩) ((l.length:Int) -1) (ai aiO) ⟨by omega,by omega⟩ ?_;rintro i ⟨zE,hi⟩;by_cases hz:0<=i
 ·have ak:i.toNat<l.length:=by omega
  have hb:=jA h ak;have s1:=vg (p:=EL e t x) ak;have s2:=vg (p:=EM e t y) ak;rw[show i.toNat+1=(i+1).toNat by omega,show((i.toNat:Nat):Int)=i by omega]at s1 s2;unfold EL at s1;unfold EM at s2;simp only[CR]at s1 s2;by_cases k1:10*(l.getD i.toNat 0+e)>=t*x
  ·rw[if_pos k1]at s1;by_cases k2:10*(l.getD i.toNat 0 -e)>=t*y
   ·rw[if_pos k2]at s2;exact K42
   ·rw[if_neg k2]at s2;exact K42
  ·rw[if_neg k1]at s1;by_cases k2:10*(l.getD i.toNat 0 -e)>=t*y
   ·rw[if_pos k2]at s2;exact K42
   ·rw[if_neg k2]at s2;exact K42
 ·obtain rfl:i= -1:=by omega
  exact tL
def NK (e:Int)(q:Sp)(ch:List Sp)(st:Int)(l:List Int)(a:Nat)(x y:Int)(he:0<=e/\e<=1000)(hl:l.length<=64)(h:iZ l (-4096) 4096)(ha:a<l.length):ad 153 [Ru e q ch,Rc st l,I (a:Nat),F2 x y] (.one (F2 (fF (J8 e y) l (a+1)) (fF (J9 e x) l (a+1)))):=by
 refine sF f153 ?_
 (try(refine tX 0 ?_;try exact Zt))
 refine af (ι:=Int) (λi=>(a:Int)<=i/\i<l.length) (λi=>(i+1).toNat) (λi=>⟨[(2,vI (a:Nat)),(4,pP 0),(5,pP 1),(7,pP 2),(8,pP 3),(9,pP 4),(10,vI i)],[(0,bRu e q ch),(1,bRc st l),(2,bRg x y),(3,bRg 0 0),(4,bRg (fF (J8 e y) l (i+1).toNat) (fF (J9 e x) l (i+1).toNat))],5⟩) ((l.length:Int) -1) (ai aiO) ⟨by omega,by omega⟩ ?_;rintro i ⟨zE,hi⟩;by_cases hz:(a:Int)<i
 ·have ak:i.toNat<l.length:=by omega
  have hb:=jA h ak;have s1:=vg (p:=J8 e y) ak;have s2:=vg (p:=J9 e x) ak;rw[show i.toNat+1=(i+1).toNat by omega,show((i.toNat:Nat):Int)=i by omega]at s1 s2;unfold J8 at s1;unfold J9 at s2;simp only[CR]at s1 s2;by_cases k1:2*(l.getD i.toNat 0 -e)<=y
  ·rw[if_pos k1]at s1;by_cases k2:2*(l.getD i.toNat 0+e)<=x
   ·rw[if_pos k2]at s2;exact K43
   ·rw[if_neg k2]at s2;exact K43
  ·rw[if_neg k1]at s1;by_cases k2:2*(l.getD i.toNat 0+e)<=x
   ·rw[if_pos k2]at s2;exact K43
   ·rw[if_neg k2]at s2;exact K43
 ·obtain rfl:i=(a:Int):=by omega
  exact tL
def Bx {t p q a b c d e f:Int}(h:eS t p q a b c d e f=0):TN t p q a b c d e f/\Kc p q a b c d e f:=by
 unfold eS at h;split at h
 ·rename_i h1;split at h
  ·rename_i h2;exact⟨h1,h2⟩
  ·omega
 ·omega
def Gt (t p q a b c d e f:Int):ad 343 [F9 t p q a b c d e f] (.one (I (eS t p q a b c d e f))):=by
 unfold eS;by_cases h:TN t p q a b c d e f
 ·rw[if_pos h];obtain⟨⟨h1,h2,h3⟩,⟨h4,h5⟩,⟨h6,h7⟩,h8,h9⟩:=h;by_cases h':Kc p q a b c d e f
  ·rw[if_pos h'];obtain⟨k1,k2,k3,k4⟩:=h';refine sF f343 ?_;repeat((first|(refine kO 7 rfl ?_;first|refine Rq (dm _ _ _) ?_)|refine tX 0 ?_|exact Zt);(try conv=>whnf))
   refine aD ?_;repeat((first|(refine kO 7 rfl ?_;first|refine Rq (dm _ _ _) ?_)|refine tX 0 ?_|exact Zt);(try conv=>whnf))
   refine aD ?_;repeat((first|(refine kO 7 rfl ?_;first|refine Rq (dm _ _ _) ?_)|refine tX 0 ?_|exact Zt);(try conv=>whnf))
   refine aD ?_;repeat((first|(refine kO 7 rfl ?_;first|refine Rq (dm _ _ _) ?_)|refine tX 0 ?_|exact Zt);(try conv=>whnf))
   refine aD ?_
   (try(refine tX 0 ?_;try exact Zt))
   refine aD ?_
   (try(refine tX 0 ?_;try exact Zt))
   refine aD ?_
   (try(refine tX 0 ?_;try exact Zt))
   refine aD ?_
   (try(refine tX 0 ?_;try exact Zt))
   refine aD ?_;exact K1
  ·rw[if_neg h'];refine sF f343 ?_;repeat((first|(refine kO 7 rfl ?_;first|refine Rq (dm _ _ _) ?_)|refine tX 0 ?_|exact Zt);(try conv=>whnf))
   refine aD ?_;repeat((first|(refine kO 7 rfl ?_;first|refine Rq (dm _ _ _) ?_)|refine tX 0 ?_|exact Zt);(try conv=>whnf))
   refine aD ?_;repeat((first|(refine kO 7 rfl ?_;first|refine Rq (dm _ _ _) ?_)|refine tX 0 ?_|exact Zt);(try conv=>whnf))
   refine aD ?_;repeat((first|(refine kO 7 rfl ?_;first|refine Rq (dm _ _ _) ?_)|refine tX 0 ?_|exact Zt);(try conv=>whnf))
   refine aD ?_
   (try(refine tX 0 ?_;try exact Zt))
   by_cases k1:p<=q
   ·(try(refine tX 0 ?_;try exact Zt))
    refine aD ?_;by_cases k2:a<=b
    ·(try(refine tX 0 ?_;try exact Zt))
     refine aD ?_;by_cases k3:c<=d
     ·(try(refine tX 0 ?_;try exact Zt))
      refine aD ?_;exact K1
     ·exact K1
    ·exact K1
   ·exact K1
 ·rw[if_neg h];refine sF f343 ?_;repeat' ((first|(refine kO 7 rfl ?_;first|refine Rq (dm _ _ _) ?_)|refine tX 0 ?_|exact Zt|refine bR ?_ ?_<;>intro h)<;>(try conv=>whnf))
  all_goals first|(exact rfl)|(refine aD ?_)
  repeat' ((first|(refine kO 7 rfl ?_;first|refine Rq (dm _ _ _) ?_)|refine tX 0 ?_|exact Zt|refine bR ?_ ?_<;>intro h)<;>(try conv=>whnf))
  all_goals first|(exact rfl)|(refine aD ?_)
  repeat' ((first|(refine kO 7 rfl ?_;first|refine Rq (dm _ _ _) ?_)|refine tX 0 ?_|exact Zt|refine bR ?_ ?_<;>intro h)<;>(try conv=>whnf))
  all_goals first|(exact rfl)|(refine aD ?_)
  repeat' ((first|(refine kO 7 rfl ?_;first|refine Rq (dm _ _ _) ?_)|refine tX 0 ?_|exact Zt|refine bR ?_ ?_<;>intro h)<;>(try conv=>whnf))
  all_goals first|exact Zo|(exact rfl)|(refine aD ?_)
  repeat' ((first|(refine kO 7 rfl ?_;first|refine Rq (dm _ _ _) ?_)|refine tX 0 ?_|exact Zt|refine bR ?_ ?_<;>intro h)<;>(try conv=>whnf))
  all_goals first|exact Zo|(exact rfl)
abbrev NM (a b:Int):Prop:=(-1000000000000000<=a/\a<=1000000000000000)/\ -1000000000000000<=b/\b<=1000000000000000
def sM (a b:Int):Int:=if NM a b then(if a<=b then 0 else 9)else 2
def Kd (a b:Int):ad 285 [F2 a b] (.one (I (sM a b))):=by
 have g:=D9 [a,b] 1000000000000000 K0 (fP rfl);have ea:iZ [a,b] (-1000000000000000) 1000000000000000↔NM a b:=by simp[iZ]
 have f:=fs2 (if NM a b then 0 else 2) (if a<=b then 0 else 9);have e:fs [if NM a b then 0 else 2,if a<=b then 0 else 9]=sM a b:=by grind[sM]
 simp only[ea]at g;rw[<- e];refine sF f285 ?_;exact tL
def sl (a b:Int):ad 331 [F2 a b] (.one (I (sM a b))):=by
 unfold sM;by_cases h:NM a b
 ·rw[if_pos h];by_cases h':a<=b
  ·rw[if_pos h'];refine sF f331 ?_;exact tL
  ·rw[if_neg h'];refine sF f331 ?_;exact tL
 ·rw[if_neg h];refine sF f331 ?_;exact tL
def rJ (a b c d:Int):Int:=if sM a b≠0 then sM a b else sM c d
def We (a b c d:Int):Int:=if c<=a/\b<=d then 2 else if b<c\/a>d then 0 else 1
def Gu (a b c d:Int):ad 249 [F2 a b,F2 c d] (.aJ (if rJ a b c d=0 then [I (We a b c d),I 0]else [I 0,I (rJ a b c d)])):=by
 have f:=fs2 (sM a b) (sM c d);rw[show(if sM a b≠0 then sM a b else sM c d)=rJ a b c d from rfl]at f;refine sF f249 ?_;repeat((first|(refine kO 7 rfl ?_;first|refine Rq (Kd _ _) ?_|refine rG (λ_ z=>⟨_,g9 _ (fP rfl),z⟩) ?_)|refine tX 0 ?_|exact Zt);(try conv=>whnf))
 rw[f]
 (refine bR ?_ ?_<;>intro h<;>(try conv=>whnf))
 ·exact afG
 ·rw[if_pos (show rJ a b c d=0 by omega)];unfold We;by_cases h1:c<=a/\b<=d
  ·rw[if_pos h1];exact tL
  ·rw[if_neg h1];by_cases h2:b<c\/a>d
   ·rw[if_pos h2];exact tL
   ·rw[if_neg h2];exact tL
def Gv (a b c d:Int):ad 332 [F2 a b,F2 c d] (.one (I (We a b c d))):=by
 unfold We;by_cases h1:c<=a/\b<=d
 ·rw[if_pos h1];refine sF f332 ?_;exact tL
 ·rw[if_neg h1];by_cases h2:b<c\/a>d
  ·rw[if_pos h2];refine sF f332 ?_;exact tL
  ·rw[if_neg h2];refine sF f332 ?_;exact tL
def Aw (a b c d:Int):ad 305 [F2 a b,F2 c d] (.aJ (if rJ a b c d=0 then [I (We a b c d),I 0]else [I 0,I (rJ a b c d)])):=by
 have s1:=sl a b;have s2:=sl c d;have s3:=Gv a b c d;unfold rJ;by_cases h1:sM a b=0
 ·rw[if_neg (show ¬sM a b≠0 by omega)];rw[h1]at s1;by_cases h2:sM c d=0
  ·rw[if_pos h2];rw[h2]at s2;refine sF f305 ?_;exact tL
  ·rw[if_neg h2];generalize sM c d=z at*;refine sF f305 ?_;exact tL
 ·rw[if_pos h1,if_neg h1];generalize sM a b=z at*;refine sF f305 ?_;exact tL
def ZY (p:Int)(S:Sp):Int:=p*S.1/S.2.1
def ZZ (p:Int)(S:Sp):Int:= -(-(p*S.2.2.1)/S.2.2.2)
def jL (e:Int)(q:Sp)(ch:List Sp)(g:Int):Int:=if kw e q ch≠0 then kw e q ch else g
def EQ {e:Int}{q:Sp}{ch:List Sp}(h:kw e q ch=0):aV e q ch=0/\kZ (iV ch)/\scB 1000000000 (iV ch):=by
 unfold kw at h;split at h
 grind
 ·rename_i h1;split at h
  ·rename_i h2;have h0:aV e q ch=0:=by omega
   obtain⟨_,_,h4,hf⟩:=iS h0;have hS:scB 1000000000000 (iV ch):=Ep hf h4 (dw _)
   grind
  ·omega
def Gw (e:Int)(q:Sp)(ch:List Sp)(hq:qr q)(vJ: ∀s∈ch,qr s)(hl:ch.length<=4294967296)(t p r a b c d i j:Int):ad 253 [Ru e q ch,F9 t p r a b c d i j] (.aJ (if jL e q ch (eS t p r a b c d i j)=0 then [F2 (ZY p (iV ch)) (ZZ r (iV ch)),I 0]else [F2 0 0,I (jL e q ch (eS t p r a b c d i j))])):=by
 have s1:=Ng e q ch hq vJ hl;have s2:=Au t p r a b c d i j;by_cases h1:kw e q ch=0
 ·have he:jL e q ch (eS t p r a b c d i j)=eS t p r a b c d i j:=by unfold jL;grind
  rw[he];rw[if_pos h1]at s1;obtain⟨_,_,hS⟩:=EQ h1;generalize iV ch=S at*;by_cases h2:eS t p r a b c d i j=0
  ·obtain⟨⟨⟨k1,k2,k3⟩,_⟩,_⟩:=Bx h2;have m1:=Gl (A:=4196) (B:=1000000000) k2 hS.1;have m2:=Gl (A:=4196) (B:=1000000000) k3 hS.2.2.1;have g:=MW (p*S.1) S.2.1 (r*S.2.2.1) S.2.2.2 K0 K0 K0 K0;rw[if_pos h2];rw[h2]at s2;refine sF f253 ?_;exact tL
  ·rw[if_neg h2];generalize eS t p r a b c d i j=z at*;refine sF f253 ?_;repeat((first|(refine kO 7 rfl ?_;first|refine Rq Vz ?_)|refine tX 0 ?_|exact Zt);(try conv=>whnf))
   exact K7
 ·have he:jL e q ch (eS t p r a b c d i j)=kw e q ch:=by unfold jL;grind
  rw[he,if_neg h1];rw[if_neg h1]at s1;have f:=Vy (x:=kw e q ch) (y:=eS t p r a b c d i j) h1;generalize kw e q ch=z at*;refine sF f253 ?_;exact tL
def Ax (e:Int)(q:Sp)(ch:List Sp)(hq:qr q)(vJ: ∀s∈ch,qr s)(t p r a b c d i j:Int):ad 310 [Ru e q ch,F9 t p r a b c d i j] (.aJ (if jL e q ch (eS t p r a b c d i j)=0 then [F2 (ZY p (iV ch)) (ZZ r (iV ch)),I 0]else [F2 0 0,I (jL e q ch (eS t p r a b c d i j))])):=by
 have s1:=na e q ch hq vJ;have s2:=Gt t p r a b c d i j;by_cases h0:aV e q ch=0
 ·have s3:=J0 h0;rw[h0]at s1;by_cases hs:kZ (iV ch)
  ·have h1:kw e q ch=0:=by unfold kw;grind
   have he:jL e q ch (eS t p r a b c d i j)=eS t p r a b c d i j:=by unfold jL;grind
   rw[he];rw[if_pos hs]at s3;obtain⟨_,_,hS⟩:=EQ h1;generalize iV ch=S at*;by_cases h2:eS t p r a b c d i j=0
   ·obtain⟨⟨⟨k1,k2,k3⟩,_⟩,_⟩:=Bx h2;have m1:=Gl (A:=4196) (B:=1000000000) k2 hS.1;have m2:=Gl (A:=4196) (B:=1000000000) k3 hS.2.2.1;have g1:=Al (p*S.1) S.2.1 K0 K0;have g2:=MX (r*S.2.2.1) S.2.2.2 K0 K0;rw[if_pos h2];rw[h2]at s2;exact ab2
   ·rw[if_neg h2];generalize eS t p r a b c d i j=z at*;exact ab2
  ·have h1:kw e q ch=8:=by unfold kw;grind
   have he:jL e q ch (eS t p r a b c d i j)=8:=by unfold jL;grind
   rw[he,if_neg K0];rw[if_neg hs]at s3;exact ab2
 ·have h1:kw e q ch=aV e q ch:=by unfold kw;grind
  have he:jL e q ch (eS t p r a b c d i j)=aV e q ch:=by unfold jL;grind
  rw[he,if_neg h0];generalize aV e q ch=z at*;exact ab2
abbrev Ig (x:Qn):Prop:=(-5000<=x.1/\x.1<=5000)/\1<=x.2/\x.2<=5000
abbrev By (s:Iv):Prop:=Ig s.1/\Ig s.2
abbrev qv (x:Qn):SV:=(true,[J x.1,J x.2])
abbrev iv (s:Iv):List SC:=[J s.1.1,J s.1.2,J s.2.1,J s.2.2]
def Kf {x y:Qn}(hx:Ig x)(hy:Ig y):Qo (x.1*y.2):=by
 have:=alD (x:=x.1) (y:=y.2) (A:=5000) (B:=5000) hx.1 K0 K0;omega
def Z8 {x:Qn}(h:Ig x):ng x:=by have:=h.2.1;show 0<x.2;omega
def TP {s:Iv}(h:By s):nH s:=⟨Z8 h.1,Z8 h.2⟩
def AA {x y:Qn}(hx:Ig x)(hy:Ig y):ad 263 [qv x,qv y] (.one (Bo (decide (pQ x y)))):=HV x.1 x.2 y.1 y.2 (Kf hx hy) (Kf hy hx)
def Bz {x y:Qn}(hx:Ig x)(hy:Ig y):ad 369 [qv x,qv y] (.one (qv (zc x y))):=by
 have g:=AA hy hx;unfold zc;by_cases h:pQ y x
 ·rw[fH h]at g;rw[if_pos h];refine sF f369 ?_;exact tL
 ·rw[eT h]at g;rw[if_neg h];refine sF f369 ?_;exact tL
def BA {x y:Qn}(hx:Ig x)(hy:Ig y):ad 368 [qv x,qv y] (.one (qv (zb x y))):=by
 have g:=AA hx hy;unfold zb;by_cases h:pQ x y
 ·rw[fH h]at g;rw[if_pos h];refine sF f368 ?_;exact tL
 ·rw[eT h]at g;rw[if_neg h];refine sF f368 ?_;exact tL
def NO {s:Iv}(h:By s):ad 323 [(true,iv s)] (.one (Bo (decide (kf s)))):=by
 have g:=AA h.2 h.1;refine sF f323 ?_;exact tL
def ae7 {x y:Qn}(hx:Ig x)(hy:Ig y):Ig (zb x y):=by unfold zb;split<;>assumption
def ae8 {x y:Qn}(hx:Ig x)(hy:Ig y):Ig (zc x y):=by unfold zc;split<;>assumption
def vh {n d:Int}(hn: -5000<=n/\n<=5000)(hd:1<=d/\d<=5000):Ig (lA n d):=by
 have h1:=acS n d;have h2:=agA (n:=n) (d:=d) K0;have h3:=wS (n:=n) (d:=d) K0;show(-5000<=fq n d/\fq n d<=5000)/\1<=eE n d/\eE n d<=5000;omega
abbrev b5 (n:Int):Prop:= -5000<=n/\n<=5000
def NP {s:Iv}{n m:Int}(h:By s)(hn:b5 n)(hm:b5 m):By (oM s n m):=by
 unfold oM;split
 ·exact⟨h.1,ae8 h.2 (vh hm K0)⟩
 ·split
  ·exact⟨ae7 h.1 (vh K0 K0),h.2⟩
  ·split
   ·unfold agF;exact⟨⟨by decide,by decide⟩,by decide,by decide⟩
   ·exact h
def agG {s o:Iv}(h:By s)(k:By o):By (sN s o):=⟨ae7 h.1 k.1,ae8 h.2 k.2⟩
def adf {s o:Iv}(h:By s)(k:By o):ad 348 [(true,iv s),(true,iv o)] (.one (true,iv (sN s o))):=by
 have g1:=BA h.1 k.1;have g2:=Bz h.2 k.2;refine sF f348 ?_;exact tL
def NQ {n d:Int}(hn:b5 n)(hd:1<=d/\d<=5000):ad 350 [I n,I d] (.one (qv (lA n d))):=Bm n d ⟨by omega,by omega⟩ K0
def ES {s:Iv}{n m:Int}(h:By s)(hn:b5 n)(hm:b5 m):ad 370 [(true,iv s),I n,I m] (.one (true,iv (oM s n m))):=by
 unfold oM;by_cases h1:n>0
 ·rw[if_pos h1];have g1:=NQ (n:=m) (d:=n) hm K0;have g2:=Bz h.2 (vh (n:=m) (d:=n) hm K0);exact ab3
 ·rw[if_neg h1];by_cases h2:n<0
  ·rw[if_pos h2];have g1:=NQ (n:= -m) (d:= -n) K0 K0;have g2:=BA h.1 (vh (n:= -m) (d:= -n) K0 K0);exact ab3
  ·rw[if_neg h2];by_cases h3:m<0
   ·rw[if_pos h3];exact ab3
   ·rw[if_neg h3];exact ab3
abbrev Pr (F:Iv)(e:Int)(a b:List Int):SV:=(true,[J F.1.1,J F.1.2,J F.2.1,J F.2.2,J e,.ints a,.ints b])
abbrev BV (l:List Int):Prop:=iZ l (-4096) 4096
def ae9 {F:Iv}{e x y:Int}(h:By F)(he:0<=e/\e<=100)(hx: -4096<=x/\x<=4096)(hy: -4096<=y/\y<=4096):By (atS F e x y):=NP (NP h K0 K0) K0 K0
def agH {F:Iv}{e:Int}{a b:List Int}{i:Int}(h:By F)(he:0<=e/\e<=100)(hl:a.length=b.length)(ha:BV a)(hb:BV b)(hi:0<=i/\i<a.length):ad 349 [Pr F e a b,I i] (.one (true,iv (atS F e (a.getD i.toNat 0) (b.getD i.toNat 0)))):=by
 have hx:=jA ha (show i.toNat<a.length by omega);have hy:=jA hb (show i.toNat<b.length by omega);have g1:=ES (n:=a.getD i.toNat 0 -e) (m:=b.getD i.toNat 0+e) h K0 K0;have g2:=ES (n:= -a.getD i.toNat 0 -e) (m:=e -b.getD i.toNat 0) (NP (n:=a.getD i.toNat 0 -e) (m:=b.getD i.toNat 0+e) h K0 K0) K0 K0;unfold atS;refine sF f349 ?_;exact tL
def PI (a b ix:List Int):List (Int × Int):=ix.map λw=>(a.getD w.toNat 0,b.getD w.toNat 0)
def ET (n:Nat):List Int:=(List.range n).map λ(i:Nat)=>(i:Int)
def NR (n:Nat):ET (n+1)=ET n++[(n:Int)]:=by simp[ET,List.range_succ]
def TQ (n:Nat):(ET n).length =n:=by simp[ET]
def Ih (F:Iv)(e:Int)(p:Int × Int): ∀(l:List (Int × Int)) (s:Iv),uk F e (l++[p]) s=sN (uk F e l s) (atS F e p.1 p.2)
 | [],_=>rfl
 |_::l,_=>Ih F e p l _
def TR (a b ix:List Int)(w:Int):PI a b (ix++[w])=PI a b ix++[(a.getD w.toNat 0,b.getD w.toNat 0)]:=by simp[PI]
theorem Ai {l:List Int}{i:Nat}(h:i<l.length):l.take (i+1)=l.take i++[l.getD i 0]:=by rw[List.take_succ_eq_append_getElem h];simp[jE,h]
def Kg {F:Iv}{e:Int}(h:By F)(he:0<=e/\e<=100): ∀(l:List (Int × Int)) (s:Iv),By s->(∀p∈l,(-4096<=p.1/\p.1<=4096)/\ -4096<=p.2/\p.2<=4096)->By (uk F e l s)
 | [],_,hs,_=>hs
 |p::l,_,hs,hp=>Kg h he l _ (agG hs (ae9 h he (hp p (i8 ..)).1 (hp p (i8 ..)).2)) λp Lc=>hp p (i7 _ Lc)
def Z9 {a b ix:List Int}(ha:BV a)(hb:BV b)(hl:a.length=b.length)(hi: ∀w∈ix,0<=w/\w<a.length): ∀p∈PI a b ix,(-4096<=p.1/\p.1<=4096)/\ -4096<=p.2/\p.2<=4096:=by
 intro p hp;obtain⟨w,hw,rfl⟩:=dN.1 hp;have:=hi w hw;exact⟨jA ha K0,jA hb K0⟩
def QN (n:Nat): ∀w∈ET n,0<=w/\w<n:=by
 intro w hw;obtain⟨i,hi,rfl⟩:=dN.1 hw;have:=List.mem_range.1 hi;omega
def adg {F:Iv}{e:Int}{a b:List Int}(h:By F)(he:0<=e/\e<=100)(hl:a.length=b.length)(hn:a.length<=64)(ha:BV a)(hb:BV b):ad 322 [Pr F e a b] (.one (true,iv (uk F e (PI a b (ET a.length)) F))):=by
 refine sF f322 ?_
 (try(refine tX 0 ?_;try exact Zt))
 refine af (ι:=Nat) (λi=>i<=a.length) (λi=>a.length -i) (λi=>⟨[(1,pP 0),(2,pP 1),(3,pP 2),(9,vI a.length),(10,vI i)],[(0,some (.box 396 [.st (J F.1.1),.st (J F.1.2),.st (J F.2.1),.st (J F.2.2),.st (J e),.st (.ints a),.st (.ints b)])),(1,some (.box 394 [.st (J 0),.st (J 0),.st (J 0),.st (J 0)])),
  (2,some (.box 394 ((iv (uk F e (PI a b (ET i)) F)).map .st)))],3⟩) 0 Zc (dC _) ?_
 intro i hi;have hB:=Kg h he (PI a b (ET i)) F h (Z9 ha hb hl (λw hw=>by have:=QN i w hw;omega));by_cases ak:i<a.length
 ·have g1:=agH (i:=(i:Int)) h he hl ha hb K0;have g2:=adf hB (ae9 h he (jA ha (show(i:Int).toNat <a.length by omega)) (jA hb (show(i:Int).toNat <b.length by omega)));have e1:uk F e (PI a b (ET (i+1))) F=sN (uk F e (PI a b (ET i)) F) (atS F e (a.getD (i:Int).toNat 0) (b.getD (i:Int).toNat 0)):=by rw[NR,TR,Ih]
  generalize uk F e (PI a b (ET i)) F=S at*
  (try(refine tX 0 ?_;try exact Zt))
  exact⟨i+1,ak,by omega,ai (by rw[e1];kernel_rfl)⟩
 ·obtain rfl:i=a.length:=by omega
  exact K1
end Go.Proofs.Tryz
