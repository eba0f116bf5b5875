import Derived.Test.YtackacoaaihcjaaGreatDoorPkF4
import Derived.Test.YtackacoaaihcjaaGreatDoorPkF6
set_option linter.all false
set_option maxRecDepth 100000
set_option maxHeartbeats 8000000
namespace Go.Proofs.Tryz
open Go.Fw Go.IntWalk Go.Plain
theorem ZN (u:Int)(hu:0<=u/\u<1000000000):ac 376 [Wd 1 [u]] (.aJ [I u,Bo true]):=by
 have hl:([u]:List Int).length =1:=rfl;have hg:([u]:List Int).getD ((([u]:List Int).length :Int) -1).toNat 0=u:=rfl;have hg2:([u]:List Int).getD 0 0=u:=rfl;refine sF f376 ?_
 (try(refine tX 0 ?_;try exact Zt))
 refine aD ?_
 (try(refine tX 0 ?_;try exact Zt))
 refine aD ?_
 (try(refine tX 0 ?_;try exact Zt))
 grind[i64_in]
theorem ZO (u v:Int)(hu:0<=u/\u<1000000000)(hv:0<=v/\v<1000000000):ac 376 [Wd 1 [u,v]] (.aJ [I (v*1000000000+u),Bo true]):=by
 have hl:([u,v]:List Int).length =2:=rfl;have hg:([u,v]:List Int).getD ((([u,v]:List Int).length :Int) -1).toNat 0=v:=rfl;have hg2:([u,v]:List Int).getD 1 0=v:=rfl;have hg3:([u,v]:List Int).getD 0 0=u:=rfl;have UE:([u,v]:List Int).getD ((([u,v]:List Int).length :Int) -1 -1).toNat 0=u:=rfl;refine sF f376 ?_
 (try(refine tX 0 ?_;try exact Zt))
 refine aD ?_
 (try(refine tX 0 ?_;try exact Zt))
 refine aD ?_
 (try(refine tX 0 ?_;try exact Zt))
 refine aD ?_
 (try(refine tX 0 ?_;try exact Zt))
 simp[i64_in u K0,i64_in v K0,i64_in (v*1000000000) K0,i64_in (v*1000000000+u) K0]
def Bx {x:Int}(hx:0<x/\x<1000000000000000000):ac 376 [wd x] (.aJ [I x,Bo true]):=by
 have fx:=VP x;have e:x.sign=1:=by omega
 unfold wd
 grind[qA,df,ZN,ZO]
def wb {n d:Int}(hn:0<n/\n<1000000000000000000)(hd:0<d/\d<1000000000000000000):ac 356 [rt n d] (.aJ (if n<=1000000000/\d<=1000000000 then [F2 n d,Bo true]else [F2 0 0,Bo false])):=by
 have g1:=Bx hn;have g2:=Bx hd;by_cases h:n<=1000000000/\d<=1000000000
 ·rw[if_pos h];refine sF f356 ?_;exact tL
 ·rw[if_neg h];refine sF f356 ?_;exact tL
def QB (s q:Sp):Sp:=(fu (s.1*q.1) (s.2.1*q.2.1),eE (s.1*q.1) (s.2.1*q.2.1),fu (s.2.2.1*q.2.2.1) (s.2.2.2*q.2.2.2),eE (s.2.2.1*q.2.2.1) (s.2.2.2*q.2.2.2))
def El (ch:List Sp)(k:Nat):Sp:=(ch.take k).foldl QB (1,1,1,1)
def Em {ch:List Sp}{k:Nat}(h:k<ch.length):El ch (k+1)=QB (El ch k) (ch.getD k (0,0,0,0)):=by grind[El,List.take_succ_eq_append_getElem]
def iW (ch:List Sp):Sp:=El ch ch.length
abbrev scB (B:Int)(s:Sp):Prop:=(1<=s.1/\s.1<=B)/\(1<=s.2.1/\s.2.1<=B)/\(1<=s.2.2.1/\s.2.2.1<=B)/\1<=s.2.2.2/\s.2.2.2<=B
def mJ {q:Sp}(h:dG q=0):scB 1000 q/\Int.gcd q.1 q.2.1=1/\Int.gcd q.2.2.1 q.2.2.2=1/\¬q.2.2.1*q.2.1<q.1*q.2.2.2:=by
 unfold dG at h
 grind
def Nn {n d B:Int}(hn:1<=n/\n<=B)(hd:1<=d/\d<=B):(1<=fu n d/\fu n d<=B)/\1<=eE n d/\eE n d<=B:=by
 have h1:=agC (show 0<=n by omega) (show 0<d by omega);have h2:=Gk (n:=n) (d:=d) K0;have h3:=wM (n:=n) (show 0<d by omega);have h4:=Qs n d
 grind
def Gn {a b A B:Int}(ha:1<=a/\a<=A)(hb:1<=b/\b<=B):1<=a*b/\a*b<=A*B:=by
 have h1:1*1<=a*b:=CV ha.1 hb.1 K0 K0;have h2:a*b<=A*B:=CV ha.2 hb.2 K0 K0;omega
def ZP {s q:Sp}{B:Int}(hs:scB B s)(hq:scB 1000 q):scB (B*1000) (QB s q):=by
 obtain⟨s1,s2,s3,s4⟩:=hs;obtain⟨q1,q2,q3,q4⟩:=hq;have a:=Nn (Gn s1 q1) (Gn s2 q2);have b:=Nn (Gn s3 q3) (Gn s4 q4);exact⟨a.1,a.2,b.1,b.2⟩
def alD {ch:List Sp}(hc: ∀q∈ch,dG q=0): ∀k,k<=ch.length->scB (1000^k) (El ch k):=by
 intro k
 induction k with
 |zero=>grind[El]
 |succ k ih=>
  intro hk;rw[Em hk,Int.pow_succ];exact ZP (ih K0) (mJ (hc _ (D9 hk))).1
def anx {k:Nat}(h:k<=4):(1000:Int)^k<=1000000000000:=by rcases(show k=0\/k=1\/k=2\/k=3\/k=4 by omega)with rfl|rfl|rfl|rfl|rfl<;>decide
def Eo {ch:List Sp}(hc: ∀q∈ch,dG q=0)(hl:ch.length<=4){k:Nat}(hk:k<=ch.length):scB 1000000000000 (El ch k):=by
 have h:=alD hc k hk;have:=anx (k:=k) K0;omega
def iT {e:Int}{q:Sp}{ch:List Sp}(h:aV e q ch=0):(0<=e/\e<=100)/\dG q=0/\ch.length<=4/\∀s∈ch,dG s=0:=by
 unfold aV at h;split at h
 ·rename_i h1;split at h
  grind
  ·rename_i h2;split at h
   ·rename_i h3;refine⟨h1,by omega,h3,?_⟩;clear h2 h3
    induction ch with
    |nil=>grind
    |cons x ch ih=>
     simp only[jw,fs]at h
     grind
   ·omega
 ·omega
def yR {a b c d:Int}(ha:1<=a/\a<=1000000000000)(hb:1<=b/\b<=1000000000000)(hc:1<=c/\c<=1000)(hd:1<=d/\d<=1000):ac 324 [F2 a b,F2 c d] (.one (F2 (fu (a*c) (b*d)) (eE (a*c) (b*d)))):=by
 have m1:=Gn ha hc;have m2:=Gn hb hd;have g:=Br (a*c) (b*d) ⟨by omega,by omega⟩ K0;refine sF f324 ?_;exact tL
abbrev k6 (s:Sp):Prop:=(s.1<=1000000000/\s.2.1<=1000000000)/\s.2.2.1<=1000000000/\s.2.2.2<=1000000000
def kA (e:Int)(q:Sp)(ch:List Sp):Int:=if aV e q ch≠0 then aV e q ch else if k6 (iW ch)then 0 else 8
def No (e:Int)(q:Sp)(ch:List Sp)(hq:qy q)(vH: ∀s∈ch,qy s)(hl:ch.length<=4294967296):ac 292 [Ru e q ch] (.aJ (if kA e q ch=0 then [(true,sp (iW ch)),I 0]else [F4 0 0 0 0,I (kA e q ch)])):=by
 have g0:=k5 e q ch hq vH hl;by_cases h0:aV e q ch=0
 ·obtain⟨_,_,h4,hf⟩:=iT h0;have hS:=Eo hf h4 (dz _);rw[h0]at g0;have he:kA e q ch=if k6 (iW ch)then 0 else 8:=by unfold kA;grind
  rw[he];clear he;refine sF f292 ?_
  (try(refine tX 0 ?_;try exact Zt))
  refine af (ι:=Nat) (λi=>i<=ch.length) (λi=>ch.length -i) (λi=>⟨[(2,pP 0),(6,pP 1),(20,some (.val (false,[.st (.view (ch.map sp))]))),(21,vI ch.length),(22,vI i)],[(0,some (.box 161 [.st (J 0),.st (J 0),.st (J 0),.st (J 0)])),(1,some (.box 161 [.st (J (El ch i).1),.st (J (El ch i).2.1),.st (J (El ch i).2.2.1),.st (J (El ch i).2.2.2)]))],2⟩) 0 (ai aka) (dM _) ?_;intro i hi;have hB:=Eo hf h4 hi
  (try(refine tX 0 ?_;try exact Zt))
  (refine bR ?_ ?_<;>intro h<;>(try conv=>whnf))
  ·have ak:i<ch.length:=by omega
   have iQ:=JX ak;have hs:=Em ak;have hQ:=(mJ (hf _ (D9 ak))).1;generalize ch.getD i (0,0,0,0)=Q at*;have p1:=yR hB.1 hB.2.1 hQ.1 hQ.2.1;have p2:=yR hB.2.2.1 hB.2.2.2 hQ.2.2.1 hQ.2.2.2;exact K85
  ·obtain rfl:i=ch.length:=by omega
   change scB 1000000000000 (iW ch)at hB;show m6 _ _ ⟨_,[_,(1,some (.box 161 [.st (J (iW ch).1),.st (J (iW ch).2.1),.st (J (iW ch).2.2.1),.st (J (iW ch).2.2.2)]))],_⟩ _ _ _;generalize iW ch=S at*;by_cases k1:S.1<=1000000000/\S.2.1<=1000000000
   ·by_cases k2:S.2.2.1<=1000000000/\S.2.2.2<=1000000000
    ·rw[if_pos (show k6 S from⟨k1,k2⟩),if_pos rfl];repeat((first|(refine kO 7 rfl ?_;first|refine Rq (nF _ _) ?_)|refine tX 0 ?_|exact Zt);(try conv=>whnf))
     exact K7
    ·rw[if_neg (show ¬k6 S from λh=>k2 h.2),if_neg K0];repeat((first|(refine kO 7 rfl ?_;first|refine Rq (nF _ _) ?_)|refine tX 0 ?_|exact Zt);(try conv=>whnf))
     exact K7
   ·rw[if_neg (show ¬k6 S from λh=>k1 h.1),if_neg K0];repeat((first|(refine kO 7 rfl ?_;first|refine Rq (nF _ _) ?_)|refine tX 0 ?_|exact Zt);(try conv=>whnf))
    exact K7
 ·have he:kA e q ch=aV e q ch:=by unfold kA;grind
  rw[he,if_neg h0];generalize aV e q ch=z0 at*;refine sF f292 ?_;exact K1
def ug {n:Int}(h:1<=n/\n<=1000000000000):Sz 20000 n:=(Ap K0).mono K0
def TP {n d:Int}(hn:1<=n/\n<=1000)(hd:1<=d/\d<=1000)(hg:Int.gcd n d=1):ac 355 [F2 n d] (.one (rt n d)):=by
 have g:=Gm (n:=n) (d:=d) K0 K0;have h1:fu n d=n:=by unfold fu;rw[hg];simp
 have h2:eE n d=d:=by unfold eE;rw[hg];simp
 rwa [h1,h2]at g
def J2 {e:Int}{q:Sp}{ch:List Sp}(h0:aV e q ch=0):ac 342 [Ru e q ch] (.aJ (if k6 (iW ch)then [(true,sp (iW ch)),Bo true]else [F4 0 0 0 0,Bo false])):=by
 obtain⟨_,_,h4,hf⟩:=iT h0;have hS:=Eo hf h4 (dz _);have o1:=J0 1 K0;refine sF f342 ?_
 (try(refine tX 0 ?_;try exact Zt))
 refine af (ι:=Nat) (λi=>i<=ch.length) (λi=>ch.length -i) (λi=>⟨[(1,pP 0),(2,pP 1),(4,pP 2),(5,pP 3),(6,vI i)],[(0,some (.box 164 [.st (J e),.st (J q.1),.st (J q.2.1),.st (J q.2.2.1),.st (J q.2.2.2),.st (.view (ch.map sp))])),(1,some (.box 161 [.st (J 0),.st (J 0),.st (J 0),.st (J 0)])),
  (2,some (.box 425 [.st (J (El ch i).1.sign),.st (.ints (be (El ch i).1.natAbs)),.st (J (El ch i).2.1.sign),.st (.ints (be (El ch i).2.1.natAbs))])),(3,some (.box 425 [.st (J (El ch i).2.2.1.sign),.st (.ints (be (El ch i).2.2.1.natAbs)),.st (J (El ch i).2.2.2.sign),.st (.ints (be (El ch i).2.2.2.natAbs))]))],4⟩) 0 Zc (dM _) ?_
 intro i hi;have hB:=Eo hf h4 hi
 (try(refine tX 0 ?_;try exact Zt))
 (refine bR ?_ ?_<;>intro h<;>(try conv=>whnf))
 ·have ak:i<ch.length:=by rw[jf]at h;omega
  have iQ:=JX ak;have hs:=Em ak;have hQ:=mJ (hf _ (D9 ak));generalize ch.getD i (0,0,0,0)=Q at*;obtain⟨hQ,hg1,hg2,_⟩:=hQ;have p1:=TP hQ.1 hQ.2.1 hg1;have p2:=TP hQ.2.2.1 hQ.2.2.2 hg2;have p3:=yQ (n:=(El ch i).1) (d:=(El ch i).2.1) (m:=Q.1) (e:=Q.2.1) (ug hB.1) (ug hB.2.1) (ug K0) (ug K0) (Int.mul_pos K0 K0);have p4:=yQ (n:=(El ch i).2.2.1) (d:=(El ch i).2.2.2) (m:=Q.2.2.1) (e:=Q.2.2.2) (ug hB.2.2.1) (ug hB.2.2.2) (ug K0) (ug K0) (Int.mul_pos K0 K0);exact K85
 ·obtain rfl:i=ch.length:=by rw[jf]at h;omega
  have f1:=wb (n:=(iW ch).1) (d:=(iW ch).2.1) abO abO;have f2:=wb (n:=(iW ch).2.2.1) (d:=(iW ch).2.2.2) abO abO;by_cases k1:(iW ch).1<=1000000000/\(iW ch).2.1<=1000000000
  ·rw[if_pos k1]at f1;by_cases k2:(iW ch).2.2.1<=1000000000/\(iW ch).2.2.2<=1000000000
   ·rw[if_pos k2]at f2;rw[if_pos (show k6 (iW ch)from⟨k1,k2⟩)];exact K1
   ·rw[if_neg k2]at f2;rw[if_neg (show ¬k6 (iW ch)from λh=>k2 h.2)];exact K1
  ·rw[if_neg k1]at f1;rw[if_neg (show ¬k6 (iW ch)from λh=>k1 h.1)];by_cases k2:(iW ch).2.2.1<=1000000000/\(iW ch).2.2.2<=1000000000
   ·rw[if_pos k2]at f2;exact K1
   ·rw[if_neg k2]at f2;exact K1
def nf (e:Int)(q:Sp)(ch:List Sp)(hq:qy q)(vH: ∀s∈ch,qy s):ac 147 [Ru e q ch] (.one (I (aV e q ch))):=by
 have g:=qz q hq;unfold aV;by_cases h1:0<=e/\e<=100
 ·rw[if_pos h1];by_cases h2:dG q=0
  ·rw[if_neg K0];rw[h2]at g;by_cases h3:ch.length<=4
   ·rw[if_pos h3];have bA:(ch.map sp).length =ch.length:=jf ..;refine sF f147 ?_;repeat((first|(refine kO 7 rfl ?_;first|refine Rq (dt _ _ _) ?_)|refine tX 0 ?_|exact Zt);(try conv=>whnf))
    refine af (ι:=Nat) (λi=>i<=ch.length/\fs (ch.map dG)=fs ((ch.drop i).map dG)) (λi=>ch.length -i) (λi=>⟨[(1,pP 0),(4,vI i)],[(0,some (.box 164 [.st (J e),.st (J q.1),.st (J q.2.1),.st (J q.2.2.1),.st (J q.2.2.2),.st (.view (ch.map sp))]))],1⟩) 0 Zc ⟨dM _,rfl⟩ ?_;rintro i ⟨hi,he⟩
    (try(refine tX 0 ?_;try exact Zt))
    (refine bR ?_ ?_<;>intro h<;>(try conv=>whnf))
    ·have ak:i<ch.length:=by omega
     have iQ:=JX ak;have g:=qz _ (vH _ (D9 ak));rw[TJ ak]at he
     (try(refine tX 0 ?_;try exact Zt))
     (refine bR ?_ ?_<;>intro h<;>(try conv=>whnf))
     ·exact ai7
     ·rw[if_neg h]at he
      (try(refine tX 0 ?_;try exact Zt))
      exact⟨i+1,⟨ak,he⟩,by omega,Zc⟩
    ·exact aiz
   ·rw[if_neg h3];have bA:(ch.map sp).length =ch.length:=jf ..;exact K70
  ·rw[if_pos h2];generalize dG q=z at*;refine sF f147 ?_;repeat((first|(refine kO 7 rfl ?_;first|refine Rq (dt _ _ _) ?_)|refine tX 0 ?_|exact Zt);(try conv=>whnf))
   exact K7
 ·rw[if_neg h1];exact K70
def ci (o:Option (Int × List Int)):(Int × List Int) × Int:=match o with
 |some (st,l)=>if di st l=0 then((st,l),0)else((0,[]),di st l)
 |none=>((0,[]),7)
abbrev PR (r:(Int × List Int) × Int):List SV:=[Rc r.1.1 r.1.2,I r.2]
def u9 {l:List (List UInt8)}{i:Nat}(h:i<l.length):(ab l)[i]? =some [.lit (.string (B (l.getD i [])))]:=ajd
def jD (s:List UInt8)(hl:s.length<=10000):ac 73 [SS s] (.aJ (PR (ci (bC (ar 32 s))))):=by
 obtain⟨h1,h2⟩:=tK s 32;obtain⟨h3,h4⟩:=cd 32 s;have c1:=Am s 32 K0 h2;rw[h1,show(32:UInt8).toNat =32 from rfl]at c1;generalize ar 32 s=ws at*;have hn:=eh ws;refine sF f73 ?_
 (try(refine tX 0 ?_;try exact Zt))
 refine af (ι:=Nat × Int × List Int) (λp=>(p.1<=ws.length/\p.2.2.length<=p.1)/\bC (ws.take p.1)=some p.2) (λp=>ws.length -p.1)
  (λp=>⟨[(2,pP 0),(4,pP 1),(15,pO 2),(16,vI ws.length),(17,vI p.1)],[(0,some (.box 168 [.st (J 0),.nil])),(1,some (.box 168 [.st (J p.2.1),.own 3])),(2,some (.row false 1 (.view (ab ws)))),(3,some (.row true 1 (.ints p.2.2)))],4⟩)
  (0,0,[]) (by
   refine bs.trans (dj 14 rfl) ?_;refine bs.trans (iK 10 1 1 (.ints []) (T:=168) (cs:=[.st (J 0),.nil]) K9 rfl rfl rfl rfl) ?_
   exact ai PD) ⟨⟨dM _,dz _⟩,rfl⟩ ?_
 rintro⟨i,st,l⟩ ⟨⟨hi,ha⟩,hg⟩;dsimp only at hi ha hg ⊢;by_cases ak:i<ws.length
 ·have he:=u9 ak
  have Uy:(ws.getD i []).length <=10000:=by
   have:=h4 (ws.getD i []) afB;omega
  have l5:=DZ ak;by_cases h0:i=0
  ·have hb:decide ((i:Int)>0)=false:=eU K0;have hz:=λn=>Bm (ws:=ws) K0 (n:=n);rw[if_pos h0]at l5;rw[<- h0]at hz;have sC:l= []:=IR K0;subst sC;generalize ws.getD i []=w at*
   cases hd:wN false 7 w with
   |some n=>
    have c:=rI (d:=7) K9 K0 hd;rw[<- hb]at c;have hz:=hz n hd;exact K93
   |none=>
    rw[l5 hd];obtain⟨v,c⟩:=rJ (d:=7) K0 hd;rw[<- hb]at c;exact K5
  ·have hb:decide ((i:Int)>0)=true:=fG K0;have hz:=λn=>Bn K0 ak hg (n:=n);rw[if_neg h0,<- Cl]at l5;rw[<- Cl]at hz;generalize ws.getD i []=w at*
   cases hd:wN true 7 w with
   |some n=>
    have c:=rI (d:=7) K9 K0 hd;rw[<- hb]at c;exact K77
   |none=>
    rw[l5 hd];obtain⟨v,c⟩:=rJ (d:=7) K0 hd;rw[<- hb]at c;exact K5
 ·obtain rfl:i=ws.length:=by omega
  rw[mW]at hg;rw[hg];have c3:=jZ st l UV;have e:ci (some (st,l))=if di st l=0 then((st,l),0)else((0,[]),di st l):=rfl
  rw[e];generalize di st l=x at*;by_cases hx:x=0
  ·rw[if_pos hx];exact K5
  ·rw[if_neg hx];exact K5
def iE (s:List UInt8)(hl:s.length<=10000):ac 77 [SS s] (.aJ (PR (ci (bC (ar 32 s))))):=by
 obtain⟨h3,h4⟩:=cd 32 s;have c1:=jY s 32 K0;rw[show(32:UInt8).toNat =32 from rfl,iL]at c1;generalize ar 32 s=ws at*;have hn:=eh ws;refine sF f77 ?_
 (try(refine tX 0 ?_;try exact Zt))
 refine af (ι:=Nat × Int × List Int) (λp=>(p.1<=ws.length/\p.2.2.length<=p.1)/\bC (ws.take p.1)=some p.2) (λp=>ws.length -p.1)
  (λp=>⟨[(2,pP 0),(4,pP 1),(5,pO 2),(6,vI p.1)],[(0,some (.box 168 [.st (J 0),.nil])),(1,some (.box 168 [.st (J p.2.1),.own 3])),(2,some (.row false 1 (.view (ab ws)))),(3,some (.row true 1 (.ints p.2.2)))],4⟩)
  (0,0,[]) (by
   refine bs.trans (dj 14 rfl) ?_;refine bs.trans (iK 10 1 1 (.ints []) (T:=168) (cs:=[.st (J 0),.nil]) K9 rfl rfl rfl rfl) ?_
   exact Zc) ⟨⟨dM _,dz _⟩,rfl⟩ ?_
 rintro⟨i,st,l⟩ ⟨⟨hi,ha⟩,hg⟩;dsimp only at hi ha hg ⊢;by_cases ak:i<ws.length
 ·have he:=u9 ak
  have Uy:(ws.getD i []).length <=10000:=by
   have:=h4 (ws.getD i []) afB;omega
  have l5:=DZ ak;by_cases h0:i=0
  ·have hz:=λn=>Bm (ws:=ws) K0 (n:=n);rw[if_pos h0]at l5;rw[<- h0]at hz;have sC:l= []:=IR K0;subst sC;generalize ws.getD i []=w at*;have c:=iC w 7 K9 K0
   cases hd:fP 7 w with
   |some n=>
    rw[hd]at c;have hwp:=yC hd;have hp:=Qd hd;by_cases Lb:(w.getD 0 0).toNat =45
    ·rw[if_pos Lb]at hp;rw[l5 hp];exact K5
    ·rw[if_neg Lb]at hp;have hz:=hz n hp;exact K93
   |none=>
    rw[hd]at c;rw[l5 (TA hd)];exact K5
  ·have hz:=λn=>Bn K0 ak hg (n:=n);rw[if_neg h0]at l5;generalize ws.getD i []=w at*;have c:=iC w 7 K9 K0
   cases hd:fP 7 w with
   |some n=>
    rw[hd]at c;exact K77
   |none=>
    rw[hd]at c;rw[l5 hd];exact K5
 ·obtain rfl:i=ws.length:=by omega
  rw[mW]at hg;rw[hg];have c3:=lX st l UV;have e:ci (some (st,l))=if di st l=0 then((st,l),0)else((0,[]),di st l):=rfl
  rw[e];generalize di st l=x at*;by_cases hx:x=0
  ·rw[if_pos hx];exact K5
  ·rw[if_neg hx];exact K5
def cO (o:Option (Int × MS × List MS)):(Int × MS × List MS) × Int:=match o with
 |some (e,q,ch)=>if aV e q ch=0 then((e,q,ch),0)else((0,(0,0,0,0),[]),aV e q ch)
 |none=>((0,(0,0,0,0),[]),7)
abbrev PQ (r:(Int × MS × List MS) × Int):List SV:=[Ru r.1.1 r.1.2.1 r.1.2.2,I r.2]
abbrev z4:MS:=(0,0,0,0)
def ZQ (l:List Sp)(x:Sp):(SC.view (l.map sp++[sp x])).zN 4:=ais
def j0 (s:List UInt8)(hl:s.length<=10000):ac 72 [SS s] (.aJ (PQ (cO (bY (ar 59 s))))):=by
 obtain⟨h1,h2⟩:=tK s 59;obtain⟨h3,h4⟩:=cd 59 s;have h5:=lU 59 s;have c1:=Am s 59 K0 h2;rw[h1,show(59:UInt8).toNat =59 from rfl]at c1;generalize ar 59 s=ws at*;have hn:=eh ws;have h6:0<ws.length:=Lx.2 h5;have RP:=u9 h6;have zK:(ws.getD 0 []).length <=10000:=aiB
 cases hd:wN false 4 (ws.getD 0 [])with
 |none=>
  obtain⟨v,c0⟩:=rJ (d:=4) K0 hd;rw[HL hd];generalize ws.getD 0 []=w at*;refine sF f72 ?_;refine aS ?_;(refine aR ?_;conv=>whnf);(try(refine tX 2 ?_;try exact Zt));refine aS ?_;refine aS ?_;(refine aR ?_;conv=>whnf);(try(refine tX 2 ?_;try exact Zt))
  (try refine tB 0 ?_)
  refine aQ ?_;(refine aR ?_;conv=>whnf);(try(refine tX 2 ?_;try exact Zt));refine⟨_,dj 12 rfl,?_⟩;exact K5
 |some n=>
  have c0:=rI (d:=4) K9 K0 hd;have hsm:=λq ch=>Bp (q:=q) (ch:=ch) hd;generalize ws.getD 0 []=w at*;by_cases h7:ws.length<2
  ·have e:fQ Bk (ws.drop 1)=some []:=by rw[Sl K0];rfl
   rw[D1 e];refine sF f72 ?_;refine aS ?_;(refine aR ?_;conv=>whnf);(try(refine tX 2 ?_;try exact Zt));refine aS ?_;refine aS ?_;(refine aR ?_;conv=>whnf);(try(refine tX 2 ?_;try exact Zt))
   (try refine tB 0 ?_)
   refine aQ ?_;(refine aR ?_;conv=>whnf);(try(refine tX 2 ?_;try exact Zt));refine⟨_,dj 12 rfl,?_⟩;exact K5
  ·have qO:(ab ws).drop 1=ab (ws.drop 1):=by simp
   have hpn:ws.length -1=(ws.drop 1).length :=by simp
   have pG:(ab (ws.drop 1)).length =(ws.drop 1).length :=eh _;have hbd:=D0 (ws:=ws);have Uy: ∀w∈ws.drop 1,w.length<=10000:=λw hw=>by have:=h4 w (PA hw);omega
   generalize hpd:ws.drop 1=ps at*;refine sF f72 ?_;refine aS ?_;(refine aR ?_;conv=>whnf);(try(refine tX 2 ?_;try exact Zt));refine aS ?_;refine aS ?_;(refine aR ?_;conv=>whnf);(try(refine tX 2 ?_;try exact Zt))
   (try refine tB 0 ?_)
   refine aQ ?_;(refine aR ?_;conv=>whnf);(try(refine tX 2 ?_;try exact Zt));refine⟨_,dj 12 rfl,?_⟩
   (try(refine tX 0 ?_;try exact Zt))
   refine af (ι:=Nat × List Sp) (λp=>(p.1<=ps.length/\p.2.length=p.1)/\fQ Bk (ps.take p.1)=some p.2) (λp=>ps.length -p.1)
    (λp=>⟨[(2,pP 0),(7,pP 1),(37,some (.val (false,[.st (.view (ab ps))]))),(38,vI ps.length),(39,vI p.1)],[(0,some (.box 164 [.st (J 0),.st (J 0),.st (J 0),.st (J 0),.st (J 0),.nil])),(1,some (.box 164 [.st (J n),.st (J (p.2.getD 0 z4).1),.st (J (p.2.getD 0 z4).2.1),.st (J (p.2.getD 0 z4).2.2.1),.st (J (p.2.getD 0 z4).2.2.2),.own 2])),(2,some (.row true 4 (.view ((p.2.drop 1).map sp))))],3⟩)
    (0,[]) (by
     refine bs.trans (iK 52 5 4 (.view []) (T:=164) (cs:=[.st (J n),.st (J 0),.st (J 0),.st (J 0),.st (J 0),.nil]) K9 rfl rfl rfl rfl) ?_
     exact ai (by rw[<- pG];kernel_rfl)) ⟨⟨dM _,rfl⟩,rfl⟩ ?_
   rintro⟨i,qs⟩ ⟨⟨hi,ha⟩,hg⟩;dsimp only at hi ha hg ⊢;by_cases ak:i<ps.length
   ·have he:=u9 ak;have Uy:(ps.getD i []).length <=10000:=Uy _ aiU;have hz:=λn=>uT ak hg (n:=n);have l5:=tM (f:=Bk) ak;generalize ps.getD i []=x at*;obtain⟨q,c,k⟩:=JY x K0
    cases hx:Bk x with
    |some p=>
     have hpq:=k p hx;subst hpq;have hz:=hz _ hx;rw[hx,XY]at c;by_cases h0:i=0
     ·have sC:qs= []:=IR K0;subst sC;repeat' ((first|refine tX 0 ?_|exact Zt|refine bR ?_ ?_<;>intro h)<;>(try conv=>whnf))
      all_goals first|exact Zo|(exact absurd rfl h)|(exact⟨(i+1,[p]),⟨⟨ak,by dsimp only[List.length_cons,List.length_nil];omega⟩,hz⟩,by dsimp only;omega,Zc⟩)
     ·have e1:(qs++[p]).getD 0 z4=qs.getD 0 z4:=by
       exact aj2
      have e2:((qs++[p]).drop 1).map sp=(qs.drop 1).map sp++[sp p]:=ajY;have hap:(qs++[p]).length =qs.length+1:=by simp
      have jd:((qs.drop 1).map sp).length =qs.length -1:=by simp
      have u:=ZQ (qs.drop 1) p;generalize hC:(qs.drop 1).map sp=C at*;generalize hQ:qs.getD 0 z4=Q at*;have amk:(C++[sp p]).length =C.length+1:=by simp
      repeat' ((first|refine tX 0 ?_|exact Zt|refine bR ?_ ?_<;>intro h)<;>(try conv=>whnf))
      all_goals first|exact Zo|(exact absurd rfl h)|(exact⟨(i+1,qs++[p]),⟨⟨ak,by dsimp only;omega⟩,hz⟩,by dsimp only;omega,ai aj5⟩)
    |none=>
     rw[hbd (l5 hx)];rw[hx,XZ]at c;exact K5
   ·obtain rfl:i=ps.length:=by omega
    rw[mW]at hg
    match qs,ha,hg with
    | [],ha,hg=>exfalso;simp at ha;omega
    |q::ch,ha,hg=>
     rw[hsm q ch hg];have B8:=yH (P:=qy) (λs x=>Qf) hg;have c3:=k5 n q ch (B8 q (by simp)) (λs hs=>B8 s (by simp[hs])) (by simp at ha;omega);have e:cO (some (n,q,ch))=if aV n q ch=0 then((n,q,ch),0)else((0,(0,0,0,0),[]),aV n q ch):=rfl
     rw[e];generalize aV n q ch=x at*;by_cases hx:x=0
     ·rw[if_pos hx];exact K5
     ·rw[if_neg hx];exact K5
def QC {ws:List (List UInt8)}{i:Nat}(h:1<=i):(ws.drop 1).getD (i -1) []=ws.getD i []:=aja
def i7 (s:List UInt8)(hl:s.length<=10000):ac 76 [SS s] (.aJ (PQ (cO (bY (ar 59 s))))):=by
 obtain⟨h3,h4⟩:=cd 59 s;have h5:=lU 59 s;have c1:=jY s 59 K0;rw[show(59:UInt8).toNat =59 from rfl,iL]at c1;generalize ar 59 s=ws at*;have hn:=eh ws;have h6:0<ws.length:=Lx.2 h5;have RP:=u9 h6;have zK:(ws.getD 0 []).length <=10000:=aiB;obtain⟨n,c0,k0⟩:=Ea (ws.getD 0 []) K0
 cases hd:wN false 4 (ws.getD 0 [])with
 |none=>
  rw[hd,XZ]at c0;rw[HL hd];generalize ws.getD 0 []=w at*;refine sF f76 ?_;exact K5
 |some n'=>
  have hnn:=k0 _ hd;subst hnn;rw[hd,XY]at c0;have hsm:=λq ch=>Bp (q:=q) (ch:=ch) hd;generalize ws.getD 0 []=w at*;by_cases h7:ws.length<2
  ·have e:fQ Bk (ws.drop 1)=some []:=by rw[Sl K0];rfl
   rw[D1 e];refine sF f76 ?_;exact K5
  ·have hbd:=D0 (ws:=ws);have hpn:(ws.drop 1).length =ws.length -1:=by simp
   have hgt:=λi=>QC (ws:=ws) (i:=i);have Uy: ∀w∈ws,w.length<=10000:=λw hw=>by have:=h4 w hw;omega
   generalize hpd:ws.drop 1=ps at*;refine sF f76 ?_
   (try(refine tX 0 ?_;try exact Zt))
   refine af (ι:=Nat × List Sp) (λp=>(1<=p.1/\p.1<=ws.length/\p.2.length=p.1 -1)/\fQ Bk (ps.take (p.1 -1))=some p.2) (λp=>ws.length -p.1)
    (λp=>⟨[(2,pP 0),(4,pO 1),(7,pP 2),(8,vI p.1)],[(0,some (.box 164 [.st (J 0),.st (J 0),.st (J 0),.st (J 0),.st (J 0),.nil])),(1,some (.row true 1 (.view (ab ws)))),(2,some (.box 164 [.st (J n),.st (J (p.2.getD 0 z4).1),.st (J (p.2.getD 0 z4).2.1),.st (J (p.2.getD 0 z4).2.2.1),.st (J (p.2.getD 0 z4).2.2.2),.own 3])),(3,some (.row true 4 (.view ((p.2.drop 1).map sp))))],4⟩)
    (1,[]) (by
     refine bs.trans (iK 52 5 4 (.view []) (T:=164) (cs:=[.st (J n),.st (J 0),.st (J 0),.st (J 0),.st (J 0),.nil]) K9 rfl rfl rfl rfl) ?_
     exact Zc) ⟨⟨dz _,by dsimp only;omega,rfl⟩,rfl⟩ ?_
   rintro⟨i,qs⟩ ⟨⟨zG,hi,ha⟩,hg⟩;dsimp only at zG hi ha hg ⊢;by_cases ak:i<ws.length
   ·have he:=u9 ak;have Uy:(ws.getD i []).length <=10000:=Uy _ afB;have hz:=λn=>uT K0 hg (n:=n);have l5:=tM (f:=Bk) (l:=ps) (i:=i -1) K0;rw[show i -1+1=i+1 -1 by omega,hgt i zG]at hz;rw[hgt i zG]at l5;generalize ws.getD i []=x at*;obtain⟨q,c,k⟩:=VO x K0
    cases hx:Bk x with
    |some p=>
     have hpq:=k p hx;subst hpq;have hz:=hz _ hx;rw[hx,XY]at c;by_cases h0:i=1
     ·have sC:qs= []:=IR K0;subst sC;repeat' ((first|refine tX 0 ?_|exact Zt|refine bR ?_ ?_<;>intro h)<;>(try conv=>whnf))
      all_goals first|exact Zo|(exact absurd rfl h)|(exact⟨(i+1,[p]),⟨⟨by dsimp only;omega,ak,by dsimp only[List.length_cons,List.length_nil];omega⟩,hz⟩,by dsimp only;omega,Zc⟩)
     ·have e1:(qs++[p]).getD 0 z4=qs.getD 0 z4:=by
       exact aj2
      have e2:((qs++[p]).drop 1).map sp=(qs.drop 1).map sp++[sp p]:=ajY;have hap:(qs++[p]).length =qs.length+1:=by simp
      have jd:((qs.drop 1).map sp).length =qs.length -1:=by simp
      have u:=ZQ (qs.drop 1) p;generalize hC:(qs.drop 1).map sp=C at*;generalize hQ:qs.getD 0 z4=Q at*;have amk:(C++[sp p]).length =C.length+1:=by simp
      repeat' ((first|refine tX 0 ?_|exact Zt|refine bR ?_ ?_<;>intro h)<;>(try conv=>whnf))
      all_goals first|exact Zo|(exact absurd rfl h)|(exact⟨(i+1,qs++[p]),⟨⟨by dsimp only;omega,ak,by dsimp only;omega⟩,hz⟩,by dsimp only;omega,ai aj5⟩)
    |none=>
     rw[hbd (l5 hx)];rw[hx,XZ]at c;exact K5
   ·obtain rfl:i=ws.length:=by omega
    rw[o0 K0]at hg
    match qs,ha,hg with
    | [],ha,hg=>exfalso;simp at ha;omega
    |q::ch,ha,hg=>
     rw[hsm q ch hg];have B8:=yH (P:=qy) (λs x=>Qf) hg;have c3:=nf n q ch (B8 q (by simp)) (λs hs=>B8 s (by simp[hs]));have e:cO (some (n,q,ch))=if aV n q ch=0 then((n,q,ch),0)else((0,(0,0,0,0),[]),aV n q ch):=rfl
     rw[e];generalize aV n q ch=x at*;by_cases hx:x=0
     ·rw[if_pos hx];exact K5
     ·rw[if_neg hx];exact K5
def pA {st:Int}{l:List Int}(h:di st l=0):(1<=st/\st<=1000000)/\3<=l.length/\l.length<=64/\iZ l (-4096) 4096:=by grind[di]
def fM (e:Int)(q:Sp)(ch:List Sp)(st:Int)(l:List Int):Int:=if aV e q ch≠0 then aV e q ch else di st l
def zb {e:Int}{q:Sp}{ch:List Sp}{st:Int}{l:List Int}(h:fM e q ch st l=0):aV e q ch=0/\di st l=0:=by grind[fM]
def BA (e:Int)(q:Sp)(ch:List Sp)(st:Int)(l:List Int)(hq:qy q)(vH: ∀s∈ch,qy s)(hl:l.length<=maxLen):ac 150 [Ru e q ch,Rc st l] (.one (I (fM e q ch st l))):=by
 have s1:=nf e q ch hq vH;have s2:=lX st l hl;unfold fM;by_cases h:aV e q ch=0
 ·rw[if_neg K0];rw[h]at s1;refine sF f150 ?_;exact tL
 ·rw[if_pos h];generalize aV e q ch=z at*;refine sF f150 ?_;exact tL
def Wp (e:Int)(q:Sp)(ch:List Sp)(st:Int)(l:List Int)(hq:qy q)(vH: ∀s∈ch,qy s)(hc:ch.length<=4294967296)(hl:l.length<=maxLen):ac 141 [Ru e q ch,Rc st l] (.aJ [Rr l e,I (fM e q ch st l)]):=by
 have s1:=k5 e q ch hq vH hc;have s2:=jZ st l hl;have f:=fs2 (aV e q ch) (di st l);rw[show(if aV e q ch≠0 then aV e q ch else di st l)=fM e q ch st l from rfl]at f;rw[<- f];refine sF f141 ?_;exact tL
abbrev bRu (e:Int)(q:Sp)(ch:List Sp):Option cB:=some (.box 164 [.st (J e),.st (J q.1),.st (J q.2.1),.st (J q.2.2.1),.st (J q.2.2.2),.st (.view (ch.map sp))])
abbrev bRc (st:Int)(l:List Int):Option cB:=some (.box 168 [.st (J st),.st (.ints l)])
abbrev bRg (a b:Int):Option cB:=some (.box 52 [.st (J a),.st (J b)])
def Kd (e:Int)(q:Sp)(ch:List Sp)(st:Int)(l:List Int)(he:0<=e/\e<=1000)(h0:0<l.length)(hl:l.length<=64)(hA:iZ l (-4096) 4096):ac 151 [Ru e q ch,Rc st l] (.aJ [I (pk l:Nat),F2 (py l -e) (py l+e)]):=by
 refine sF f151 ?_
 (try(refine tX 0 ?_;try exact Zt))
 refine af (ι:=Nat) (λi=>i<=l.length) (λi=>l.length -i) (λi=>⟨[(2,pP 0),(3,pP 1),(5,pP 2),(6,vI (Ct l i:Nat)),(7,vI i)],[(0,bRu e q ch),(1,bRc st l),(2,bRg 0 0)],3⟩) 0 Zc (dM _) ?_;intro i hi
 have hp:Ct l i<l.length:=by
  by_cases e0:i=0
  ·subst e0;exact h0
  ·have:=Av (l:=l) (i:=i) K0;omega
 (try(refine tX 0 ?_;try exact Zt))
 (refine bR ?_ ?_<;>intro h<;>(try conv=>whnf))
 ·have ak:i<l.length:=by omega
  (try(refine tX 0 ?_;try exact Zt))
  (refine bR ?_ ?_<;>intro h<;>(try conv=>whnf))
  ·have hs:Ct l (i+1)=i:=if_pos h;exact K85
  ·have hs:Ct l (i+1)=Ct l i:=if_neg h;exact K85
 ·obtain rfl:i=l.length:=by omega
  have hb:=jC hA hp;exact K1
def zc (e:Int)(q:Sp)(ch:List Sp)(st:Int)(l:List Int)(t x y:Int)(he:0<=e/\e<=1000)(hl:l.length<=64)(h:iZ l (-4096) 4096)(ht:0<=t/\t<=10)(hx:smp x)(hy:smp y):ac 152 [Ru e q ch,Rc st l,I t,F2 x y] (.one (F2 (fF (EL e t x) l 0) (fF (EM e t y) l 0))):=by
 have m1:=Kc ht hx;have m2:=Kc ht hy;refine sF f152 ?_
 (try(refine tX 0 ?_;try exact Zt))
 refine af (ι:=Int) (λi=> -1<=i/\i<l.length) (λi=>(i+1).toNat) (λi=>⟨[(2,vI t),(4,pP 0),(5,pP 1),(7,pP 2),(8,pP 3),(9,pP 4),(10,vI i)],[(0,bRu e q ch),(1,bRc st l),(2,bRg x y),(3,bRg 0 0),(4,bRg (fF (EL e t x) l (i+1).toNat) (fF (EM e t y) l (i+1).toNat))],5⟩) ((l.length:Int) -1) (ai aiR) ⟨by omega,by omega⟩ ?_;rintro i ⟨zG,hi⟩;by_cases hz:0<=i
 ·have ak:i.toNat<l.length:=by omega
  have hb:=jC h ak;have s1:=vg (p:=EL e t x) ak;have s2:=vg (p:=EM e t y) ak;rw[show i.toNat+1=(i+1).toNat by omega,show((i.toNat:Nat):Int)=i by omega]at s1 s2;unfold EL at s1;unfold EM at s2;simp only[SL]at s1 s2;by_cases k1:10*(l.getD i.toNat 0+e)>=t*x
  ·rw[if_pos k1]at s1;by_cases k2:10*(l.getD i.toNat 0 -e)>=t*y
   ·rw[if_pos k2]at s2;exact K42
   ·rw[if_neg k2]at s2;exact K42
  ·rw[if_neg k1]at s1;by_cases k2:10*(l.getD i.toNat 0 -e)>=t*y
   ·rw[if_pos k2]at s2;exact K42
   ·rw[if_neg k2]at s2;exact K42
 ·obtain rfl:i= -1:=by omega
  exact tL
def NT (e:Int)(q:Sp)(ch:List Sp)(st:Int)(l:List Int)(a:Nat)(x y:Int)(he:0<=e/\e<=1000)(hl:l.length<=64)(h:iZ l (-4096) 4096)(ha:a<l.length):ac 153 [Ru e q ch,Rc st l,I (a:Nat),F2 x y] (.one (F2 (fF (Ka e y) l (a+1)) (fF (Kb e x) l (a+1)))):=by
 refine sF f153 ?_
 (try(refine tX 0 ?_;try exact Zt))
 refine af (ι:=Int) (λi=>(a:Int)<=i/\i<l.length) (λi=>(i+1).toNat) (λi=>⟨[(2,vI (a:Nat)),(4,pP 0),(5,pP 1),(7,pP 2),(8,pP 3),(9,pP 4),(10,vI i)],[(0,bRu e q ch),(1,bRc st l),(2,bRg x y),(3,bRg 0 0),(4,bRg (fF (Ka e y) l (i+1).toNat) (fF (Kb e x) l (i+1).toNat))],5⟩) ((l.length:Int) -1) (ai aiR) ⟨by omega,by omega⟩ ?_;rintro i ⟨zG,hi⟩;by_cases hz:(a:Int)<i
 ·have ak:i.toNat<l.length:=by omega
  have hb:=jC h ak;have s1:=vg (p:=Ka e y) ak;have s2:=vg (p:=Kb e x) ak;rw[show i.toNat+1=(i+1).toNat by omega,show((i.toNat:Nat):Int)=i by omega]at s1 s2;unfold Ka at s1;unfold Kb at s2;simp only[SL]at s1 s2;by_cases k1:2*(l.getD i.toNat 0 -e)<=y
  ·rw[if_pos k1]at s1;by_cases k2:2*(l.getD i.toNat 0+e)<=x
   ·rw[if_pos k2]at s2;exact K43
   ·rw[if_neg k2]at s2;exact K43
  ·rw[if_neg k1]at s1;by_cases k2:2*(l.getD i.toNat 0+e)<=x
   ·rw[if_pos k2]at s2;exact K43
   ·rw[if_neg k2]at s2;exact K43
 ·obtain rfl:i=(a:Int):=by omega
  exact tL
def BB {t p q a b c d e f:Int}(h:eT t p q a b c d e f=0):TY t p q a b c d e f/\Ke p q a b c d e f:=by
 unfold eT at h;split at h
 ·rename_i h1;split at h
  ·rename_i h2;exact⟨h1,h2⟩
  ·omega
 ·omega
def Gt (t p q a b c d e f:Int):ac 343 [F9 t p q a b c d e f] (.one (I (eT t p q a b c d e f))):=by
 unfold eT;by_cases h:TY t p q a b c d e f
 ·rw[if_pos h];obtain⟨⟨h1,h2,h3⟩,⟨h4,h5⟩,⟨h6,h7⟩,h8,h9⟩:=h;by_cases h':Ke p q a b c d e f
  ·rw[if_pos h'];obtain⟨k1,k2,k3,k4⟩:=h';refine sF f343 ?_;repeat((first|(refine kO 7 rfl ?_;first|refine Rq (dt _ _ _) ?_)|refine tX 0 ?_|exact Zt);(try conv=>whnf))
   refine aD ?_;repeat((first|(refine kO 7 rfl ?_;first|refine Rq (dt _ _ _) ?_)|refine tX 0 ?_|exact Zt);(try conv=>whnf))
   refine aD ?_;repeat((first|(refine kO 7 rfl ?_;first|refine Rq (dt _ _ _) ?_)|refine tX 0 ?_|exact Zt);(try conv=>whnf))
   refine aD ?_;repeat((first|(refine kO 7 rfl ?_;first|refine Rq (dt _ _ _) ?_)|refine tX 0 ?_|exact Zt);(try conv=>whnf))
   refine aD ?_
   (try(refine tX 0 ?_;try exact Zt))
   refine aD ?_
   (try(refine tX 0 ?_;try exact Zt))
   refine aD ?_
   (try(refine tX 0 ?_;try exact Zt))
   refine aD ?_
   (try(refine tX 0 ?_;try exact Zt))
   refine aD ?_;exact K1
  ·rw[if_neg h'];refine sF f343 ?_;repeat((first|(refine kO 7 rfl ?_;first|refine Rq (dt _ _ _) ?_)|refine tX 0 ?_|exact Zt);(try conv=>whnf))
   refine aD ?_;repeat((first|(refine kO 7 rfl ?_;first|refine Rq (dt _ _ _) ?_)|refine tX 0 ?_|exact Zt);(try conv=>whnf))
   refine aD ?_;repeat((first|(refine kO 7 rfl ?_;first|refine Rq (dt _ _ _) ?_)|refine tX 0 ?_|exact Zt);(try conv=>whnf))
   refine aD ?_;repeat((first|(refine kO 7 rfl ?_;first|refine Rq (dt _ _ _) ?_)|refine tX 0 ?_|exact Zt);(try conv=>whnf))
   refine aD ?_
   (try(refine tX 0 ?_;try exact Zt))
   by_cases k1:p<=q
   ·(try(refine tX 0 ?_;try exact Zt))
    refine aD ?_;by_cases k2:a<=b
    ·(try(refine tX 0 ?_;try exact Zt))
     refine aD ?_;by_cases k3:c<=d
     ·(try(refine tX 0 ?_;try exact Zt))
      refine aD ?_;exact K1
     ·exact K1
    ·exact K1
   ·exact K1
 ·rw[if_neg h];refine sF f343 ?_;repeat' ((first|(refine kO 7 rfl ?_;first|refine Rq (dt _ _ _) ?_)|refine tX 0 ?_|exact Zt|refine bR ?_ ?_<;>intro h)<;>(try conv=>whnf))
  all_goals first|(exact rfl)|(refine aD ?_)
  repeat' ((first|(refine kO 7 rfl ?_;first|refine Rq (dt _ _ _) ?_)|refine tX 0 ?_|exact Zt|refine bR ?_ ?_<;>intro h)<;>(try conv=>whnf))
  all_goals first|(exact rfl)|(refine aD ?_)
  repeat' ((first|(refine kO 7 rfl ?_;first|refine Rq (dt _ _ _) ?_)|refine tX 0 ?_|exact Zt|refine bR ?_ ?_<;>intro h)<;>(try conv=>whnf))
  all_goals first|(exact rfl)|(refine aD ?_)
  repeat' ((first|(refine kO 7 rfl ?_;first|refine Rq (dt _ _ _) ?_)|refine tX 0 ?_|exact Zt|refine bR ?_ ?_<;>intro h)<;>(try conv=>whnf))
  all_goals first|exact Zo|(exact rfl)|(refine aD ?_)
  repeat' ((first|(refine kO 7 rfl ?_;first|refine Rq (dt _ _ _) ?_)|refine tX 0 ?_|exact Zt|refine bR ?_ ?_<;>intro h)<;>(try conv=>whnf))
  all_goals first|exact Zo|(exact rfl)
abbrev NV (a b:Int):Prop:=(-1000000000000000<=a/\a<=1000000000000000)/\ -1000000000000000<=b/\b<=1000000000000000
def sN (a b:Int):Int:=if NV a b then(if a<=b then 0 else 9)else 2
def Kf (a b:Int):ac 285 [F2 a b] (.one (I (sN a b))):=by
 have g:=D8 [a,b] 1000000000000000 K0 (fO rfl);have ea:iZ [a,b] (-1000000000000000) 1000000000000000↔NV a b:=by simp[iZ]
 have f:=fs2 (if NV a b then 0 else 2) (if a<=b then 0 else 9);have e:fs [if NV a b then 0 else 2,if a<=b then 0 else 9]=sN a b:=by grind[sN]
 simp only[ea]at g;rw[<- e];refine sF f285 ?_;exact tL
def sr (a b:Int):ac 331 [F2 a b] (.one (I (sN a b))):=by
 unfold sN;by_cases h:NV a b
 ·rw[if_pos h];by_cases h':a<=b
  ·rw[if_pos h'];refine sF f331 ?_;exact tL
  ·rw[if_neg h'];refine sF f331 ?_;exact tL
 ·rw[if_neg h];refine sF f331 ?_;exact tL
def rR (a b c d:Int):Int:=if sN a b≠0 then sN a b else sN c d
def Wr (a b c d:Int):Int:=if c<=a/\b<=d then 2 else if b<c\/a>d then 0 else 1
def Gu (a b c d:Int):ac 249 [F2 a b,F2 c d] (.aJ (if rR a b c d=0 then [I (Wr a b c d),I 0]else [I 0,I (rR a b c d)])):=by
 have f:=fs2 (sN a b) (sN c d);rw[show(if sN a b≠0 then sN a b else sN c d)=rR a b c d from rfl]at f;refine sF f249 ?_;repeat((first|(refine kO 7 rfl ?_;first|refine Rq (Kf _ _) ?_|refine rG (λ_ z=>⟨_,g9 _ (fO rfl),z⟩) ?_)|refine tX 0 ?_|exact Zt);(try conv=>whnf))
 rw[f]
 (refine bR ?_ ?_<;>intro h<;>(try conv=>whnf))
 ·exact afJ
 ·rw[if_pos (show rR a b c d=0 by omega)];unfold Wr;by_cases h1:c<=a/\b<=d
  ·rw[if_pos h1];exact tL
  ·rw[if_neg h1];by_cases h2:b<c\/a>d
   ·rw[if_pos h2];exact tL
   ·rw[if_neg h2];exact tL
def Gv (a b c d:Int):ac 332 [F2 a b,F2 c d] (.one (I (Wr a b c d))):=by
 unfold Wr;by_cases h1:c<=a/\b<=d
 ·rw[if_pos h1];refine sF f332 ?_;exact tL
 ·rw[if_neg h1];by_cases h2:b<c\/a>d
  ·rw[if_pos h2];refine sF f332 ?_;exact tL
  ·rw[if_neg h2];refine sF f332 ?_;exact tL
def Ax (a b c d:Int):ac 305 [F2 a b,F2 c d] (.aJ (if rR a b c d=0 then [I (Wr a b c d),I 0]else [I 0,I (rR a b c d)])):=by
 have s1:=sr a b;have s2:=sr c d;have s3:=Gv a b c d;unfold rR;by_cases h1:sN a b=0
 ·rw[if_neg (show ¬sN a b≠0 by omega)];rw[h1]at s1;by_cases h2:sN c d=0
  ·rw[if_pos h2];rw[h2]at s2;refine sF f305 ?_;exact tL
  ·rw[if_neg h2];generalize sN c d=z at*;refine sF f305 ?_;exact tL
 ·rw[if_pos h1,if_neg h1];generalize sN a b=z at*;refine sF f305 ?_;exact tL
def aab (p:Int)(S:Sp):Int:=p*S.1/S.2.1
def aac (p:Int)(S:Sp):Int:= -(-(p*S.2.2.1)/S.2.2.2)
def jN (e:Int)(q:Sp)(ch:List Sp)(g:Int):Int:=if kA e q ch≠0 then kA e q ch else g
def EQ {e:Int}{q:Sp}{ch:List Sp}(h:kA e q ch=0):aV e q ch=0/\k6 (iW ch)/\scB 1000000000 (iW ch):=by
 unfold kA at h;split at h
 grind
 ·rename_i h1;split at h
  ·rename_i h2;have h0:aV e q ch=0:=by omega
   obtain⟨_,_,h4,hf⟩:=iT h0;have hS:scB 1000000000000 (iW ch):=Eo hf h4 (dz _)
   grind
  ·omega
def Gw (e:Int)(q:Sp)(ch:List Sp)(hq:qy q)(vH: ∀s∈ch,qy s)(hl:ch.length<=4294967296)(t p r a b c d i j:Int):ac 253 [Ru e q ch,F9 t p r a b c d i j] (.aJ (if jN e q ch (eT t p r a b c d i j)=0 then [F2 (aab p (iW ch)) (aac r (iW ch)),I 0]else [F2 0 0,I (jN e q ch (eT t p r a b c d i j))])):=by
 have s1:=No e q ch hq vH hl;have s2:=Aw t p r a b c d i j;by_cases h1:kA e q ch=0
 ·have he:jN e q ch (eT t p r a b c d i j)=eT t p r a b c d i j:=by unfold jN;grind
  rw[he];rw[if_pos h1]at s1;obtain⟨_,_,hS⟩:=EQ h1;generalize iW ch=S at*;by_cases h2:eT t p r a b c d i j=0
  ·obtain⟨⟨⟨k1,k2,k3⟩,_⟩,_⟩:=BB h2;have m1:=Gn (A:=4196) (B:=1000000000) k2 hS.1;have m2:=Gn (A:=4196) (B:=1000000000) k3 hS.2.2.1;have g:=M6 (p*S.1) S.2.1 (r*S.2.2.1) S.2.2.2 K0 K0 K0 K0;rw[if_pos h2];rw[h2]at s2;refine sF f253 ?_;exact tL
  ·rw[if_neg h2];generalize eT t p r a b c d i j=z at*;refine sF f253 ?_;repeat((first|(refine kO 7 rfl ?_;first|refine Rq VM ?_)|refine tX 0 ?_|exact Zt);(try conv=>whnf))
   exact K7
 ·have he:jN e q ch (eT t p r a b c d i j)=kA e q ch:=by unfold jN;grind
  rw[he,if_neg h1];rw[if_neg h1]at s1;have f:=VL (x:=kA e q ch) (y:=eT t p r a b c d i j) h1;generalize kA e q ch=z at*;refine sF f253 ?_;exact tL
def Ay (e:Int)(q:Sp)(ch:List Sp)(hq:qy q)(vH: ∀s∈ch,qy s)(t p r a b c d i j:Int):ac 310 [Ru e q ch,F9 t p r a b c d i j] (.aJ (if jN e q ch (eT t p r a b c d i j)=0 then [F2 (aab p (iW ch)) (aac r (iW ch)),I 0]else [F2 0 0,I (jN e q ch (eT t p r a b c d i j))])):=by
 have s1:=nf e q ch hq vH;have s2:=Gt t p r a b c d i j;by_cases h0:aV e q ch=0
 ·have s3:=J2 h0;rw[h0]at s1;by_cases hs:k6 (iW ch)
  ·have h1:kA e q ch=0:=by unfold kA;grind
   have he:jN e q ch (eT t p r a b c d i j)=eT t p r a b c d i j:=by unfold jN;grind
   rw[he];rw[if_pos hs]at s3;obtain⟨_,_,hS⟩:=EQ h1;generalize iW ch=S at*;by_cases h2:eT t p r a b c d i j=0
   ·obtain⟨⟨⟨k1,k2,k3⟩,_⟩,_⟩:=BB h2;have m1:=Gn (A:=4196) (B:=1000000000) k2 hS.1;have m2:=Gn (A:=4196) (B:=1000000000) k3 hS.2.2.1;have g1:=An (p*S.1) S.2.1 K0 K0;have g2:=M7 (r*S.2.2.1) S.2.2.2 K0 K0;rw[if_pos h2];rw[h2]at s2;exact ab8
   ·rw[if_neg h2];generalize eT t p r a b c d i j=z at*;exact ab8
  ·have h1:kA e q ch=8:=by unfold kA;grind
   have he:jN e q ch (eT t p r a b c d i j)=8:=by unfold jN;grind
   rw[he,if_neg K0];rw[if_neg hs]at s3;exact ab8
 ·have h1:kA e q ch=aV e q ch:=by unfold kA;grind
  have he:jN e q ch (eT t p r a b c d i j)=aV e q ch:=by unfold jN;grind
  rw[he,if_neg h0];generalize aV e q ch=z at*;exact ab8
abbrev Ii (x:Qn):Prop:=(-5000<=x.1/\x.1<=5000)/\1<=x.2/\x.2<=5000
abbrev BC (s:Iv):Prop:=Ii s.1/\Ii s.2
abbrev qv (x:Qn):SV:=(true,[J x.1,J x.2])
abbrev iv (s:Iv):List SC:=[J s.1.1,J s.1.2,J s.2.1,J s.2.2]
def Kh {x y:Qn}(hx:Ii x)(hy:Ii y):Qv (x.1*y.2):=by
 have:=alE (x:=x.1) (y:=y.2) (A:=5000) (B:=5000) hx.1 K0 K0;omega
def aak {x:Qn}(h:Ii x):ng x:=by have:=h.2.1;show 0<x.2;omega
def T1 {s:Iv}(h:BC s):nI s:=⟨aak h.1,aak h.2⟩
def AB {x y:Qn}(hx:Ii x)(hy:Ii y):ac 263 [qv x,qv y] (.one (Bo (decide (pT x y)))):=HX x.1 x.2 y.1 y.2 (Kh hx hy) (Kh hy hx)
def BD {x y:Qn}(hx:Ii x)(hy:Ii y):ac 369 [qv x,qv y] (.one (qv (zg x y))):=by
 have g:=AB hy hx;unfold zg;by_cases h:pT y x
 ·rw[fG h]at g;rw[if_pos h];refine sF f369 ?_;exact tL
 ·rw[eU h]at g;rw[if_neg h];refine sF f369 ?_;exact tL
def BE {x y:Qn}(hx:Ii x)(hy:Ii y):ac 368 [qv x,qv y] (.one (qv (zf x y))):=by
 have g:=AB hx hy;unfold zf;by_cases h:pT x y
 ·rw[fG h]at g;rw[if_pos h];refine sF f368 ?_;exact tL
 ·rw[eU h]at g;rw[if_neg h];refine sF f368 ?_;exact tL
def NY {s:Iv}(h:BC s):ac 323 [(true,iv s)] (.one (Bo (decide (ki s)))):=by
 have g:=AB h.2 h.1;refine sF f323 ?_;exact tL
def afa {x y:Qn}(hx:Ii x)(hy:Ii y):Ii (zf x y):=by unfold zf;split<;>assumption
def afb {x y:Qn}(hx:Ii x)(hy:Ii y):Ii (zg x y):=by unfold zg;split<;>assumption
def vh {n d:Int}(hn: -5000<=n/\n<=5000)(hd:1<=d/\d<=5000):Ii (lB n d):=by
 have h1:=acY n d;have h2:=agE (n:=n) (d:=d) K0;have h3:=wM (n:=n) (d:=d) K0;show(-5000<=fu n d/\fu n d<=5000)/\1<=eE n d/\eE n d<=5000;omega
abbrev b5 (n:Int):Prop:= -5000<=n/\n<=5000
def NZ {s:Iv}{n m:Int}(h:BC s)(hn:b5 n)(hm:b5 m):BC (oL s n m):=by
 unfold oL;split
 ·exact⟨h.1,afb h.2 (vh hm K0)⟩
 ·split
  ·exact⟨afa h.1 (vh K0 K0),h.2⟩
  ·split
   ·unfold agJ;exact⟨⟨by decide,by decide⟩,by decide,by decide⟩
   ·exact h
def agK {s o:Iv}(h:BC s)(k:BC o):BC (sO s o):=⟨afa h.1 k.1,afb h.2 k.2⟩
def adl {s o:Iv}(h:BC s)(k:BC o):ac 348 [(true,iv s),(true,iv o)] (.one (true,iv (sO s o))):=by
 have g1:=BE h.1 k.1;have g2:=BD h.2 k.2;refine sF f348 ?_;exact tL
def N4 {n d:Int}(hn:b5 n)(hd:1<=d/\d<=5000):ac 350 [I n,I d] (.one (qv (lB n d))):=Br n d ⟨by omega,by omega⟩ K0
def ES {s:Iv}{n m:Int}(h:BC s)(hn:b5 n)(hm:b5 m):ac 370 [(true,iv s),I n,I m] (.one (true,iv (oL s n m))):=by
 unfold oL;by_cases h1:n>0
 ·rw[if_pos h1];have g1:=N4 (n:=m) (d:=n) hm K0;have g2:=BD h.2 (vh (n:=m) (d:=n) hm K0);exact ab9
 ·rw[if_neg h1];by_cases h2:n<0
  ·rw[if_pos h2];have g1:=N4 (n:= -m) (d:= -n) K0 K0;have g2:=BE h.1 (vh (n:= -m) (d:= -n) K0 K0);exact ab9
  ·rw[if_neg h2];by_cases h3:m<0
   ·rw[if_pos h3];exact ab9
   ·rw[if_neg h3];exact ab9
abbrev Pr (F:Iv)(e:Int)(a b:List Int):SV:=(true,[J F.1.1,J F.1.2,J F.2.1,J F.2.2,J e,.ints a,.ints b])
abbrev BY (l:List Int):Prop:=iZ l (-4096) 4096
def afc {F:Iv}{e x y:Int}(h:BC F)(he:0<=e/\e<=100)(hx: -4096<=x/\x<=4096)(hy: -4096<=y/\y<=4096):BC (atS F e x y):=NZ (NZ h K0 K0) K0 K0
def agL {F:Iv}{e:Int}{a b:List Int}{i:Int}(h:BC F)(he:0<=e/\e<=100)(hl:a.length=b.length)(ha:BY a)(hb:BY b)(hi:0<=i/\i<a.length):ac 349 [Pr F e a b,I i] (.one (true,iv (atS F e (a.getD i.toNat 0) (b.getD i.toNat 0)))):=by
 have hx:=jC ha (show i.toNat<a.length by omega);have hy:=jC hb (show i.toNat<b.length by omega);have g1:=ES (n:=a.getD i.toNat 0 -e) (m:=b.getD i.toNat 0+e) h K0 K0;have g2:=ES (n:= -a.getD i.toNat 0 -e) (m:=e -b.getD i.toNat 0) (NZ (n:=a.getD i.toNat 0 -e) (m:=b.getD i.toNat 0+e) h K0 K0) K0 K0;unfold atS;refine sF f349 ?_;exact tL
def PI (a b ix:List Int):List (Int × Int):=ix.map λw=>(a.getD w.toNat 0,b.getD w.toNat 0)
def ET (n:Nat):List Int:=(List.range n).map λ(i:Nat)=>(i:Int)
def N5 (n:Nat):ET (n+1)=ET n++[(n:Int)]:=by simp[ET,List.range_succ]
def T2 (n:Nat):(ET n).length =n:=by simp[ET]
def Ij (F:Iv)(e:Int)(p:Int × Int): ∀(l:List (Int × Int)) (s:Iv),um F e (l++[p]) s=sO (um F e l s) (atS F e p.1 p.2)
 | [],_=>rfl
 |_::l,_=>Ij F e p l _
def T3 (a b ix:List Int)(w:Int):PI a b (ix++[w])=PI a b ix++[(a.getD w.toNat 0,b.getD w.toNat 0)]:=by simp[PI]
theorem Ak {l:List Int}{i:Nat}(h:i<l.length):l.take (i+1)=l.take i++[l.getD i 0]:=by rw[List.take_succ_eq_append_getElem h];simp[jP,h]
def Ki {F:Iv}{e:Int}(h:BC F)(he:0<=e/\e<=100): ∀(l:List (Int × Int)) (s:Iv),BC s->(∀p∈l,(-4096<=p.1/\p.1<=4096)/\ -4096<=p.2/\p.2<=4096)->BC (um F e l s)
 | [],_,hs,_=>hs
 |p::l,_,hs,hp=>Ki h he l _ (agK hs (afc h he (hp p (ja ..)).1 (hp p (ja ..)).2)) λp Lj=>hp p (i8 _ Lj)
def aal {a b ix:List Int}(ha:BY a)(hb:BY b)(hl:a.length=b.length)(hi: ∀w∈ix,0<=w/\w<a.length): ∀p∈PI a b ix,(-4096<=p.1/\p.1<=4096)/\ -4096<=p.2/\p.2<=4096:=by
 intro p hp;obtain⟨w,hw,rfl⟩:=dS.1 hp;have:=hi w hw;exact⟨jC ha K0,jC hb K0⟩
def QT (n:Nat): ∀w∈ET n,0<=w/\w<n:=by
 intro w hw;obtain⟨i,hi,rfl⟩:=dS.1 hw;have:=List.mem_range.1 hi;omega
def adm {F:Iv}{e:Int}{a b:List Int}(h:BC F)(he:0<=e/\e<=100)(hl:a.length=b.length)(hn:a.length<=64)(ha:BY a)(hb:BY b):ac 322 [Pr F e a b] (.one (true,iv (um F e (PI a b (ET a.length)) F))):=by
 refine sF f322 ?_
 (try(refine tX 0 ?_;try exact Zt))
 refine af (ι:=Nat) (λi=>i<=a.length) (λi=>a.length -i) (λi=>⟨[(1,pP 0),(2,pP 1),(3,pP 2),(9,vI a.length),(10,vI i)],[(0,some (.box 396 [.st (J F.1.1),.st (J F.1.2),.st (J F.2.1),.st (J F.2.2),.st (J e),.st (.ints a),.st (.ints b)])),(1,some (.box 394 [.st (J 0),.st (J 0),.st (J 0),.st (J 0)])),
  (2,some (.box 394 ((iv (um F e (PI a b (ET i)) F)).map .st)))],3⟩) 0 Zc (dM _) ?_
 intro i hi;have hB:=Ki h he (PI a b (ET i)) F h (aal ha hb hl (λw hw=>by have:=QT i w hw;omega));by_cases ak:i<a.length
 ·have g1:=agL (i:=(i:Int)) h he hl ha hb K0;have g2:=adl hB (afc h he (jC ha (show(i:Int).toNat <a.length by omega)) (jC hb (show(i:Int).toNat <b.length by omega)));have e1:um F e (PI a b (ET (i+1))) F=sO (um F e (PI a b (ET i)) F) (atS F e (a.getD (i:Int).toNat 0) (b.getD (i:Int).toNat 0)):=by rw[N5,T3,Ij]
  generalize um F e (PI a b (ET i)) F=S at*
  (try(refine tX 0 ?_;try exact Zt))
  exact⟨i+1,ak,by omega,ai (by rw[e1];kernel_rfl)⟩
 ·obtain rfl:i=a.length:=by omega
  exact K1
end Go.Proofs.Tryz
