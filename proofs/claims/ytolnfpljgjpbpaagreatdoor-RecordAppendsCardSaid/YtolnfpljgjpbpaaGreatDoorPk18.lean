import Derived.Test.YtolnfpljgjpbpaaGreatDoorPk14
set_option linter.all false
set_option maxRecDepth 100000
set_option maxHeartbeats 8000000
namespace Go.Proofs.Tryz
open Go.Fw Go.IntWalk Go.Plain
def alp {p:Pl}{i:Nat}(h:gQ (cU p.aa) i≠0):p.gE jb i=gQ (cU p.aa) i:=by grind[Pl.gE,eS]
def alq {p:Pl}{i:Nat}(h:gQ (cU p.aa) i=0):p.gE jb i=VK jb p.aa i:=by grind[Pl.gE,jj]
def OJ {l all:List aj}{k:Nat}(h:k<l.length)(h0: ∀j<k,Ez l all j=0)(h1:Ez l all k≠0):jS l all=Ez l all k:=by grind[jS,fG]
def OK {l all:List aj}(h0: ∀j<l.length,Ez l all j=0):jS l all=0:=by grind[jS,gP]
def FD {p:Pl}(hs:gz p)(i:Nat)(al:i<p.aa.length):ac 91 [(true,bL p),(false,[.view (ab ((cU p.aa).take (i+1)))]),I i] (.one (I (p.gE jb i))):=by
 have Bf:(cU p.aa).length =p.aa.length:=by simp[cU]
 have wu:(p.aa.map fB).length =p.aa.length:=by simp
 have hte:=hs.te;have he:=iP al;have anV:=hs.td i al;have hru:=hs.tr i al;have hnm:=hs.tn i al;have gk:=lf ((cU p.aa).take (i+1)) i bw bw (by grind[cU]);rw[AY K0]at gk
 delta V1 at gk
 have ea:=alp (p:=p) (i:=i);have eb:=alq (p:=p) (i:=i);have ta:=ae1 (re:=jb) (l:=p.aa) (i:=i);have tb:=ae2 (re:=jb) (l:=p.aa) (i:=i);have tc:=ae3 (re:=jb) (l:=p.aa) (i:=i);have td:=ae4 (re:=jb) (l:=p.aa) (i:=i);have zZ:=k8 (p.aa.getD i dl).rules hru;have hre:(iE (eD (aH 59 (p.aa.getD i dl).rules))).2=jb (p.aa.getD i dl).rules :=rfl;have B8:QG p.aa (p.aa.getD i dl)=if(p.aa.getD i dl).kind =2 then(if(p.aa.getD i dl).bv.length =0 then 10 else if(p.aa.getD (be (cU p.aa) ((p.aa.getD i dl).bv.getD 0 [])).toNat dl).kind =1 then 0 else 3)else 0:=rfl
 have z6:(ab ((cU p.aa).take (i+1))).take i=ab ((cU p.aa).take i):=by grind
 have htl:(ab ((cU p.aa).take (i+1))).length =i+1:=by grind
 have hai:=λk=>OJ (k:=k) (l:=(p.aa.getD i dl).bv) (all:=(cU p.aa).take i);have han:=OK (l:=(p.aa.getD i dl).bv) (all:=(cU p.aa).take i);have hz:=EX (l:=(p.aa.getD i dl).bv) (all:=(cU p.aa).take i);have pN:bL p= [.view (p.ae.map nh),.view (ab p.ap),.view (p.aa.map fB),.view (p.parts.map mj),J p.dY,J p.eH]:=rfl;generalize ht:p.aa.getD i dl=t at*
 rcases t with⟨nm,kd,nd,ru,lo,hi⟩;have he:(p.aa.map fB)[i]? =some [T nm,J kd,.view (ab nd),T ru,J lo,J hi]:=he;dsimp only at*;have Cu:(ab nd).length =nd.length:=by simp
 have zZ:ac 130 [SS ru] (.aI [Ru (iE (eD (aH 59 ru))).1.1 (iE (eD (aH 59 ru))).1.2.1 (iE (eD (aH 59 ru))).1.2.2,I (jb ru)]):=zZ;by_cases h0:gQ (cU p.aa) i=0
 ·rw[eb h0];rw[h0]at gk;by_cases h1:0<=kd/\kd<=3
  ·refine sF f91 ?_;repeat((first|(refine kO 7 rfl ?_;first|refine Rq (eo _ _ _) ?_)|refine tX 0 ?_|exact Zt);(try conv=>whnf))
   refine af (ι:=Nat) (λk=>k<=nd.length/\∀j<k,Ez nd ((cU p.aa).take i) j=0) (λk=>nd.length -k) (λk=>⟨[(1,some (.val (false,[.st (.view (ab ((cU p.aa).take (i+1))))]))),(2,vI i),(3,pP 0),(7,pP 1),(9,vI k)],[(0,some (bxP p)),(1,some (.box 73 [.st (T nm),.st (J kd),.st (.view (ab nd)),.st (T ru),.st (J lo),.st (J hi)]))],2⟩) 0 Zc ⟨dz _,λj hj=>by omega⟩ ?_;rintro k ⟨hk,hp⟩;by_cases sC:k<nd.length
   ·have R7:=sA sC;have Pp:Ez nd ((cU p.aa).take i) k=if nd.getD k []∈(cU p.aa).take i then(if nd.getD k []∈nd.take k then 23 else 0)else 6:=rfl
    have io:=λ(h:Ez nd ((cU p.aa).take i) k=0)=>all_succ (f:=Ez nd ((cU p.aa).take i)) hp h;have hra:=hai k sC hp
    have c1:ac 13 [(false,[.view (ab (((cU p.aa).take (i+1)).take i))]),SS (nd.getD k [])] (.one (Bo (decide (nd.getD k []∈(cU p.aa).take i)))):=by
     rw[List.take_take,Nat.min_eq_left K0];exact cD _ _ bw
    have c2:ac 13 [(false,[.view (ab (nd.take k))]),SS (nd.getD k [])] (.one (Bo (decide (nd.getD k []∈nd.take k)))):=cD _ _ bw;have anJ:(ab nd).take k=ab (nd.take k):=by simp
    generalize nd.getD k []=s at*;by_cases q1:s∈(cU p.aa).take i
    ·rw[if_pos q1]at Pp;rw[fh q1]at c1;by_cases q2:s∈nd.take k
     ·rw[if_pos q2]at Pp;rw[fh q2]at c2;rw[tb h1 bw,hra (by rw[Pp];decide),Pp];exact tL
     ·rw[if_neg q2]at Pp;rw[eJ q2]at c2;repeat' ((first|refine tX 0 ?_|exact Zt|refine bR ?_ ?_<;>intro h)<;>(try conv=>whnf))
      all_goals first|exact Zo|exact⟨k+1,⟨sC,io Pp⟩,by omega,Zc⟩
    ·rw[if_neg q1]at Pp;rw[eJ q1]at c1;rw[tb h1 bw,hra (by rw[Pp];decide),Pp];exact tL
   ·obtain rfl:k=nd.length:=by omega
    have hA:=han hp;have hz:=hz hA;clear hai han ta tb gk;have tc:=tc h1 hA;have td:=td h1 hA;by_cases h3:kd=2
    ·rw[if_pos h3]at B8;by_cases h4:nd.length=0
     ·rw[if_pos h4]at B8;rw[tc bw,B8];exact tL
     ·have abN:0<nd.length:=by omega
      obtain⟨hm0,_⟩:=hz 0 abN;have PW:=sA abN;obtain⟨k0,Xu,hk0⟩:=k9 (Ca hm0);have Xf:=p8 p (nd.getD 0 []) hte;rw[hk0,pN]at Xf;have LH:k0<p.aa.length:=by omega
      have R7:=iP LH;rw[if_neg h4,hk0,tK]at B8;generalize nd.getD 0 []=n0 at*;generalize p.aa.getD k0 dl=t0 at*
      rcases t0 with⟨nm0,kd0,nd0,ru0,lo0,xJ⟩;have R7:(p.aa.map fB)[k0]? =some [T nm0,J kd0,.view (ab nd0),T ru0,J lo0,J xJ]:=R7;dsimp only at B8;by_cases h5:kd0=1
      ·rw[if_pos h5]at B8;rw[td B8,if_pos (show sI kd from .inr h3)];by_cases h6:jb ru=0
       ·rw[h6,jj];rw[h6]at zZ;exact K42
       ·exact ajY
      ·rw[if_neg h5]at B8;rw[tc bw,B8];exact tL
    ·rw[if_neg h3]at B8;rw[td B8];by_cases h5:kd=1
     ·rw[if_pos (show sI kd from .inl h5)];by_cases h6:jb ru=0
      ·rw[h6,jj];rw[h6]at zZ;exact K42
      ·exact ajY
     ·rw[if_neg (show ¬sI kd by grind[sI])];by_cases h6:ru= []
      ·rw[if_pos h6,jj];subst h6;exact K42
      ·rw[if_neg h6,eS bX];exact tL
  ·rw[ta h1];refine sF f91 ?_;exact tL
 ·rw[ea h0];generalize gQ (cU p.aa) i=e at*;refine sF f91 ?_;exact tL
theorem Ur {n m:Nat}(h:m<n):kA n m=8:=by unfold kA;grind
theorem afa {n m:Nat}(h:n<=m):kA n m=0:=by unfold kA;grind
def KR {p:Pl}(hs:gz p):ac 51 [(true,bL p)] (.aI (RE (o9 (0,kA p.aa.length 8) (cR (p.gE jb) p.aa.length)))):=by
 have hn:(p.aa.map fB).length =p.aa.length:=by simp
 have Bf:(cU p.aa).length =p.aa.length:=by simp[cU]
 have hte:=hs.te;have pN:bL p= [.view (p.ae.map nh),.view (ab p.ap),.view (p.aa.map fB),.view (p.parts.map mj),J p.dY,J p.eH]:=rfl;by_cases h8:8<p.aa.length
 ·rw[p9 (by grind[Ur]),Ur h8];refine sF f51 ?_;exact tA
 rw[B6 (by grind[afa])];refine sF f51 ?_
 (try(refine tX 0 ?_;try exact Zt))
 refine af (ι:=Nat) (λi=>i<=p.aa.length/\∀j<i,p.gE jb j=0) (λi=>p.aa.length -i) (λi=>⟨[(1,pP 0),(4,pO 1),(5,vI i)],[(0,some (bxP p)),(1,some (.row true 1 (.view (ab ((cU p.aa).take i)))))],2⟩) 0 (bu.trans (jz 4 1 (.view []) bX rfl rfl rfl) Zc) ⟨dz _,λj hj=>by omega⟩ ?_;rintro i ⟨hi,hp⟩;by_cases al:i<p.aa.length
 ·have he:=iP al;have hg:=rN al;have wq:=take_succ (l:=cU p.aa) (i:=i) K0;have gk:=FD hs i al;have eL:=λ(h:p.gE jb i≠0)=>fG (f:=p.gE jb) al hp h;have io:=λ(h:p.gE jb i=0)=>all_succ (f:=p.gE jb) hp h;have wu:(ab ((cU p.aa).take i)).length <=1000:=by grind
  rw[hg]at wq;rw[wq,lW,pN]at gk;generalize p.aa.getD i dl=x at*
  rcases x with⟨nm,kd,nd,ru,lo,lA⟩;have he:(p.aa.map fB)[i]? =some [T nm,J kd,.view (ab nd),T ru,J lo,J lA]:=he;dsimp only at gk wq;by_cases h1:p.gE jb i=0
  ·rw[h1]at gk;repeat' ((first|refine tX 0 ?_|exact Zt|refine bR ?_ ?_<;>intro h)<;>(try conv=>whnf))
   all_goals first|exact Zo|exact⟨i+1,⟨al,io h1⟩,by omega,ai ab1⟩|(exact absurd rfl h)
  ·rw[eL h1];generalize p.gE jb i=e at*;exact tA
 ·obtain rfl:i=p.aa.length:=by omega
  rw[gP hp];exact tA
def alr {p:Pl}{i:Nat}(h:gQ p.ba i≠0):p.jd i=gQ p.ba i:=by grind[Pl.jd,eS]
def als {p:Pl}{i:Nat}(h:gQ p.ba i=0):p.jd i=jS (p.parts.getD i ([],[])).2 (cU p.aa):=by grind[Pl.jd,jj]
def adQ {l:List aj}{x:aj}:be l x<0↔x∉l:=by
 unfold be
 grind
def KS {p:Pl}(hs:gz p):ac 52 [(true,bL p)] (.aI (RE (o9 (0,kA p.parts.length 6) (cR p.jd p.parts.length)))):=by
 have hn:(p.parts.map mj).length =p.parts.length:=by simp
 have Bf:p.ba.length=p.parts.length:=by simp[Pl.ba]
 have hpa:=hs.pa;have pN:bL p= [.view (p.ae.map nh),.view (ab p.ap),.view (p.aa.map fB),.view (p.parts.map mj),J p.dY,J p.eH]:=rfl;by_cases h8:6<p.parts.length
 ·rw[p9 (by grind[Ur]),Ur h8];refine sF f52 ?_;exact tL
 rw[B6 (by grind[afa])];refine sF f52 ?_
 (try(refine tX 0 ?_;try exact Zt))
 refine af (ι:=Nat) (λi=>i<=p.parts.length/\∀j<i,p.jd j=0) (λi=>p.parts.length -i) (λi=>⟨[(1,pP 0),(4,pO 1),(5,vI i)],[(0,some (bxP p)),(1,some (.row true 1 (.view (ab (p.ba.take i)))))],2⟩) 0 (bu.trans (jz 4 1 (.view []) bX rfl rfl rfl) Zc) ⟨dz _,λj hj=>by omega⟩ ?_;rintro i ⟨hi,hp⟩;by_cases al:i<p.parts.length
 ·have he:=aZ (f:=mj) al ([],[]);have hg:p.ba.getD i []=(p.parts.getD i ([],[])).1:=by grind[Pl.ba]
  have wq:=take_succ (l:=p.ba) (i:=i) K0;have hqv:=hs.qv i al;have gk:=lf (p.ba.take (i+1)) i bw bw (by rw[show(p.ba.take (i+1)).getD i []=p.ba.getD i []by grind,hg];exact hs.qn i al);rw[AY K0]at gk;have hea:=alr (p:=p) (i:=i);have PV:=als (p:=p) (i:=i);have eL:=λ(h:p.jd i≠0)=>fG (f:=p.jd) al hp h;have io:=λ(h:p.jd i=0)=>all_succ hp h;have wu:(ab (p.ba.take i)).length <=1000:=by grind
  rw[hg]at wq;rw[wq]at gk
  delta V1 at gk
  rw[lW]at gk;generalize p.parts.getD i ([],[])=x at*
  rcases x with⟨nm,vs⟩;have he:(p.parts.map mj)[i]? =some [T nm,.view (ab vs)]:=he;dsimp only at gk wq PV hqv;by_cases h1:gQ p.ba i=0
  ·rw[h1]at gk;have PV:=PV h1;have PP:(ab vs).length =vs.length:=by simp
   (try(refine tX 0 ?_;try exact Zt))
   refine af (ι:=Nat) (λk=>k<=vs.length/\∀j<k,Ez vs (cU p.aa) j=0) (λk=>vs.length -k) (λk=>⟨[(1,pP 0),(4,pO 1),(5,vI i),(6,pP 2),(8,vI k)],[(0,some (bxP p)),(1,some (.row true 1 (.view (ab (p.ba.take (i+1)))))),(2,some (.box 76 [.st (T nm),.st (.view (ab vs))]))],3⟩) 0 (ai ab1) ⟨dz _,λj hj=>by omega⟩ ?_;rintro k ⟨hk,hq⟩;by_cases sC:k<vs.length
   ·have R7:=sA sC;have Pp:Ez vs (cU p.aa) k=if vs.getD k []∈cU p.aa then(if vs.getD k []∈vs.take k then 23 else 0)else 6:=rfl
    have hnk:=λ(h:Ez vs (cU p.aa) k=0)=>all_succ (f:=Ez vs (cU p.aa)) hq h;have hra:=OJ (l:=vs) (all:=cU p.aa) sC hq;have c1:=p8 p (vs.getD k []) hs.te;have c2:ac 13 [(false,[.view (ab (vs.take k))]),SS (vs.getD k [])] (.one (Bo (decide (vs.getD k []∈vs.take k)))):=cD _ _ bw;have Ad:=adQ (l:=cU p.aa) (x:=vs.getD k []);rw[pN]at c1;generalize vs.getD k []=s at*;generalize be (cU p.aa) s=ix at*;by_cases q1:s∈cU p.aa
    ·have Xf: ¬ix<0:=λh=>Ad.1 h q1;rw[if_pos q1]at Pp;by_cases q2:s∈vs.take k
     ·rw[if_pos q2]at Pp;rw[fh q2]at c2;have UI:=hra bw;rw[Pp]at UI;rw[UI]at PV;rw[eL bw,PV];exact tL
     ·rw[if_neg q2]at Pp;rw[eJ q2]at c2;repeat' ((first|refine tX 0 ?_|exact Zt|refine bR ?_ ?_<;>intro h)<;>(try conv=>whnf))
      all_goals first|exact Zo|exact⟨k+1,⟨sC,hnk Pp⟩,by omega,Zc⟩
    ·have Xf:ix<0:=Ad.2 q1;rw[if_neg q1]at Pp;have UI:=hra bw;rw[Pp]at UI;rw[UI]at PV;rw[eL bw,PV];exact tL
   ·obtain rfl:k=vs.length:=by omega
    rw[OK hq]at PV;exact tL
  ·rw[eL bw,hea h1];generalize gQ p.ba i=e at*;exact tL
 ·obtain rfl:i=p.parts.length:=by omega
  rw[gP hp];exact tL
def WP (a b c:Int × Int):o9 (o9 a b) c=o9 a (o9 b c):=by
 unfold o9;by_cases h:a.2≠0
 ·rw[if_pos h,if_pos h,if_pos h]
 ·rw[if_neg h,if_neg h]
def WQ (p:Pl):p.err jb=o9 (o9 (0,pT p.ae.length 8) (cR p.du p.ae.length)) (o9 (o9 (0,pT p.ap.length 4) (cR (gQ p.ap) p.ap.length))
  (o9 (o9 (0,kA p.aa.length 8) (cR (p.gE jb) p.aa.length)) (o9 (o9 (0,kA p.parts.length 6) (cR p.jd p.parts.length)) (0,if(0<=p.dY/\p.dY<=1000)/\0<=p.eH/\p.eH<=1000000000000 then 0 else 2)))):=by
 simp only[WP];rfl
def zG {p:Pl}(hs:gz p):ac 32 [(true,bL p)] (.aI (RE (p.err jb))):=by
 have c1:=He hs;have c2:=KQ hs;have c3:=KR hs;have c4:=KS hs;have pN:bL p= [.view (p.ae.map nh),.view (ab p.ap),.view (p.aa.map fB),.view (p.parts.map mj),J p.dY,J p.eH]:=rfl;rw[WQ];generalize o9 (0,pT p.ae.length 8) (cR p.du p.ae.length)=r1 at*;generalize o9 (0,pT p.ap.length 4) (cR (gQ p.ap) p.ap.length)=r2 at*;generalize o9 (0,kA p.aa.length 8) (cR (p.gE jb) p.aa.length)=r3 at*;generalize o9 (0,kA p.parts.length 6) (cR p.jd p.parts.length)=r4 at*;have c1:ac 49 [(true,[.view (p.ae.map nh),.view (ab p.ap),.view (p.aa.map fB),.view (p.parts.map mj),J p.dY,J p.eH])] (.aI [I r1.1,I r1.2]):=c1;have c2:ac 50 [(true,[.view (p.ae.map nh),.view (ab p.ap),.view (p.aa.map fB),.view (p.parts.map mj),J p.dY,J p.eH])] (.aI [I r2.1,I r2.2]):=c2;have c3:ac 51 [(true,[.view (p.ae.map nh),.view (ab p.ap),.view (p.aa.map fB),.view (p.parts.map mj),J p.dY,J p.eH])] (.aI [I r3.1,I r3.2]):=c3;have c4:ac 52 [(true,[.view (p.ae.map nh),.view (ab p.ap),.view (p.aa.map fB),.view (p.parts.map mj),J p.dY,J p.eH])] (.aI [I r4.1,I r4.2]):=c4;by_cases h1:r1.2=0
 ·rw[B6 h1];rw[h1]at c1;by_cases h2:r2.2=0
  ·rw[B6 h2];rw[h2]at c2;by_cases h3:r3.2=0
   ·rw[B6 h3];rw[h3]at c3;by_cases h4:r4.2=0
    ·rw[B6 h4];rw[h4]at c4;by_cases h5:(0<=p.dY/\p.dY<=1000)/\0<=p.eH/\p.eH<=1000000000000
     ·rw[if_pos h5];refine sF f32 ?_;exact K13
     ·rw[if_neg h5];refine sF f32 ?_;exact K13
    ·rw[p9 h4];exact acp
   ·rw[p9 h3];exact acp
  ·rw[p9 h2];exact acp
 ·rw[p9 h1];exact acp
def sM {p:Pl}(hs:gz p):ac 15 [(true,bL p)] (.one (I (p.err jb).2)):=by
 have h:=zG hs;have h:ac 32 [(true,bL p)] (.aI [I (p.err jb).1,I (p.err jb).2]):=h;refine sF f15 ?_;exact K1
def dD (l:List aj)(hl:l.length<=1000000):ac 31 [V1 l] (.own 1 (.view (ab l))):=by
 have hn:(ab l).length =l.length:=by simp
 refine sF f31 ?_;exact K1
def WS (nm:aj)(vs out nd:List aj)(n:Nat):Prop:=nm∈vs\/∃x∈nd.take n,x∈out
noncomputable instance (nm:aj)(vs out nd:List aj)(n:Nat):Decidable (WS nm vs out nd n):=Classical.propDecidable _
def aaX {nm:aj}{vs out nd:List aj}{n:Nat}(h:n<nd.length):WS nm vs out nd (n+1)↔WS nm vs out nd n\/nd.getD n []∈out:=by
 unfold WS;constructor
 ·rintro(a|⟨x,hx,ho⟩)
  ·exact .inl (.inl a)
  ·rcases(iN h).1 hx with hx|rfl
   ·exact .inl (.inr ⟨x,hx,ho⟩)
   ·exact .inr ho
 ·rintro((a|⟨x,hx,ho⟩)|ho)
  ·exact .inl a
  ·exact .inr ⟨x,(iN h).2 (.inl hx),ho⟩
  ·exact .inr ⟨_,(iN h).2 (.inr rfl),ho⟩
def Hg {p:Pl}(hs:gz p)(k:Nat)(hk:k<p.parts.length):ac 164 [(true,bL p),I k] (.own 1 (.view (ab (jk p.aa (p.parts.getD k ([],[])).2)))):=by
 have hn:(p.aa.map fB).length =p.aa.length:=by simp
 have hnp:(p.parts.map mj).length =p.parts.length:=by simp
 have R7:=aZ (f:=mj) hk ([],[]);have hqv:=hs.qv k hk;have hte:=hs.te;have hpa:=hs.pa;generalize p.parts.getD k ([],[])=q at*
 rcases q with⟨qn,vs⟩;have R7:(p.parts.map mj)[k]? =some [T qn,.view (ab vs)]:=R7;dsimp only at*;refine sF f164 ?_
 (try(refine tX 0 ?_;try exact Zt))
 refine af (ι:=Nat) (λi=>i<=p.aa.length) (λi=>p.aa.length -i) (λi=>⟨[(1,vI k),(2,pP 0),(5,pO 1),(6,vI i)],[(0,some (bxP p)),(1,some (.row true 1 (.view (ab (jk (p.aa.take i) vs)))))],2⟩) 0 (bu.trans (jz 5 1 (.view []) bX rfl rfl rfl) Zc) (dz _) ?_;intro i hi;by_cases al:i<p.aa.length
 ·have he:=iP al;have xR:=BM (voids:=vs) al;have PP:=rM (p.aa.take i) vs;have Cu:=hs.td i al;have ank:(p.aa.take i).length =i:=by simp;omega
  unfold Ip at xR;generalize jk (p.aa.take i) vs=out at*;generalize p.aa.getD i dl=t at*
  rcases t with⟨nm,kd,nd,ru,lo,lA⟩;have he:(p.aa.map fB)[i]? =some [T nm,J kd,.view (ab nd),T ru,J lo,J lA]:=he;dsimp only at xR Cu;have hol:(ab out).length =out.length:=by simp
  have Bf:(ab nd).length =nd.length:=by simp
  have c0:ac 13 [(false,[.view (ab vs)]),SS nm] (.one (Bo (decide (nm∈vs)))):=cD _ _ K0;have v0:decide (nm∈vs)=decide (WS nm vs out nd 0):=by rw[vY];simp only[wX];unfold WS;simp
  rw[v0]at c0;have PF:WS nm vs out nd nd.length↔nm∈vs\/∃x∈nd,x∈out:=by unfold WS;rw[pc (dG _)]
  (try(refine tX 0 ?_;try exact Zt))
  refine af (ι:=Nat) (λn=>n<=nd.length) (λn=>nd.length -n) (λn=>⟨[(1,vI k),(2,pP 0),(5,pO 1),(6,vI i),(7,pP 2),(8,some (.val (false,[.st (.lit (.bool (decide (WS nm vs out nd n))))]))),(9,vI n)],[(0,some (bxP p)),(1,some (.row true 1 (.view (ab out)))),(2,some (.box 73 [.st (T nm),.st (J kd),.st (.view (ab nd)),.st (T ru),.st (J lo),.st (J lA)]))],3⟩) 0 Zc (dz _) ?_;intro n LG;by_cases hnlt:n<nd.length
  ·have hen:=sA hnlt;have Xw:=aaX (nm:=nm) (vs:=vs) (out:=out) hnlt;have c1:ac 13 [(false,[.view (ab out)]),SS (nd.getD n [])] (.one (Bo (decide (nd.getD n []∈out)))):=cD _ _ K0;generalize nd.getD n []=s at*;by_cases h1:WS nm vs out nd n
   ·have h2:WS nm vs out nd (n+1):=Xw.2 (.inl h1);rw[fh h1];repeat' ((first|refine tX 0 ?_|exact Zt|refine bR ?_ ?_<;>intro h)<;>(try conv=>whnf))
    all_goals first|exact Zo|exact⟨n+1,hnlt,by omega,ai (by dsimp only;rw[fh h2];kernel_rfl)⟩
   ·rw[eJ h1];have h2:decide (WS nm vs out nd (n+1))=decide (s∈out):=by rw[vY];simp only[wX];exact⟨λh=>(Xw.1 h).resolve_left h1,λh=>Xw.2 (.inr h)⟩
    repeat' ((first|refine tX 0 ?_|exact Zt|refine bR ?_ ?_<;>intro h)<;>(try conv=>whnf))
    all_goals first|exact Zo|exact⟨n+1,hnlt,by omega,ai (by dsimp only;rw[h2];kernel_rfl)⟩
  ·obtain rfl:n=nd.length:=by omega
   by_cases h1:WS nm vs out nd nd.length
   ·rw[fh h1];rw[if_pos (PF.1 h1)]at xR;exact K19
   ·rw[eJ h1];rw[if_neg (λh=>h1 (PF.2 h))]at xR;exact K25
 ·exact aiM
def qO (a b:List aj)(ha:a.length<=1000000)(hb:b.length<=1000000):ac 28 [V1 a,V1 b] (.one (Bo (decide (a=b)))):=by
 have hna:(ab a).length =a.length:=by simp
 have hnb:(ab b).length =b.length:=by simp
 by_cases h0:a.length=b.length
 ·refine sF f28 ?_
  (try(refine tX 0 ?_;try exact Zt))
  refine af (ι:=Nat) (λi=>i<=a.length/\a.take i=b.take i) (λi=>a.length -i) (λi=>⟨[(0,some (.val (false,[.st (.view (ab a))]))),(1,some (.val (false,[.st (.view (ab b))]))),(5,vI i)],[],0⟩) 0 Zc ⟨dz _,rfl⟩ ?_;rintro i ⟨hi,he⟩;by_cases al:i<a.length
  ·have h1:=sA al;have hlb:i<b.length:=by omega
   have h2:=sA hlb;have t1:=take_succ al;have t2:=take_succ hlb;have gk:a.getD i []≠b.getD i []->a≠b:=λh e=>h (by rw[e]);rw[he]at t1;generalize a.getD i []=x at*;generalize b.getD i []=y at*;by_cases hx:x=y
   ·subst hx;repeat' ((first|refine tX 0 ?_|exact Zt|refine bR ?_ ?_<;>intro h)<;>(try conv=>whnf))
    all_goals first|exact Zo|exact⟨i+1,⟨al,by rw[t1,t2]⟩,by omega,Zc⟩|(exact absurd rfl h)
   ·repeat' ((first|refine tX 0 ?_|exact Zt|refine bR ?_ ?_<;>intro h)<;>(try conv=>whnf))
    all_goals first|exact Zo|exact gS (eJ (gk hx)).symm |(exact absurd (by simpa using h) hx)
  ·obtain rfl:i=a.length:=by omega
   have e:a=b:=by rw[pc (dG _),pc K0]at he;exact he
   repeat' ((first|refine tX 0 ?_|exact Zt|refine bR ?_ ?_<;>intro h)<;>(try conv=>whnf))
   all_goals first|exact Zo|exact gS (fh e).symm
 ·refine sF f28 ?_;repeat' ((first|refine tX 0 ?_|exact Zt|refine bR ?_ ?_<;>intro h)<;>(try conv=>whnf))
  all_goals first|exact Zo|exact gS (eJ λe=>h0 (by rw[e])).symm
def KU (l:List aj):Prop:=l.length<=10/\∀i<l.length,(l.getD i []).length <=20
noncomputable instance (l:List aj):Decidable (KU l):=Classical.propDecidable _
def sj (l:List aj)(hl:l.length<=9223372036854775807):ac 29 [V1 l] (.one (Bo (decide (KU l)))):=by
 have hn:(ab l).length =l.length:=by simp
 by_cases h0:l.length<=10
 ·refine sF f29 ?_
  (try(refine tX 0 ?_;try exact Zt))
  refine af (ι:=Nat) (λi=>i<=l.length/\∀j<i,(l.getD j []).length <=20) (λi=>l.length -i) (λi=>⟨[(0,some (.val (false,[.st (.view (ab l))]))),(3,vI i)],[],0⟩) 0 Zc ⟨dz _,λj hj=>by omega⟩ ?_;rintro i ⟨hi,hp⟩;by_cases al:i<l.length
  ·have he:=sA al;have dm:20< (l.getD i []).length ->¬KU l:=λh hh=>by have:=hh.2 i al;omega
   have io:(l.getD i []).length <=20->∀j<i+1,(l.getD j []).length <=20:=λh j hj=>by
    by_cases e:j=i
    ·subst e;exact h
    ·exact hp j K0
   generalize l.getD i []=s at*;repeat' ((first|refine tX 0 ?_|exact Zt|refine bR ?_ ?_<;>intro h)<;>(try conv=>whnf))
   all_goals first|exact Zo|exact gS (eJ (dm K0)).symm |exact⟨i+1,⟨al,io K0⟩,by omega,Zc⟩
  ·exact ahC
 ·refine sF f29 ?_;exact K64
def aaY (p:Pl)(i:Nat):Prop:=(p.ae.getD i ([],0)).1.length <=20
def aaZ (p:Pl)(i:Nat):Prop:=(p.aa.getD i dl).name.length <=20/\(p.aa.getD i dl).rules.length <=100/\KU (p.aa.getD i dl).bv
def aa0 (p:Pl)(i:Nat):Prop:=(p.parts.getD i ([],[])).1.length <=20/\KU (p.parts.getD i ([],[])).2
def adS (p:Pl):Prop:=p.ae.length<=10/\p.ap.length<=6/\p.aa.length<=10/\p.parts.length<=8
def Hi (p:Pl):Prop:=adS p/\(∀i<p.ae.length,aaY p i)/\(∀i<p.aa.length,aaZ p i)/\(∀i<p.parts.length,aa0 p i)/\KU p.ap
noncomputable instance (p:Pl):Decidable (Hi p):=Classical.propDecidable _
def A0 {p:Pl}(h:Hi p):gz p:=by
 obtain⟨⟨a1,a2,a3,a4⟩,b1,b2,b3,b4,b5⟩:=h;refine⟨by omega,by omega,by omega,by omega,λi hi=>?_,λi hi=>?_,λi hi=>?_,λi hi=>?_,λi hi=>?_,λi hi=>?_,λi hi=>?_⟩
 ·have:_<=20:=b1 i hi;omega
 ·have:=b5 i hi;omega
 ·have:=(b2 i hi).1;omega
 ·have:=(b2 i hi).2.2.1;omega
 ·have:=(b2 i hi).2.1;omega
 ·have:=(b3 i hi).1;omega
 ·have:=(b3 i hi).2.1;omega
def vP {q:Nat->Prop}{i:Nat}(h: ∀j<i,q j)(k:q i): ∀j<i+1,q j:=λj hj=>by
 by_cases e:j=i
 ·subst e;exact k
 ·exact h j K0
def abi:En:=⟨0,[],[]⟩
def shA (l:List En)(i:Nat):Prop:=(l.getD i abi).text.length <=410/\(l.getD i abi).lz.length <=20
def shN (l:List En):Prop:=¬(40<l.length/\l.length<=60)/\l.length<=62
def shP (l:List En):Prop:=shN l/\∀i<l.length,shA l i
noncomputable instance (l:List En):Decidable (shP l):=Classical.propDecidable _
def vU (l:List En)(hl:l.length<=9223372036854775807):ac 8 [(false,[.view (l.map cd)])] (.one (Bo (decide (shP l)))):=by
 have hn:(l.map cd).length =l.length:=by simp
 by_cases h0:shN l;rotate_left
 ·unfold shN at h0;refine sF f8 ?_;exact K64
 have h0':=h0;unfold shN at h0';refine sF f8 ?_;repeat' ((first|refine tX 0 ?_|exact Zt|refine bR ?_ ?_<;>intro h)<;>(try conv=>whnf))
 all_goals try(exfalso;omega)
 all_goals
  refine af (ι:=Nat) (λi=>i<=l.length/\∀j<i,shA l j) (λi=>l.length -i) (λi=>⟨[(0,some (.val (false,[.st (.view (l.map cd))]))),(3,vI i)],[],1000⟩) 0 Zc ⟨dz _,λj hj=>by omega⟩ ?_;rintro i ⟨hi,hp⟩;by_cases al:i<l.length
  ·have he:=aZ (f:=cd) al abi;have dm: ¬shA l i->¬shP l:=λh hh=>h (hh.2 i al);have io:=λ(h:shA l i)=>vP hp h;unfold shA at dm io;generalize l.getD i abi=e at*;repeat' ((first|refine tX 0 ?_|exact Zt|refine bR ?_ ?_<;>intro h)<;>(try conv=>whnf))
   all_goals first|exact Zo|exact gS (eJ (dm K0)).symm |exact⟨i+1,⟨al,io K0⟩,by omega,Zc⟩
  ·exact ahC
end Go.Proofs.Tryz
