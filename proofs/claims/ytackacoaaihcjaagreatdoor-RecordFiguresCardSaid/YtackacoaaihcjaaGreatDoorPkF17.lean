import Derived.Test.YtackacoaaihcjaaGreatDoorPkF14
set_option linter.all false
set_option maxRecDepth 100000
set_option maxHeartbeats 8000000
namespace Go.Proofs.Tryz
open Go.Fw Go.IntWalk Go.Plain
def alX {p:Pl}{i:Nat}(h:gW (cL p.aa) i≠0):p.gK jO i=gW (cL p.aa) i:=by grind[Pl.gK,eS]
def alY {p:Pl}{i:Nat}(h:gW (cL p.aa) i=0):p.gK jO i=VC jO p.aa i:=by grind[Pl.gK,jj]
def On {l all:List aj}{k:Nat}(h:k<l.length)(h0: ∀j<k,D2 l all j=0)(h1:D2 l all k≠0):jT l all=D2 l all k:=by grind[jT,fJ]
def Oo {l all:List aj}(h0: ∀j<l.length,D2 l all j=0):jT l all=0:=by grind[jT,gT]
def Fg {p:Pl}(hs:io p)(i:Nat)(ak:i<p.aa.length):ac 230 [(true,bU p),(false,[.view (ab ((cL p.aa).take (i+1)))]),I i] (.one (I (p.gK jO i))):=by
 have AP:(cL p.aa).length =p.aa.length:=by simp[cL]
 have uF:(p.aa.map fq).length =p.aa.length:=by simp
 have hte:=hs.te;have he:=iO ak;have aos:=hs.td i ak;have hru:=hs.tr i ak;have hnm:=hs.tn i ak;have fh:=ld ((cL p.aa).take (i+1)) i bq bq (by grind[cL]);rw[AF K0]at fh
 delta V1 at fh
 have ea:=alX (p:=p) (i:=i);have eb:=alY (p:=p) (i:=i);have ta:=ae6 (re:=jO) (l:=p.aa) (i:=i);have tb:=ae7 (re:=jO) (l:=p.aa) (i:=i);have tc:=ae8 (re:=jO) (l:=p.aa) (i:=i);have td:=ae9 (re:=jO) (l:=p.aa) (i:=i);have zC:=i7 (p.aa.getD i dk).rules hru;have hre:(cO (bY (ar 59 (p.aa.getD i dk).rules))).2=jO (p.aa.getD i dk).rules :=rfl;have BK:Qi p.aa (p.aa.getD i dk)=if(p.aa.getD i dk).kind =2 then(if(p.aa.getD i dk).bu.length =0 then 10 else if(p.aa.getD (aZ (cL p.aa) ((p.aa.getD i dk).bu.getD 0 [])).toNat dk).kind =1 then 0 else 3)else 0:=rfl
 have zB:(ab ((cL p.aa).take (i+1))).take i=ab ((cL p.aa).take i):=by grind
 have htl:(ab ((cL p.aa).take (i+1))).length =i+1:=by grind
 have hai:=λk=>On (k:=k) (l:=(p.aa.getD i dk).bu) (all:=(cL p.aa).take i);have han:=Oo (l:=(p.aa.getD i dk).bu) (all:=(cL p.aa).take i);have hz:=Ep (l:=(p.aa.getD i dk).bu) (all:=(cL p.aa).take i);have pG:bU p= [.view (p.ae.map na),.view (ab p.ap),.view (p.aa.map fq),.view (p.parts.map mh),J p.dY,J p.eH]:=rfl;generalize ht:p.aa.getD i dk=t at*
 rcases t with⟨nm,kd,nd,ru,lo,hi⟩;have he:(p.aa.map fq)[i]? =some [T nm,J kd,.view (ab nd),T ru,J lo,J hi]:=he;dsimp only at*;have AR:(ab nd).length =nd.length:=by simp
 have zC:ac 76 [SS ru] (.aJ [Ru (cO (bY (ar 59 ru))).1.1 (cO (bY (ar 59 ru))).1.2.1 (cO (bY (ar 59 ru))).1.2.2,I (jO ru)]):=zC;by_cases h0:gW (cL p.aa) i=0
 ·rw[eb h0];rw[h0]at fh;by_cases h1:0<=kd/\kd<=3
  ·refine sF f230 ?_;repeat((first|(refine kO 7 rfl ?_;first|refine Rq (eo _ _ _) ?_)|refine tX 0 ?_|exact Zt);(try conv=>whnf))
   refine af (ι:=Nat) (λk=>k<=nd.length/\∀j<k,D2 nd ((cL p.aa).take i) j=0) (λk=>nd.length -k) (λk=>⟨[(1,some (.val (false,[.st (.view (ab ((cL p.aa).take (i+1))))]))),(2,vI i),(3,pP 0),(7,pP 1),(9,vI k)],[(0,some (bxP p)),(1,some (.box 54 [.st (T nm),.st (J kd),.st (.view (ab nd)),.st (T ru),.st (J lo),.st (J hi)]))],2⟩) 0 Zc ⟨dM _,λj hj=>by omega⟩ ?_;rintro k ⟨hk,hp⟩;by_cases uI:k<nd.length
   ·have RR:=sA uI;have OZ:D2 nd ((cL p.aa).take i) k=if nd.getD k []∈(cL p.aa).take i then(if nd.getD k []∈nd.take k then 23 else 0)else 6:=rfl
    have iU:=λ(h:D2 nd ((cL p.aa).take i) k=0)=>all_succ (f:=D2 nd ((cL p.aa).take i)) hp h;have hra:=hai k uI hp
    have c1:ac 19 [(false,[.view (ab (((cL p.aa).take (i+1)).take i))]),SS (nd.getD k [])] (.one (Bo (decide (nd.getD k []∈(cL p.aa).take i)))):=by
     rw[List.take_take,Nat.min_eq_left K0];exact cX _ _ bq
    have c2:ac 19 [(false,[.view (ab (nd.take k))]),SS (nd.getD k [])] (.one (Bo (decide (nd.getD k []∈nd.take k)))):=cX _ _ bq;have aoG:(ab nd).take k=ab (nd.take k):=by simp
    generalize nd.getD k []=s at*;by_cases q1:s∈(cL p.aa).take i
    ·rw[if_pos q1]at OZ;rw[fG q1]at c1;by_cases q2:s∈nd.take k
     ·rw[if_pos q2]at OZ;rw[fG q2]at c2;rw[tb h1 bq,hra (by rw[OZ];decide),OZ];exact tL
     ·rw[if_neg q2]at OZ;rw[eU q2]at c2;repeat' ((first|refine tX 0 ?_|exact Zt|refine bR ?_ ?_<;>intro h)<;>(try conv=>whnf))
      all_goals first|exact Zo|exact⟨k+1,⟨uI,iU OZ⟩,by omega,Zc⟩
    ·rw[if_neg q1]at OZ;rw[eU q1]at c1;rw[tb h1 bq,hra (by rw[OZ];decide),OZ];exact tL
   ·obtain rfl:k=nd.length:=by omega
    have hA:=han hp;have hz:=hz hA;clear hai han ta tb fh;have tc:=tc h1 hA;have td:=td h1 hA;by_cases h3:kd=2
    ·rw[if_pos h3]at BK;by_cases h4:nd.length=0
     ·rw[if_pos h4]at BK;rw[tc bq,BK];exact tL
     ·have abB:0<nd.length:=by omega
      obtain⟨O2,_⟩:=hz 0 abB;have RP:=sA abB;obtain⟨k0,Xx,hk0⟩:=k7 (FU O2);have Xk:=mj p (nd.getD 0 []) hte;rw[hk0,pG]at Xk;have xw:k0<p.aa.length:=by omega
      have RR:=iO xw;rw[if_neg h4,hk0,p8]at BK;generalize nd.getD 0 []=n0 at*;generalize p.aa.getD k0 dk=t0 at*
      rcases t0 with⟨nm0,kd0,nd0,ru0,lo0,zG⟩;have RR:(p.aa.map fq)[k0]? =some [T nm0,J kd0,.view (ab nd0),T ru0,J lo0,J zG]:=RR;dsimp only at BK;by_cases h5:kd0=1
      ·rw[if_pos h5]at BK;rw[td BK,if_pos (show nj kd from .inr h3)];by_cases h6:jO ru=0
       ·rw[h6,jj];rw[h6]at zC;exact K48
       ·exact ako
      ·rw[if_neg h5]at BK;rw[tc bq,BK];exact tL
    ·rw[if_neg h3]at BK;rw[td BK];by_cases h5:kd=1
     ·rw[if_pos (show nj kd from .inl h5)];by_cases h6:jO ru=0
      ·rw[h6,jj];rw[h6]at zC;exact K48
      ·exact ako
     ·rw[if_neg (show ¬nj kd by grind[nj])];by_cases h6:ru= []
      ·rw[if_pos h6,jj];subst h6;exact K48
      ·rw[if_neg h6,eS K9];exact tL
  ·rw[ta h1];refine sF f230 ?_;exact tL
 ·rw[ea h0];generalize gW (cL p.aa) i=e at*;refine sF f230 ?_;exact tL
theorem Ue {n m:Nat}(h:m<n):ky n m=8:=by unfold ky;grind
theorem aff {n m:Nat}(h:n<=m):ky n m=0:=by unfold ky;grind
def KB {p:Pl}(hs:io p):ac 160 [(true,bU p)] (.aJ (Rb (oV (0,ky p.aa.length 8) (cN (p.gK jO) p.aa.length)))):=by
 have hn:(p.aa.map fq).length =p.aa.length:=by simp
 have AP:(cL p.aa).length =p.aa.length:=by simp[cL]
 have hte:=hs.te;have pG:bU p= [.view (p.ae.map na),.view (ab p.ap),.view (p.aa.map fq),.view (p.parts.map mh),J p.dY,J p.eH]:=rfl;by_cases h8:8<p.aa.length
 ·rw[pU (by grind[Ue]),Ue h8];refine sF f160 ?_;exact tA
 rw[BI (by grind[aff])];refine sF f160 ?_
 (try(refine tX 0 ?_;try exact Zt))
 refine af (ι:=Nat) (λi=>i<=p.aa.length/\∀j<i,p.gK jO j=0) (λi=>p.aa.length -i) (λi=>⟨[(1,pP 0),(4,pO 1),(5,vI i)],[(0,some (bxP p)),(1,some (.row true 1 (.view (ab ((cL p.aa).take i)))))],2⟩) 0 (bs.trans (jB 4 1 (.view []) K9 rfl rfl rfl) Zc) ⟨dM _,λj hj=>by omega⟩ ?_;rintro i ⟨hi,hp⟩;by_cases ak:i<p.aa.length
 ·have he:=iO ak;have hg:=rH ak;have vJ:=take_succ (l:=cL p.aa) (i:=i) K0;have fh:=Fg hs i ak;have eL:=λ(h:p.gK jO i≠0)=>fJ (f:=p.gK jO) ak hp h;have iU:=λ(h:p.gK jO i=0)=>all_succ (f:=p.gK jO) hp h;have uF:(ab ((cL p.aa).take i)).length <=1000:=by grind
  rw[hg]at vJ;rw[vJ,lW,pG]at fh;generalize p.aa.getD i dk=x at*
  rcases x with⟨nm,kd,nd,ru,lo,kH⟩;have he:(p.aa.map fq)[i]? =some [T nm,J kd,.view (ab nd),T ru,J lo,J kH]:=he;dsimp only at fh vJ;by_cases h1:p.gK jO i=0
  ·rw[h1]at fh;repeat' ((first|refine tX 0 ?_|exact Zt|refine bR ?_ ?_<;>intro h)<;>(try conv=>whnf))
   all_goals first|exact Zo|exact⟨i+1,⟨ak,iU h1⟩,by omega,ai abQ⟩|(exact absurd rfl h)
  ·rw[eL h1];generalize p.gK jO i=e at*;exact tA
 ·obtain rfl:i=p.aa.length:=by omega
  rw[gT hp];exact tA
def alZ {p:Pl}{i:Nat}(h:gW p.bd i≠0):p.je i=gW p.bd i:=by grind[Pl.je,eS]
def al0 {p:Pl}{i:Nat}(h:gW p.bd i=0):p.je i=jT (p.parts.getD i ([],[])).2 (cL p.aa):=by grind[Pl.je,jj]
def adN {l:List aj}{x:aj}:aZ l x<0↔x∉l:=by
 unfold aZ
 grind
def KC {p:Pl}(hs:io p):ac 161 [(true,bU p)] (.aJ (Rb (oV (0,ky p.parts.length 6) (cN p.je p.parts.length)))):=by
 have hn:(p.parts.map mh).length =p.parts.length:=by simp
 have AP:p.bd.length=p.parts.length:=by simp[Pl.bd]
 have hpa:=hs.pa;have pG:bU p= [.view (p.ae.map na),.view (ab p.ap),.view (p.aa.map fq),.view (p.parts.map mh),J p.dY,J p.eH]:=rfl;by_cases h8:6<p.parts.length
 ·rw[pU (by grind[Ue]),Ue h8];refine sF f161 ?_;exact tL
 rw[BI (by grind[aff])];refine sF f161 ?_
 (try(refine tX 0 ?_;try exact Zt))
 refine af (ι:=Nat) (λi=>i<=p.parts.length/\∀j<i,p.je j=0) (λi=>p.parts.length -i) (λi=>⟨[(1,pP 0),(4,pO 1),(5,vI i)],[(0,some (bxP p)),(1,some (.row true 1 (.view (ab (p.bd.take i)))))],2⟩) 0 (bs.trans (jB 4 1 (.view []) K9 rfl rfl rfl) Zc) ⟨dM _,λj hj=>by omega⟩ ?_;rintro i ⟨hi,hp⟩;by_cases ak:i<p.parts.length
 ·have he:=bg (f:=mh) ak ([],[]);have hg:p.bd.getD i []=(p.parts.getD i ([],[])).1:=by grind[Pl.bd]
  have vJ:=take_succ (l:=p.bd) (i:=i) K0;have hqv:=hs.qv i ak;have fh:=ld (p.bd.take (i+1)) i bq bq (by rw[show(p.bd.take (i+1)).getD i []=p.bd.getD i []by grind,hg];exact hs.qn i ak);rw[AF K0]at fh;have hea:=alZ (p:=p) (i:=i);have Po:=al0 (p:=p) (i:=i);have eL:=λ(h:p.je i≠0)=>fJ (f:=p.je) ak hp h;have iU:=λ(h:p.je i=0)=>all_succ hp h;have uF:(ab (p.bd.take i)).length <=1000:=by grind
  rw[hg]at vJ;rw[vJ]at fh
  delta V1 at fh
  rw[lW]at fh;generalize p.parts.getD i ([],[])=x at*
  rcases x with⟨nm,vs⟩;have he:(p.parts.map mh)[i]? =some [T nm,.view (ab vs)]:=he;dsimp only at fh vJ Po hqv;by_cases h1:gW p.bd i=0
  ·rw[h1]at fh;have Po:=Po h1;have Xo:(ab vs).length =vs.length:=by simp
   (try(refine tX 0 ?_;try exact Zt))
   refine af (ι:=Nat) (λk=>k<=vs.length/\∀j<k,D2 vs (cL p.aa) j=0) (λk=>vs.length -k) (λk=>⟨[(1,pP 0),(4,pO 1),(5,vI i),(6,pP 2),(8,vI k)],[(0,some (bxP p)),(1,some (.row true 1 (.view (ab (p.bd.take (i+1)))))),(2,some (.box 106 [.st (T nm),.st (.view (ab vs))]))],3⟩) 0 (ai abQ) ⟨dM _,λj hj=>by omega⟩ ?_;rintro k ⟨hk,hq⟩;by_cases uI:k<vs.length
   ·have RR:=sA uI;have OZ:D2 vs (cL p.aa) k=if vs.getD k []∈cL p.aa then(if vs.getD k []∈vs.take k then 23 else 0)else 6:=rfl
    have hnk:=λ(h:D2 vs (cL p.aa) k=0)=>all_succ (f:=D2 vs (cL p.aa)) hq h;have hra:=On (l:=vs) (all:=cL p.aa) uI hq;have c1:=mj p (vs.getD k []) hs.te;have c2:ac 19 [(false,[.view (ab (vs.take k))]),SS (vs.getD k [])] (.one (Bo (decide (vs.getD k []∈vs.take k)))):=cX _ _ bq;have B8:=adN (l:=cL p.aa) (x:=vs.getD k []);rw[pG]at c1;generalize vs.getD k []=s at*;generalize aZ (cL p.aa) s=ix at*;by_cases q1:s∈cL p.aa
    ·have Xk: ¬ix<0:=λh=>B8.1 h q1;rw[if_pos q1]at OZ;by_cases q2:s∈vs.take k
     ·rw[if_pos q2]at OZ;rw[fG q2]at c2;have Ut:=hra bq;rw[OZ]at Ut;rw[Ut]at Po;rw[eL bq,Po];exact tL
     ·rw[if_neg q2]at OZ;rw[eU q2]at c2;repeat' ((first|refine tX 0 ?_|exact Zt|refine bR ?_ ?_<;>intro h)<;>(try conv=>whnf))
      all_goals first|exact Zo|exact⟨k+1,⟨uI,hnk OZ⟩,by omega,Zc⟩
    ·have Xk:ix<0:=B8.2 q1;rw[if_neg q1]at OZ;have Ut:=hra bq;rw[OZ]at Ut;rw[Ut]at Po;rw[eL bq,Po];exact tL
   ·obtain rfl:k=vs.length:=by omega
    rw[Oo hq]at Po;exact tL
  ·rw[eL bq,hea h1];generalize gW p.bd i=e at*;exact tL
 ·obtain rfl:i=p.parts.length:=by omega
  rw[gT hp];exact tL
def WK (a b c:Int × Int):oV (oV a b) c=oV a (oV b c):=by
 unfold oV;by_cases h:a.2≠0
 ·rw[if_pos h,if_pos h,if_pos h]
 ·rw[if_neg h,if_neg h]
def WL (p:Pl):p.err jO=oV (oV (0,pL p.ae.length 8) (cN p.du p.ae.length)) (oV (oV (0,pL p.ap.length 4) (cN (gW p.ap) p.ap.length))
  (oV (oV (0,ky p.aa.length 8) (cN (p.gK jO) p.aa.length)) (oV (oV (0,ky p.parts.length 6) (cN p.je p.parts.length)) (0,if(0<=p.dY/\p.dY<=1000)/\0<=p.eH/\p.eH<=1000000000000 then 0 else 2)))):=by
 simp only[WK];rfl
def zp {p:Pl}(hs:io p):ac 88 [(true,bU p)] (.aJ (Rb (p.err jO))):=by
 have c1:=GC hs;have c2:=KA hs;have c3:=KB hs;have c4:=KC hs;have pG:bU p= [.view (p.ae.map na),.view (ab p.ap),.view (p.aa.map fq),.view (p.parts.map mh),J p.dY,J p.eH]:=rfl;rw[WL];generalize oV (0,pL p.ae.length 8) (cN p.du p.ae.length)=r1 at*;generalize oV (0,pL p.ap.length 4) (cN (gW p.ap) p.ap.length)=r2 at*;generalize oV (0,ky p.aa.length 8) (cN (p.gK jO) p.aa.length)=r3 at*;generalize oV (0,ky p.parts.length 6) (cN p.je p.parts.length)=r4 at*;have c1:ac 158 [(true,[.view (p.ae.map na),.view (ab p.ap),.view (p.aa.map fq),.view (p.parts.map mh),J p.dY,J p.eH])] (.aJ [I r1.1,I r1.2]):=c1;have c2:ac 159 [(true,[.view (p.ae.map na),.view (ab p.ap),.view (p.aa.map fq),.view (p.parts.map mh),J p.dY,J p.eH])] (.aJ [I r2.1,I r2.2]):=c2;have c3:ac 160 [(true,[.view (p.ae.map na),.view (ab p.ap),.view (p.aa.map fq),.view (p.parts.map mh),J p.dY,J p.eH])] (.aJ [I r3.1,I r3.2]):=c3;have c4:ac 161 [(true,[.view (p.ae.map na),.view (ab p.ap),.view (p.aa.map fq),.view (p.parts.map mh),J p.dY,J p.eH])] (.aJ [I r4.1,I r4.2]):=c4;by_cases h1:r1.2=0
 ·rw[BI h1];rw[h1]at c1;by_cases h2:r2.2=0
  ·rw[BI h2];rw[h2]at c2;by_cases h3:r3.2=0
   ·rw[BI h3];rw[h3]at c3;by_cases h4:r4.2=0
    ·rw[BI h4];rw[h4]at c4;by_cases h5:(0<=p.dY/\p.dY<=1000)/\0<=p.eH/\p.eH<=1000000000000
     ·rw[if_pos h5];refine sF f88 ?_;exact K16
     ·rw[if_neg h5];refine sF f88 ?_;exact K16
    ·rw[pU h4];exact acg
   ·rw[pU h3];exact acg
  ·rw[pU h2];exact acg
 ·rw[pU h1];exact acg
def BZ {p:Pl}(hs:io p):ac 43 [(true,bU p)] (.one (I (p.err jO).2)):=by
 have h:=zp hs;have h:ac 88 [(true,bU p)] (.aJ [I (p.err jO).1,I (p.err jO).2]):=h;refine sF f43 ?_;exact K1
def dC (l:List aj)(hl:l.length<=1000000):ac 46 [V1 l] (.own 1 (.view (ab l))):=by
 have hn:(ab l).length =l.length:=by simp
 refine sF f46 ?_;exact K1
def WM (nm:aj)(vs out nd:List aj)(n:Nat):Prop:=nm∈vs\/∃x∈nd.take n,x∈out
noncomputable instance (nm:aj)(vs out nd:List aj)(n:Nat):Decidable (WM nm vs out nd n):=Classical.propDecidable _
def aaU {nm:aj}{vs out nd:List aj}{n:Nat}(h:n<nd.length):WM nm vs out nd (n+1)↔WM nm vs out nd n\/nd.getD n []∈out:=by
 unfold WM;constructor
 ·rintro(a|⟨x,hx,ho⟩)
  ·exact .inl (.inl a)
  ·rcases(iM h).1 hx with hx|rfl
   ·exact .inl (.inr ⟨x,hx,ho⟩)
   ·exact .inr ho
 ·rintro((a|⟨x,hx,ho⟩)|ho)
  ·exact .inl a
  ·exact .inr ⟨x,(iM h).2 (.inl hx),ho⟩
  ·exact .inr ⟨_,(iM h).2 (.inr rfl),ho⟩
def GD {p:Pl}(hs:io p)(k:Nat)(hk:k<p.parts.length):ac 49 [(true,bU p),I k] (.own 1 (.view (ab (jk p.aa (p.parts.getD k ([],[])).2)))):=by
 have hn:(p.aa.map fq).length =p.aa.length:=by simp
 have hnp:(p.parts.map mh).length =p.parts.length:=by simp
 have RR:=bg (f:=mh) hk ([],[]);have hqv:=hs.qv k hk;have hte:=hs.te;have hpa:=hs.pa;generalize p.parts.getD k ([],[])=q at*
 rcases q with⟨qn,vs⟩;have RR:(p.parts.map mh)[k]? =some [T qn,.view (ab vs)]:=RR;dsimp only at*;refine sF f49 ?_
 (try(refine tX 0 ?_;try exact Zt))
 refine af (ι:=Nat) (λi=>i<=p.aa.length) (λi=>p.aa.length -i) (λi=>⟨[(1,vI k),(2,pP 0),(5,pO 1),(6,vI i)],[(0,some (bxP p)),(1,some (.row true 1 (.view (ab (jk (p.aa.take i) vs)))))],2⟩) 0 (bs.trans (jB 5 1 (.view []) K9 rfl rfl rfl) Zc) (dM _) ?_;intro i hi;by_cases ak:i<p.aa.length
 ·have he:=iO ak;have xu:=Bq (voids:=vs) ak;have Xo:=rF (p.aa.take i) vs;have AR:=hs.td i ak;have anZ:(p.aa.take i).length =i:=by simp;omega
  unfold HO at xu;generalize jk (p.aa.take i) vs=out at*;generalize p.aa.getD i dk=t at*
  rcases t with⟨nm,kd,nd,ru,lo,kH⟩;have he:(p.aa.map fq)[i]? =some [T nm,J kd,.view (ab nd),T ru,J lo,J kH]:=he;dsimp only at xu AR;have hol:(ab out).length =out.length:=by simp
  have AP:(ab nd).length =nd.length:=by simp
  have c0:ac 19 [(false,[.view (ab vs)]),SS nm] (.one (Bo (decide (nm∈vs)))):=cX _ _ K0;have v0:decide (nm∈vs)=decide (WM nm vs out nd 0):=by rw[vt];simp only[wv];unfold WM;simp
  rw[v0]at c0;have Ph:WM nm vs out nd nd.length↔nm∈vs\/∃x∈nd,x∈out:=by unfold WM;rw[o0 (dz _)]
  (try(refine tX 0 ?_;try exact Zt))
  refine af (ι:=Nat) (λn=>n<=nd.length) (λn=>nd.length -n) (λn=>⟨[(1,vI k),(2,pP 0),(5,pO 1),(6,vI i),(7,pP 2),(8,some (.val (false,[.st (.lit (.bool (decide (WM nm vs out nd n))))]))),(9,vI n)],[(0,some (bxP p)),(1,some (.row true 1 (.view (ab out)))),(2,some (.box 54 [.st (T nm),.st (J kd),.st (.view (ab nd)),.st (T ru),.st (J lo),.st (J kH)]))],3⟩) 0 Zc (dM _) ?_;intro n Lk;by_cases hnlt:n<nd.length
  ·have hen:=sA hnlt;have XA:=aaU (nm:=nm) (vs:=vs) (out:=out) hnlt;have c1:ac 19 [(false,[.view (ab out)]),SS (nd.getD n [])] (.one (Bo (decide (nd.getD n []∈out)))):=cX _ _ K0;generalize nd.getD n []=s at*;by_cases h1:WM nm vs out nd n
   ·have h2:WM nm vs out nd (n+1):=XA.2 (.inl h1);rw[fG h1];repeat' ((first|refine tX 0 ?_|exact Zt|refine bR ?_ ?_<;>intro h)<;>(try conv=>whnf))
    all_goals first|exact Zo|exact⟨n+1,hnlt,by omega,ai (by dsimp only;rw[fG h2];kernel_rfl)⟩
   ·rw[eU h1];have h2:decide (WM nm vs out nd (n+1))=decide (s∈out):=by rw[vt];simp only[wv];exact⟨λh=>(XA.1 h).resolve_left h1,λh=>XA.2 (.inr h)⟩
    repeat' ((first|refine tX 0 ?_|exact Zt|refine bR ?_ ?_<;>intro h)<;>(try conv=>whnf))
    all_goals first|exact Zo|exact⟨n+1,hnlt,by omega,ai (by dsimp only;rw[h2];kernel_rfl)⟩
  ·obtain rfl:n=nd.length:=by omega
   by_cases h1:WM nm vs out nd nd.length
   ·rw[fG h1];rw[if_pos (Ph.1 h1)]at xu;exact K22
   ·rw[eU h1];rw[if_neg (λh=>h1 (Ph.2 h))]at xu;exact K30
 ·exact ai6
def Iw (a b:List aj)(ha:a.length<=1000000)(hb:b.length<=1000000):ac 33 [V1 a,V1 b] (.one (Bo (decide (a=b)))):=by
 have hna:(ab a).length =a.length:=by simp
 have hnb:(ab b).length =b.length:=by simp
 by_cases h0:a.length=b.length
 ·refine sF f33 ?_
  (try(refine tX 0 ?_;try exact Zt))
  refine af (ι:=Nat) (λi=>i<=a.length/\a.take i=b.take i) (λi=>a.length -i) (λi=>⟨[(0,some (.val (false,[.st (.view (ab a))]))),(1,some (.val (false,[.st (.view (ab b))]))),(5,vI i)],[],0⟩) 0 Zc ⟨dM _,rfl⟩ ?_;rintro i ⟨hi,he⟩;by_cases ak:i<a.length
  ·have h1:=sA ak;have hlb:i<b.length:=by omega
   have h2:=sA hlb;have t1:=take_succ ak;have t2:=take_succ hlb;have fh:a.getD i []≠b.getD i []->a≠b:=λh e=>h (by rw[e]);rw[he]at t1;generalize a.getD i []=x at*;generalize b.getD i []=y at*;by_cases hx:x=y
   ·subst hx;repeat' ((first|refine tX 0 ?_|exact Zt|refine bR ?_ ?_<;>intro h)<;>(try conv=>whnf))
    all_goals first|exact Zo|exact⟨i+1,⟨ak,by rw[t1,t2]⟩,by omega,Zc⟩|(exact absurd rfl h)
   ·repeat' ((first|refine tX 0 ?_|exact Zt|refine bR ?_ ?_<;>intro h)<;>(try conv=>whnf))
    all_goals first|exact Zo|exact gX (eU (fh hx)).symm |(exact absurd (by simpa using h) hx)
  ·obtain rfl:i=a.length:=by omega
   have e:a=b:=by rw[o0 (dz _),o0 K0]at he;exact he
   repeat' ((first|refine tX 0 ?_|exact Zt|refine bR ?_ ?_<;>intro h)<;>(try conv=>whnf))
   all_goals first|exact Zo|exact gX (fG e).symm
 ·refine sF f33 ?_;repeat' ((first|refine tX 0 ?_|exact Zt|refine bR ?_ ?_<;>intro h)<;>(try conv=>whnf))
  all_goals first|exact Zo|exact gX (eU λe=>h0 (by rw[e])).symm
def KE (l:List aj):Prop:=l.length<=10/\∀i<l.length,(l.getD i []).length <=20
noncomputable instance (l:List aj):Decidable (KE l):=Classical.propDecidable _
def rZ (l:List aj)(hl:l.length<=9223372036854775807):ac 42 [V1 l] (.one (Bo (decide (KE l)))):=by
 have hn:(ab l).length =l.length:=by simp
 by_cases h0:l.length<=10
 ·refine sF f42 ?_
  (try(refine tX 0 ?_;try exact Zt))
  refine af (ι:=Nat) (λi=>i<=l.length/\∀j<i,(l.getD j []).length <=20) (λi=>l.length -i) (λi=>⟨[(0,some (.val (false,[.st (.view (ab l))]))),(3,vI i)],[],0⟩) 0 Zc ⟨dM _,λj hj=>by omega⟩ ?_;rintro i ⟨hi,hp⟩;by_cases ak:i<l.length
  ·have he:=sA ak;have dy:20< (l.getD i []).length ->¬KE l:=λh hh=>by have:=hh.2 i ak;omega
   have iU:(l.getD i []).length <=20->∀j<i+1,(l.getD j []).length <=20:=λh j hj=>by
    by_cases e:j=i
    ·subst e;exact h
    ·exact hp j K0
   generalize l.getD i []=s at*;repeat' ((first|refine tX 0 ?_|exact Zt|refine bR ?_ ?_<;>intro h)<;>(try conv=>whnf))
   all_goals first|exact Zo|exact gX (eU (dy K0)).symm |exact⟨i+1,⟨ak,iU K0⟩,by omega,Zc⟩
  ·exact ahU
 ·refine sF f42 ?_;exact K72
def aaV (p:Pl)(i:Nat):Prop:=(p.ae.getD i ([],0)).1.length <=20
def aaW (p:Pl)(i:Nat):Prop:=(p.aa.getD i dk).name.length <=20/\(p.aa.getD i dk).rules.length <=100/\KE (p.aa.getD i dk).bu
def aaX (p:Pl)(i:Nat):Prop:=(p.parts.getD i ([],[])).1.length <=20/\KE (p.parts.getD i ([],[])).2
def adP (p:Pl):Prop:=p.ae.length<=10/\p.ap.length<=6/\p.aa.length<=10/\p.parts.length<=8
def Ot (p:Pl):Prop:=adP p/\(∀i<p.ae.length,aaV p i)/\(∀i<p.aa.length,aaW p i)/\(∀i<p.parts.length,aaX p i)/\KE p.ap
noncomputable instance (p:Pl):Decidable (Ot p):=Classical.propDecidable _
def WN {p:Pl}(h:Ot p):io p:=by
 obtain⟨⟨a1,a2,a3,a4⟩,b1,b2,b3,b4,b5⟩:=h;refine⟨by omega,by omega,by omega,by omega,λi hi=>?_,λi hi=>?_,λi hi=>?_,λi hi=>?_,λi hi=>?_,λi hi=>?_,λi hi=>?_⟩
 ·have:_<=20:=b1 i hi;omega
 ·have:=b5 i hi;omega
 ·have:=(b2 i hi).1;omega
 ·have:=(b2 i hi).2.2.1;omega
 ·have:=(b2 i hi).2.1;omega
 ·have:=(b3 i hi).1;omega
 ·have:=(b3 i hi).2.1;omega
def vm {q:Nat->Prop}{i:Nat}(h: ∀j<i,q j)(k:q i): ∀j<i+1,q j:=λj hj=>by
 by_cases e:j=i
 ·subst e;exact k
 ·exact h j K0
end Go.Proofs.Tryz
