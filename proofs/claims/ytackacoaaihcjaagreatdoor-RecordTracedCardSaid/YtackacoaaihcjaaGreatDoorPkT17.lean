import Derived.Test.YtackacoaaihcjaaGreatDoorPkT14
set_option linter.all false
set_option maxRecDepth 100000
set_option maxHeartbeats 8000000
namespace Go.Proofs.Tryz
open Go.Fw Go.IntWalk Go.Plain
def alT {p:Pl}{i:Nat}(h:gW (cO p.aa) i≠0):p.gK jK i=gW (cO p.aa) i:=by grind[Pl.gK,eR]
def alU {p:Pl}{i:Nat}(h:gW (cO p.aa) i=0):p.gK jK i=Vp jK p.aa i:=by grind[Pl.gK,ji]
def Of {l all:List aj}{k:Nat}(h:k<l.length)(h0: ∀j<k,D3 l all j=0)(h1:D3 l all k≠0):jP l all=D3 l all k:=by grind[jP,fK]
def Og {l all:List aj}(h0: ∀j<l.length,D3 l all j=0):jP l all=0:=by grind[jP,gT]
def Ff {p:Pl}(hs:io p)(i:Nat)(ak:i<p.aa.length):ad 230 [(true,bU p),(false,[.view (ab ((cO p.aa).take (i+1)))]),I i] (.one (I (p.gK jK i))):=by
 have zI:(cO p.aa).length =p.aa.length:=by simp[cO]
 have vN:(p.aa.map fC).length =p.aa.length:=by simp
 have hte:=hs.te;have he:=iN ak;have aou:=hs.td i ak;have hru:=hs.tr i ak;have hnm:=hs.tn i ak;have e8:=k8 ((cO p.aa).take (i+1)) i br br (by grind[cO]);rw[AD K0]at e8
 delta V1 at e8
 have ea:=alT (p:=p) (i:=i);have eb:=alU (p:=p) (i:=i);have ta:=ae3 (re:=jK) (l:=p.aa) (i:=i);have tb:=ae4 (re:=jK) (l:=p.aa) (i:=i);have tc:=ae5 (re:=jK) (l:=p.aa) (i:=i);have td:=ae6 (re:=jK) (l:=p.aa) (i:=i);have zA:=k5 (p.aa.getD i dt).rules hru;have hre:(iD (eC (av 59 (p.aa.getD i dt).rules))).2=jK (p.aa.getD i dt).rules :=rfl;have BG:Qb p.aa (p.aa.getD i dt)=if(p.aa.getD i dt).kind =2 then(if(p.aa.getD i dt).bu.length =0 then 10 else if(p.aa.getD (aZ (cO p.aa) ((p.aa.getD i dt).bu.getD 0 [])).toNat dt).kind =1 then 0 else 3)else 0:=rfl
 have zx:(ab ((cO p.aa).take (i+1))).take i=ab ((cO p.aa).take i):=by grind
 have htl:(ab ((cO p.aa).take (i+1))).length =i+1:=by grind
 have hai:=λk=>Of (k:=k) (l:=(p.aa.getD i dt).bu) (all:=(cO p.aa).take i);have han:=Og (l:=(p.aa.getD i dt).bu) (all:=(cO p.aa).take i);have hz:=Es (l:=(p.aa.getD i dt).bu) (all:=(cO p.aa).take i);have pE:bU p= [.view (p.ae.map m9),.view (ab p.ap),.view (p.aa.map fC),.view (p.parts.map mi),J p.dW,J p.eH]:=rfl;generalize ht:p.aa.getD i dt=t at*
 rcases t with⟨nm,kd,nd,ru,lo,hi⟩;have he:(p.aa.map fC)[i]? =some [T nm,J kd,.view (ab nd),T ru,J lo,J hi]:=he;dsimp only at*;have AM:(ab nd).length =nd.length:=by simp
 have zA:ad 76 [SS ru] (.aJ [Ru (iD (eC (av 59 ru))).1.1 (iD (eC (av 59 ru))).1.2.1 (iD (eC (av 59 ru))).1.2.2,I (jK ru)]):=zA;by_cases h0:gW (cO p.aa) i=0
 ·rw[eb h0];rw[h0]at e8;by_cases h1:0<=kd/\kd<=3
  ·refine sF f230 ?_;repeat((first|(refine kO 7 rfl ?_;first|refine Rq (ec _ _ _) ?_)|refine tX 0 ?_|exact Zt);(try conv=>whnf))
   refine af (ι:=Nat) (λk=>k<=nd.length/\∀j<k,D3 nd ((cO p.aa).take i) j=0) (λk=>nd.length -k) (λk=>⟨[(1,some (.val (false,[.st (.view (ab ((cO p.aa).take (i+1))))]))),(2,vI i),(3,pP 0),(7,pP 1),(9,vI k)],[(0,some (bxP p)),(1,some (.box 54 [.st (T nm),.st (J kd),.st (.view (ab nd)),.st (T ru),.st (J lo),.st (J hi)]))],2⟩) 0 Zc ⟨dC _,λj hj=>by omega⟩ ?_;rintro k ⟨hk,hp⟩;by_cases uD:k<nd.length
   ·have RL:=sA uD;have O6:D3 nd ((cO p.aa).take i) k=if nd.getD k []∈(cO p.aa).take i then(if nd.getD k []∈nd.take k then 23 else 0)else 6:=rfl
    have iT:=λ(h:D3 nd ((cO p.aa).take i) k=0)=>all_succ (f:=D3 nd ((cO p.aa).take i)) hp h;have hra:=hai k uD hp
    have c1:ad 19 [(false,[.view (ab (((cO p.aa).take (i+1)).take i))]),SS (nd.getD k [])] (.one (Bo (decide (nd.getD k []∈(cO p.aa).take i)))):=by
     rw[List.take_take,Nat.min_eq_left K0];exact cj _ _ br
    have c2:ad 19 [(false,[.view (ab (nd.take k))]),SS (nd.getD k [])] (.one (Bo (decide (nd.getD k []∈nd.take k)))):=cj _ _ br;have aos:(ab nd).take k=ab (nd.take k):=by simp
    generalize nd.getD k []=s at*;by_cases q1:s∈(cO p.aa).take i
    ·rw[if_pos q1]at O6;rw[fH q1]at c1;by_cases q2:s∈nd.take k
     ·rw[if_pos q2]at O6;rw[fH q2]at c2;rw[tb h1 br,hra (by rw[O6];decide),O6];exact tL
     ·rw[if_neg q2]at O6;rw[eT q2]at c2;repeat' ((first|refine tX 0 ?_|exact Zt|refine bR ?_ ?_<;>intro h)<;>(try conv=>whnf))
      all_goals first|exact Zo|exact⟨k+1,⟨uD,iT O6⟩,by omega,Zc⟩
    ·rw[if_neg q1]at O6;rw[eT q1]at c1;rw[tb h1 br,hra (by rw[O6];decide),O6];exact tL
   ·obtain rfl:k=nd.length:=by omega
    have hA:=han hp;have hz:=hz hA;clear hai han ta tb e8;have tc:=tc h1 hA;have td:=td h1 hA;by_cases h3:kd=2
    ·rw[if_pos h3]at BG;by_cases h4:nd.length=0
     ·rw[if_pos h4]at BG;rw[tc br,BG];exact tL
     ·have abl:0<nd.length:=by omega
      obtain⟨OR,_⟩:=hz 0 abl;have RS:=sA abl;obtain⟨k0,Xi,hk0⟩:=k6 (FU OR);have W0:=pR p (nd.getD 0 []) hte;rw[hk0,pE]at W0;have FR:k0<p.aa.length:=by omega
      have RL:=iN FR;rw[if_neg h4,hk0,sB]at BG;generalize nd.getD 0 []=n0 at*;generalize p.aa.getD k0 dt=t0 at*
      rcases t0 with⟨nm0,kd0,nd0,ru0,lo0,zE⟩;have RL:(p.aa.map fC)[k0]? =some [T nm0,J kd0,.view (ab nd0),T ru0,J lo0,J zE]:=RL;dsimp only at BG;by_cases h5:kd0=1
      ·rw[if_pos h5]at BG;rw[td BG,if_pos (show sf kd from .inr h3)];by_cases h6:jK ru=0
       ·rw[h6,ji];rw[h6]at zA;exact K48
       ·exact ako
      ·rw[if_neg h5]at BG;rw[tc br,BG];exact tL
    ·rw[if_neg h3]at BG;rw[td BG];by_cases h5:kd=1
     ·rw[if_pos (show sf kd from .inl h5)];by_cases h6:jK ru=0
      ·rw[h6,ji];rw[h6]at zA;exact K48
      ·exact ako
     ·rw[if_neg (show ¬sf kd by grind[sf])];by_cases h6:ru= []
      ·rw[if_pos h6,ji];subst h6;exact K48
      ·rw[if_neg h6,eR K9];exact tL
  ·rw[ta h1];refine sF f230 ?_;exact tL
 ·rw[ea h0];generalize gW (cO p.aa) i=e at*;refine sF f230 ?_;exact tL
theorem T1 {n m:Nat}(h:m<n):ku n m=8:=by unfold ku;grind
theorem afc {n m:Nat}(h:n<=m):ku n m=0:=by unfold ku;grind
def Kv {p:Pl}(hs:io p):ad 160 [(true,bU p)] (.aJ (Q4 (oW (0,ku p.aa.length 8) (cM (p.gK jK) p.aa.length)))):=by
 have hn:(p.aa.map fC).length =p.aa.length:=by simp
 have zI:(cO p.aa).length =p.aa.length:=by simp[cO]
 have hte:=hs.te;have pE:bU p= [.view (p.ae.map m9),.view (ab p.ap),.view (p.aa.map fC),.view (p.parts.map mi),J p.dW,J p.eH]:=rfl;by_cases h8:8<p.aa.length
 ·rw[pS (by grind[T1]),T1 h8];refine sF f160 ?_;exact tA
 rw[BE (by grind[afc])];refine sF f160 ?_
 (try(refine tX 0 ?_;try exact Zt))
 refine af (ι:=Nat) (λi=>i<=p.aa.length/\∀j<i,p.gK jK j=0) (λi=>p.aa.length -i) (λi=>⟨[(1,pP 0),(4,pO 1),(5,vI i)],[(0,some (bxP p)),(1,some (.row true 1 (.view (ab ((cO p.aa).take i)))))],2⟩) 0 (bs.trans (jz 4 1 (.view []) K9 rfl rfl rfl) Zc) ⟨dC _,λj hj=>by omega⟩ ?_;rintro i ⟨hi,hp⟩;by_cases ak:i<p.aa.length
 ·have he:=iN ak;have hg:=rx ak;have vP:=take_succ (l:=cO p.aa) (i:=i) K0;have e8:=Ff hs i ak;have eL:=λ(h:p.gK jK i≠0)=>fK (f:=p.gK jK) ak hp h;have iT:=λ(h:p.gK jK i=0)=>all_succ (f:=p.gK jK) hp h;have vN:(ab ((cO p.aa).take i)).length <=1000:=by grind
  rw[hg]at vP;rw[vP,lV,pE]at e8;generalize p.aa.getD i dt=x at*
  rcases x with⟨nm,kd,nd,ru,lo,kA⟩;have he:(p.aa.map fC)[i]? =some [T nm,J kd,.view (ab nd),T ru,J lo,J kA]:=he;dsimp only at e8 vP;by_cases h1:p.gK jK i=0
  ·rw[h1]at e8;repeat' ((first|refine tX 0 ?_|exact Zt|refine bR ?_ ?_<;>intro h)<;>(try conv=>whnf))
   all_goals first|exact Zo|exact⟨i+1,⟨ak,iT h1⟩,by omega,ai abJ⟩|(exact absurd rfl h)
  ·rw[eL h1];generalize p.gK jK i=e at*;exact tA
 ·obtain rfl:i=p.aa.length:=by omega
  rw[gT hp];exact tA
def alV {p:Pl}{i:Nat}(h:gW p.bd i≠0):p.je i=gW p.bd i:=by grind[Pl.je,eR]
def alW {p:Pl}{i:Nat}(h:gW p.bd i=0):p.je i=jP (p.parts.getD i ([],[])).2 (cO p.aa):=by grind[Pl.je,ji]
def adF {l:List aj}{x:aj}:aZ l x<0↔x∉l:=by
 unfold aZ
 grind
def Kw {p:Pl}(hs:io p):ad 161 [(true,bU p)] (.aJ (Q4 (oW (0,ku p.parts.length 6) (cM p.je p.parts.length)))):=by
 have hn:(p.parts.map mi).length =p.parts.length:=by simp
 have zI:p.bd.length=p.parts.length:=by simp[Pl.bd]
 have hpa:=hs.pa;have pE:bU p= [.view (p.ae.map m9),.view (ab p.ap),.view (p.aa.map fC),.view (p.parts.map mi),J p.dW,J p.eH]:=rfl;by_cases h8:6<p.parts.length
 ·rw[pS (by grind[T1]),T1 h8];refine sF f161 ?_;exact tL
 rw[BE (by grind[afc])];refine sF f161 ?_
 (try(refine tX 0 ?_;try exact Zt))
 refine af (ι:=Nat) (λi=>i<=p.parts.length/\∀j<i,p.je j=0) (λi=>p.parts.length -i) (λi=>⟨[(1,pP 0),(4,pO 1),(5,vI i)],[(0,some (bxP p)),(1,some (.row true 1 (.view (ab (p.bd.take i)))))],2⟩) 0 (bs.trans (jz 4 1 (.view []) K9 rfl rfl rfl) Zc) ⟨dC _,λj hj=>by omega⟩ ?_;rintro i ⟨hi,hp⟩;by_cases ak:i<p.parts.length
 ·have he:=bg (f:=mi) ak ([],[]);have hg:p.bd.getD i []=(p.parts.getD i ([],[])).1:=by grind[Pl.bd]
  have vP:=take_succ (l:=p.bd) (i:=i) K0;have hqv:=hs.qv i ak;have e8:=k8 (p.bd.take (i+1)) i br br (by rw[show(p.bd.take (i+1)).getD i []=p.bd.getD i []by grind,hg];exact hs.qn i ak);rw[AD K0]at e8;have hea:=alV (p:=p) (i:=i);have Pg:=alW (p:=p) (i:=i);have eL:=λ(h:p.je i≠0)=>fK (f:=p.je) ak hp h;have iT:=λ(h:p.je i=0)=>all_succ hp h;have vN:(ab (p.bd.take i)).length <=1000:=by grind
  rw[hg]at vP;rw[vP]at e8
  delta V1 at e8
  rw[lV]at e8;generalize p.parts.getD i ([],[])=x at*
  rcases x with⟨nm,vs⟩;have he:(p.parts.map mi)[i]? =some [T nm,.view (ab vs)]:=he;dsimp only at e8 vP Pg hqv;by_cases h1:gW p.bd i=0
  ·rw[h1]at e8;have Pg:=Pg h1;have WZ:(ab vs).length =vs.length:=by simp
   (try(refine tX 0 ?_;try exact Zt))
   refine af (ι:=Nat) (λk=>k<=vs.length/\∀j<k,D3 vs (cO p.aa) j=0) (λk=>vs.length -k) (λk=>⟨[(1,pP 0),(4,pO 1),(5,vI i),(6,pP 2),(8,vI k)],[(0,some (bxP p)),(1,some (.row true 1 (.view (ab (p.bd.take (i+1)))))),(2,some (.box 106 [.st (T nm),.st (.view (ab vs))]))],3⟩) 0 (ai abJ) ⟨dC _,λj hj=>by omega⟩ ?_;rintro k ⟨hk,hq⟩;by_cases uD:k<vs.length
   ·have RL:=sA uD;have O6:D3 vs (cO p.aa) k=if vs.getD k []∈cO p.aa then(if vs.getD k []∈vs.take k then 23 else 0)else 6:=rfl
    have hnk:=λ(h:D3 vs (cO p.aa) k=0)=>all_succ (f:=D3 vs (cO p.aa)) hq h;have hra:=Of (l:=vs) (all:=cO p.aa) uD hq;have c1:=pR p (vs.getD k []) hs.te;have c2:ad 19 [(false,[.view (ab (vs.take k))]),SS (vs.getD k [])] (.one (Bo (decide (vs.getD k []∈vs.take k)))):=cj _ _ br;have zJ:=adF (l:=cO p.aa) (x:=vs.getD k []);rw[pE]at c1;generalize vs.getD k []=s at*;generalize aZ (cO p.aa) s=ix at*;by_cases q1:s∈cO p.aa
    ·have W0: ¬ix<0:=λh=>zJ.1 h q1;rw[if_pos q1]at O6;by_cases q2:s∈vs.take k
     ·rw[if_pos q2]at O6;rw[fH q2]at c2;have O1:=hra br;rw[O6]at O1;rw[O1]at Pg;rw[eL br,Pg];exact tL
     ·rw[if_neg q2]at O6;rw[eT q2]at c2;repeat' ((first|refine tX 0 ?_|exact Zt|refine bR ?_ ?_<;>intro h)<;>(try conv=>whnf))
      all_goals first|exact Zo|exact⟨k+1,⟨uD,hnk O6⟩,by omega,Zc⟩
    ·have W0:ix<0:=zJ.2 q1;rw[if_neg q1]at O6;have O1:=hra br;rw[O6]at O1;rw[O1]at Pg;rw[eL br,Pg];exact tL
   ·obtain rfl:k=vs.length:=by omega
    rw[Og hq]at Pg;exact tL
  ·rw[eL br,hea h1];generalize gW p.bd i=e at*;exact tL
 ·obtain rfl:i=p.parts.length:=by omega
  rw[gT hp];exact tL
def Wv (a b c:Int × Int):oW (oW a b) c=oW a (oW b c):=by
 unfold oW;by_cases h:a.2≠0
 ·rw[if_pos h,if_pos h,if_pos h]
 ·rw[if_neg h,if_neg h]
def Ww (p:Pl):p.err jK=oW (oW (0,pI p.ae.length 8) (cM p.dn p.ae.length)) (oW (oW (0,pI p.ap.length 4) (cM (gW p.ap) p.ap.length))
  (oW (oW (0,ku p.aa.length 8) (cM (p.gK jK) p.aa.length)) (oW (oW (0,ku p.parts.length 6) (cM p.je p.parts.length)) (0,if(0<=p.dW/\p.dW<=1000)/\0<=p.eH/\p.eH<=1000000000000 then 0 else 2)))):=by
 simp only[Wv];rfl
def zj {p:Pl}(hs:io p):ad 88 [(true,bU p)] (.aJ (Q4 (p.err jK))):=by
 have c1:=GC hs;have c2:=Ku hs;have c3:=Kv hs;have c4:=Kw hs;have pE:bU p= [.view (p.ae.map m9),.view (ab p.ap),.view (p.aa.map fC),.view (p.parts.map mi),J p.dW,J p.eH]:=rfl;rw[Ww];generalize oW (0,pI p.ae.length 8) (cM p.dn p.ae.length)=r1 at*;generalize oW (0,pI p.ap.length 4) (cM (gW p.ap) p.ap.length)=r2 at*;generalize oW (0,ku p.aa.length 8) (cM (p.gK jK) p.aa.length)=r3 at*;generalize oW (0,ku p.parts.length 6) (cM p.je p.parts.length)=r4 at*;have c1:ad 158 [(true,[.view (p.ae.map m9),.view (ab p.ap),.view (p.aa.map fC),.view (p.parts.map mi),J p.dW,J p.eH])] (.aJ [I r1.1,I r1.2]):=c1;have c2:ad 159 [(true,[.view (p.ae.map m9),.view (ab p.ap),.view (p.aa.map fC),.view (p.parts.map mi),J p.dW,J p.eH])] (.aJ [I r2.1,I r2.2]):=c2;have c3:ad 160 [(true,[.view (p.ae.map m9),.view (ab p.ap),.view (p.aa.map fC),.view (p.parts.map mi),J p.dW,J p.eH])] (.aJ [I r3.1,I r3.2]):=c3;have c4:ad 161 [(true,[.view (p.ae.map m9),.view (ab p.ap),.view (p.aa.map fC),.view (p.parts.map mi),J p.dW,J p.eH])] (.aJ [I r4.1,I r4.2]):=c4;by_cases h1:r1.2=0
 ·rw[BE h1];rw[h1]at c1;by_cases h2:r2.2=0
  ·rw[BE h2];rw[h2]at c2;by_cases h3:r3.2=0
   ·rw[BE h3];rw[h3]at c3;by_cases h4:r4.2=0
    ·rw[BE h4];rw[h4]at c4;by_cases h5:(0<=p.dW/\p.dW<=1000)/\0<=p.eH/\p.eH<=1000000000000
     ·rw[if_pos h5];refine sF f88 ?_;exact K16
     ·rw[if_neg h5];refine sF f88 ?_;exact K16
    ·rw[pS h4];exact ab9
   ·rw[pS h3];exact ab9
  ·rw[pS h2];exact ab9
 ·rw[pS h1];exact ab9
def BW {p:Pl}(hs:io p):ad 43 [(true,bU p)] (.one (I (p.err jK).2)):=by
 have h:=zj hs;have h:ad 88 [(true,bU p)] (.aJ [I (p.err jK).1,I (p.err jK).2]):=h;refine sF f43 ?_;exact K1
def dy (l:List aj)(hl:l.length<=1000000):ad 46 [V1 l] (.own 1 (.view (ab l))):=by
 have hn:(ab l).length =l.length:=by simp
 refine sF f46 ?_;exact K1
def Wx (nm:aj)(vs out nd:List aj)(n:Nat):Prop:=nm∈vs\/∃x∈nd.take n,x∈out
noncomputable instance (nm:aj)(vs out nd:List aj)(n:Nat):Decidable (Wx nm vs out nd n):=Classical.propDecidable _
def aaL {nm:aj}{vs out nd:List aj}{n:Nat}(h:n<nd.length):Wx nm vs out nd (n+1)↔Wx nm vs out nd n\/nd.getD n []∈out:=by
 unfold Wx;constructor
 ·rintro(a|⟨x,hx,ho⟩)
  ·exact .inl (.inl a)
  ·rcases(iL h).1 hx with hx|rfl
   ·exact .inl (.inr ⟨x,hx,ho⟩)
   ·exact .inr ho
 ·rintro((a|⟨x,hx,ho⟩)|ho)
  ·exact .inl a
  ·exact .inr ⟨x,(iL h).2 (.inl hx),ho⟩
  ·exact .inr ⟨_,(iL h).2 (.inr rfl),ho⟩
def GD {p:Pl}(hs:io p)(k:Nat)(hk:k<p.parts.length):ad 49 [(true,bU p),I k] (.own 1 (.view (ab (jj p.aa (p.parts.getD k ([],[])).2)))):=by
 have hn:(p.aa.map fC).length =p.aa.length:=by simp
 have hnp:(p.parts.map mi).length =p.parts.length:=by simp
 have RL:=bg (f:=mi) hk ([],[]);have hqv:=hs.qv k hk;have hte:=hs.te;have hpa:=hs.pa;generalize p.parts.getD k ([],[])=q at*
 rcases q with⟨qn,vs⟩;have RL:(p.parts.map mi)[k]? =some [T qn,.view (ab vs)]:=RL;dsimp only at*;refine sF f49 ?_
 (try(refine tX 0 ?_;try exact Zt))
 refine af (ι:=Nat) (λi=>i<=p.aa.length) (λi=>p.aa.length -i) (λi=>⟨[(1,vI k),(2,pP 0),(5,pO 1),(6,vI i)],[(0,some (bxP p)),(1,some (.row true 1 (.view (ab (jj (p.aa.take i) vs)))))],2⟩) 0 (bs.trans (jz 5 1 (.view []) K9 rfl rfl rfl) Zc) (dC _) ?_;intro i hi;by_cases ak:i<p.aa.length
 ·have he:=iN ak;have xB:=Bl (voids:=vs) ak;have WZ:=rq (p.aa.take i) vs;have AM:=hs.td i ak;have an9:(p.aa.take i).length =i:=by simp;omega
  unfold HM at xB;generalize jj (p.aa.take i) vs=out at*;generalize p.aa.getD i dt=t at*
  rcases t with⟨nm,kd,nd,ru,lo,kA⟩;have he:(p.aa.map fC)[i]? =some [T nm,J kd,.view (ab nd),T ru,J lo,J kA]:=he;dsimp only at xB AM;have hol:(ab out).length =out.length:=by simp
  have zI:(ab nd).length =nd.length:=by simp
  have c0:ad 19 [(false,[.view (ab vs)]),SS nm] (.one (Bo (decide (nm∈vs)))):=cj _ _ K0;have v0:decide (nm∈vs)=decide (Wx nm vs out nd 0):=by rw[sD];simp only[wB];unfold Wx;simp
  rw[v0]at c0;have Pb:Wx nm vs out nd nd.length↔nm∈vs\/∃x∈nd,x∈out:=by unfold Wx;rw[o0 (dw _)]
  (try(refine tX 0 ?_;try exact Zt))
  refine af (ι:=Nat) (λn=>n<=nd.length) (λn=>nd.length -n) (λn=>⟨[(1,vI k),(2,pP 0),(5,pO 1),(6,vI i),(7,pP 2),(8,some (.val (false,[.st (.lit (.bool (decide (Wx nm vs out nd n))))]))),(9,vI n)],[(0,some (bxP p)),(1,some (.row true 1 (.view (ab out)))),(2,some (.box 54 [.st (T nm),.st (J kd),.st (.view (ab nd)),.st (T ru),.st (J lo),.st (J kA)]))],3⟩) 0 Zc (dC _) ?_;intro n IE;by_cases hnlt:n<nd.length
  ·have hen:=sA hnlt;have Xn:=aaL (nm:=nm) (vs:=vs) (out:=out) hnlt;have c1:ad 19 [(false,[.view (ab out)]),SS (nd.getD n [])] (.one (Bo (decide (nd.getD n []∈out)))):=cj _ _ K0;generalize nd.getD n []=s at*;by_cases h1:Wx nm vs out nd n
   ·have h2:Wx nm vs out nd (n+1):=Xn.2 (.inl h1);rw[fH h1];repeat' ((first|refine tX 0 ?_|exact Zt|refine bR ?_ ?_<;>intro h)<;>(try conv=>whnf))
    all_goals first|exact Zo|exact⟨n+1,hnlt,by omega,ai (by dsimp only;rw[fH h2];kernel_rfl)⟩
   ·rw[eT h1];have h2:decide (Wx nm vs out nd (n+1))=decide (s∈out):=by rw[sD];simp only[wB];exact⟨λh=>(Xn.1 h).resolve_left h1,λh=>Xn.2 (.inr h)⟩
    repeat' ((first|refine tX 0 ?_|exact Zt|refine bR ?_ ?_<;>intro h)<;>(try conv=>whnf))
    all_goals first|exact Zo|exact⟨n+1,hnlt,by omega,ai (by dsimp only;rw[h2];kernel_rfl)⟩
  ·obtain rfl:n=nd.length:=by omega
   by_cases h1:Wx nm vs out nd nd.length
   ·rw[fH h1];rw[if_pos (Pb.1 h1)]at xB;exact K22
   ·rw[eT h1];rw[if_neg (λh=>h1 (Pb.2 h))]at xB;exact K30
 ·exact ai3
def It (a b:List aj)(ha:a.length<=1000000)(hb:b.length<=1000000):ad 33 [V1 a,V1 b] (.one (Bo (decide (a=b)))):=by
 have hna:(ab a).length =a.length:=by simp
 have hnb:(ab b).length =b.length:=by simp
 by_cases h0:a.length=b.length
 ·refine sF f33 ?_
  (try(refine tX 0 ?_;try exact Zt))
  refine af (ι:=Nat) (λi=>i<=a.length/\a.take i=b.take i) (λi=>a.length -i) (λi=>⟨[(0,some (.val (false,[.st (.view (ab a))]))),(1,some (.val (false,[.st (.view (ab b))]))),(5,vI i)],[],0⟩) 0 Zc ⟨dC _,rfl⟩ ?_;rintro i ⟨hi,he⟩;by_cases ak:i<a.length
  ·have h1:=sA ak;have hlb:i<b.length:=by omega
   have h2:=sA hlb;have t1:=take_succ ak;have t2:=take_succ hlb;have e8:a.getD i []≠b.getD i []->a≠b:=λh e=>h (by rw[e]);rw[he]at t1;generalize a.getD i []=x at*;generalize b.getD i []=y at*;by_cases hx:x=y
   ·subst hx;repeat' ((first|refine tX 0 ?_|exact Zt|refine bR ?_ ?_<;>intro h)<;>(try conv=>whnf))
    all_goals first|exact Zo|exact⟨i+1,⟨ak,by rw[t1,t2]⟩,by omega,Zc⟩|(exact absurd rfl h)
   ·repeat' ((first|refine tX 0 ?_|exact Zt|refine bR ?_ ?_<;>intro h)<;>(try conv=>whnf))
    all_goals first|exact Zo|exact gX (eT (e8 hx)).symm |(exact absurd (by simpa using h) hx)
  ·obtain rfl:i=a.length:=by omega
   have e:a=b:=by rw[o0 (dw _),o0 K0]at he;exact he
   repeat' ((first|refine tX 0 ?_|exact Zt|refine bR ?_ ?_<;>intro h)<;>(try conv=>whnf))
   all_goals first|exact Zo|exact gX (fH e).symm
 ·refine sF f33 ?_;repeat' ((first|refine tX 0 ?_|exact Zt|refine bR ?_ ?_<;>intro h)<;>(try conv=>whnf))
  all_goals first|exact Zo|exact gX (eT λe=>h0 (by rw[e])).symm
def Ky (l:List aj):Prop:=l.length<=10/\∀i<l.length,(l.getD i []).length <=20
noncomputable instance (l:List aj):Decidable (Ky l):=Classical.propDecidable _
def rR (l:List aj)(hl:l.length<=9223372036854775807):ad 42 [V1 l] (.one (Bo (decide (Ky l)))):=by
 have hn:(ab l).length =l.length:=by simp
 by_cases h0:l.length<=10
 ·refine sF f42 ?_
  (try(refine tX 0 ?_;try exact Zt))
  refine af (ι:=Nat) (λi=>i<=l.length/\∀j<i,(l.getD j []).length <=20) (λi=>l.length -i) (λi=>⟨[(0,some (.val (false,[.st (.view (ab l))]))),(3,vI i)],[],0⟩) 0 Zc ⟨dC _,λj hj=>by omega⟩ ?_;rintro i ⟨hi,hp⟩;by_cases ak:i<l.length
  ·have he:=sA ak;have dx:20< (l.getD i []).length ->¬Ky l:=λh hh=>by have:=hh.2 i ak;omega
   have iT:(l.getD i []).length <=20->∀j<i+1,(l.getD j []).length <=20:=λh j hj=>by
    by_cases e:j=i
    ·subst e;exact h
    ·exact hp j K0
   generalize l.getD i []=s at*;repeat' ((first|refine tX 0 ?_|exact Zt|refine bR ?_ ?_<;>intro h)<;>(try conv=>whnf))
   all_goals first|exact Zo|exact gX (eT (dx K0)).symm |exact⟨i+1,⟨ak,iT K0⟩,by omega,Zc⟩
  ·exact ahS
 ·refine sF f42 ?_;exact K72
def aaM (p:Pl)(i:Nat):Prop:=(p.ae.getD i ([],0)).1.length <=20
def aaN (p:Pl)(i:Nat):Prop:=(p.aa.getD i dt).name.length <=20/\(p.aa.getD i dt).rules.length <=100/\Ky (p.aa.getD i dt).bu
def aaO (p:Pl)(i:Nat):Prop:=(p.parts.getD i ([],[])).1.length <=20/\Ky (p.parts.getD i ([],[])).2
def adH (p:Pl):Prop:=p.ae.length<=10/\p.ap.length<=6/\p.aa.length<=10/\p.parts.length<=8
def Oi (p:Pl):Prop:=adH p/\(∀i<p.ae.length,aaM p i)/\(∀i<p.aa.length,aaN p i)/\(∀i<p.parts.length,aaO p i)/\Ky p.ap
noncomputable instance (p:Pl):Decidable (Oi p):=Classical.propDecidable _
def Wy {p:Pl}(h:Oi p):io p:=by
 obtain⟨⟨a1,a2,a3,a4⟩,b1,b2,b3,b4,b5⟩:=h;refine⟨by omega,by omega,by omega,by omega,λi hi=>?_,λi hi=>?_,λi hi=>?_,λi hi=>?_,λi hi=>?_,λi hi=>?_,λi hi=>?_⟩
 ·have:_<=20:=b1 i hi;omega
 ·have:=b5 i hi;omega
 ·have:=(b2 i hi).1;omega
 ·have:=(b2 i hi).2.2.1;omega
 ·have:=(b2 i hi).2.1;omega
 ·have:=(b3 i hi).1;omega
 ·have:=(b3 i hi).2.1;omega
def vn {q:Nat->Prop}{i:Nat}(h: ∀j<i,q j)(k:q i): ∀j<i+1,q j:=λj hj=>by
 by_cases e:j=i
 ·subst e;exact k
 ·exact h j K0
end Go.Proofs.Tryz
