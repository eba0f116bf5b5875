import Derived.Test.YtackacoaaihcjaaGreatDoorPkM5
set_option linter.all false
set_option maxRecDepth 100000
set_option maxHeartbeats 8000000
namespace Go.Proofs.Tryz
open Go.Fw Go.IntWalk Go.Plain
abbrev bxP (p:Pl):cD:=.box 27 ((bE p).map .st)
def al3 {p:Pl}{i:Nat}(h:gW p.ay i≠0):p.dx i=gW p.ay i:=by unfold Pl.dx;exact eS h _
def al4 {p:Pl}{i:Nat}(h:gW p.ay i=0):p.dx i=if 0<=(p.ae.getD i ([],0)).2/\(p.ae.getD i ([],0)).2<=3 then 0 else 15:=by unfold Pl.dx;rw[h,jn]
def pZ {a b:Int × Int}(h:a.2≠0):o8 a b=a:=if_pos h
def BM {a b:Int × Int}(h:a.2=0):o8 a b=b:=if_neg U1
def Uc {n m:Nat}(h:n=0):pR n m=10:=by subst h;rfl
def Ud {n m:Nat}(h0:0<n)(h:m<n):pR n m=8:=by unfold pR;rw[if_pos h0,if_neg K0]
def afk {n m:Nat}(h0:0<n)(h:n<=m):pR n m=0:=by unfold pR;rw[if_pos h0,if_pos h]
def GG {p:Pl}(hs:ii p):ac 158 [(true,bE p)] (.aI (Ra (o8 (0,pR p.ae.length 8) (cR p.dx p.ae.length)))):=by
 have hn:(p.ae.map nh).length =p.ae.length:=by simp
 have AX:p.ay.length=p.ae.length:=by simp[Pl.ay]
 have hpe:=hs.pe;by_cases h0:p.ae.length=0
 ·rw[pZ (by rw[Uc h0];decide),Uc h0];refine sF f158 ?_;exact tA
 by_cases h8:8<p.ae.length
 ·rw[pZ (by rw[Ud K0 h8];decide),Ud K0 h8];refine sF f158 ?_;exact tA
 rw[BM (by rw[afk K0 K0])];refine sF f158 ?_
 (try(refine tX 0 ?_;try exact Zt))
 refine af (ι:=Nat) (λi=>i<=p.ae.length/\∀j<i,p.dx j=0) (λi=>p.ae.length -i) (λi=>⟨[(1,pP 0),(4,pO 1),(5,vI i)],[(0,some (bxP p)),(1,some (.row true 1 (.view (ab (p.ay.take i)))))],2⟩) 0 (bp.trans (iG 4 1 (.view []) K9 rfl rfl rfl) Zc) ⟨dD _,λj hj=>by omega⟩ ?_;rintro i ⟨hi,hp⟩;by_cases ak:i<p.ae.length
 ·have he:=aV (f:=nh) ak ([],0);have hg:p.ay.getD i []=(p.ae.getD i ([],0)).1:=by rw[getD_at ak,getD_at K0];simp[Pl.ay]
  have vX:=take_succ (l:=p.ay) (i:=i) K0;have eU:=lj (p.ay.take (i+1)) i wa wa (by rw[show(p.ay.take (i+1)).getD i []=p.ay.getD i []by simp[jN],hg];exact hs.pn i ak);rw[AL K0]at eU;have hea:=al3 (p:=p) (i:=i);have Pp:=al4 (p:=p) (i:=i);have eM:=λ(h:p.dx i≠0)=>fI (f:=p.dx) ak hp h;have it:=λ(h:p.dx i=0)=>all_succ hp h;have vV:(ab (p.ay.take i)).length <=1000:=by simp;omega
  rw[hg]at vX;rw[vX]at eU
  delta V1 at eU
  rw[lY]at eU;generalize p.ae.getD i ([],0)=x at*;generalize gW p.ay i=e at*;by_cases h1:e=0
  ·have Pp:=Pp h1;by_cases h2:0<=x.2/\x.2<=3
   ·rw[if_pos h2]at Pp;repeat' ((first|(refine kO 7 rfl ?_;first|refine Rq (ep _ _ _) ?_)|refine tX 0 ?_|exact Zt|refine bR ?_ ?_<;>intro h)<;>(try conv=>whnf))
    all_goals first|exact Zo|exact⟨i+1,⟨ak,it Pp⟩,by omega,ai ab1⟩
   ·rw[if_neg h2]at Pp;rw[eM (by rw[Pp];decide),Pp];exact K16
  ·rw[eM (by rw[hea h1];exact h1),hea h1];exact K16
 ·obtain rfl:i=p.ae.length:=by omega
  rw[gT hp];exact tA
def Kv {p:Pl}(hs:ii p):ac 159 [(true,bE p)] (.aI (Ra (o8 (0,pR p.ap.length 4) (cR (gW p.ap) p.ap.length)))):=by
 have hn:(ab p.ap).length =p.ap.length:=by simp
 have hga:=hs.ga;by_cases h0:p.ap.length=0
 ·rw[pZ (by rw[Uc h0];decide),Uc h0];refine sF f159 ?_;exact tA
 by_cases h8:4<p.ap.length
 ·rw[pZ (by rw[Ud K0 h8];decide),Ud K0 h8];refine sF f159 ?_;exact tA
 rw[BM (by rw[afk K0 K0])];refine sF f159 ?_
 (try(refine tX 0 ?_;try exact Zt))
 refine af (ι:=Nat) (λi=>i<=p.ap.length/\∀j<i,gW p.ap j=0) (λi=>p.ap.length -i) (λi=>⟨[(1,pP 0),(4,vI i)],[(0,some (bxP p))],1⟩) 0 Zc ⟨dD _,λj hj=>by omega⟩ ?_;rintro i ⟨hi,hp⟩;by_cases ak:i<p.ap.length
 ·have eU:=lj p.ap i ak hga (hs.gn i ak);have eM:=λ(h:gW p.ap i≠0)=>fI (f:=gW p.ap) ak hp h;have it:=λ(h:gW p.ap i=0)=>all_succ (f:=gW p.ap) hp h;by_cases h1:gW p.ap i=0
  ·rw[h1]at eU;repeat' ((first|refine tX 0 ?_|exact Zt|refine bR ?_ ?_<;>intro h)<;>(try conv=>whnf))
   all_goals first|exact Zo|exact⟨i+1,⟨ak,it h1⟩,by omega,Zc⟩|(exact absurd rfl h)
  ·rw[eM h1];generalize gW p.ap i=e at*;exact tA
 ·obtain rfl:i=p.ap.length:=by omega
  rw[gT hp];exact tA
def al5 {p:Pl}{i:Nat}(h:gW (cS p.aa) i≠0):p.gE jL i=gW (cS p.aa) i:=by grind[Pl.gE,eS]
def al6 {p:Pl}{i:Nat}(h:gW (cS p.aa) i=0):p.gE jL i=VF jL p.aa i:=by grind[Pl.gE,jn]
def Oo {l all:List aj}{k:Nat}(h:k<l.length)(h0: ∀j<k,D4 l all j=0)(h1:D4 l all k≠0):jT l all=D4 l all k:=by grind[jT,fI]
def Oq {l all:List aj}(h0: ∀j<l.length,D4 l all j=0):jT l all=0:=by grind[jT,gT]
def Ff {p:Pl}(hs:ii p)(i:Nat)(ak:i<p.aa.length):ac 230 [(true,bE p),(false,[.view (ab ((cS p.aa).take (i+1)))]),I i] (.one (I (p.gE jL i))):=by
 have AX:(cS p.aa).length =p.aa.length:=by simp[cS]
 have vV:(p.aa.map fD).length =p.aa.length:=by simp
 have hte:=hs.te;have he:=iU ak;have aoN:=hs.td i ak;have hru:=hs.tr i ak;have hnm:=hs.tn i ak;have eU:=lj ((cS p.aa).take (i+1)) i bv bv (by grind[cS]);rw[AL K0]at eU
 delta V1 at eU
 have ea:=al5 (p:=p) (i:=i);have eb:=al6 (p:=p) (i:=i);have ta:=afc (re:=jL) (l:=p.aa) (i:=i);have tb:=afd (re:=jL) (l:=p.aa) (i:=i);have tc:=afe (re:=jL) (l:=p.aa) (i:=i);have td:=aff (re:=jL) (l:=p.aa) (i:=i);have zQ:=k9 (p.aa.getD i dz).rules hru;have hre:(iK (eF (aJ 59 (p.aa.getD i dz).rules))).2=jL (p.aa.getD i dz).rules :=rfl;have BQ:Qj p.aa (p.aa.getD i dz)=if(p.aa.getD i dz).kind =2 then(if(p.aa.getD i dz).bz.length =0 then 10 else if(p.aa.getD (bg (cS p.aa) ((p.aa.getD i dz).bz.getD 0 [])).toNat dz).kind =1 then 0 else 3)else 0:=rfl
 have xp:(ab ((cS p.aa).take (i+1))).take i=ab ((cS p.aa).take i):=by grind
 have htl:(ab ((cS p.aa).take (i+1))).length =i+1:=by grind
 have hai:=λk=>Oo (k:=k) (l:=(p.aa.getD i dz).bz) (all:=(cS p.aa).take i);have han:=Oq (l:=(p.aa.getD i dz).bz) (all:=(cS p.aa).take i);have hz:=Eu (l:=(p.aa.getD i dz).bz) (all:=(cS p.aa).take i);have pL:bE p= [.view (p.ae.map nh),.view (ab p.ap),.view (p.aa.map fD),.view (p.parts.map mj),J p.dZ,J p.eK]:=rfl;generalize ht:p.aa.getD i dz=t at*
 rcases t with⟨nm,kd,nd,ru,lo,hi⟩;have he:(p.aa.map fD)[i]? =some [T nm,J kd,.view (ab nd),T ru,J lo,J hi]:=he;dsimp only at*;have AV:(ab nd).length =nd.length:=by simp
 have zQ:ac 76 [SS ru] (.aI [Ru (iK (eF (aJ 59 ru))).1.1 (iK (eF (aJ 59 ru))).1.2.1 (iK (eF (aJ 59 ru))).1.2.2,I (jL ru)]):=zQ;by_cases h0:gW (cS p.aa) i=0
 ·rw[eb h0];rw[h0]at eU;by_cases h1:0<=kd/\kd<=3
  ·refine sF f230 ?_;repeat((first|(refine kO 7 rfl ?_;first|refine Rq (ep _ _ _) ?_)|refine tX 0 ?_|exact Zt);(try conv=>whnf))
   refine af (ι:=Nat) (λk=>k<=nd.length/\∀j<k,D4 nd ((cS p.aa).take i) j=0) (λk=>nd.length -k) (λk=>⟨[(1,some (.val (false,[.st (.view (ab ((cS p.aa).take (i+1))))]))),(2,vI i),(3,pP 0),(7,pP 1),(9,vI k)],[(0,some (bxP p)),(1,some (.box 54 [.st (T nm),.st (J kd),.st (.view (ab nd)),.st (T ru),.st (J lo),.st (J hi)]))],2⟩) 0 Zc ⟨dD _,λj hj=>by omega⟩ ?_;rintro k ⟨hk,hp⟩;by_cases xw:k<nd.length
   ·have KS:=sA xw;have O1:D4 nd ((cS p.aa).take i) k=if nd.getD k []∈(cS p.aa).take i then(if nd.getD k []∈nd.take k then 23 else 0)else 6:=rfl
    have it:=λ(h:D4 nd ((cS p.aa).take i) k=0)=>all_succ (f:=D4 nd ((cS p.aa).take i)) hp h;have hra:=hai k xw hp
    have c1:ac 19 [(false,[.view (ab (((cS p.aa).take (i+1)).take i))]),SS (nd.getD k [])] (.one (Bo (decide (nd.getD k []∈(cS p.aa).take i)))):=by
     rw[List.take_take,Nat.min_eq_left K0];exact df _ _ bv
    have c2:ac 19 [(false,[.view (ab (nd.take k))]),SS (nd.getD k [])] (.one (Bo (decide (nd.getD k []∈nd.take k)))):=df _ _ bv;have aoC:(ab nd).take k=ab (nd.take k):=by simp
    generalize nd.getD k []=s at*;by_cases q1:s∈(cS p.aa).take i
    ·rw[if_pos q1]at O1;rw[fL q1]at c1;by_cases q2:s∈nd.take k
     ·rw[if_pos q2]at O1;rw[fL q2]at c2;rw[tb h1 bv,hra (by rw[O1];decide),O1];exact tL
     ·rw[if_neg q2]at O1;rw[fj q2]at c2;repeat' ((first|refine tX 0 ?_|exact Zt|refine bR ?_ ?_<;>intro h)<;>(try conv=>whnf))
      all_goals first|exact Zo|exact⟨k+1,⟨xw,it O1⟩,by omega,Zc⟩
    ·rw[if_neg q1]at O1;rw[fj q1]at c1;rw[tb h1 bv,hra (by rw[O1];decide),O1];exact tL
   ·obtain rfl:k=nd.length:=by omega
    have hA:=han hp;have hz:=hz hA;clear hai han ta tb eU;have tc:=tc h1 hA;have td:=td h1 hA;by_cases h3:kd=2
    ·rw[if_pos h3]at BQ;by_cases h4:nd.length=0
     ·rw[if_pos h4]at BQ;rw[tc bv,BQ];exact tL
     ·have abI:0<nd.length:=by omega
      obtain⟨hm0,_⟩:=hz 0 abI;have R2:=sA abI;obtain⟨k0,XD,hk0⟩:=ld (CO hm0);have Xj:=pY p (nd.getD 0 []) hte;rw[hk0,pL]at Xj;have Li:k0<p.aa.length:=by omega
      have KS:=iU Li;rw[if_neg h4,hk0,sP]at BQ;generalize nd.getD 0 []=n0 at*;generalize p.aa.getD k0 dz=t0 at*
      rcases t0 with⟨nm0,kd0,nd0,ru0,lo0,zO⟩;have KS:(p.aa.map fD)[k0]? =some [T nm0,J kd0,.view (ab nd0),T ru0,J lo0,J zO]:=KS;dsimp only at BQ;by_cases h5:kd0=1
      ·rw[if_pos h5]at BQ;rw[td BQ,if_pos (show sw kd from .inr h3)];by_cases h6:jL ru=0
       ·rw[h6,jn];rw[h6]at zQ;exact K47
       ·exact akA
      ·rw[if_neg h5]at BQ;rw[tc bv,BQ];exact tL
    ·rw[if_neg h3]at BQ;rw[td BQ];by_cases h5:kd=1
     ·rw[if_pos (show sw kd from .inl h5)];by_cases h6:jL ru=0
      ·rw[h6,jn];rw[h6]at zQ;exact K47
      ·exact akA
     ·rw[if_neg (show ¬sw kd by grind[sw])];by_cases h6:ru= []
      ·rw[if_pos h6,jn];subst h6;exact K47
      ·rw[if_neg h6,eS K9];exact tL
  ·rw[ta h1];refine sF f230 ?_;exact tL
 ·rw[ea h0];generalize gW (cS p.aa) i=e at*;refine sF f230 ?_;exact tL
theorem Ue {n m:Nat}(h:m<n):kw n m=8:=by unfold kw;grind
theorem afl {n m:Nat}(h:n<=m):kw n m=0:=by unfold kw;grind
def Kw {p:Pl}(hs:ii p):ac 160 [(true,bE p)] (.aI (Ra (o8 (0,kw p.aa.length 8) (cR (p.gE jL) p.aa.length)))):=by
 have hn:(p.aa.map fD).length =p.aa.length:=by simp
 have AX:(cS p.aa).length =p.aa.length:=by simp[cS]
 have hte:=hs.te;have pL:bE p= [.view (p.ae.map nh),.view (ab p.ap),.view (p.aa.map fD),.view (p.parts.map mj),J p.dZ,J p.eK]:=rfl;by_cases h8:8<p.aa.length
 ·rw[pZ (by grind[Ue]),Ue h8];refine sF f160 ?_;exact tA
 rw[BM (by grind[afl])];refine sF f160 ?_
 (try(refine tX 0 ?_;try exact Zt))
 refine af (ι:=Nat) (λi=>i<=p.aa.length/\∀j<i,p.gE jL j=0) (λi=>p.aa.length -i) (λi=>⟨[(1,pP 0),(4,pO 1),(5,vI i)],[(0,some (bxP p)),(1,some (.row true 1 (.view (ab ((cS p.aa).take i)))))],2⟩) 0 (bp.trans (iG 4 1 (.view []) K9 rfl rfl rfl) Zc) ⟨dD _,λj hj=>by omega⟩ ?_;rintro i ⟨hi,hp⟩;by_cases ak:i<p.aa.length
 ·have he:=iU ak;have hg:=rM ak;have vX:=take_succ (l:=cS p.aa) (i:=i) K0;have eU:=Ff hs i ak;have eM:=λ(h:p.gE jL i≠0)=>fI (f:=p.gE jL) ak hp h;have it:=λ(h:p.gE jL i=0)=>all_succ (f:=p.gE jL) hp h;have vV:(ab ((cS p.aa).take i)).length <=1000:=by grind
  rw[hg]at vX;rw[vX,lY,pL]at eU;generalize p.aa.getD i dz=x at*
  rcases x with⟨nm,kd,nd,ru,lo,lA⟩;have he:(p.aa.map fD)[i]? =some [T nm,J kd,.view (ab nd),T ru,J lo,J lA]:=he;dsimp only at eU vX;by_cases h1:p.gE jL i=0
  ·rw[h1]at eU;repeat' ((first|refine tX 0 ?_|exact Zt|refine bR ?_ ?_<;>intro h)<;>(try conv=>whnf))
   all_goals first|exact Zo|exact⟨i+1,⟨ak,it h1⟩,by omega,ai ab1⟩|(exact absurd rfl h)
  ·rw[eM h1];generalize p.gE jL i=e at*;exact tA
 ·obtain rfl:i=p.aa.length:=by omega
  rw[gT hp];exact tA
def al7 {p:Pl}{i:Nat}(h:gW p.bf i≠0):p.jh i=gW p.bf i:=by grind[Pl.jh,eS]
def al8 {p:Pl}{i:Nat}(h:gW p.bf i=0):p.jh i=jT (p.parts.getD i ([],[])).2 (cS p.aa):=by grind[Pl.jh,jn]
def adW {l:List aj}{x:aj}:bg l x<0↔x∉l:=by
 unfold bg
 grind
def Kx {p:Pl}(hs:ii p):ac 161 [(true,bE p)] (.aI (Ra (o8 (0,kw p.parts.length 6) (cR p.jh p.parts.length)))):=by
 have hn:(p.parts.map mj).length =p.parts.length:=by simp
 have AX:p.bf.length=p.parts.length:=by simp[Pl.bf]
 have hpa:=hs.pa;have pL:bE p= [.view (p.ae.map nh),.view (ab p.ap),.view (p.aa.map fD),.view (p.parts.map mj),J p.dZ,J p.eK]:=rfl;by_cases h8:6<p.parts.length
 ·rw[pZ (by grind[Ue]),Ue h8];refine sF f161 ?_;exact tL
 rw[BM (by grind[afl])];refine sF f161 ?_
 (try(refine tX 0 ?_;try exact Zt))
 refine af (ι:=Nat) (λi=>i<=p.parts.length/\∀j<i,p.jh j=0) (λi=>p.parts.length -i) (λi=>⟨[(1,pP 0),(4,pO 1),(5,vI i)],[(0,some (bxP p)),(1,some (.row true 1 (.view (ab (p.bf.take i)))))],2⟩) 0 (bp.trans (iG 4 1 (.view []) K9 rfl rfl rfl) Zc) ⟨dD _,λj hj=>by omega⟩ ?_;rintro i ⟨hi,hp⟩;by_cases ak:i<p.parts.length
 ·have he:=aV (f:=mj) ak ([],[]);have hg:p.bf.getD i []=(p.parts.getD i ([],[])).1:=by grind[Pl.bf]
  have vX:=take_succ (l:=p.bf) (i:=i) K0;have hqv:=hs.qv i ak;have eU:=lj (p.bf.take (i+1)) i bv bv (by rw[show(p.bf.take (i+1)).getD i []=p.bf.getD i []by grind,hg];exact hs.qn i ak);rw[AL K0]at eU;have hea:=al7 (p:=p) (i:=i);have Pp:=al8 (p:=p) (i:=i);have eM:=λ(h:p.jh i≠0)=>fI (f:=p.jh) ak hp h;have it:=λ(h:p.jh i=0)=>all_succ hp h;have vV:(ab (p.bf.take i)).length <=1000:=by grind
  rw[hg]at vX;rw[vX]at eU
  delta V1 at eU
  rw[lY]at eU;generalize p.parts.getD i ([],[])=x at*
  rcases x with⟨nm,vs⟩;have he:(p.parts.map mj)[i]? =some [T nm,.view (ab vs)]:=he;dsimp only at eU vX Pp hqv;by_cases h1:gW p.bf i=0
  ·rw[h1]at eU;have Pp:=Pp h1;have Xl:(ab vs).length =vs.length:=by simp
   (try(refine tX 0 ?_;try exact Zt))
   refine af (ι:=Nat) (λk=>k<=vs.length/\∀j<k,D4 vs (cS p.aa) j=0) (λk=>vs.length -k) (λk=>⟨[(1,pP 0),(4,pO 1),(5,vI i),(6,pP 2),(8,vI k)],[(0,some (bxP p)),(1,some (.row true 1 (.view (ab (p.bf.take (i+1)))))),(2,some (.box 106 [.st (T nm),.st (.view (ab vs))]))],3⟩) 0 (ai ab1) ⟨dD _,λj hj=>by omega⟩ ?_;rintro k ⟨hk,hq⟩;by_cases xw:k<vs.length
   ·have KS:=sA xw;have O1:D4 vs (cS p.aa) k=if vs.getD k []∈cS p.aa then(if vs.getD k []∈vs.take k then 23 else 0)else 6:=rfl
    have hnk:=λ(h:D4 vs (cS p.aa) k=0)=>all_succ (f:=D4 vs (cS p.aa)) hq h;have hra:=Oo (l:=vs) (all:=cS p.aa) xw hq;have c1:=pY p (vs.getD k []) hs.te;have c2:ac 19 [(false,[.view (ab (vs.take k))]),SS (vs.getD k [])] (.one (Bo (decide (vs.getD k []∈vs.take k)))):=df _ _ bv;have Ce:=adW (l:=cS p.aa) (x:=vs.getD k []);rw[pL]at c1;generalize vs.getD k []=s at*;generalize bg (cS p.aa) s=ix at*;by_cases q1:s∈cS p.aa
    ·have Xj: ¬ix<0:=λh=>Ce.1 h q1;rw[if_pos q1]at O1;by_cases q2:s∈vs.take k
     ·rw[if_pos q2]at O1;rw[fL q2]at c2;have Uv:=hra bv;rw[O1]at Uv;rw[Uv]at Pp;rw[eM bv,Pp];exact tL
     ·rw[if_neg q2]at O1;rw[fj q2]at c2;repeat' ((first|refine tX 0 ?_|exact Zt|refine bR ?_ ?_<;>intro h)<;>(try conv=>whnf))
      all_goals first|exact Zo|exact⟨k+1,⟨xw,hnk O1⟩,by omega,Zc⟩
    ·have Xj:ix<0:=Ce.2 q1;rw[if_neg q1]at O1;have Uv:=hra bv;rw[O1]at Uv;rw[Uv]at Pp;rw[eM bv,Pp];exact tL
   ·obtain rfl:k=vs.length:=by omega
    rw[Oq hq]at Pp;exact tL
  ·rw[eM bv,hea h1];generalize gW p.bf i=e at*;exact tL
 ·obtain rfl:i=p.parts.length:=by omega
  rw[gT hp];exact tL
def WL (a b c:Int × Int):o8 (o8 a b) c=o8 a (o8 b c):=by
 unfold o8;by_cases h:a.2≠0
 ·rw[if_pos h,if_pos h,if_pos h]
 ·rw[if_neg h,if_neg h]
def WM (p:Pl):p.err jL=o8 (o8 (0,pR p.ae.length 8) (cR p.dx p.ae.length)) (o8 (o8 (0,pR p.ap.length 4) (cR (gW p.ap) p.ap.length))
  (o8 (o8 (0,kw p.aa.length 8) (cR (p.gE jL) p.aa.length)) (o8 (o8 (0,kw p.parts.length 6) (cR p.jh p.parts.length)) (0,if(0<=p.dZ/\p.dZ<=1000)/\0<=p.eK/\p.eK<=1000000000000 then 0 else 2)))):=by
 simp only[WL];rfl
def zH {p:Pl}(hs:ii p):ac 88 [(true,bE p)] (.aI (Ra (p.err jL))):=by
 have c1:=GG hs;have c2:=Kv hs;have c3:=Kw hs;have c4:=Kx hs;have pL:bE p= [.view (p.ae.map nh),.view (ab p.ap),.view (p.aa.map fD),.view (p.parts.map mj),J p.dZ,J p.eK]:=rfl;rw[WM];generalize o8 (0,pR p.ae.length 8) (cR p.dx p.ae.length)=r1 at*;generalize o8 (0,pR p.ap.length 4) (cR (gW p.ap) p.ap.length)=r2 at*;generalize o8 (0,kw p.aa.length 8) (cR (p.gE jL) p.aa.length)=r3 at*;generalize o8 (0,kw p.parts.length 6) (cR p.jh p.parts.length)=r4 at*;have c1:ac 158 [(true,[.view (p.ae.map nh),.view (ab p.ap),.view (p.aa.map fD),.view (p.parts.map mj),J p.dZ,J p.eK])] (.aI [I r1.1,I r1.2]):=c1;have c2:ac 159 [(true,[.view (p.ae.map nh),.view (ab p.ap),.view (p.aa.map fD),.view (p.parts.map mj),J p.dZ,J p.eK])] (.aI [I r2.1,I r2.2]):=c2;have c3:ac 160 [(true,[.view (p.ae.map nh),.view (ab p.ap),.view (p.aa.map fD),.view (p.parts.map mj),J p.dZ,J p.eK])] (.aI [I r3.1,I r3.2]):=c3;have c4:ac 161 [(true,[.view (p.ae.map nh),.view (ab p.ap),.view (p.aa.map fD),.view (p.parts.map mj),J p.dZ,J p.eK])] (.aI [I r4.1,I r4.2]):=c4;by_cases h1:r1.2=0
 ·rw[BM h1];rw[h1]at c1;by_cases h2:r2.2=0
  ·rw[BM h2];rw[h2]at c2;by_cases h3:r3.2=0
   ·rw[BM h3];rw[h3]at c3;by_cases h4:r4.2=0
    ·rw[BM h4];rw[h4]at c4;by_cases h5:(0<=p.dZ/\p.dZ<=1000)/\0<=p.eK/\p.eK<=1000000000000
     ·rw[if_pos h5];refine sF f88 ?_;exact K16
     ·rw[if_neg h5];refine sF f88 ?_;exact K16
    ·rw[pZ h4];exact acs
   ·rw[pZ h3];exact acs
  ·rw[pZ h2];exact acs
 ·rw[pZ h1];exact acs
def B8 {p:Pl}(hs:ii p):ac 43 [(true,bE p)] (.one (I (p.err jL).2)):=by
 have h:=zH hs;have h:ac 88 [(true,bE p)] (.aI [I (p.err jL).1,I (p.err jL).2]):=h;refine sF f43 ?_;exact K1
def dH (l:List aj)(hl:l.length<=1000000):ac 46 [V1 l] (.own 1 (.view (ab l))):=by
 have hn:(ab l).length =l.length:=by simp
 refine sF f46 ?_;exact K1
def WN (nm:aj)(vs out nd:List aj)(n:Nat):Prop:=nm∈vs\/∃x∈nd.take n,x∈out
noncomputable instance (nm:aj)(vs out nd:List aj)(n:Nat):Decidable (WN nm vs out nd n):=Classical.propDecidable _
def aa4 {nm:aj}{vs out nd:List aj}{n:Nat}(h:n<nd.length):WN nm vs out nd (n+1)↔WN nm vs out nd n\/nd.getD n []∈out:=by
 unfold WN;constructor
 ·rintro(a|⟨x,hx,ho⟩)
  ·exact .inl (.inl a)
  ·rcases(iS h).1 hx with hx|rfl
   ·exact .inl (.inr ⟨x,hx,ho⟩)
   ·exact .inr ho
 ·rintro((a|⟨x,hx,ho⟩)|ho)
  ·exact .inl a
  ·exact .inr ⟨x,(iS h).2 (.inl hx),ho⟩
  ·exact .inr ⟨_,(iS h).2 (.inr rfl),ho⟩
def GH {p:Pl}(hs:ii p)(k:Nat)(hk:k<p.parts.length):ac 49 [(true,bE p),I k] (.own 1 (.view (ab (jo p.aa (p.parts.getD k ([],[])).2)))):=by
 have hn:(p.aa.map fD).length =p.aa.length:=by simp
 have hnp:(p.parts.map mj).length =p.parts.length:=by simp
 have KS:=aV (f:=mj) hk ([],[]);have hqv:=hs.qv k hk;have hte:=hs.te;have hpa:=hs.pa;generalize p.parts.getD k ([],[])=q at*
 rcases q with⟨qn,vs⟩;have KS:(p.parts.map mj)[k]? =some [T qn,.view (ab vs)]:=KS;dsimp only at*;refine sF f49 ?_
 (try(refine tX 0 ?_;try exact Zt))
 refine af (ι:=Nat) (λi=>i<=p.aa.length) (λi=>p.aa.length -i) (λi=>⟨[(1,vI k),(2,pP 0),(5,pO 1),(6,vI i)],[(0,some (bxP p)),(1,some (.row true 1 (.view (ab (jo (p.aa.take i) vs)))))],2⟩) 0 (bp.trans (iG 5 1 (.view []) K9 rfl rfl rfl) Zc) (dD _) ?_;intro i hi;by_cases ak:i<p.aa.length
 ·have he:=iU ak;have xG:=Bw (voids:=vs) ak;have Xl:=rL (p.aa.take i) vs;have AV:=hs.td i ak;have an5:(p.aa.take i).length =i:=by simp;omega
  unfold HR at xG;generalize jo (p.aa.take i) vs=out at*;generalize p.aa.getD i dz=t at*
  rcases t with⟨nm,kd,nd,ru,lo,lA⟩;have he:(p.aa.map fD)[i]? =some [T nm,J kd,.view (ab nd),T ru,J lo,J lA]:=he;dsimp only at xG AV;have hol:(ab out).length =out.length:=by simp
  have AX:(ab nd).length =nd.length:=by simp
  have c0:ac 19 [(false,[.view (ab vs)]),SS nm] (.one (Bo (decide (nm∈vs)))):=df _ _ K0;have v0:decide (nm∈vs)=decide (WN nm vs out nd 0):=by rw[vN];simp only[vJ];unfold WN;simp
  rw[v0]at c0;have O8:WN nm vs out nd nd.length↔nm∈vs\/∃x∈nd,x∈out:=by unfold WN;rw[pc (dE _)]
  (try(refine tX 0 ?_;try exact Zt))
  refine af (ι:=Nat) (λn=>n<=nd.length) (λn=>nd.length -n) (λn=>⟨[(1,vI k),(2,pP 0),(5,pO 1),(6,vI i),(7,pP 2),(8,some (.val (false,[.st (.lit (.bool (decide (WN nm vs out nd n))))]))),(9,vI n)],[(0,some (bxP p)),(1,some (.row true 1 (.view (ab out)))),(2,some (.box 54 [.st (T nm),.st (J kd),.st (.view (ab nd)),.st (T ru),.st (J lo),.st (J lA)]))],3⟩) 0 Zc (dD _) ?_;intro n Lh;by_cases hnlt:n<nd.length
  ·have hen:=sA hnlt;have XF:=aa4 (nm:=nm) (vs:=vs) (out:=out) hnlt;have c1:ac 19 [(false,[.view (ab out)]),SS (nd.getD n [])] (.one (Bo (decide (nd.getD n []∈out)))):=df _ _ K0;generalize nd.getD n []=s at*;by_cases h1:WN nm vs out nd n
   ·have h2:WN nm vs out nd (n+1):=XF.2 (.inl h1);rw[fL h1];repeat' ((first|refine tX 0 ?_|exact Zt|refine bR ?_ ?_<;>intro h)<;>(try conv=>whnf))
    all_goals first|exact Zo|exact⟨n+1,hnlt,by omega,ai (by dsimp only;rw[fL h2];kernel_rfl)⟩
   ·rw[fj h1];have h2:decide (WN nm vs out nd (n+1))=decide (s∈out):=by rw[vN];simp only[vJ];exact⟨λh=>(XF.1 h).resolve_left h1,λh=>XF.2 (.inr h)⟩
    repeat' ((first|refine tX 0 ?_|exact Zt|refine bR ?_ ?_<;>intro h)<;>(try conv=>whnf))
    all_goals first|exact Zo|exact⟨n+1,hnlt,by omega,ai (by dsimp only;rw[h2];kernel_rfl)⟩
  ·obtain rfl:n=nd.length:=by omega
   by_cases h1:WN nm vs out nd nd.length
   ·rw[fL h1];rw[if_pos (O8.1 h1)]at xG;exact K22
   ·rw[fj h1];rw[if_neg (λh=>h1 (O8.2 h))]at xG;exact K30
 ·exact ajf
def Iz (a b:List aj)(ha:a.length<=1000000)(hb:b.length<=1000000):ac 33 [V1 a,V1 b] (.one (Bo (decide (a=b)))):=by
 have hna:(ab a).length =a.length:=by simp
 have hnb:(ab b).length =b.length:=by simp
 by_cases h0:a.length=b.length
 ·refine sF f33 ?_
  (try(refine tX 0 ?_;try exact Zt))
  refine af (ι:=Nat) (λi=>i<=a.length/\a.take i=b.take i) (λi=>a.length -i) (λi=>⟨[(0,some (.val (false,[.st (.view (ab a))]))),(1,some (.val (false,[.st (.view (ab b))]))),(5,vI i)],[],0⟩) 0 Zc ⟨dD _,rfl⟩ ?_;rintro i ⟨hi,he⟩;by_cases ak:i<a.length
  ·have h1:=sA ak;have O5:i<b.length:=by omega
   have h2:=sA O5;have t1:=take_succ ak;have t2:=take_succ O5;have eU:a.getD i []≠b.getD i []->a≠b:=λh e=>h (by rw[e]);rw[he]at t1;generalize a.getD i []=x at*;generalize b.getD i []=y at*;by_cases hx:x=y
   ·subst hx;repeat' ((first|refine tX 0 ?_|exact Zt|refine bR ?_ ?_<;>intro h)<;>(try conv=>whnf))
    all_goals first|exact Zo|exact⟨i+1,⟨ak,by rw[t1,t2]⟩,by omega,Zc⟩|(exact absurd rfl h)
   ·repeat' ((first|refine tX 0 ?_|exact Zt|refine bR ?_ ?_<;>intro h)<;>(try conv=>whnf))
    all_goals first|exact Zo|exact gX (fj (eU hx)).symm |(exact absurd (by simpa using h) hx)
  ·obtain rfl:i=a.length:=by omega
   have e:a=b:=by rw[pc (dE _),pc K0]at he;exact he
   repeat' ((first|refine tX 0 ?_|exact Zt|refine bR ?_ ?_<;>intro h)<;>(try conv=>whnf))
   all_goals first|exact Zo|exact gX (fL e).symm
 ·refine sF f33 ?_;repeat' ((first|refine tX 0 ?_|exact Zt|refine bR ?_ ?_<;>intro h)<;>(try conv=>whnf))
  all_goals first|exact Zo|exact gX (fj λe=>h0 (by rw[e])).symm
def Kz (l:List aj):Prop:=l.length<=10/\∀i<l.length,(l.getD i []).length <=20
noncomputable instance (l:List aj):Decidable (Kz l):=Classical.propDecidable _
def si (l:List aj)(hl:l.length<=9223372036854775807):ac 42 [V1 l] (.one (Bo (decide (Kz l)))):=by
 have hn:(ab l).length =l.length:=by simp
 by_cases h0:l.length<=10
 ·refine sF f42 ?_
  (try(refine tX 0 ?_;try exact Zt))
  refine af (ι:=Nat) (λi=>i<=l.length/\∀j<i,(l.getD j []).length <=20) (λi=>l.length -i) (λi=>⟨[(0,some (.val (false,[.st (.view (ab l))]))),(3,vI i)],[],0⟩) 0 Zc ⟨dD _,λj hj=>by omega⟩ ?_;rintro i ⟨hi,hp⟩;by_cases ak:i<l.length
  ·have he:=sA ak;have dp:20< (l.getD i []).length ->¬Kz l:=λh hh=>by have:=hh.2 i ak;omega
   have it:(l.getD i []).length <=20->∀j<i+1,(l.getD j []).length <=20:=λh j hj=>by
    by_cases e:j=i
    ·subst e;exact h
    ·exact hp j K0
   generalize l.getD i []=s at*;repeat' ((first|refine tX 0 ?_|exact Zt|refine bR ?_ ?_<;>intro h)<;>(try conv=>whnf))
   all_goals first|exact Zo|exact gX (fj (dp K0)).symm |exact⟨i+1,⟨ak,it K0⟩,by omega,Zc⟩
  ·exact ah3
 ·refine sF f42 ?_;exact K72
def aa5 (p:Pl)(i:Nat):Prop:=(p.ae.getD i ([],0)).1.length <=20
def aa6 (p:Pl)(i:Nat):Prop:=(p.aa.getD i dz).name.length <=20/\(p.aa.getD i dz).rules.length <=100/\Kz (p.aa.getD i dz).bz
def aa7 (p:Pl)(i:Nat):Prop:=(p.parts.getD i ([],[])).1.length <=20/\Kz (p.parts.getD i ([],[])).2
def adY (p:Pl):Prop:=p.ae.length<=10/\p.ap.length<=6/\p.aa.length<=10/\p.parts.length<=8
def Ou (p:Pl):Prop:=adY p/\(∀i<p.ae.length,aa5 p i)/\(∀i<p.aa.length,aa6 p i)/\(∀i<p.parts.length,aa7 p i)/\Kz p.ap
noncomputable instance (p:Pl):Decidable (Ou p):=Classical.propDecidable _
def WO {p:Pl}(h:Ou p):ii p:=by
 obtain⟨⟨a1,a2,a3,a4⟩,b1,b2,b3,b4,b5⟩:=h;refine⟨by omega,by omega,by omega,by omega,λi hi=>?_,λi hi=>?_,λi hi=>?_,λi hi=>?_,λi hi=>?_,λi hi=>?_,λi hi=>?_⟩
 ·have:_<=20:=b1 i hi;omega
 ·have:=b5 i hi;omega
 ·have:=(b2 i hi).1;omega
 ·have:=(b2 i hi).2.2.1;omega
 ·have:=(b2 i hi).2.1;omega
 ·have:=(b3 i hi).1;omega
 ·have:=(b3 i hi).2.1;omega
def vz {q:Nat->Prop}{i:Nat}(h: ∀j<i,q j)(k:q i): ∀j<i+1,q j:=λj hj=>by
 by_cases e:j=i
 ·subst e;exact k
 ·exact h j K0
def abm:En:=⟨0,[],[]⟩
def shA (l:List En)(i:Nat):Prop:=(l.getD i abm).text.length <=410/\(l.getD i abm).lz.length <=20
def shN (l:List En):Prop:=¬(40<l.length/\l.length<=60)/\l.length<=62
def shP (l:List En):Prop:=shN l/\∀i<l.length,shA l i
noncomputable instance (l:List En):Decidable (shP l):=Classical.propDecidable _
def IC (l:List En)(hl:l.length<=9223372036854775807):ac 10 [(false,[.view (l.map be)])] (.one (Bo (decide (shP l)))):=by
 have hn:(l.map be).length =l.length:=by simp
 by_cases h0:shN l;rotate_left
 ·unfold shN at h0;refine sF f10 ?_;exact K72
 have h0':=h0;unfold shN at h0';refine sF f10 ?_;repeat' ((first|refine tX 0 ?_|exact Zt|refine bR ?_ ?_<;>intro h)<;>(try conv=>whnf))
 all_goals try(exfalso;omega)
 all_goals
  refine af (ι:=Nat) (λi=>i<=l.length/\∀j<i,shA l j) (λi=>l.length -i) (λi=>⟨[(0,some (.val (false,[.st (.view (l.map be))]))),(3,vI i)],[],1000⟩) 0 Zc ⟨dD _,λj hj=>by omega⟩ ?_;rintro i ⟨hi,hp⟩;by_cases ak:i<l.length
  ·have he:=aV (f:=be) ak abm;have dp: ¬shA l i->¬shP l:=λh hh=>h (hh.2 i ak);have it:=λ(h:shA l i)=>vz hp h;unfold shA at dp it;generalize l.getD i abm=e at*;repeat' ((first|refine tX 0 ?_|exact Zt|refine bR ?_ ?_<;>intro h)<;>(try conv=>whnf))
   all_goals first|exact Zo|exact gX (fj (dp K0)).symm |exact⟨i+1,⟨ak,it K0⟩,by omega,Zc⟩
  ·exact ah3
def ad6 (p:Pl)(h1:p.ae.length<=9223372036854775807)(h2:p.ap.length<=9223372036854775807)(h3:p.aa.length<=9223372036854775807)(h4:p.parts.length<=9223372036854775807)
  (h5: ∀i<p.aa.length,(p.aa.getD i dz).bz.length <=9223372036854775807)(h6: ∀i<p.parts.length,(p.parts.getD i ([],[])).2.length <=9223372036854775807):ac 9 [(true,bE p)] (.one (Bo (decide (Ou p)))):=by
 have l1:(p.ae.map nh).length =p.ae.length:=by simp
 have l2:(ab p.ap).length =p.ap.length:=by simp
 have l3:(p.aa.map fD).length =p.aa.length:=by simp
 have l4:(p.parts.map mj).length =p.parts.length:=by simp
 by_cases h0:adY p;rotate_left
 ·unfold adY at h0;refine sF f9 ?_;exact K72
 have h0':=h0;unfold adY at h0';refine sF f9 ?_
 (try(refine tX 0 ?_;try exact Zt))
 refine af (ι:=Nat) (λi=>i<=p.ae.length/\∀j<i,aa5 p j) (λi=>p.ae.length -i) (λi=>⟨[(1,pP 0),(3,vI i)],[(0,some (bxP p))],1⟩) 0 Zc ⟨dD _,λj hj=>by omega⟩ ?_;rintro i ⟨hi,hp⟩;by_cases ak:i<p.ae.length
 ·have he:=aV (f:=nh) ak ([],0);have dp: ¬aa5 p i->¬Ou p:=λh hh=>h (hh.2.1 i ak);have it:=λ(h:aa5 p i)=>vz hp h;unfold aa5 at dp it;generalize p.ae.getD i ([],0)=x at*;repeat' ((first|refine tX 0 ?_|exact Zt|refine bR ?_ ?_<;>intro h)<;>(try conv=>whnf))
  all_goals first|exact Zo|exact gX (fj (dp K0)).symm |exact⟨i+1,⟨ak,it K0⟩,by omega,Zc⟩
 obtain rfl:i=p.ae.length:=by omega
 have hpe:=hp;clear hp hi ak
 (try(refine tX 0 ?_;try exact Zt))
 refine af (ι:=Nat) (λi=>i<=p.aa.length/\∀j<i,aa6 p j) (λi=>p.aa.length -i) (λi=>⟨[(1,pP 0),(4,vI i)],[(0,some (bxP p))],1⟩) 0 Zc ⟨dD _,λj hj=>by omega⟩ ?_;rintro i ⟨hi,hp⟩;by_cases ak:i<p.aa.length
 ·have he:=iU ak;have dp: ¬aa6 p i->¬Ou p:=λh hh=>h (hh.2.2.1 i ak);have it:=λ(h:aa6 p i)=>vz hp h;have ht:=si (p.aa.getD i dz).bz (h5 i ak);unfold aa6 at dp it;generalize p.aa.getD i dz=x at*
  rcases x with⟨nm,kd,nd,ru,lo,lA⟩;have he:(p.aa.map fD)[i]? =some [T nm,J kd,.view (ab nd),T ru,J lo,J lA]:=he;dsimp only at dp it ht;by_cases q:Kz nd
  ·rw[fL q]at ht;repeat' ((first|refine tX 0 ?_|exact Zt|refine bR ?_ ?_<;>intro h)<;>(try conv=>whnf))
   all_goals first|exact Zo|exact gX (fj (dp λhh=>by omega)).symm |exact⟨i+1,⟨ak,it ⟨by omega,by omega,q⟩⟩,by omega,Zc⟩
  ·rw[fj q]at ht;repeat' ((first|refine tX 0 ?_|exact Zt|refine bR ?_ ?_<;>intro h)<;>(try conv=>whnf))
   all_goals first|exact Zo|exact gX (fj (dp λhh=>q hh.2.2)).symm
 obtain rfl:i=p.aa.length:=by omega
 have hte:=hp;clear hp hi ak
 (try(refine tX 0 ?_;try exact Zt))
 refine af (ι:=Nat) (λi=>i<=p.parts.length/\∀j<i,aa7 p j) (λi=>p.parts.length -i) (λi=>⟨[(1,pP 0),(5,vI i)],[(0,some (bxP p))],1⟩) 0 Zc ⟨dD _,λj hj=>by omega⟩ ?_;rintro i ⟨hi,hp⟩;by_cases ak:i<p.parts.length
 ·have he:=aV (f:=mj) ak ([],[]);have dp: ¬aa7 p i->¬Ou p:=λh hh=>h (hh.2.2.2.1 i ak);have it:=λ(h:aa7 p i)=>vz hp h;have ht:=si (p.parts.getD i ([],[])).2 (h6 i ak);unfold aa7 at dp it;generalize p.parts.getD i ([],[])=x at*
  rcases x with⟨nm,vs⟩;have he:(p.parts.map mj)[i]? =some [T nm,.view (ab vs)]:=he;dsimp only at dp it ht;by_cases q:Kz vs
  ·rw[fL q]at ht;repeat' ((first|refine tX 0 ?_|exact Zt|refine bR ?_ ?_<;>intro h)<;>(try conv=>whnf))
   all_goals first|exact Zo|exact gX (fj (dp λhh=>by omega)).symm |exact⟨i+1,⟨ak,it ⟨by omega,q⟩⟩,by omega,Zc⟩
  ·rw[fj q]at ht;repeat' ((first|refine tX 0 ?_|exact Zt|refine bR ?_ ?_<;>intro h)<;>(try conv=>whnf))
   all_goals first|exact Zo|exact gX (fj (dp λhh=>q hh.2)).symm
 obtain rfl:i=p.parts.length:=by omega
 have ht:=si p.ap h2
 have e:decide (Kz p.ap)=decide (Ou p):=by
  rw[vN];simp only[vJ];exact⟨λh=>⟨h0,hpe,hte,hp,h⟩,λh=>h.2.2.2.2⟩
 rw[e]at ht;exact tA
def OU {α:Type}{l:List α}{i:Nat}{x:α}(h:l[i]? =some x):l.set i x=l:=by
 obtain⟨h1,h2⟩:=kJ.1 h;subst h2;exact US h1
def uvM {α:Type}{f:α->List SC}{l:List α}{z:Nat}(h: ∀x,(f x).length =z):(SC.view ([]++l.map f)).zW z:=by
 intro e he;obtain⟨x,_,rfl⟩:=dT.1 (by simpa using he);exact h x
def lvM {α:Type}{f:α->List SC}{l:List α}(h:l.length<=1000):(SC.view ([]++l.map f)).len <=xE:=by simp[SC.len,xE];omega
def GO {p:Pl}(hs:ii p):ac 14 [(true,bE p)] (.one (true,bE p)):=by
 have l1:(p.ae.map nh).length =p.ae.length:=by simp
 have l3:(p.aa.map fD).length =p.aa.length:=by simp
 have l4:(p.parts.map mj).length =p.parts.length:=by simp
 have h1:=hs.pe;have h2:=hs.ga;have h3:=hs.te;have h4:=hs.pa;have cg:=dH p.ap K0;refine sF f14 ?_
 (try(refine tX 0 ?_;try exact Zt))
 refine rG (λ_ z=>⟨ajS,ajS,z⟩) ?_;conv=>whnf
 (try(refine tX 0 ?_;try exact Zt))
 refine af (ι:=Nat × List (List SC)) (λx=>x.1<=p.aa.length/\x.2=p.aa.map fD) (λx=>p.aa.length -x.1) (λx=>⟨[(1,pP 0),(2,pP 1),(3,vI x.1)],[(0,some (.box 27 [.own 2,.own 3,.own 4,.st (.view (p.parts.map mj)),.st (J p.dZ),.st (J p.eK)])),(1,some (.box 27 [.nil,.nil,.nil,.nil,.st (J 0),.st (J 0)])),(2,some (.row true 2 (.view (p.ae.map nh)))),(3,some (.row true 1 (.view (ab p.ap)))),(4,some (.row true 6 (.view x.2)))],5⟩) (0,p.aa.map fD) Zc ⟨dD _,rfl⟩ ?_;rintro⟨i,L⟩ ⟨hi,hL⟩;dsimp only at hi hL ⊢;have hLl:L.length=p.aa.length:=by rw[hL];exact l3
 by_cases ak:i<p.aa.length
 ·have he:=iU ak;have ct:=(dH (p.aa.getD i dz).bz (by have:=hs.td i ak;omega)).xK;have O3:=OU he;rw[<- hL]at he O3;generalize p.aa.getD i dz=x at*
  rcases x with⟨nm,kd,nd,ru,lo,lA⟩;have he:L[i]? =some [T nm,J kd,.view (ab nd),T ru,J lo,J lA]:=he;have O3:L.set i [T nm,J kd,.view (ab nd),T ru,J lo,J lA]=L:=O3;dsimp only at ct
  (try(refine tX 0 ?_;try exact Zt))
  exact⟨(i+1,L.set i [T nm,J kd,.view (ab nd),T ru,J lo,J lA]),⟨ak,by rw[O3];exact hL⟩,by dsimp only;omega,Zc⟩
 obtain rfl:i=p.aa.length:=by omega
 subst hL;clear hi ak hLl
 (try(refine tX 0 ?_;try exact Zt))
 refine rG (λ_ z=>⟨ajT,ajT,z⟩) ?_;conv=>whnf
 (try(refine tX 0 ?_;try exact Zt))
 refine af (ι:=Nat × List (List SC)) (λx=>x.1<=p.parts.length/\x.2=p.parts.map mj) (λx=>p.parts.length -x.1) (λx=>⟨[(1,pP 0),(2,pP 1),(4,vI x.1)],[(0,some (.box 27 [.own 2,.own 3,.own 4,.own 5,.st (J p.dZ),.st (J p.eK)])),(1,some (.box 27 [.nil,.nil,.nil,.nil,.st (J 0),.st (J 0)])),(2,some (.row true 2 (.view (p.ae.map nh)))),(3,some (.row true 1 (.view (ab p.ap)))),(4,some (.row true 6 (.view (p.aa.map fD)))),(5,some (.row true 2 (.view x.2)))],6⟩) (0,p.parts.map mj) Zc ⟨dD _,rfl⟩ ?_;rintro⟨i,L⟩ ⟨hi,hL⟩;dsimp only at hi hL ⊢;have hLl:L.length=p.parts.length:=by rw[hL];exact l4
 by_cases ak:i<p.parts.length
 ·have he:=aV (f:=mj) ak ([],[]);have ct:=(dH (p.parts.getD i ([],[])).2 (by have:=hs.qv i ak;omega)).xK;have O3:=OU he;rw[<- hL]at he O3;generalize p.parts.getD i ([],[])=x at*
  rcases x with⟨nm,vs⟩;have he:L[i]? =some [T nm,.view (ab vs)]:=he;have O3:L.set i [T nm,.view (ab vs)]=L:=O3;dsimp only at ct
  (try(refine tX 0 ?_;try exact Zt))
  exact⟨(i+1,L.set i [T nm,.view (ab vs)]),⟨ak,by rw[O3];exact hL⟩,by dsimp only;omega,Zc⟩
 obtain rfl:i=p.parts.length:=by omega
 subst hL;exact K1
end Go.Proofs.Tryz
