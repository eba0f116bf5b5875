import Derived.Test.YtackacoaaihcjaaGreatDoorPkT11
import Derived.Test.YtackacoaaihcjaaGreatDoorPkT16
import Derived.Test.YtackacoaaihcjaaGreatDoorPkT19
set_option linter.all false
set_option maxRecDepth 100000
set_option maxHeartbeats 8000000
namespace Go.Proofs.Tryz
open Go.Fw Go.IntWalk Go.Plain
def QE (x:Ts)(n:aj):ad 136 [(true,fC x),(false,[.ref [T n]])] (.one (Bo (decide (x.name=n)))):=by
 refine sF f136 ?_;exact tL
def NF (ps:List Ts)(n:aj)(hl:ps.length<=1000):ad 135 [(false,[.view (ps.map fC)]),KX 136 [[T n]]] (.one (I (aZ (ps.map Ts.name) n))):=by
 have hn:(ps.map fC).length =ps.length:=by simp
 have zI:(ps.map Ts.name).length =ps.length:=by simp
 refine sF f135 ?_
 (try(refine tX 0 ?_;try exact Zt))
 refine af (ι:=Nat) (λi=>i<=ps.length/\n∉(ps.map Ts.name).take i) (λi=>ps.length -i) (λi=>⟨[(0,some (.val (false,[.st (.view (ps.map fC))]))),(1,vF 136 [[T n]]),(7,vI ps.length),(8,vI i)],[],0⟩) 0 (ai Pv) ⟨dC _,by simp⟩ ?_;rintro i ⟨hi,dx⟩;by_cases ak:i<ps.length
 ·have he:=bg (f:=fC) ak dt;have hg:(ps.map Ts.name).getD i []=(ps.getD i dt).name :=by rw[getD_at ak,getD_at K0];simp
  have nK:=λe=>mM (l:=ps.map Ts.name) (x:=n) (i:=i) K0 e dx;have FF:=iL (l:=ps.map Ts.name) (i:=i) (x:=n) K0;rw[hg]at nK FF;have hp1:=QE (ps.getD i dt) n;by_cases hx:(ps.getD i dt).name =n
  ·exact afT
  ·exact afZ
 ·obtain rfl:i=ps.length:=by omega
  rw[o0 K0]at dx;rw[fp dx];exact tL
def kz (p:Pl)(n:aj):Ts:=if n∈(cO p.aa)then p.aa.getD (aZ (cO p.aa) n).toNat dt else dt
def QF (p:Pl)(n:aj)(hl:p.aa.length<=1000):ad 70 [(true,bU p),SS n] (.aJ [(true,fC (kz p n)),Bo (decide (n∈(cO p.aa)))]):=by
 have W0:=NF p.aa n hl;have hq:p.aa.map Ts.name=(cO p.aa):=rfl;have pE:(p.aa.map fC).length =p.aa.length:=by simp
 rw[hq]at W0;by_cases h:n∈(cO p.aa)
 ·obtain⟨k,hk,e⟩:=k6 h;have uD:k<p.aa.length:=by simpa [cO]using hk
  have hd:kz p n=p.aa.getD k dt:=by unfold kz;rw[if_pos h,e,sB]
  have RL:=bg (f:=fC) uD dt;rw[e]at W0;rw[hd,fH h];refine sF f70 ?_;exact tL
 ·have hd:kz p n=dt:=by unfold kz;rw[if_neg h]
  rw[fp h]at W0;rw[hd,eT h];refine sF f70 ?_;exact tL
def ZS (x:aj × Int)(FH:Int)(n tx:aj):ad 105 [(true,m9 x),(false,[.ref [J FH,T n,T tx]])] (.one (Bo (decide (x.1=n)))):=by
 refine sF f105 ?_;exact tL
def l5 (ps:List (aj × Int))(FH:Int)(n tx:aj)(hl:ps.length<=1000):ad 104 [(false,[.view (ps.map m9)]),KX 105 [[J FH,T n,T tx]]] (.one (I (aZ (ps.map Prod.fst) n))):=by
 have hn:(ps.map m9).length =ps.length:=by simp
 have zI:(ps.map Prod.fst).length =ps.length:=by simp
 refine sF f104 ?_
 (try(refine tX 0 ?_;try exact Zt))
 refine af (ι:=Nat) (λi=>i<=ps.length/\n∉(ps.map Prod.fst).take i) (λi=>ps.length -i) (λi=>⟨[(0,some (.val (false,[.st (.view (ps.map m9))]))),(1,vF 105 [[J FH,T n,T tx]]),(7,vI ps.length),(8,vI i)],[],0⟩) 0 (ai Pv) ⟨dC _,by simp⟩ ?_;rintro i ⟨hi,dx⟩;by_cases ak:i<ps.length
 ·have he:=bg (f:=m9) ak ([],0);have hg:(ps.map Prod.fst).getD i []=(ps.getD i ([],0)).1:=by rw[getD_at ak,getD_at K0];simp
  have nK:=λe=>mM (l:=ps.map Prod.fst) (x:=n) (i:=i) K0 e dx;have FF:=iL (l:=ps.map Prod.fst) (i:=i) (x:=n) K0;rw[hg]at nK FF;have hp1:=ZS (ps.getD i ([],0)) FH n tx;by_cases hx:(ps.getD i ([],0)).1=n
  ·exact afT
  ·exact afZ
 ·obtain rfl:i=ps.length:=by omega
  rw[o0 K0]at dx;rw[fp dx];exact tL
def J4 (u:Un)(l:List aj)(hl:l.length<=1000)(hr:u.res.length<=1000000):ad 226 [V1 l,KX 228 [[.ref (jQ u)]]] (.one (I (H6 u.res l))):=by
 have hn:(ab l).length =l.length:=by simp
 refine sF f226 ?_
 (try(refine tX 0 ?_;try exact Zt))
 refine af (ι:=Nat) (λi=>i<=l.length/\∀j<i,bH u.res (l.getD j [])=true) (λi=>l.length -i) (λi=>⟨[(0,some (.val (false,[.st (.view (ab l))]))),(1,vF 228 [[.ref (jQ u)]]),(7,vI l.length),(8,vI i)],[],0⟩) 0 (ai Pv) ⟨dC _,λj hj=>by omega⟩ ?_;rintro i ⟨hi,hp⟩;by_cases ak:i<l.length
 ·have he:=sA ak;have hv:=Qy u (l.getD i []) hr;have hge:l.getD i []=l[i]:=by rw[jE,nM ak,sY]
  cases hx:bH u.res (l.getD i [])
  ·rw[hx]at hv
   have hf:H6 u.res l=i:=by
    unfold H6
    have h1:l.all (bH u.res)=false:=by
     rw[Bool.eq_false_iff];intro h;rw[wC]at h;have:=h _ (oh ak);rw[<- hge,hx]at this;cases this
    rw[h1]
    have h2:l.findIdx (λt=> !bH u.res t)=i:=by
     rw[XT ak];refine⟨by rw[<- hge,hx];rfl,λj hj=>?_⟩;have:=hp j hj;rw[jE,nM K0,sY]at this;rw[this];rfl
    rw[h2];rfl
   rw[hf];exact tL
  ·rw[hx]at hv
   have iT: ∀j<i+1,bH u.res (l.getD j [])=true:=λj hj=>by
    rcases R9.1 hj with h'|rfl
    ·exact hp j h'
    ·exact hx
   exact tL
 ·obtain rfl:i=l.length:=by omega
  have hf:H6 u.res l= -1:=by
   unfold H6;rw[if_pos];rw[wC];intro x hx;obtain⟨j,hj,rfl⟩:=zN.1 hx;have:=hp j hj;rwa [jE,nM hj,sY]at this
  rw[hf];exact tL
def QG (u:Un)(l:List aj)(hl:l.length<=1000)(hr:u.res.length<=1000000):ad 227 [V1 l,KX 228 [[.ref (jQ u)]]] (.one (Bo (!l.all (bH u.res)))):=by
 have hi:=J4 u l hl hr;unfold H6 at hi;refine sF f227 ?_;cases h:l.all (bH u.res)
 ·rw[h]at hi;exact tL
 ·rw[h]at hi;exact tL
def NG (u:Un)(t:Ts)(hl:t.bu.length<=1000)(hr:u.res.length<=1000000):ad 157 [UR u,(true,fC t)] (.one (Bo (iU u.res t))):=by
 have hi:=QG u t.bu hl hr;refine sF f157 ?_;repeat' ((first|refine tX 0 ?_|exact Zt|refine bR ?_ ?_<;>intro h)<;>(try conv=>whnf))
 all_goals exact gX (by unfold iU;simp)
abbrev enX (e:En):SV:=(true,df e)
def V5 (s:aj):(Lib.cut s [32]).1=(av 32 s).getD 0 []:=by grind[uR]
def J5 (log:List En):(log.length=0/\im log=0)\/∃k,log.length=k+1/\(log.map df)[k]? =some (df (log.getD k ⟨0,[],[]⟩))/\im log=(log.getD k ⟨0,[],[]⟩).t :=by
 by_cases h:log.length=0
 ·refine .inl ⟨h,?_⟩;rw[CG.1 h];rfl
 ·refine .inr ⟨log.length -1,by omega,bg K0 _,?_⟩
  grind[im]
def NH (p:Pl)(log:List En)(s:bK)(hl:s.units.length<=1000)(e:En)(h:60<=log.length):
  bt cx 62 1 ((false,[.ptr 1 0])::[enX e].map dyn) (form p log s) [1] (.val (dyn (I 8))) (form p log s):=by
 have hn:(log.map df).length =log.length:=by simp
 obtain⟨et,ew,tx⟩:=e;obtain⟨volt,earth,opens,hall,lots,units⟩:=s;refine gF f62 hl ?_;exact K90
section
variable (p:Pl)(log:List En)(s:bK)(et:Int)(ew tx:aj)
noncomputable def sK (kn:Bool):Int:=fs [if aZ p.ay ew>=0 then 0 else 6,if 0<=et/\et<=1000000000000 then 0 else 2,if et>=im log then 0 else 9,if((tx.length:Nat):Int)<=400 then 0 else 8,if aU tx then 0 else 3,if kn=true then 0 else 7]
theorem V6 (hl:s.units.length<=1000)(hp:p.ae.length<=1000)(ht:tx.length<=100000)(CD:log.length<60){role w k:Nat}{rest:Bool}{f:FuncId}(hf:iY uh (B ((av 32 tx).getD 0 []))=some (NA role w k rest f))(hX:sK p log et ew tx true≠0):
  bt cx 62 1 ((false,[.ptr 1 0])::[enX ⟨et,ew,tx⟩].map dyn) (form p log s) [1] (.val (dyn (I (sK p log et ew tx true)))) (form p log s):=by
 have hn:(log.map df).length =log.length:=by simp
 have c1:=l5 p.ae et ew tx hp;have c2:=gZ tx 32 K0;rw[V5]at c2;generalize (Lib.cut tx [32]).2.1=q1 at*;generalize (Lib.cut tx [32]).2.2=q2 at*;have c3:=ky tx K0;generalize (av 32 tx).getD 0 []=wd at*;have hE:sK p log et ew tx true=fs [if aZ p.ay ew>=0 then 0 else 6,if 0<=et/\et<=1000000000000 then 0 else 2,if et>=im log then 0 else 9,if((tx.length:Nat):Int)<=400 then 0 else 8,if aU tx then 0 else 3,if true=true then 0 else 7]:=rfl;have CC:=hE.symm;generalize sK p log et ew tx true=X at*;clear hE;rw[show p.ay=p.ae.map Prod.fst from rfl]at CC;generalize aZ (p.ae.map Prod.fst) ew=iw at*;exact K3
theorem V7 (hl:s.units.length<=1000)(hp:p.ae.length<=1000)(ht:tx.length<=100000)(CD:log.length<60)(hf:iY uh (B ((av 32 tx).getD 0 []))=none)(hX:sK p log et ew tx false≠0):
  bt cx 62 1 ((false,[.ptr 1 0])::[enX ⟨et,ew,tx⟩].map dyn) (form p log s) [1] (.val (dyn (I (sK p log et ew tx false)))) (form p log s):=by
 have hn:(log.map df).length =log.length:=by simp
 have c1:=l5 p.ae et ew tx hp;have c2:=gZ tx 32 K0;rw[V5]at c2;generalize (Lib.cut tx [32]).2.1=q1 at*;generalize (Lib.cut tx [32]).2.2=q2 at*;have c3:=ky tx K0;generalize (av 32 tx).getD 0 []=wd at*;have hE:sK p log et ew tx false=fs [if aZ p.ay ew>=0 then 0 else 6,if 0<=et/\et<=1000000000000 then 0 else 2,if et>=im log then 0 else 9,if((tx.length:Nat):Int)<=400 then 0 else 8,if aU tx then 0 else 3,if false=true then 0 else 7]:=rfl;have CC:=hE.symm;generalize sK p log et ew tx false=X at*;clear hE;rw[show p.ay=p.ae.map Prod.fst from rfl]at CC;generalize aZ (p.ae.map Prod.fst) ew=iw at*;exact K3
theorem NI (hl:s.units.length<=1000)(hp:p.ae.length<=1000)(ht:tx.length<=100000)(CD:log.length<60){role w k:Nat}{rest:Bool}{f:FuncId}(hf:iY uh (B ((av 32 tx).getD 0 []))=some (NA role w k rest f))(hX:sK p log et ew tx true=0)
  {ik:Nat}(IH:aZ p.ay ew=(ik:Nat))(zy:ik<p.ae.length)(hr:(p.ae.getD ik ([],0)).2<role):
  bt cx 62 1 ((false,[.ptr 1 0])::[enX ⟨et,ew,tx⟩].map dyn) (form p log s) [1] (.val (dyn (I 18))) (form p log s):=by
 have hn:(log.map df).length =log.length:=by simp
 have hpn:(p.ae.map m9).length =p.ae.length:=by simp
 have he:=bg (f:=m9) zy ([],0);have c1:=l5 p.ae et ew tx hp;have c2:=gZ tx 32 K0;rw[V5]at c2;generalize (Lib.cut tx [32]).2.1=q1 at*;generalize (Lib.cut tx [32]).2.2=q2 at*;have c3:=ky tx K0;generalize (av 32 tx).getD 0 []=wd at*;have CC:fs [if aZ p.ay ew>=0 then 0 else 6,if 0<=et/\et<=1000000000000 then 0 else 2,if et>=im log then 0 else 9,if((tx.length:Nat):Int)<=400 then 0 else 8,if aU tx then 0 else 3,if true=true then 0 else 7]=0:=hX;rw[IH]at CC;rw[show p.ae.map Prod.fst=p.ay from rfl,IH]at c1;generalize p.ae.getD ik ([],0)=pe at*;obtain⟨pn,pr⟩:=pe;dsimp only at hr;exact K3
theorem NJ (hl:s.units.length<=1000)(hp:p.ae.length<=1000)(ht:tx.length<=100000)(CD:log.length<60){role w k:Nat}{rest:Bool}{f:FuncId}(hf:iY uh (B ((av 32 tx).getD 0 []))=some (NA role w k rest f))(hX:sK p log et ew tx true=0)
  {ik:Nat}(IH:aZ p.ay ew=(ik:Nat))(zy:ik<p.ae.length)(hr: ¬(p.ae.getD ik ([],0)).2<role){a:List aj}{n:List Int}{r:aj}(zB:ad 69 [NA role w k rest f,SS tx] (.aJ [wX a n r,Bo false])):
  bt cx 62 1 ((false,[.ptr 1 0])::[enX ⟨et,ew,tx⟩].map dyn) (form p log s) [1] (.val (dyn (I 7))) (form p log s):=by
 have hn:(log.map df).length =log.length:=by simp
 have hpn:(p.ae.map m9).length =p.ae.length:=by simp
 have he:=bg (f:=m9) zy ([],0);have c1:=l5 p.ae et ew tx hp;have c2:=gZ tx 32 K0;rw[V5]at c2;generalize (Lib.cut tx [32]).2.1=q1 at*;generalize (Lib.cut tx [32]).2.2=q2 at*;have c3:=ky tx K0;generalize (av 32 tx).getD 0 []=wd at*;have CC:fs [if aZ p.ay ew>=0 then 0 else 6,if 0<=et/\et<=1000000000000 then 0 else 2,if et>=im log then 0 else 9,if((tx.length:Nat):Int)<=400 then 0 else 8,if aU tx then 0 else 3,if true=true then 0 else 7]=0:=hX;rw[IH]at CC;rw[show p.ae.map Prod.fst=p.ay from rfl,IH]at c1;generalize p.ae.getD ik ([],0)=pe at*;obtain⟨pn,pr⟩:=pe;dsimp only at hr;exact K3
end
def Ct (s:aj):qr (iD (eC (av 59 s))).1.2.1/\(∀x∈(iD (eC (av 59 s))).1.2.2,qr x)/\(iD (eC (av 59 s))).1.2.2.length <=s.length+1:=by
 have z:pU 0:=by grind[pU]
 have h0:qr ((0,0,0,0):MJ)/\(∀x∈([]:List MJ),qr x)/\([]:List MJ).length <=s.length+1:=⟨⟨z,z,z,z⟩,(λ_ h=>by cases h),dC _⟩;unfold iD
 cases e:eC (av 59 s)with
 |none=>exact h0
 |some v=>
  obtain⟨e1,q,ch⟩:=v;dsimp only;by_cases h:aV e1 q ch=0
  ·rw[if_pos h];unfold eC at e
   cases e2:wN false 4 ((av 59 s).getD 0 [])with
   |none=>rw[e2]at e;cases e
   |some n=>
    cases e3:fR Bg ((av 59 s).drop 1)with
    |none=>rw[e2,e3]at e;cases e
    |some l=>
     rw[e2,e3]at e;have zJ:=yH (P:=qr) (λs x=>P8) e3;have bB:=yG e3
     cases l with
     |nil=>cases e
     |cons q' ch'=>
      grind[bZ]
  grind
def vi (s:aj):(dQ (cD (av 32 s))).1.2.length <=s.length+1:=by
 unfold dQ
 cases e:cD (av 32 s)with
 |none=>grind
 |some v=>
  obtain⟨st,l⟩:=v;dsimp only;have h:=P7 e;have h6:=(bZ 32 s).1
  grind
def rO (a b lo hi:Int):Int × Int:=if rJ a b lo hi=0 then(We a b lo hi,0)else(0,rJ a b lo hi)
def uo (a b lo hi:Int):ad 249 [F2 a b,F2 lo hi] (.aJ [I (rO a b lo hi).1,I (rO a b lo hi).2]):=by
 have h:=Gu a b lo hi;unfold rO
 grind
def NZ (s:aj):Option (Int × Int):=DY 32 (wN true 16) (wN true 16) s
def adj {s:aj}(h: ∃y∈s,y=(32:UInt8)):wN true 16 s=none:=by
 cases e:wN true 16 s with
 |none=>rfl
 |some n=>
  obtain⟨y,hy,rfl⟩:=h;rcases DU e 32 hy with h|h
  grind
  grind[dk]
def uq (lo hi:Int)(rest:aj):Int × Int:=match NZ rest with
 |some q=>rO q.1 q.2 lo hi
 |none=>(0,7)
noncomputable def EX (lo hi:Int)(rest:aj):Int × Int:=if(Cn rest).2=0 then(if(TH (Cn rest).1).2=0 then rO (TH (Cn rest).1).1.1 (TH (Cn rest).1).1.2 lo hi else(0,(TH (Cn rest).1).2))else(0,(Cn rest).2)
def zg (e:Int)(q:Sp)(ch:List Sp)(l:List Int):(Int × Int) × Int:=
 if jL e q ch (eS (pk l:Nat) (pA l -e) (pA l+e) (QK l e) (EN l e) (QL l e) (EP l e) (oe l e) (ZX l e))=0 then((ZY (pA l -e) (iV ch),ZZ (pA l+e) (iV ch)),0)
 else((0,0),jL e q ch (eS (pk l:Nat) (pA l -e) (pA l+e) (QK l e) (EN l e) (QL l e) (EP l e) (oe l e) (ZX l e)))
def Km (e:Int)(q:Sp)(ch:List Sp)(hq:qr q)(vJ: ∀s∈ch,qr s)(hl:ch.length<=4294967296)(l:List Int):ad 253 [Ru e q ch,FG l e] (.aJ [F2 (zg e q ch l).1.1 (zg e q ch l).1.2,I (zg e q ch l).2]):=by
 have h:=Gw e q ch hq vJ hl (pk l:Nat) (pA l -e) (pA l+e) (QK l e) (EN l e) (QL l e) (EP l e) (oe l e) (ZX l e);unfold zg
 grind
def aaf (e:Int)(q:Sp)(ch:List Sp)(st:Int)(l:List Int)(lo hi:Int):Int × Int:=
 if sL e q ch st l=0 then(if(zg e q ch l).2=0 then rO (zg e q ch l).1.1 (zg e q ch l).1.2 lo hi else(0,(zg e q ch l).2))else(0,sL e q ch st l)
def Wh (z e:Int)(s:Iv):Int × Int:=if z≠0 then(0,z)else if kf s then(0,0)else(2,0)
noncomputable def Kn (log:List En)(u:Un)(t:Ts)(rest:aj):Int × Int:=
 if t.kind=0 then uq t.lo t.hi rest else if t.kind=3 then EX t.lo t.hi rest else
  let R:=(iD (eC (av 59 t.rules))).1;let X:=dQ (cD (av 32 rest))
  if X.2=0 then
   (if t.kind=2 then
    (let A:=(dQ (cD (av 32 (bP 3 (log.getD ((iM u.res (t.bu.getD 0 [])).getD BT).entry.toNat ⟨0,[],[]⟩).text)))).1
     Wh (du R.1 R.2.1 R.2.2 A.1 A.2 X.1.1 X.1.2) R.1 (TS R.1 R.2.1 A.2 X.1.2))
   else aaf R.1 R.2.1 R.2.2 X.1.1 X.1.2 t.lo t.hi)
  else(0,X.2)
def alJ (p:Pl)(log:List En)(u:Un)(nm:aj)(nd:List aj)(ru:aj)(lo hi:Int)(rest:aj)(hl:rest.length<=10000):
  ad 203 [WR p log,UR u,(true,fC ⟨nm,0,nd,ru,lo,hi⟩),SS rest] (.aJ [I (uq lo hi rest).1,I (uq lo hi rest).2]):=by
 have ct:=gZ rest 32 K0
 rcases uR rest 32 with⟨h1,h2⟩|⟨a,b,h1,h2,h3,h4⟩
 ·rw[h1]at ct;obtain⟨v,c1,hv⟩:=mQ true 16 K9 rest K0;obtain⟨v',c2,Pf⟩:=mQ true 16 K9 [] (by simp);have e:NZ rest=none:=yD h2;unfold uq;rw[e];generalize (wN true 16 rest).isSome =o1 at*;generalize (wN true 16 []).isSome =o2 at*;exact CZ
 ·rw[h1]at ct;obtain⟨v,c1,hv⟩:=mQ true 16 K9 a K0;obtain⟨v',c2,Pf⟩:=mQ true 16 K9 b K0;have e:NZ rest=(wN true 16 a).bind λx=>(wN true 16 b).map λy=>(x,y):=yE (λ_ h=>adj h) h2;unfold uq;rw[e]
  cases e1:wN true 16 a with
  |none=>
   rw[e1]at c1;generalize (wN true 16 b).isSome =o2 at*;exact CZ
  |some n=>
   cases e2:wN true 16 b with
   |none=>
    rw[e1]at c1;rw[e2]at c2;exact CZ
   |some n'=>
    rw[e1]at c1;rw[e2]at c2;obtain rfl:=hv _ e1;obtain rfl:=Pf _ e2;have c3:=uo n n' lo hi;show nN _ _ _ _ (.aJ [I (rO n n' lo hi).1,I (rO n n' lo hi).2]);generalize rO n n' lo hi=z at*;exact CZ
def alK (p:Pl)(log:List En)(u:Un)(nm:aj)(nd:List aj)(ru:aj)(lo hi:Int)(rest:aj)(hl:rest.length<=10000):
  ad 203 [WR p log,UR u,(true,fC ⟨nm,3,nd,ru,lo,hi⟩),SS rest] (.aJ [I (EX lo hi rest).1,I (EX lo hi rest).2]):=by
 have c1:=AC rest hl;obtain⟨⟨b1,b2⟩,b3⟩:=ZR rest;have c2:=Gz (Cn rest).1 K0 K0 b3;unfold EX;generalize Cn rest=y at*;obtain⟨x,ye⟩:=y;by_cases h1:ye=0
 ·subst h1;rw[if_pos rfl];dsimp only at c1 c2 ⊢;generalize TH x=w at*;obtain⟨⟨w1,w2⟩,we⟩:=w;by_cases h2:we=0
  ·subst h2;rw[if_pos rfl];have c3:=uo w1 w2 lo hi;generalize rO w1 w2 lo hi=z at*;exact CZ
  ·rw[if_neg h2];exact CZ
 ·rw[if_neg h1];exact CZ
def alL (p:Pl)(log:List En)(u:Un)(nm:aj)(nd:List aj)(ru:aj)(lo hi:Int)(rest:aj)(hl:rest.length<=10000)(hr:ru.length<=10000):
  ad 203 [WR p log,UR u,(true,fC ⟨nm,1,nd,ru,lo,hi⟩),SS rest] (.aJ [I (Kn log u ⟨nm,1,nd,ru,lo,hi⟩ rest).1,I (Kn log u ⟨nm,1,nd,ru,lo,hi⟩ rest).2]):=by
 have c1:=nf ru hr;have c2:=lX rest hl;obtain⟨b1,b2,b3⟩:=Ct ru;have b4:=vi rest;unfold Kn;dsimp only;rw[if_neg K9,if_neg K9];generalize iD (eC (av 59 ru))=y at*;obtain⟨⟨e,q,ch⟩,ye⟩:=y;generalize dQ (cD (av 32 rest))=x at*;obtain⟨⟨st,l⟩,xe⟩:=x;dsimp only at*;by_cases h1:xe=0
 ·subst h1;rw[if_pos rfl,if_neg K9];have c3:=Gr e q ch st l b1 b2 K0 abX;unfold aaf;by_cases h2:sL e q ch st l=0
  ·rw[if_pos h2]at c3 ⊢;have c4:=Km e q ch b1 b2 K0 l;generalize zg e q ch l=w at*;obtain⟨⟨w1,w2⟩,we⟩:=w;by_cases h3:we=0
   ·subst h3;rw[if_pos rfl];have c5:=uo w1 w2 lo hi;generalize rO w1 w2 lo hi=z at*;exact CZ
   ·rw[if_neg h3];exact CZ
  ·rw[if_neg h2]at c3 ⊢;generalize sL e q ch st l=z at*;exact CZ
 ·rw[if_neg h1];exact CZ
abbrev fZ:En:=⟨0,[],[]⟩
def QS (s:aj)(hl:s.length<=100000)(h:4<=(av 32 s).length):ad 290 [SS s] (.one (SS (bP 3 s))):=by
 have c1:ad 133 [SS s,SS [32],I 4] _:=rI s 4 K0 K0 K0;rw[J2 _ _ K0 h,show 4 -1=3 from rfl]at c1;have ak:((av 32 s).take 3).length =3:=by simp;omega
 generalize (av 32 s).take 3=l at*;generalize bP 3 s=r at*;have hg:(ab (l++[r]))[3]? =some [T r]:=by simp[ab,ak]
 have hn:(ab (l++[r])).length =4:=by simp[ab,ak]
 refine sF f290 ?_;exact tA
def N4 (p:Pl)(log:List En)(u:Un)(nm n0:aj)(kd:Int)(nd:List aj)(ru:aj)(lo hi:Int)(lC:u.res.length<=1000000){rt:aj}{ra:Int}{k:Nat}{rv:Bool}(hr:iM u.res n0=some ⟨rt,ra,(k:Nat),rv⟩)
  (hk:k<log.length)(h4:4<=(av 32 (log.getD k fZ).text).length)(ht:(log.getD k fZ).text.length <=9000)(e:Int)(q:Sp)(ch:List Sp)(hq:qr q)(vJ: ∀s∈ch,qr s)(hc:ch.length<=100000)(st:Int)(l:List Int)(hl:l.length<=100000):
  ad 252 [WR p log,UR u,(true,fC ⟨nm,kd,n0::nd,ru,lo,hi⟩),Ru e q ch,Rc st l]
   (.aJ [I (Wh (du e q ch (dQ (cD (av 32 (bP 3 (log.getD k fZ).text)))).1.1 (dQ (cD (av 32 (bP 3 (log.getD k fZ).text)))).1.2 st l) e (TS e q (dQ (cD (av 32 (bP 3 (log.getD k fZ).text)))).1.2 l)).1,
    I (Wh (du e q ch (dQ (cD (av 32 (bP 3 (log.getD k fZ).text)))).1.1 (dQ (cD (av 32 (bP 3 (log.getD k fZ).text)))).1.2 st l) e (TS e q (dQ (cD (av 32 (bP 3 (log.getD k fZ).text)))).1.2 l)).2]):=by
 have he:=bg (f:=df) hk fZ;have c1:=Nr (T u.name) (J u.win.k1) (J u.win.t1) (J u.win.s1) (K u.win.r1) (J u.win.k2) (J u.win.t2) (J u.win.s2) (K u.win.r2) (J u.win.st) (.view (ab u.lots)) u.res [K u.failed,K u.rel,K u.shaken,J u.used,.view (u.gas.map uV)] n0 lC;replace c1:ad 225 [UR u,SS n0] (.aJ [(true,[T rt,J ra,J ((k:Nat):Int),K rv]),Bo true]):=by rw[hr]at c1;exact c1
 generalize hE:log.getD k fZ=en at*;obtain⟨et,ew,tx⟩:=en;dsimp only at*;have c2:=QS tx K0 h4;have hdl:=lZ 3 tx;have c3:=lX (bP 3 tx) K0;have b1:=vi (bP 3 tx);have zI:(log.map df).length =log.length:=by simp
 generalize dQ (cD (av 32 (bP 3 tx)))=x at*;obtain⟨⟨sa,la⟩,xe⟩:=x;dsimp only at*;generalize bP 3 tx=dr at*;have c4:=AB e q ch sa la st l hq vJ K0 abM abM;unfold Wf at c4;unfold Wh;by_cases h1:du e q ch sa la st l=0
 ·rw[h1]at c4 ⊢;rw[if_neg K0]at c4 ⊢;by_cases h2:kf (TS e q la l)
  ·rw[if_pos h2]at c4 ⊢;exact ab4
  ·rw[if_neg h2]at c4 ⊢;by_cases h3:e=0
   ·rw[if_pos h3]at c4;exact ab4
   ·rw[if_neg h3]at c4;exact ab4
 ·rw[if_pos h1]at c4 ⊢;generalize du e q ch sa la st l=z at*;exact ab4
def aag (log:List En)(u:Un)(t:Ts):Prop:=∃n0 nd rt ra,∃k:Nat,∃rv,t.bu=n0::nd/\iM u.res n0=some ⟨rt,ra,(k:Nat),rv⟩/\k<log.length/\4<=(av 32 (log.getD k fZ).text).length /\(log.getD k fZ).text.length <=9000
def alM (p:Pl)(log:List En)(u:Un)(nm:aj)(nd:List aj)(ru:aj)(lo hi:Int)(rest:aj)(lC:u.res.length<=1000000)(hl:rest.length<=10000)(hr:ru.length<=10000)(hc:aag log u ⟨nm,2,nd,ru,lo,hi⟩):
  ad 203 [WR p log,UR u,(true,fC ⟨nm,2,nd,ru,lo,hi⟩),SS rest] (.aJ [I (Kn log u ⟨nm,2,nd,ru,lo,hi⟩ rest).1,I (Kn log u ⟨nm,2,nd,ru,lo,hi⟩ rest).2]):=by
 obtain⟨n0,nd',rt,ra,k,rv,rfl,h1,h2,h3,h4⟩:=hc;have c1:=nf ru hr;have c2:=lX rest hl;obtain⟨b1,b2,b3⟩:=Ct ru;have b4:=vi rest;have c3:=λe q ch hq vJ hc st l hl=>N4 p log u nm n0 2 nd' ru lo hi lC h1 h2 h3 h4 e q ch hq vJ hc st l hl;unfold Kn;dsimp only;rw[if_neg K9,if_neg K9,Lx,h1];simp only[sY,sB];generalize log.getD k fZ=en at*;generalize iD (eC (av 59 ru))=y at*;obtain⟨⟨e,q,ch⟩,ye⟩:=y;generalize dQ (cD (av 32 rest))=x at*;obtain⟨⟨st,l⟩,xe⟩:=x;dsimp only at*;by_cases h1:xe=0
 ·subst h1;rw[if_pos rfl,if_pos trivial];have c4:=c3 e q ch b1 b2 K0 st l K0;generalize Wh (du e q ch (dQ (cD (av 32 (bP 3 en.text)))).1.1 (dQ (cD (av 32 (bP 3 en.text)))).1.2 st l) e (TS e q (dQ (cD (av 32 (bP 3 en.text)))).1.2 l)=z at*;refine sF f203 ?_;exact tA
 ·rw[if_neg h1];refine sF f203 ?_;exact tA
def Ko (p:Pl)(log:List En)(u:Un)(t:Ts)(rest:aj)(lC:u.res.length<=1000000)(hl:rest.length<=10000)(hr:t.rules.length<=10000)(hk:0<=t.kind/\t.kind<=3)(hc:t.kind=2->aag log u t):
  ad 203 [WR p log,UR u,(true,fC t),SS rest] (.aJ [I (Kn log u t rest).1,I (Kn log u t rest).2]):=by
 obtain⟨nm,kd,nd,ru,lo,hi⟩:=t;dsimp only at hr hk hc;obtain rfl|rfl|rfl|rfl:kd=0\/kd=1\/kd=2\/kd=3:=by omega
 ·exact alJ p log u nm nd ru lo hi rest hl
 ·exact alL p log u nm nd ru lo hi rest hl hr
 ·exact alM p log u nm nd ru lo hi rest lC hl hr (hc rfl)
 ·exact alK p log u nm nd ru lo hi rest hl
def vj {E E':dP}{H:Hp}{nx n':Nat}{p:Pl}{log:List En}{s:bK}{u u0:Un}{us:List Un}{i:Nat}{m:List (Nat × Nat)}{X:Hp}{ks:List Nat}(hi:us[i]? =some u0)(hl:us.length<=1000)(hm:Go.Fw.IM ((9,9)::m)=true)(h9:H.get 9=some (.aA 17 ((az 0 us).set i (cP u 11 13 15))))
  (h1:bO ((9,9)::m) 11=some 11)(h2:bO ((9,9)::m) 13=some 13)(h3:bO ((9,9)::m) 15=some 15)
  (hY:jT ((9,9)::m++mW (ax us i)) H.get m=some (hd p log s++lz u 11 13 15++X))(hX:((ah X).all λk=>Nat.beq (k%2) 0)=true)(hE:ib H (ax us i))(hn:(m.all λq=>Nat.blt (tag q.2) n')=true)(h0:Nat.blt 0 n'=true)
  (ahA:eZ ((9,9)::m++mW (ax us i)) E.get ks=some E'):bs ⟨E,H,nx⟩ ⟨E',X++eh p log s u ((az 0 us).set i (cP u 11 13 15)) (ax us i),n'⟩:=by
 have hT:=Bu hi hl;have hXe: ∀k∈ah X,k%2=0:=λk hk=>o8 (wC.1 hX k hk);have ahB: ∀ {k v:Nat},bO ((9,9)::m) k=some v->bO ((9,9)::m++mW (ax us i)) k=some v:=λ{k v} h=>by rw[kT,h]
 have iE:fI ((9,9)::m++mW (ax us i)) ((az 0 us).set i (cP u 11 13 15))=some ((az 0 us).set i (cP u 11 13 15)):=by
  rw[uZ hi];refine yU (qy hT hm λn hn=>?_) ?_
  grind
  ·have h2':=qy (m:=(9,9)::m) hT hm (k:=i+1) (us:=us.drop (i+1)) λn hn=>by
    grind
   unfold fI;rw[h2'];simp only[cP,eX,m7,ahB h1,ahB h2,ahB h3]
 have fB:=cW.form (Y:=hd p log s++lz u 11 13 15++X) hT hm h9 iE hY (by
  rw[wC];intro k hk;have hk:k∈ah (hd p log s++lz u 11 13 15)++ah X:=by grind
  rcases gC.1 hk with h|h
  ·have:k=1\/k=3\/k=5\/k=7\/k=11\/k=13\/k=15:=by simpa [hd,lz,ah]using h
   rcases this with rfl|rfl|rfl|rfl|rfl|rfl|rfl<;>rfl
  grind[JF]) (hE.get hT)
 refine(Co fB (λq hq=>?_) ahA).trans (Cm ?_)
 ·have h0:0<n':=by simp_all
  rcases gC.1 hq with h|h
  ·rcases cQ.1 h with rfl|h
   ·exact h0
   grind[Nat.blt_eq]
  ·exact ah1
 ·generalize (az 0 us).set i (cP u 11 13 15)=l at*;have e:((9,some (co.aA 17 l))::(hd p log s++lz u 11 13 15++X)++ax us i:Hp)=((9,some (.aA 17 l))::(hd p log s++lz u 11 13 15))++(X++ax us i):=by simp
  rw[e,show X++eh p log s u l (ax us i)=X++(((9,some (.aA 17 l))::(hd p log s++lz u 11 13 15))++ax us i)by simp[eh]];refine ql λn hn hm=>?_;have h1:=hXe n hn;have:n=9\/n=1\/n=3\/n=5\/n=7\/n=11\/n=13\/n=15:=by simpa [hd,lz,ah]using hm
  omega
def voR (vd:List aj)(r:Rs):Rs:={r with void:=r.void || decide (r.test∈vd)}
def jb (l:List Rs)(vd:List aj)(i:Nat):List Rs:=(l.take i).map (voR vd)++l.drop i
def aak (l:List Rs)(vd:List aj)(i:Nat):(jb l vd i).length =l.length:=by grind[jb]
def Kp {l:List Rs}{vd:List aj}{i:Nat}(h:i<l.length):((jb l vd i).map kE)[i]? =some (kE (l.getD i BT)):=by grind[jb]
def EY {l:List Rs}{vd:List aj}{i:Nat}(h:i<l.length):((jb l vd i).map kE).set i (kE (voR vd (l.getD i BT)))=(jb l vd (i+1)).map kE:=by
 rw[<- LL];congr 1;have ak:(l.take i).length =i:=by grind
 unfold jb;rw[Sf _ _ br,ja,ak,G3,BH,wD,GY];congr 1
 grind[List.drop_eq_getElem_cons]
def N5 (l:List Rs)(vd:List aj):jb l vd l.length=l.map (voR vd):=by simp[jb]
def aal {p:Pl}{y:aj}(h:y∈p.bd):nj p y=p.parts.getD (aZ p.bd y).toNat ([],[])/\0<=aZ p.bd y/\nj p y∈p.parts:=by
 obtain⟨k,hk,e⟩:=k6 h;have uD:k<p.parts.length:=by grind[Pl.bd]
 have hd:nj p y=p.parts.getD (aZ p.bd y).toNat ([],[]):=by unfold nj;grind
 grind
def QV (E:qH)(p:Pl)(log:List En)(s:bK)(hl:s.units.length<=1000)(x y:aj)(n:List Int)(r:aj)(hp:p.aa.length<=1000)(hpp:p.parts.length<=1000)(hpv: ∀q∈p.parts,q.2.length<=1000)(AM: ∀i<p.aa.length,(p.aa.getD i dt).bu.length <=1000)(hu: ∀u∈s.units,u.res.length<=1000):
  bt cx 127 1 ((false,[.ptr 1 0])::[wX [x,y] n r].map dyn) (form p log s) [1] (.val (dyn (I (ba E p log s 13 [x,y] n r).2))) (form p log (ba E p log s 13 [x,y] n r).1):=by
 rw[show ba E p log s 13 [x,y] n r=TG E p log s 13 x [x,y] n r from rfl];obtain⟨volt,earth,opens,hall,lots,units⟩:=s;have ct:=Qw p y hpp;by_cases hx:0<=gY ⟨volt,earth,opens,hall,lots,units⟩ x
 ·obtain⟨i,u,h1,h2,h3,h4,h5⟩:=jX hx;have c0:=λfid H=>k7 (fid:=fid) (H:=H) h3 hl h1;have La:=jt h3;have hr:u.res.length<=1000:=hu u La;by_cases hy:y∈p.bd
  ·obtain⟨t1,t2,t3⟩:=aal hy;rw[fH hy]at ct
   have hq:aI E p log ⟨volt,earth,opens,hall,lots,units⟩ u 13 [x,y] n r=if u.rel then(u,20)else if hall=u.name/\opens= []then(u,24)else
     ({u with res:=u.res.map (voR (jj p.aa (nj p y).2)),failed:=false},0):=by
    rw[t1];exact if_pos t2
   have cv:=Qx p (nj p y) hp (hpv _ t3) AM;have WZ:(jj p.aa (nj p y).2).length <=p.aa.length:=rq _ _;generalize jj p.aa (nj p y).2=vd at*;clear t1 t2 t3;generalize nj p y=t at*;obtain⟨nm,vs⟩:=t;obtain⟨name,win,ul,res,failed,rel,shaken,used,gas⟩:=u;dsimp only at hq hr;cases rel
   ·rw[if_neg xH]at hq;by_cases hh:hall=name/\opens= []
    ·obtain⟨rfl,rfl⟩:=hh;rw[aY hx h2 h4 (hq.trans (if_pos ⟨rfl,rfl⟩))];exact af2
    ·rw[aY hx h2 h4 (hq.trans (if_neg hh))];refine gI f127 h3 hl rfl ?_;have Xj:(res.map kE).length =res.length:=by simp
     have ho:hall=name->((ab opens).length :Int)>0:=λe=>by
      cases opens with
      |nil=>grind
      |cons a l=>grind
     by_cases hn:hall=name
     ·have ho:=ho hn;repeat' ((first|(refine kO 7 rfl ?_;first|refine ij (λ_ z=>⟨_,_,_,(c0 _ _ ⟨_,_,rfl,rfl⟩ rfl),z⟩) ?_|refine rG (λ_ z=>⟨_,aN ho _,z⟩) ?_|refine Rq (bX _ _) ?_|refine rG (λ_ z=>⟨_,wF (E:=0) rfl,z⟩) ?_)|refine tX 0 ?_|exact Zt|refine bR ?_ ?_<;>intro h)<;>(try conv=>whnf))
      all_goals try contradiction
      refine af (ι:=Nat) (λk=>k<=res.length) (λk=>res.length -k) (λk=>⟨[(0,pP 1),(5,some (.val (false,[.cF 9 17 i 0]))),(9,pO 2),(76,vI res.length),(77,vI k)],[(2,some (.row true 1 (.view (ab vd))))]++eh p log ⟨volt,earth,opens,hall,lots,units⟩ ⟨name,win,ul,jb res vd k,failed,false,shaken,used,gas⟩ ((az 0 units).set i (cP ⟨name,win,ul,res,failed,false,shaken,used,gas⟩ 11 13 15)) (ax units i),1000⟩) 0
       (vj (ks:=[0,5,9,76,77]) (m:=[(1,1),(3,3),(5,5),(7,7),(11,11),(13,13),(15,15),(134,2)]) h3 hl dp rfl dp dp dp dp dp K47 dp dp UE) (dC _) ?_
      intro k hk;by_cases ak:k<res.length
      ·have he:=Kp (vd:=vd) ak;have lj:=EY (vd:=vd) ak;have uD:((jb res vd k).map kE).length =res.length:=by exact abT
       generalize res.getD k BT=rr at*;obtain⟨rt,ra,re,rv⟩:=rr;have cc:=bD vd rt K0;cases rv
       ·repeat' ((first|refine tX 0 ?_|exact Zt|refine bR ?_ ?_<;>intro h)<;>(try conv=>whnf))
        all_goals first|exact Zo|exact⟨k+1,ak,by omega,vj (ks:=[0,5,9,76,77]) (m:=[(1,1),(3,3),(5,5),(7,7),(11,11),(13,13),(15,15),(2,2)]) h3 hl dp rfl dp dp dp abG dp K47 dp dp dp⟩
       ·repeat' ((first|refine tX 0 ?_|exact Zt|refine bR ?_ ?_<;>intro h)<;>(try conv=>whnf))
        all_goals first|exact Zo|exact⟨k+1,ak,by omega,vj (ks:=[0,5,9,76,77]) (m:=[(1,1),(3,3),(5,5),(7,7),(11,11),(13,13),(15,15),(2,2)]) h3 hl dp rfl dp dp dp abG dp K47 dp dp dp⟩
      ·exact ajO
     ·repeat' ((first|(refine kO 7 rfl ?_;first|refine ij (λ_ z=>⟨_,_,_,(c0 _ _ ⟨_,_,rfl,rfl⟩ rfl),z⟩) ?_|refine Rq (bX _ _) ?_|refine rG (λ_ z=>⟨_,wF (E:=0) rfl,z⟩) ?_)|refine tX 0 ?_|exact Zt|refine bR ?_ ?_<;>intro h)<;>(try conv=>whnf))
      all_goals try contradiction
      refine af (ι:=Nat) (λk=>k<=res.length) (λk=>res.length -k) (λk=>⟨[(0,pP 1),(5,some (.val (false,[.cF 9 17 i 0]))),(9,pO 2),(76,vI res.length),(77,vI k)],[(2,some (.row true 1 (.view (ab vd))))]++eh p log ⟨volt,earth,opens,hall,lots,units⟩ ⟨name,win,ul,jb res vd k,failed,false,shaken,used,gas⟩ ((az 0 units).set i (cP ⟨name,win,ul,res,failed,false,shaken,used,gas⟩ 11 13 15)) (ax units i),1000⟩) 0
       (vj (ks:=[0,5,9,76,77]) (m:=[(1,1),(3,3),(5,5),(7,7),(11,11),(13,13),(15,15),(134,2)]) h3 hl dp rfl dp dp dp dp dp K47 dp dp UE) (dC _) ?_
      intro k hk;by_cases ak:k<res.length
      ·have he:=Kp (vd:=vd) ak;have lj:=EY (vd:=vd) ak;have uD:((jb res vd k).map kE).length =res.length:=by exact abT
       generalize res.getD k BT=rr at*;obtain⟨rt,ra,re,rv⟩:=rr;have cc:=bD vd rt K0;cases rv
       ·repeat' ((first|refine tX 0 ?_|exact Zt|refine bR ?_ ?_<;>intro h)<;>(try conv=>whnf))
        all_goals first|exact Zo|exact⟨k+1,ak,by omega,vj (ks:=[0,5,9,76,77]) (m:=[(1,1),(3,3),(5,5),(7,7),(11,11),(13,13),(15,15),(2,2)]) h3 hl dp rfl dp dp dp abG dp K47 dp dp dp⟩
       ·repeat' ((first|refine tX 0 ?_|exact Zt|refine bR ?_ ?_<;>intro h)<;>(try conv=>whnf))
        all_goals first|exact Zo|exact⟨k+1,ak,by omega,vj (ks:=[0,5,9,76,77]) (m:=[(1,1),(3,3),(5,5),(7,7),(11,11),(13,13),(15,15),(2,2)]) h3 hl dp rfl dp dp dp abG dp K47 dp dp dp⟩
      ·exact ajO
   ·rw[aY hx h2 h4 (hq.trans (if_pos rfl))];exact af2
  ·rw[eT hy]at ct;have dx: ¬0<=aZ p.bd y:=by grind[fp]
   generalize nj p y=t at*;obtain⟨nm,vs⟩:=t;rw[aY hx h2 h4 (show aI E p log ⟨volt,earth,opens,hall,lots,units⟩ u 13 [x,y] n r=(u,6)from if_neg dx)];obtain⟨name,win,ul,res,failed,rel,shaken,used,gas⟩:=u;exact af2
 ·rw[oL hx];generalize nj p y=t at*;obtain⟨nm,vs⟩:=t;generalize decide (y∈p.bd)=is at*;refine gF f127 hl ?_;exact K15
def TU {H:HF}{fid:Nat}{us:List Un}{i:Nat}(hl:us.length<=1000){x:aj}(hx:aZ (us.map Un.name) x=(i:Nat))(h1: ∃t cs,H 1=some (.box t cs)/\cs[12]? =some (.own 9))(h9:H 9=some (.aA 17 (az 0 us))):
  bN cx fid 89 [(false,[.ptr 1 0]),(false,[.st (T x)])] H (bm (.cF 9 17 i 0)) [] [1,9]:=
 Ev (ns:=us.map Un.name) x ⟨h1,⟨_,h9,by rw[eN,ja],λ_ _ he=>Ao he⟩,by grind⟩ (.inr ⟨by omega,by grind⟩)
def unZ (u:Un):List DC:=[.st (T u.name),.st (J u.win.k1),.st (J u.win.t1),.st (J u.win.s1),.st (K u.win.r1),.st (J u.win.k2),.st (J u.win.t2),.st (J u.win.s2),.st (K u.win.r2),.st (J u.win.st),.nil,.nil,.st (K u.failed),.st (K u.rel),.st (K u.shaken),.st (J u.used),.nil]
def aan {E:dP}{Hh:Hp}{nx:Nat}(id:Nat){l:List (List DC)}{u:Un}(hB:Hh.get id=some (.aA 17 (l++[unZ u]))):
  ∃X2 X1:List (List DC),bs ⟨E,Hh,nx⟩ ⟨E,(id,some (.aA 17 (l++[cP u (2*nx) (2*(nx+1)) (2*(nx+1+1))])))::(2*(nx+1+1),some (.row true 5 (.view [])))::(id,some (.aA 17 X2))::(2*(nx+1),some (.row true 4 (.view [])))::(id,some (.aA 17 X1))::(2*nx,some (.row true 1 (.view [])))::Hh,nx+1+1+1⟩:=by
 have FC: ∀e e':List DC,(l++[e]).set l.length e'=l++[e']:=λe e'=>by simp
 have FM: ∀e:List DC,(l++[e])[l.length]? =some e:=λe=>by simp
 have s1:=EH (E:=E) (nx:=nx) id l.length 10 1 (.view []) K9 rfl rfl hB (FM _) (show(unZ u)[10]? =some .nil from rfl);rw[FC]at s1;have s2:=EH (E:=E) (nx:=nx+1) (Hh:=(id,some (.aA 17 (l++[(unZ u).set 10 (.own (2*nx))])))::(2*nx,some (.row true 1 (.view [])))::Hh) id l.length 11 4 (.view []) K9 rfl rfl Pw (FM _) (show((unZ u).set 10 (.own (2*nx)))[11]? =some .nil from rfl);rw[FC]at s2;have s3:=EH (E:=E) (nx:=nx+1+1) (Hh:=(id,some (.aA 17 (l++[((unZ u).set 10 (.own (2*nx))).set 11 (.own (2*(nx+1)))])))::(2*(nx+1),some (.row true 4 (.view [])))::(id,some (.aA 17 (l++[(unZ u).set 10 (.own (2*nx))])))::(2*nx,some (.row true 1 (.view [])))::Hh) id l.length 16 5 (.view []) K9 rfl rfl Pw (FM _) (show(((unZ u).set 10 (.own (2*nx))).set 11 (.own (2*(nx+1))))[16]? =some .nil from rfl);rw[FC]at s3;exact⟨_,_,(s1.trans s2).trans s3⟩
def agO (fn:Func)(p:Pl)(log:List En)(s:bK)(us:List Un)(u:Un)(r:DV)(S:St):Prop:=∃lg op lt un a b c,
 S.env.get 0=some (.val (false,[.ptr 1 0]))/\S.hp.get 1=some (.box 126 [.st (.view (p.ae.map m9)),.st (.view (ab p.ap)),.st (.view (p.aa.map fC)),.st (.view (p.parts.map mi)),.st (J p.dW),.st (J p.eH),.own lg,.st (K s.volt),.st (K s.earth),.own op,.st (T s.hall),.own lt,.own un])/\
 S.hp.get un=some (.aA 17 (az 0 us++[cP u a b c]))/\
 S.hp.get lg=some (.row true 3 (.view (log.map df)))/\S.hp.get op=some (.row true 1 (.view (ab s.opens)))/\S.hp.get lt=some (.row true 1 (.view (ab s.lots)))/\
 S.hp.get a=some (.row true 1 (.view (ab u.lots)))/\S.hp.get b=some (.row true 4 (.view (u.res.map kE)))/\S.hp.get c=some (.row true 5 (.view (u.gas.map uV)))/\
 Go.Fw.IM [(un,9),(1,1),(lg,3),(op,5),(lt,7),(a,11),(b,13),(c,15)]=true/\ib S.hp (bq 0 us)/\
 er cx S.hp.get S.env.get fn.results.toList λys=>∃zs,kS ([(un,9),(1,1),(lg,3),(op,5),(lt,7),(a,11),(b,13),(c,15)]++mW (bq 0 us)) ys=some zs/\ph zs=r
def adk {un lg op lt a b c:Nat}(h:Go.Fw.IM [(un,9),(1,1),(lg,3),(op,5),(lt,7),(a,11),(b,13),(c,15)]=true):
  (1≠un)/\(lg≠un/\lg≠1)/\(op≠un/\op≠1/\op≠lg)/\(lt≠un/\lt≠1/\lt≠lg/\lt≠op)/\(a≠un/\a≠1/\a≠lg/\a≠op/\a≠lt)/\(b≠un/\b≠1/\b≠lg/\b≠op/\b≠lt/\b≠a)/\c≠un/\c≠1/\c≠lg/\c≠op/\c≠lt/\c≠a/\c≠b:=by
 exact ahT
def adl {fn:Func}{p:Pl}{log:List En}{s:bK}{u:Un}{us:List Un}{r:DV}{S:St}(hl:us.length<=1000)(h:agO fn p log s us u r S):
  ∃m:List (Nat × Nat),cW m S.hp.get (eh p log s u (az 0 us++[cP u 11 13 15]) (bq 0 us)).get /\(∀q∈[(0,1)],∃o off,S.env.get q.1=some (.val (false,[.ptr o off]))/\(o,q.2)∈m)/\
   er cx S.hp.get S.env.get fn.results.toList λys=>∃zs,kS m ys=some zs/\ph zs=r:=by
 obtain⟨lg,op,lt,un,a,b,c,h0,h1,h9,h2,h3,h4,h5,h6,h7,hm,hE,hr⟩:=h;have hT:=fX hl;obtain⟨z1,⟨n1,n2⟩,⟨n3,n4,n5⟩,⟨n6,n7,n8,n9⟩,⟨a1,a2,a3,a4,a5⟩,⟨b1,b2,b3,b4,b5,b6⟩,c1,c2,c3,c4,c5,c6,c7⟩:=adk hm;have id1:bO ((un,9)::[(1,1),(lg,3),(op,5),(lt,7),(a,11),(b,13),(c,15)]++mW (bq 0 us)) lg=some 3:=aca;have id2:bO ((un,9)::[(1,1),(lg,3),(op,5),(lt,7),(a,11),(b,13),(c,15)]++mW (bq 0 us)) op=some 5:=aca;have id3:bO ((un,9)::[(1,1),(lg,3),(op,5),(lt,7),(a,11),(b,13),(c,15)]++mW (bq 0 us)) lt=some 7:=abI;have id5:bO ((un,9)::[(1,1),(lg,3),(op,5),(lt,7),(a,11),(b,13),(c,15)]++mW (bq 0 us)) a=some 11:=abI;have id6:bO ((un,9)::[(1,1),(lg,3),(op,5),(lt,7),(a,11),(b,13),(c,15)]++mW (bq 0 us)) b=some 13:=aiG;have id7:bO ((un,9)::[(1,1),(lg,3),(op,5),(lt,7),(a,11),(b,13),(c,15)]++mW (bq 0 us)) c=some 15:=aiB;have id4:bO ((un,9)::[(1,1),(lg,3),(op,5),(lt,7),(a,11),(b,13),(c,15)]++mW (bq 0 us)) un=some 9:=by grind[mN]
 have iE:fI ((un,9)::[(1,1),(lg,3),(op,5),(lt,7),(a,11),(b,13),(c,15)]++mW (bq 0 us)) (az 0 us++[cP u a b c])=some (az 0 us++[cP u 11 13 15]):=by
  refine yU (qy hT hm λn hn=>hn) ?_;unfold fI;simp only[cP,eX,m7,id5,id6,id7];rfl
 refine⟨_,cW.aen (Y:=hd p log s++lz u 11 13 15) hT hm h9 iE ?_ rfl (hE.get hT),λq hq=>?_,hr⟩
 ·exact ai9
 grind
def adm {f:FuncId}{xs:List DX}{Hs:Hp}{p:Pl}{log:List En}{s':bK}{us:List Un}{i:Nat}{u u':Un}{y:SV}(hi:us[i]? =some u)(hl:us.length<=1000)(hs:s'.units=us.set i u')
  (h:bt cx f 1 xs Hs [1] (.val (dyn y)) (eh p log s' u' ((az 0 us).set i (cP u' 11 13 15)) (ax us i))):bt cx f 1 xs Hs [1] (.val (dyn y)) (form p log s'):=by
 have fh:=nU p log s' (u':=u') hi hl;have ami: ∀k∈ah (eh p log s' u' ((az 0 us).set i (cP u' 11 13 15)) (ax us i)),k≠17+6*i/\k≠19+6*i/\k≠21+6*i:=λk qF=>by exact ahN
 have ahl: ∀a∈ah (eh p log s' u' ((az 0 us).set i (cP u' 11 13 15)) (ax us i)),∀b∈ah (eh p log s' u' ((az 0 us).set i (cP u' 11 13 15)) (ax us i)),HO i a=HO i b->a=b:=λa ha b hb e=>by grind[HO]
 have u1:HO i 1=1:=JS K0 K0 K0
 have g3:=h.out (m8.hp fh ahl) (by
   grind[lF,bA]) (λid hid=>by rw[lq]at hid;subst hid;exact⟨fh.xG,u1⟩)
 have hr:KV (HO i) (.val (dyn y))= .val (dyn y):=aP DV.val (JH _ y)
 grind[bt.congr,MN]
def gU {f:FuncId}{c:Code}{p:Pl}{log:List En}{s s':bK}{u:Un}{ys:List SV}{y:SV}(fn:Func)(hl:s.units.length<1000)(hs:s'.units=s.units++[u])
  (h:m6 cx c ⟨iz 0 ((false,[.ptr 1 0])::ys.map dyn),form p log s,1⟩ (agO fn p log s' s.units u (.val (dyn y))) (λ_ _=>False) (agO fn p log s' s.units u (.val (dyn y))))
  (h1:iG cx.P f=true:=by kernel_rfl)(h2:cx.P.funcs[f]? =some fn:=by kernel_rfl)(h3:fn.body=some c:=by rfl)(h4:bM fn.ntmps c=true:=by kernel_rfl)(h5:ys.length+1<=fn.ntmps:=by exact fP rfl)(h6:aM [0] c=true:=by kernel_rfl):
  bt cx f 1 ((false,[.ptr 1 0])::ys.map dyn) (form p log s) [1] (.val (dyn y)) (form p log s'):=by
 have g:=fw lG h1 h2 h3 h4 br [(0,1)] (λp hp=>by grind) h6 (λS hS=>adl K0 hS) h;have hi:(s.units++[u])[s.units.length]? =some u:=by simp
 have e1:(az 0 (s.units++[u])).set s.units.length (cP u 11 13 15)=az 0 s.units++[cP u 11 13 15]:=by
  rw[uY];show(az 0 s.units++[cP u _ _ _]).set _ _=_;have:=eN 0 s.units;simp_all
 have e2:ax (s.units++[u]) s.units.length=bq 0 s.units:=by grind[bq,List.drop_eq_nil_of_le]
 refine adm (u':=u) hi br br ?_;rw[e1,e2];exact g
def N7 (E:qH)(p:Pl)(log:List En)(s:bK)(hE:E.pu=H7)(hl:s.units.length<=900)(x:aj)(n:List Int)(r:aj)(hx:x.length<=1000)(hr:r.length<=100000):
  bt cx 116 1 ((false,[.ptr 1 0])::[wX [x] n r].map dyn) (form p log s) [1] (.val (dyn (I (ba E p log s 2 [x] n r).2))) (form p log (ba E p log s 2 [x] n r).1):=by
 obtain⟨volt,earth,opens,hall,lots,units⟩:=s;have c1:=gi x K0;have c9:=λ_:Unit=>ur r hr;unfold jG at c1;have e:ba E p log ⟨volt,earth,opens,hall,lots,units⟩ 2 [x] n r=if eK x then(if x∈units.map Un.name then(⟨volt,earth,opens,hall,lots,units⟩,5)else if units.length<6 then(if(H7 r).2=0 then(⟨volt,earth,opens,hall,lots,units++[{o6 with name:=x,win:=(H7 r).1}]⟩,0)else(⟨volt,earth,opens,hall,lots,units⟩,(H7 r).2))else(⟨volt,earth,opens,hall,lots,units⟩,16))else(⟨volt,earth,opens,hall,lots,units⟩,4):=by rw[<- hE];rfl
 rw[e];clear e;have hl:units.length<=900:=hl;have sr:units.length<=1000:=by omega
 have iE:=eN 0 units;by_cases h2:x∈units.map Un.name
 ·obtain⟨i,hi,e⟩:=k6 h2;have c0:=λfid H=>TU (fid:=fid) (H:=H) sr e;by_cases h1:eK x
  ·rw[if_pos h1]at c1 ⊢;rw[if_pos h2];refine gF f116 sr ?_;repeat' ((first|(refine kO 7 rfl ?_;first|refine ij (λ_ z=>⟨_,_,_,(c0 _ _ ⟨_,_,rfl,rfl⟩ rfl),z⟩) ?_|refine Rq (iR _) ?_|refine rG (λ_ z=>⟨_,wF (E:=5) rfl,z⟩) ?_)|refine tX 0 ?_|exact Zt|refine bR ?_ ?_<;>intro h)<;>(try conv=>whnf))
   all_goals first|exact Zo|exact Ew
  ·exact K64
 ·have dx:aZ (units.map Un.name) x<0:=by grind[fp]
  have c0:=λfid H=>Ap (fid:=fid) (H:=H) sr dx;by_cases h1:eK x
  ·rw[if_pos h1]at c1 ⊢;rw[if_neg h2];by_cases h3:units.length<6
   ·have h3':((az 0 units).length :Int)<6:=by omega
    rw[if_pos h3];generalize H7 r=w at*;obtain⟨wi,we⟩:=w;by_cases h4:we=0
    ·subst h4;rw[if_pos rfl];refine gU (u:={o6 with name:=x,win:=wi}) f116 br rfl ?_;repeat' ((first|(refine kO 7 rfl ?_;first|refine ij (λ_ z=>⟨_,_,_,(c0 _ _ ⟨_,_,rfl,rfl⟩ rfl),z⟩) ?_|refine rG (λ_ z=>⟨_,aN h3' _,z⟩) ?_|refine rG (λ_ z=>⟨_,wF (E:=0) rfl,z⟩) ?_)|refine tX 0 ?_|exact Zt|refine bR ?_ ?_<;>intro h)<;>(try conv=>whnf))
     all_goals try(exfalso;omega)
     have c2:=c9 ()
     (try(refine tX 2 ?_;try exact Zt))
     refine aQ ?_;repeat' ((first|refine rGX rfl trivial ?_|refine oP rfl ?_|refine Th rfl rfl rfl rfl rfl rfl (cvI K0) ?_|refine Th rfl rfl rfl rfl rfl rfl (cv8 K0) ?_|refine rP rfl (λ_ z=>z) ?_|(refine kO 1 rfl ?_;first|refine aeN rfl rfl rfl (by first|omega|(simp;omega)|(simp only[xI,kD,zQ];omega)|decide) ?_|refine ak4 rfl rfl rfl ?_|refine ak5 rfl rfl rfl ?_|refine aeT rfl rfl rfl K0 ?_|refine akN rfl rfl rfl K0 ?_|refine akO rfl rfl rfl K0 ?_|refine akP rfl rfl rfl K0 ?_|refine akQ rfl rfl rfl K0 ?_|refine akR rfl rfl rfl K0 ?_|refine aeF rfl rfl rfl K0 ?_|refine aeG rfl rfl rfl K0 ?_|refine rG (λ_ z=>z) ?_)|(refine kO 2 rfl ?_;first|refine akS rfl rfl (by omega) ?_|refine rG (λ_ z=>z) ?_)|(refine kO 3 rfl ?_;first|refine akW rfl rfl rfl rfl rfl ?_|refine akX rfl rfl rfl rfl rfl rfl rfl ?_|refine akT rfl rfl rfl rfl rfl rfl (by first|omega|decide|exact fP rfl|(dsimp only[SC.len];omega)|(simp;done)|(simp;omega)|omega) ?_|refine rG (λ_ z=>z) ?_|refine rG (λ_ z=>⟨_,rfl,z⟩) ?_|refine rG (λ_ z=>⟨_,(by assumption),z⟩) ?_)|(refine kO 4 rfl ?_;first|refine akU rfl rfl rfl rfl rfl rfl (by first|omega|decide|exact fP rfl|(dsimp only[SC.len];omega)|(simp;done)|(simp;omega)|omega) ?_|refine rG (λ_ z=>z) ?_)|(refine kO 5 rfl ?_;first|refine akV rfl rfl rfl rfl rfl rfl rfl (by first|omega|decide|exact fP rfl|(dsimp only[SC.len];omega)|(simp;done)|(simp;omega)|omega) ?_|refine agm rfl rfl rfl rfl rfl rfl rfl (by first|omega|decide|exact fP rfl|(dsimp only[SC.len];omega)|(simp;done)|(simp;omega)|omega) ?_|refine aeH rfl rfl rfl rfl rfl rfl rfl rfl (by first|omega|decide|exact fP rfl|(dsimp only[SC.len];omega)|(simp;done)|(simp;omega)|omega) ?_|refine agn rfl rfl rfl rfl rfl rfl rfl rfl (by first|omega|decide|exact fP rfl|(dsimp only[SC.len];omega)|(simp;done)|(simp;omega)|omega) ?_|refine aeI rfl rfl rfl rfl rfl rfl (by first|assumption|rfl) rfl ?_)|(refine kO 6 rfl ?_;first|refine aeO rfl rfl rfl rfl rfl rfl ?_|refine akY rfl rfl rfl rfl rfl rfl ?_|refine aeJ rfl rfl rfl rfl rfl rfl ?_|refine aeK rfl rfl rfl rfl rfl rfl rfl ?_|refine YJ rfl rfl rfl rfl rfl rfl rfl ?_|refine aeU rfl rfl rfl K0 ?_|refine ak6 rfl rfl rfl K0 ?_|refine rG (λ_ z=>z) ?_)|(refine kO 8 rfl ?_;first|refine aeP rfl rfl rfl rfl rfl (by first|omega|(simp;omega)|(simp only[xI,kD,zQ];omega)|decide) ?_|refine aeS rfl rfl rfl rfl rfl rfl (by first|omega|(simp;omega)|(simp only[xI,kD,zQ];omega)|decide) ?_|refine aeQ rfl rfl rfl rfl rfl (by first|omega|(simp;omega)|(simp only[xI,kD,zQ];omega)|decide) ?_|refine aeR rfl rfl rfl rfl rfl (by first|omega|(simp;omega)|(simp only[xI,kD,zQ];omega)|decide) ?_|refine akZ rfl rfl rfl rfl rfl rfl rfl (by omega) ?_|refine ak0 rfl rfl rfl rfl rfl rfl rfl (by omega) ?_|refine rG (λ_ z=>z) ?_)|refine rGX rfl trivial ?_|refine rGX rfl (by(first|omega|decide|rfl|exact lnS K0|exact lnN (by decide)|exact lnN K0|exact lnC K0|exact lvS K0|exact lvN (by decide)|exact lvC K0|exact uvS rfl|exact uvN rfl|((try unfold SC.len);(try unfold SC.zK);(try unfold xy);(try simp);(try omega);done)|omega)) ?_|refine oN ?_|refine aS ?_|refine aR ?_|refine aK ?_|refine aX ?_|refine aB ?_|refine aT ?_|refine aC rfl ?_|refine bT ?_|refine bF ?_|refine bPt K0 ?_|refine bPf K0 ?_|refine aL ?_|refine aE ?_|refine oY rfl rfl rfl ?_|refine oZ rfl rfl rfl ?_|refine oO rfl rfl rfl ?_|refine oIt rfl rfl rfl K0 ?_|refine oIf rfl rfl rfl K0 ?_|refine oUt rfl rfl rfl K0 ?_|refine oUf rfl rfl rfl K0 ?_|refine dI dp ?_|refine rG (λ_ z=>⟨(by(first|omega|decide|rfl|exact lnS (by omega)|exact lnN (by decide)|exact lnN (by omega)|exact lnC (by omega)|exact lvS (by omega)|exact lvN (by decide)|exact lvC (by omega)|exact uvS rfl|exact uvN rfl|((try unfold SC.len);(try unfold SC.zK);(try unfold xy);(try simp);(try omega);done)|omega)),z⟩) ?_|refine rG (λ_ z=>⟨(by(first|omega|decide|rfl|exact lnS (by omega)|exact lnN (by decide)|exact lnN (by omega)|exact lnC (by omega)|exact lvS (by omega)|exact lvN (by decide)|exact lvC (by omega)|exact uvS rfl|exact uvN rfl|((try unfold SC.len);(try unfold SC.zK);(try unfold xy);(try simp);(try omega);done)|omega)),(by(first|omega|decide|rfl|exact lnS (by omega)|exact lnN (by decide)|exact lnN (by omega)|exact lnC (by omega)|exact lvS (by omega)|exact lvN (by decide)|exact lvC (by omega)|exact uvS rfl|exact uvN rfl|((try unfold SC.len);(try unfold SC.zK);(try unfold xy);(try simp);(try omega);done)|omega)),z⟩) ?_|refine brp (λh=>?_) λh=>?_|refine yr rfl rfl rfl (λh=>?_) λh=>?_|refine nB rfl rfl rfl (λh=>?_) λh=>?_)<;>(try conv=>whnf))
     all_goals try(exfalso;omega)
     refine rGX rfl ⟨(λe he=>by rw[lq]at he;subst he;rfl),(by grind[xy])⟩ ?_
     (try conv=>whnf)
     repeat' ((first|refine tX 0 ?_|exact Zt|refine bR ?_ ?_<;>intro h)<;>(try conv=>whnf))
     refine Exists.elim (aan 98 (l:=az 0 units) (u:={o6 with name:=x,win:=wi}) ?hB) λX2 h=>h.elim λX1 h=>⟨_,h,?_⟩;case hB=>rfl
     repeat' ((first|refine tX 0 ?_|exact Zt|refine bR ?_ ?_<;>intro h)<;>(try conv=>whnf))
     refine⟨_,_,_,98,_,_,_,rfl,rfl,rfl,?_,?_,?_,rfl,rfl,rfl,rfl,?_,_,rfl,rfl⟩
     ·exact Er
     ·exact Er
     ·exact Er
     ·repeat(first|exact ib.base _|refine ib.step rfl ?_)
    ·rw[if_neg h4];have c2:=c9 ();refine gF f116 sr ?_;repeat' ((first|(refine kO 7 rfl ?_;first|refine ij (λ_ z=>⟨_,_,_,(c0 _ _ ⟨_,_,rfl,rfl⟩ rfl),z⟩) ?_|refine rG (λ_ z=>⟨_,aN h3' _,z⟩) ?_|refine rG (λ_ z=>⟨_,wF (E:=0) rfl,z⟩) ?_)|refine tX 0 ?_|exact Zt|refine bR ?_ ?_<;>intro h)<;>(try conv=>whnf))
     all_goals first|exact Zo|exact Ew
   ·have h3': ¬((az 0 units).length :Int)<6:=by omega
    rw[if_neg h3];refine gF f116 sr ?_;repeat' ((first|(refine kO 7 rfl ?_;first|refine ij (λ_ z=>⟨_,_,_,(c0 _ _ ⟨_,_,rfl,rfl⟩ rfl),z⟩) ?_|refine rG (λ_ z=>⟨_,bG h3' _,z⟩) ?_|refine rG (λ_ z=>⟨_,wF (E:=16) rfl,z⟩) ?_)|refine tX 0 ?_|exact Zt|refine bR ?_ ?_<;>intro h)<;>(try conv=>whnf))
    all_goals first|exact Zo|exact Ew
  ·exact K64
end Go.Proofs.Tryz
