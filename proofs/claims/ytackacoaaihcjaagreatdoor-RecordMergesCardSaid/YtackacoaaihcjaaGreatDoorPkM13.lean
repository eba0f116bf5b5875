import Derived.Test.YtackacoaaihcjaaGreatDoorPkM6
import Derived.Test.YtackacoaaihcjaaGreatDoorPkM8
import Derived.Test.YtackacoaaihcjaaGreatDoorPkM9
import Derived.Test.YtackacoaaihcjaaGreatDoorPkM10
import Derived.Test.YtackacoaaihcjaaGreatDoorPkM11
import Derived.Test.YtackacoaaihcjaaGreatDoorPkM12
set_option linter.all false
set_option maxRecDepth 100000
set_option maxHeartbeats 8000000
namespace Go.Proofs.Tryz
open Go.Fw Go.IntWalk Go.Plain
def QL (x:Ts)(n:aj):ac 136 [(true,fD x),(false,[.ref [T n]])] (.one (Bo (decide (x.name=n)))):=by
 refine sF f136 ?_;exact tL
def NN (ps:List Ts)(n:aj)(hl:ps.length<=1000):ac 135 [(false,[.view (ps.map fD)]),Lb 136 [[T n]]] (.one (I (bg (ps.map Ts.name) n))):=by
 have hn:(ps.map fD).length =ps.length:=by simp
 have AX:(ps.map Ts.name).length =ps.length:=by simp
 refine sF f135 ?_
 (try(refine tX 0 ?_;try exact Zt))
 refine af (ι:=Nat) (λi=>i<=ps.length/\n∉(ps.map Ts.name).take i) (λi=>ps.length -i) (λi=>⟨[(0,some (.val (false,[.st (.view (ps.map fD))]))),(1,vF 136 [[T n]]),(7,vI ps.length),(8,vI i)],[],0⟩) 0 (ai PF) ⟨dD _,by simp⟩ ?_;rintro i ⟨hi,dp⟩;by_cases ak:i<ps.length
 ·have he:=aV (f:=fD) ak dz;have hg:(ps.map Ts.name).getD i []=(ps.getD i dz).name :=by rw[getD_at ak,getD_at K0];simp
  have nX:=λe=>mN (l:=ps.map Ts.name) (x:=n) (i:=i) K0 e dp;have FL:=iS (l:=ps.map Ts.name) (i:=i) (x:=n) K0;rw[hg]at nX FL;have hp1:=QL (ps.getD i dz) n;by_cases hx:(ps.getD i dz).name =n
  ·exact af5
  ·exact agc
 ·obtain rfl:i=ps.length:=by omega
  rw[pc K0]at dp;rw[fq dp];exact tL
def kC (p:Pl)(n:aj):Ts:=if n∈(cS p.aa)then p.aa.getD (bg (cS p.aa) n).toNat dz else dz
def QM (p:Pl)(n:aj)(hl:p.aa.length<=1000):ac 70 [(true,bE p),SS n] (.aI [(true,fD (kC p n)),Bo (decide (n∈(cS p.aa)))]):=by
 have Xj:=NN p.aa n hl;have hq:p.aa.map Ts.name=(cS p.aa):=rfl;have pL:(p.aa.map fD).length =p.aa.length:=by simp
 rw[hq]at Xj;by_cases h:n∈(cS p.aa)
 ·obtain⟨k,hk,e⟩:=ld h;have xw:k<p.aa.length:=by simpa [cS]using hk
  have hd:kC p n=p.aa.getD k dz:=by unfold kC;rw[if_pos h,e,sP]
  have KS:=aV (f:=fD) xw dz;rw[e]at Xj;rw[hd,fL h];refine sF f70 ?_;exact tL
 ·have hd:kC p n=dz:=by unfold kC;rw[if_neg h]
  rw[fq h]at Xj;rw[hd,fj h];refine sF f70 ?_;exact tL
def aaf (x:aj × Int)(FO:Int)(n tx:aj):ac 105 [(true,nh x),(false,[.ref [J FO,T n,T tx]])] (.one (Bo (decide (x.1=n)))):=by
 refine sF f105 ?_;exact tL
def l6 (ps:List (aj × Int))(FO:Int)(n tx:aj)(hl:ps.length<=1000):ac 104 [(false,[.view (ps.map nh)]),Lb 105 [[J FO,T n,T tx]]] (.one (I (bg (ps.map Prod.fst) n))):=by
 have hn:(ps.map nh).length =ps.length:=by simp
 have AX:(ps.map Prod.fst).length =ps.length:=by simp
 refine sF f104 ?_
 (try(refine tX 0 ?_;try exact Zt))
 refine af (ι:=Nat) (λi=>i<=ps.length/\n∉(ps.map Prod.fst).take i) (λi=>ps.length -i) (λi=>⟨[(0,some (.val (false,[.st (.view (ps.map nh))]))),(1,vF 105 [[J FO,T n,T tx]]),(7,vI ps.length),(8,vI i)],[],0⟩) 0 (ai PF) ⟨dD _,by simp⟩ ?_;rintro i ⟨hi,dp⟩;by_cases ak:i<ps.length
 ·have he:=aV (f:=nh) ak ([],0);have hg:(ps.map Prod.fst).getD i []=(ps.getD i ([],0)).1:=by rw[getD_at ak,getD_at K0];simp
  have nX:=λe=>mN (l:=ps.map Prod.fst) (x:=n) (i:=i) K0 e dp;have FL:=iS (l:=ps.map Prod.fst) (i:=i) (x:=n) K0;rw[hg]at nX FL;have hp1:=aaf (ps.getD i ([],0)) FO n tx;by_cases hx:(ps.getD i ([],0)).1=n
  ·exact af5
  ·exact agc
 ·obtain rfl:i=ps.length:=by omega
  rw[pc K0]at dp;rw[fq dp];exact tL
def J3 (u:Un)(l:List aj)(hl:l.length<=1000)(hr:u.res.length<=1000000):ac 226 [V1 l,Lb 228 [[.ref (ky u)]]] (.one (I (Ic u.res l))):=by
 have hn:(ab l).length =l.length:=by simp
 refine sF f226 ?_
 (try(refine tX 0 ?_;try exact Zt))
 refine af (ι:=Nat) (λi=>i<=l.length/\∀j<i,bL u.res (l.getD j [])=true) (λi=>l.length -i) (λi=>⟨[(0,some (.val (false,[.st (.view (ab l))]))),(1,vF 228 [[.ref (ky u)]]),(7,vI l.length),(8,vI i)],[],0⟩) 0 (ai PF) ⟨dD _,λj hj=>by omega⟩ ?_;rintro i ⟨hi,hp⟩;by_cases ak:i<l.length
 ·have he:=sA ak;have hv:=QG u (l.getD i []) hr;have hge:l.getD i []=l[i]:=by rw[jN,pj ak,vK]
  cases hx:bL u.res (l.getD i [])
  ·rw[hx]at hv
   have hf:Ic u.res l=i:=by
    unfold Ic
    have h1:l.all (bL u.res)=false:=by
     rw[Bool.eq_false_iff];intro h;rw[wL]at h;have:=h _ (qd ak);rw[<- hge,hx]at this;cases this
    rw[h1]
    have h2:l.findIdx (λt=> !bL u.res t)=i:=by
     rw[Ye ak];refine⟨by rw[<- hge,hx];rfl,λj hj=>?_⟩;have:=hp j hj;rw[jN,pj K0,vK]at this;rw[this];rfl
    rw[h2];rfl
   rw[hf];exact tL
  ·rw[hx]at hv
   have it: ∀j<i+1,bL u.res (l.getD j [])=true:=λj hj=>by
    rcases XR.1 hj with h'|rfl
    ·exact hp j h'
    ·exact hx
   exact tL
 ·obtain rfl:i=l.length:=by omega
  have hf:Ic u.res l= -1:=by
   unfold Ic;rw[if_pos];rw[wL];intro x hx;obtain⟨j,hj,rfl⟩:=IU.1 hx;have:=hp j hj;rwa [jN,pj hj,vK]at this
  rw[hf];exact tL
def QN (u:Un)(l:List aj)(hl:l.length<=1000)(hr:u.res.length<=1000000):ac 227 [V1 l,Lb 228 [[.ref (ky u)]]] (.one (Bo (!l.all (bL u.res)))):=by
 have hi:=J3 u l hl hr;unfold Ic at hi;refine sF f227 ?_;cases h:l.all (bL u.res)
 ·rw[h]at hi;exact tL
 ·rw[h]at hi;exact tL
def NO (u:Un)(t:Ts)(hl:t.bz.length<=1000)(hr:u.res.length<=1000000):ac 157 [UR u,(true,fD t)] (.one (Bo (i6 u.res t))):=by
 have hi:=QN u t.bz hl hr;refine sF f157 ?_;repeat' ((first|refine tX 0 ?_|exact Zt|refine bR ?_ ?_<;>intro h)<;>(try conv=>whnf))
 all_goals exact gX (by unfold i6;simp)
abbrev enX (e:En):SV:=(true,be e)
def Wo (s:aj):(Lib.cut s [32]).1=(aJ 32 s).getD 0 []:=by grind[u6]
def J4 (log:List En):(log.length=0/\iq log=0)\/∃k,log.length=k+1/\(log.map be)[k]? =some (be (log.getD k ⟨0,[],[]⟩))/\iq log=(log.getD k ⟨0,[],[]⟩).t :=by
 by_cases h:log.length=0
 ·refine .inl ⟨h,?_⟩;rw[CN.1 h];rfl
 ·refine .inr ⟨log.length -1,by omega,aV K0 _,?_⟩
  grind[iq]
def NP (p:Pl)(log:List En)(s:bP)(hl:s.units.length<=1000)(e:En)(h:60<=log.length):
  bx cx 62 1 ((false,[.ptr 1 0])::[enX e].map dyn) (form p log s) [1] (.val (dyn (I 8))) (form p log s):=by
 have hn:(log.map be).length =log.length:=by simp
 obtain⟨et,ew,tx⟩:=e;obtain⟨volt,earth,opens,hall,lots,units⟩:=s;refine gF f62 hl ?_;exact K90
section
variable (p:Pl)(log:List En)(s:bP)(et:Int)(ew tx:aj)
noncomputable def sV (kn:Bool):Int:=fs [if bg p.ay ew>=0 then 0 else 6,if 0<=et/\et<=1000000000000 then 0 else 2,if et>=iq log then 0 else 9,if((tx.length:Nat):Int)<=400 then 0 else 8,if aW tx then 0 else 3,if kn=true then 0 else 7]
theorem Wp (hl:s.units.length<=1000)(hp:p.ae.length<=1000)(ht:tx.length<=100000)(CG:log.length<60){role w k:Nat}{rest:Bool}{f:FuncId}(hf:ja uA (B ((aJ 32 tx).getD 0 []))=some (NI role w k rest f))(hX:sV p log et ew tx true≠0):
  bx cx 62 1 ((false,[.ptr 1 0])::[enX ⟨et,ew,tx⟩].map dyn) (form p log s) [1] (.val (dyn (I (sV p log et ew tx true)))) (form p log s):=by
 have hn:(log.map be).length =log.length:=by simp
 have c1:=l6 p.ae et ew tx hp;have c2:=gZ tx 32 K0;rw[Wo]at c2;generalize (Lib.cut tx [32]).2.1=q1 at*;generalize (Lib.cut tx [32]).2.2=q2 at*;have c3:=kA tx K0;generalize (aJ 32 tx).getD 0 []=wd at*;have hE:sV p log et ew tx true=fs [if bg p.ay ew>=0 then 0 else 6,if 0<=et/\et<=1000000000000 then 0 else 2,if et>=iq log then 0 else 9,if((tx.length:Nat):Int)<=400 then 0 else 8,if aW tx then 0 else 3,if true=true then 0 else 7]:=rfl;have CD:=hE.symm;generalize sV p log et ew tx true=X at*;clear hE;rw[show p.ay=p.ae.map Prod.fst from rfl]at CD;generalize bg (p.ae.map Prod.fst) ew=iw at*;exact K3
theorem Wq (hl:s.units.length<=1000)(hp:p.ae.length<=1000)(ht:tx.length<=100000)(CG:log.length<60)(hf:ja uA (B ((aJ 32 tx).getD 0 []))=none)(hX:sV p log et ew tx false≠0):
  bx cx 62 1 ((false,[.ptr 1 0])::[enX ⟨et,ew,tx⟩].map dyn) (form p log s) [1] (.val (dyn (I (sV p log et ew tx false)))) (form p log s):=by
 have hn:(log.map be).length =log.length:=by simp
 have c1:=l6 p.ae et ew tx hp;have c2:=gZ tx 32 K0;rw[Wo]at c2;generalize (Lib.cut tx [32]).2.1=q1 at*;generalize (Lib.cut tx [32]).2.2=q2 at*;have c3:=kA tx K0;generalize (aJ 32 tx).getD 0 []=wd at*;have hE:sV p log et ew tx false=fs [if bg p.ay ew>=0 then 0 else 6,if 0<=et/\et<=1000000000000 then 0 else 2,if et>=iq log then 0 else 9,if((tx.length:Nat):Int)<=400 then 0 else 8,if aW tx then 0 else 3,if false=true then 0 else 7]:=rfl;have CD:=hE.symm;generalize sV p log et ew tx false=X at*;clear hE;rw[show p.ay=p.ae.map Prod.fst from rfl]at CD;generalize bg (p.ae.map Prod.fst) ew=iw at*;exact K3
theorem NQ (hl:s.units.length<=1000)(hp:p.ae.length<=1000)(ht:tx.length<=100000)(CG:log.length<60){role w k:Nat}{rest:Bool}{f:FuncId}(hf:ja uA (B ((aJ 32 tx).getD 0 []))=some (NI role w k rest f))(hX:sV p log et ew tx true=0)
  {ik:Nat}(IG:bg p.ay ew=(ik:Nat))(zS:ik<p.ae.length)(hr:(p.ae.getD ik ([],0)).2<role):
  bx cx 62 1 ((false,[.ptr 1 0])::[enX ⟨et,ew,tx⟩].map dyn) (form p log s) [1] (.val (dyn (I 18))) (form p log s):=by
 have hn:(log.map be).length =log.length:=by simp
 have hpn:(p.ae.map nh).length =p.ae.length:=by simp
 have he:=aV (f:=nh) zS ([],0);have c1:=l6 p.ae et ew tx hp;have c2:=gZ tx 32 K0;rw[Wo]at c2;generalize (Lib.cut tx [32]).2.1=q1 at*;generalize (Lib.cut tx [32]).2.2=q2 at*;have c3:=kA tx K0;generalize (aJ 32 tx).getD 0 []=wd at*;have CD:fs [if bg p.ay ew>=0 then 0 else 6,if 0<=et/\et<=1000000000000 then 0 else 2,if et>=iq log then 0 else 9,if((tx.length:Nat):Int)<=400 then 0 else 8,if aW tx then 0 else 3,if true=true then 0 else 7]=0:=hX;rw[IG]at CD;rw[show p.ae.map Prod.fst=p.ay from rfl,IG]at c1;generalize p.ae.getD ik ([],0)=pe at*;obtain⟨pn,pr⟩:=pe;dsimp only at hr;exact K3
theorem NR (hl:s.units.length<=1000)(hp:p.ae.length<=1000)(ht:tx.length<=100000)(CG:log.length<60){role w k:Nat}{rest:Bool}{f:FuncId}(hf:ja uA (B ((aJ 32 tx).getD 0 []))=some (NI role w k rest f))(hX:sV p log et ew tx true=0)
  {ik:Nat}(IG:bg p.ay ew=(ik:Nat))(zS:ik<p.ae.length)(hr: ¬(p.ae.getD ik ([],0)).2<role){a:List aj}{n:List Int}{r:aj}(AU:ac 69 [NI role w k rest f,SS tx] (.aI [w7 a n r,Bo false])):
  bx cx 62 1 ((false,[.ptr 1 0])::[enX ⟨et,ew,tx⟩].map dyn) (form p log s) [1] (.val (dyn (I 7))) (form p log s):=by
 have hn:(log.map be).length =log.length:=by simp
 have hpn:(p.ae.map nh).length =p.ae.length:=by simp
 have he:=aV (f:=nh) zS ([],0);have c1:=l6 p.ae et ew tx hp;have c2:=gZ tx 32 K0;rw[Wo]at c2;generalize (Lib.cut tx [32]).2.1=q1 at*;generalize (Lib.cut tx [32]).2.2=q2 at*;have c3:=kA tx K0;generalize (aJ 32 tx).getD 0 []=wd at*;have CD:fs [if bg p.ay ew>=0 then 0 else 6,if 0<=et/\et<=1000000000000 then 0 else 2,if et>=iq log then 0 else 9,if((tx.length:Nat):Int)<=400 then 0 else 8,if aW tx then 0 else 3,if true=true then 0 else 7]=0:=hX;rw[IG]at CD;rw[show p.ae.map Prod.fst=p.ay from rfl,IG]at c1;generalize p.ae.getD ik ([],0)=pe at*;obtain⟨pn,pr⟩:=pe;dsimp only at hr;exact K3
end
def Cz (s:aj):qC (iK (eF (aJ 59 s))).1.2.1/\(∀x∈(iK (eF (aJ 59 s))).1.2.2,qC x)/\(iK (eF (aJ 59 s))).1.2.2.length <=s.length+1:=by
 have z:p9 0:=by grind[p9]
 have h0:qC ((0,0,0,0):MQ)/\(∀x∈([]:List MQ),qC x)/\([]:List MQ).length <=s.length+1:=⟨⟨z,z,z,z⟩,(λ_ h=>by cases h),dD _⟩;unfold iK
 cases e:eF (aJ 59 s)with
 |none=>exact h0
 |some v=>
  obtain⟨e1,q,ch⟩:=v;dsimp only;by_cases h:aY e1 q ch=0
  ·rw[if_pos h];unfold eF at e
   cases e2:wN false 4 ((aJ 59 s).getD 0 [])with
   |none=>rw[e2]at e;cases e
   |some n=>
    cases e3:fQ Br ((aJ 59 s).drop 1)with
    |none=>rw[e2,e3]at e;cases e
    |some l=>
     rw[e2,e3]at e;have Ce:=yU (P:=qC) (λs x=>Qg) e3;have bG:=yS e3
     cases l with
     |nil=>cases e
     |cons q' ch'=>
      grind[cj]
  grind
def vu (s:aj):(dW (cF (aJ 32 s))).1.2.length <=s.length+1:=by
 unfold dW
 cases e:cF (aJ 32 s)with
 |none=>grind
 |some v=>
  obtain⟨st,l⟩:=v;dsimp only;have h:=Qf e;have h6:=(cj 32 s).1
  grind
def sf (a b lo hi:Int):Int × Int:=if rZ a b lo hi=0 then(Ww a b lo hi,0)else(0,rZ a b lo hi)
def uF (a b lo hi:Int):ac 249 [F2 a b,F2 lo hi] (.aI [I (sf a b lo hi).1,I (sf a b lo hi).2]):=by
 have h:=Gx a b lo hi;unfold sf
 grind
def Ob (s:aj):Option (Int × Int):=DZ 32 (wN true 16) (wN true 16) s
def adC {s:aj}(h: ∃y∈s,y=(32:UInt8)):wN true 16 s=none:=by
 cases e:wN true 16 s with
 |none=>rfl
 |some n=>
  obtain⟨y,hy,rfl⟩:=h;rcases DW e 32 hy with h|h
  grind
  grind[dt]
def uG (lo hi:Int)(rest:aj):Int × Int:=match Ob rest with
 |some q=>sf q.1 q.2 lo hi
 |none=>(0,7)
noncomputable def EZ (lo hi:Int)(rest:aj):Int × Int:=if(Cu rest).2=0 then(if(TT (Cu rest).1).2=0 then sf (TT (Cu rest).1).1.1 (TT (Cu rest).1).1.2 lo hi else(0,(TT (Cu rest).1).2))else(0,(Cu rest).2)
def zC (e:Int)(q:Sp)(ch:List Sp)(l:List Int):(Int × Int) × Int:=
 if jM e q ch (eT (pk l:Nat) (pG l -e) (pG l+e) (QR l e) (EQ l e) (QS l e) (ER l e) (ox l e) (hfh l e))=0 then((aaj (pG l -e) (i7 ch),aak (pG l+e) (i7 ch)),0)
 else((0,0),jM e q ch (eT (pk l:Nat) (pG l -e) (pG l+e) (QR l e) (EQ l e) (QS l e) (ER l e) (ox l e) (hfh l e)))
def Kl (e:Int)(q:Sp)(ch:List Sp)(hq:qC q)(vW: ∀s∈ch,qC s)(hl:ch.length<=4294967296)(l:List Int):ac 253 [Ru e q ch,FG l e] (.aI [F2 (zC e q ch l).1.1 (zC e q ch l).1.2,I (zC e q ch l).2]):=by
 have h:=Gz e q ch hq vW hl (pk l:Nat) (pG l -e) (pG l+e) (QR l e) (EQ l e) (QS l e) (ER l e) (ox l e) (hfh l e);unfold zC
 grind
def aaz (e:Int)(q:Sp)(ch:List Sp)(st:Int)(l:List Int)(lo hi:Int):Int × Int:=
 if sY e q ch st l=0 then(if(zC e q ch l).2=0 then sf (zC e q ch l).1.1 (zC e q ch l).1.2 lo hi else(0,(zC e q ch l).2))else(0,sY e q ch st l)
def Wz (z e:Int)(s:Iv):Int × Int:=if z≠0 then(0,z)else if ki s then(0,0)else(2,0)
noncomputable def Km (log:List En)(u:Un)(t:Ts)(rest:aj):Int × Int:=
 if t.kind=0 then uG t.lo t.hi rest else if t.kind=3 then EZ t.lo t.hi rest else
  let R:=(iK (eF (aJ 59 t.rules))).1;let X:=dW (cF (aJ 32 rest))
  if X.2=0 then
   (if t.kind=2 then
    (let A:=(dW (cF (aJ 32 (cd 3 (log.getD ((iT u.res (t.bz.getD 0 [])).getD B5).entry.toNat ⟨0,[],[]⟩).text)))).1
     Wz (dC R.1 R.2.1 R.2.2 A.1 A.2 X.1.1 X.1.2) R.1 (T4 R.1 R.2.1 A.2 X.1.2))
   else aaz R.1 R.2.1 R.2.2 X.1.1 X.1.2 t.lo t.hi)
  else(0,X.2)
def alW (p:Pl)(log:List En)(u:Un)(nm:aj)(nd:List aj)(ru:aj)(lo hi:Int)(rest:aj)(hl:rest.length<=10000):
  ac 203 [WR p log,UR u,(true,fD ⟨nm,0,nd,ru,lo,hi⟩),SS rest] (.aI [I (uG lo hi rest).1,I (uG lo hi rest).2]):=by
 have ct:=gZ rest 32 K0
 rcases u6 rest 32 with⟨h1,h2⟩|⟨a,b,h1,h2,h3,h4⟩
 ·rw[h1]at ct;obtain⟨v,c1,hv⟩:=mR true 16 K9 rest K0;obtain⟨v',c2,Ps⟩:=mR true 16 K9 [] (by simp);have e:Ob rest=none:=yP h2;unfold uG;rw[e];generalize (wN true 16 rest).isSome =o1 at*;generalize (wN true 16 []).isSome =o2 at*;exact C2
 ·rw[h1]at ct;obtain⟨v,c1,hv⟩:=mR true 16 K9 a K0;obtain⟨v',c2,Ps⟩:=mR true 16 K9 b K0;have e:Ob rest=(wN true 16 a).bind λx=>(wN true 16 b).map λy=>(x,y):=yQ (λ_ h=>adC h) h2;unfold uG;rw[e]
  cases e1:wN true 16 a with
  |none=>
   rw[e1]at c1;generalize (wN true 16 b).isSome =o2 at*;exact C2
  |some n=>
   cases e2:wN true 16 b with
   |none=>
    rw[e1]at c1;rw[e2]at c2;exact C2
   |some n'=>
    rw[e1]at c1;rw[e2]at c2;obtain rfl:=hv _ e1;obtain rfl:=Ps _ e2;have c3:=uF n n' lo hi;show nY _ _ _ _ (.aI [I (sf n n' lo hi).1,I (sf n n' lo hi).2]);generalize sf n n' lo hi=z at*;exact C2
def alX (p:Pl)(log:List En)(u:Un)(nm:aj)(nd:List aj)(ru:aj)(lo hi:Int)(rest:aj)(hl:rest.length<=10000):
  ac 203 [WR p log,UR u,(true,fD ⟨nm,3,nd,ru,lo,hi⟩),SS rest] (.aI [I (EZ lo hi rest).1,I (EZ lo hi rest).2]):=by
 have c1:=AJ rest hl;obtain⟨⟨b1,b2⟩,b3⟩:=aae rest;have c2:=GC (Cu rest).1 K0 K0 b3;unfold EZ;generalize Cu rest=y at*;obtain⟨x,ye⟩:=y;by_cases h1:ye=0
 ·subst h1;rw[if_pos rfl];dsimp only at c1 c2 ⊢;generalize TT x=w at*;obtain⟨⟨w1,w2⟩,we⟩:=w;by_cases h2:we=0
  ·subst h2;rw[if_pos rfl];have c3:=uF w1 w2 lo hi;generalize sf w1 w2 lo hi=z at*;exact C2
  ·rw[if_neg h2];exact C2
 ·rw[if_neg h1];exact C2
def alY (p:Pl)(log:List En)(u:Un)(nm:aj)(nd:List aj)(ru:aj)(lo hi:Int)(rest:aj)(hl:rest.length<=10000)(hr:ru.length<=10000):
  ac 203 [WR p log,UR u,(true,fD ⟨nm,1,nd,ru,lo,hi⟩),SS rest] (.aI [I (Km log u ⟨nm,1,nd,ru,lo,hi⟩ rest).1,I (Km log u ⟨nm,1,nd,ru,lo,hi⟩ rest).2]):=by
 have c1:=nj ru hr;have c2:=l5 rest hl;obtain⟨b1,b2,b3⟩:=Cz ru;have b4:=vu rest;unfold Km;dsimp only;rw[if_neg K9,if_neg K9];generalize iK (eF (aJ 59 ru))=y at*;obtain⟨⟨e,q,ch⟩,ye⟩:=y;generalize dW (cF (aJ 32 rest))=x at*;obtain⟨⟨st,l⟩,xe⟩:=x;dsimp only at*;by_cases h1:xe=0
 ·subst h1;rw[if_pos rfl,if_neg K9];have c3:=Gv e q ch st l b1 b2 K0 acg;unfold aaz;by_cases h2:sY e q ch st l=0
  ·rw[if_pos h2]at c3 ⊢;have c4:=Kl e q ch b1 b2 K0 l;generalize zC e q ch l=w at*;obtain⟨⟨w1,w2⟩,we⟩:=w;by_cases h3:we=0
   ·subst h3;rw[if_pos rfl];have c5:=uF w1 w2 lo hi;generalize sf w1 w2 lo hi=z at*;exact C2
   ·rw[if_neg h3];exact C2
  ·rw[if_neg h2]at c3 ⊢;generalize sY e q ch st l=z at*;exact C2
 ·rw[if_neg h1];exact C2
abbrev dk:En:=⟨0,[],[]⟩
def QZ (s:aj)(hl:s.length<=100000)(h:4<=(aJ 32 s).length):ac 290 [SS s] (.one (SS (cd 3 s))):=by
 have c1:ac 133 [SS s,SS [32],I 4] _:=rW s 4 K0 K0 K0;rw[J1 _ _ K0 h,show 4 -1=3 from rfl]at c1;have ak:((aJ 32 s).take 3).length =3:=by simp;omega
 generalize (aJ 32 s).take 3=l at*;generalize cd 3 s=r at*;have hg:(ab (l++[r]))[3]? =some [T r]:=by simp[ab,ak]
 have hn:(ab (l++[r])).length =4:=by simp[ab,ak]
 refine sF f290 ?_;exact tA
def Oc (p:Pl)(log:List En)(u:Un)(nm n0:aj)(kd:Int)(nd:List aj)(ru:aj)(lo hi:Int)(lE:u.res.length<=1000000){rt:aj}{ra:Int}{k:Nat}{rv:Bool}(hr:iT u.res n0=some ⟨rt,ra,(k:Nat),rv⟩)
  (hk:k<log.length)(h4:4<=(aJ 32 (log.getD k dk).text).length)(ht:(log.getD k dk).text.length <=9000)(e:Int)(q:Sp)(ch:List Sp)(hq:qC q)(vW: ∀s∈ch,qC s)(hc:ch.length<=100000)(st:Int)(l:List Int)(hl:l.length<=100000):
  ac 252 [WR p log,UR u,(true,fD ⟨nm,kd,n0::nd,ru,lo,hi⟩),Ru e q ch,Rc st l]
   (.aI [I (Wz (dC e q ch (dW (cF (aJ 32 (cd 3 (log.getD k dk).text)))).1.1 (dW (cF (aJ 32 (cd 3 (log.getD k dk).text)))).1.2 st l) e (T4 e q (dW (cF (aJ 32 (cd 3 (log.getD k dk).text)))).1.2 l)).1,
    I (Wz (dC e q ch (dW (cF (aJ 32 (cd 3 (log.getD k dk).text)))).1.1 (dW (cF (aJ 32 (cd 3 (log.getD k dk).text)))).1.2 st l) e (T4 e q (dW (cF (aJ 32 (cd 3 (log.getD k dk).text)))).1.2 l)).2]):=by
 have he:=aV (f:=be) hk dk;have c1:=Nx (T u.name) (J u.win.k1) (J u.win.t1) (J u.win.s1) (K u.win.r1) (J u.win.k2) (J u.win.t2) (J u.win.s2) (K u.win.r2) (J u.win.st) (.view (ab u.lots)) u.res [K u.failed,K u.rel,K u.shaken,J u.used,.view (u.gas.map vh)] n0 lE;replace c1:ac 225 [UR u,SS n0] (.aI [(true,[T rt,J ra,J ((k:Nat):Int),K rv]),Bo true]):=by rw[hr]at c1;exact c1
 generalize hE:log.getD k dk=en at*;obtain⟨et,ew,tx⟩:=en;dsimp only at*;have c2:=QZ tx K0 h4;have hdl:=om 3 tx;have c3:=l5 (cd 3 tx) K0;have b1:=vu (cd 3 tx);have AX:(log.map be).length =log.length:=by simp
 generalize dW (cF (aJ 32 (cd 3 tx)))=x at*;obtain⟨⟨sa,la⟩,xe⟩:=x;dsimp only at*;generalize cd 3 tx=dr at*;have c4:=AI e q ch sa la st l hq vW K0 Yn Yn;unfold Wx at c4;unfold Wz;by_cases h1:dC e q ch sa la st l=0
 ·rw[h1]at c4 ⊢;rw[if_neg K0]at c4 ⊢;by_cases h2:ki (T4 e q la l)
  ·rw[if_pos h2]at c4 ⊢;exact acn
  ·rw[if_neg h2]at c4 ⊢;by_cases h3:e=0
   ·rw[if_pos h3]at c4;exact acn
   ·rw[if_neg h3]at c4;exact acn
 ·rw[if_pos h1]at c4 ⊢;generalize dC e q ch sa la st l=z at*;exact acn
def aaA (log:List En)(u:Un)(t:Ts):Prop:=∃n0 nd rt ra,∃k:Nat,∃rv,t.bz=n0::nd/\iT u.res n0=some ⟨rt,ra,(k:Nat),rv⟩/\k<log.length/\4<=(aJ 32 (log.getD k dk).text).length /\(log.getD k dk).text.length <=9000
def alZ (p:Pl)(log:List En)(u:Un)(nm:aj)(nd:List aj)(ru:aj)(lo hi:Int)(rest:aj)(lE:u.res.length<=1000000)(hl:rest.length<=10000)(hr:ru.length<=10000)(hc:aaA log u ⟨nm,2,nd,ru,lo,hi⟩):
  ac 203 [WR p log,UR u,(true,fD ⟨nm,2,nd,ru,lo,hi⟩),SS rest] (.aI [I (Km log u ⟨nm,2,nd,ru,lo,hi⟩ rest).1,I (Km log u ⟨nm,2,nd,ru,lo,hi⟩ rest).2]):=by
 obtain⟨n0,nd',rt,ra,k,rv,rfl,h1,h2,h3,h4⟩:=hc;have c1:=nj ru hr;have c2:=l5 rest hl;obtain⟨b1,b2,b3⟩:=Cz ru;have b4:=vu rest;have c3:=λe q ch hq vW hc st l hl=>Oc p log u nm n0 2 nd' ru lo hi lE h1 h2 h3 h4 e q ch hq vW hc st l hl;unfold Km;dsimp only;rw[if_neg K9,if_neg K9,LF,h1];simp only[vK,sP];generalize log.getD k dk=en at*;generalize iK (eF (aJ 59 ru))=y at*;obtain⟨⟨e,q,ch⟩,ye⟩:=y;generalize dW (cF (aJ 32 rest))=x at*;obtain⟨⟨st,l⟩,xe⟩:=x;dsimp only at*;by_cases h1:xe=0
 ·subst h1;rw[if_pos rfl,if_pos trivial];have c4:=c3 e q ch b1 b2 K0 st l K0;generalize Wz (dC e q ch (dW (cF (aJ 32 (cd 3 en.text)))).1.1 (dW (cF (aJ 32 (cd 3 en.text)))).1.2 st l) e (T4 e q (dW (cF (aJ 32 (cd 3 en.text)))).1.2 l)=z at*;refine sF f203 ?_;exact tA
 ·rw[if_neg h1];refine sF f203 ?_;exact tA
def Kn (p:Pl)(log:List En)(u:Un)(t:Ts)(rest:aj)(lE:u.res.length<=1000000)(hl:rest.length<=10000)(hr:t.rules.length<=10000)(hk:0<=t.kind/\t.kind<=3)(hc:t.kind=2->aaA log u t):
  ac 203 [WR p log,UR u,(true,fD t),SS rest] (.aI [I (Km log u t rest).1,I (Km log u t rest).2]):=by
 obtain⟨nm,kd,nd,ru,lo,hi⟩:=t;dsimp only at hr hk hc;obtain rfl|rfl|rfl|rfl:kd=0\/kd=1\/kd=2\/kd=3:=by omega
 ·exact alW p log u nm nd ru lo hi rest hl
 ·exact alY p log u nm nd ru lo hi rest hl hr
 ·exact alZ p log u nm nd ru lo hi rest lE hl hr (hc rfl)
 ·exact alX p log u nm nd ru lo hi rest hl
def ig {H:HF}{R:List Nat}(x:SV):Bm H R (dyn x) x:=⟨rfl,by simp[dyn],λk d c h1 h2=>by
 simp only[dyn,gK]at h1;rw[h2]at h1;cases h1
 exact .st _⟩
section
variable {H:HF}{fid:Nat}{u:Un}{l:List (List DC)}{i a b c:Nat}
def Q0 {t:aj}{V:Bool}(hV:bL u.res t=V)(hl:u.res.length<=1000000)(h9:H 9=some (.aD 17 l))(hi:l[i]? =some (cU u a b c))(ha:H a=some (.row true 1 (.view (ab u.lots))))(hb:H b=some (.row true 4 (.view (u.res.map kF))))(hc:H c=some (.row true 5 (.view (u.gas.map vh)))):
  bX cx fid 154 [(false,[.cI 9 17 i 0]),(false,[.st (T t)])] H (.val (dyn (Bo V))) [] [9,a,b,c]:=by
 subst hV;exact iP (bd (kg (J0 (by simp) h9 hi ha hb hc)) (bd (kg (.st _)) gz)) (uz u t hl) rfl ⟨rfl,rfl,rfl⟩
def Q1 {t:Ts}{V:Bool}(hV:i6 u.res t=V)(ht:t.bz.length<=1000)(hl:u.res.length<=1000000)(h9:H 9=some (.aD 17 l))(hi:l[i]? =some (cU u a b c))(ha:H a=some (.row true 1 (.view (ab u.lots))))(hb:H b=some (.row true 4 (.view (u.res.map kF))))(hc:H c=some (.row true 5 (.view (u.gas.map vh)))):
  bX cx fid 157 [(false,[.cI 9 17 i 0]),dyn (true,fD t)] H (.val (dyn (Bo V))) [] [9,a,b,c]:=by
 subst hV;exact iP (bd (kg (J0 (by simp) h9 hi ha hb hc)) (bd (ig _) gz)) (NO u t ht hl) rfl ⟨rfl,rfl,rfl⟩
def WA {t:Ts}{r:aj}{y:Int × Int}{ty:TypeId}{p:Pl}{log:List En}{lg:Nat}{v e h x9 x11 x12:DC}(hs:ac 203 [WR p log,UR u,(true,fD t),SS r] (.aI [I y.1,I y.2]))(h1:H 1=some (.box ty [.st (.view (p.ae.map nh)),.st (.view (ab p.ap)),.st (.view (p.aa.map fD)),.st (.view (p.parts.map mj)),.st (J p.dZ),.st (J p.eK),.own lg,v,e,x9,h,x11,x12]))
  (h2:H lg=some (.row true 3 (.view (log.map be))))(h9:H 9=some (.aD 17 l))(hi:l[i]? =some (cU u a b c))(ha:H a=some (.row true 1 (.view (ab u.lots))))(hb:H b=some (.row true 4 (.view (u.res.map kF))))(hc:H c=some (.row true 5 (.view (u.gas.map vh)))):
  bX cx fid 203 [(false,[.ptr 1 0]),(false,[.cI 9 17 i 0]),dyn (true,fD t),(false,[.st (T r)])] H (.aI [dyn (I y.1),dyn (I y.2)]) [] [1,lg,9,a,b,c]:=
 iP (bd (kg (Z7 (by simp) h1 h2)) (bd (kg (J0 (by simp) h9 hi ha hb hc)) (bd (ig _) (bd (kg (.st _)) gz)))) hs ajC ⟨rfl,rfl,rfl⟩
end
def aaB {b:Bool}(h:b=true)(e:Int):ac 54 [Bo b,I e] (.one (I 0)):=by subst h;exact ae8 e
def ag1 {b:Bool}(h:b=false)(e:Int):ac 54 [Bo b,I e] (.one (I e)):=by subst h;exact ae7 e
def aaC {p:Pl}{y:aj}(h:y∈cS p.aa):kC p y=p.aa.getD (bg (cS p.aa) y).toNat dz/\0<=bg (cS p.aa) y/\kC p y∈p.aa:=by
 obtain⟨k,hk,e⟩:=ld h;have xw:k<p.aa.length:=by grind[cS]
 have hd:kC p y=p.aa.getD (bg (cS p.aa) y).toNat dz:=by unfold kC;grind
 grind
def aaD (E:uj)(p:Pl)(log:List En)(s:bP)(hl:s.units.length<=1000)(x y:aj)(n:List Int)(r:aj)(hp:p.aa.length<=1000)(AV: ∀t∈p.aa,t.bz.length<=1000)(hu: ∀u∈s.units,u.res.length<=1000)(ahv:log.length<=1000)
  (o9: ∀u∈s.units,∀t∈p.aa,i6 u.res t=true->ac 203 [WR p log,UR u,(true,fD t),SS r] (.aI [I (E.ev log u t r).1,I (E.ev log u t r).2])):
  bx cx 126 1 ((false,[.ptr 1 0])::[w7 [x,y] n r].map dyn) (form p log s) [1] (.val (dyn (I (bs E p log s 12 [x,y] n r).2))) (form p log (bs E p log s 12 [x,y] n r).1):=by
 rw[show bs E p log s 12 [x,y] n r=TS E p log s 12 x [x,y] n r from rfl];obtain⟨volt,earth,opens,hall,lots,units⟩:=s;have ct:=QM p y hp;by_cases hx:0<=io ⟨volt,earth,opens,hall,lots,units⟩ x
 ·obtain⟨i,u,h1,h2,h3,h4,h5⟩:=j0 hx;have c0:=λfid H=>lf (fid:=fid) (H:=H) h3 hl h1;have Lf:=jI h3;have hr:u.res.length<=1000000:=by grind
  have o9:=λt ht=>o9 u Lf t ht;by_cases hy:y∈cS p.aa
  ·obtain⟨t1,t2,t3⟩:=aaC hy;rw[fL hy]at ct;have o9:=o9 _ t3;have AV:=AV _ t3
   have hq:aU E p log ⟨volt,earth,opens,hall,lots,units⟩ u 12 [x,y] n r=if hall=u.name/\u.failed=false then(if bL u.res (kC p y).name then(u,23)else if i6 u.res (kC p y)=false then(u,14)else if decide ((kC p y).kind =0)=volt then(u,24)else
     if(E.ev log u (kC p y) r).2=0 then({u with res:=u.res++[⟨(kC p y).name,(E.ev log u (kC p y) r).1,log.length,false⟩],failed:=decide ((E.ev log u (kC p y) r).1=0)},0)else(u,(E.ev log u (kC p y) r).2))else(u,20):=by
    rw[t1];exact if_pos t2
   clear t1 t2 t3;generalize kC p y=t at*;obtain⟨V,hV⟩: ∃V,bL u.res t.name=V:=⟨_,rfl⟩;obtain⟨D,hD⟩: ∃D,i6 u.res t=D:=⟨_,rfl⟩;have bG:(log.map be).length =log.length:=by simp
   rw[hV,hD]at hq;rw[hD]at o9;have Xq:=λhs=> @WA (u:=u) (t:=t) (r:=r) (y:=E.ev log u t r) (p:=p) (log:=log) (hs:=hs);generalize E.ev log u t r=z at*;obtain⟨z1,z2⟩:=z;dsimp only at Xq o9;have cv:=λH fid l i a b c=> @Q0 H fid u l i a b c t.name V hV hr;have cr:=λH fid l i a b c=> @Q1 H fid u l i a b c t D hD AV hr;clear hV hD;obtain⟨nm,kd,nd,ru,lo,hi⟩:=t;obtain⟨name,win,ul,res,failed,rel,shaken,used,gas⟩:=u;dsimp only at hq;have Ch:res.length<=1000000:=hr;have hrl:(res.map kF).length =res.length:=by simp
   by_cases hh:hall=name
   ·subst hh;cases failed
    ·rw[if_pos ⟨rfl,rfl⟩]at hq;cases V
     ·rw[if_neg xP]at hq;cases D
      ·rw[ba hx h2 h4 (hq.trans (if_pos rfl))];exact UY
      ·rw[if_neg K9]at hq;have Xq:=λH fid l i a b c=> @Xq (o9 rfl) H fid l i a b c;by_cases hk:kd=0<;>cases volt
       ·subst hk;rw[if_neg (by simp)]at hq;by_cases hz:z2=0
        ·subst hz;rw[ba hx h2 h4 (hq.trans (if_pos rfl))];refine gI f126 h3 hl rfl ?_;repeat' ((first|(refine kO 7 rfl ?_;first|refine im (λ_ z=>⟨_,_,_,(c0 _ _ ⟨_,_,rfl,rfl⟩ rfl),z⟩) ?_|refine Rq (bZ _ _) ?_|refine rG (λ_ z=>⟨_,wF (E:=0) rfl,z⟩) ?_|refine im (λ_ z=>⟨_,_,_,(cv _ _ _ _ _ _ _ rfl (jS F3) rfl rfl rfl),z⟩) ?_|refine im (λ_ z=>⟨_,_,_,(cr _ _ _ _ _ _ _ rfl (jS F3) rfl rfl rfl),z⟩) ?_|refine im (λ_ z=>⟨_,_,_,(Xq _ _ _ _ _ _ _ _ _ _ _ _ _ _ _ rfl rfl rfl (jS F3) rfl rfl rfl),z⟩) ?_)|refine tX 0 ?_|exact Zt|refine bR ?_ ?_<;>intro h)<;>(try conv=>whnf))
         all_goals first|exact Ze|(simp only[jj];exact Ei)|exact Ei
        ·rw[ba hx h2 h4 (hq.trans (if_neg hz)),if_neg hz];refine gI f126 h3 hl rfl ?_;repeat' ((first|(refine kO 7 rfl ?_;first|refine im (λ_ z=>⟨_,_,_,(c0 _ _ ⟨_,_,rfl,rfl⟩ rfl),z⟩) ?_|refine Rq (bZ _ _) ?_|refine rG (λ_ z=>⟨_,wF (E:=0) rfl,z⟩) ?_|refine im (λ_ z=>⟨_,_,_,(cv _ _ _ _ _ _ _ rfl (jS F3) rfl rfl rfl),z⟩) ?_|refine im (λ_ z=>⟨_,_,_,(cr _ _ _ _ _ _ _ rfl (jS F3) rfl rfl rfl),z⟩) ?_|refine im (λ_ z=>⟨_,_,_,(Xq _ _ _ _ _ _ _ _ _ _ _ _ _ _ _ rfl rfl rfl (jS F3) rfl rfl rfl),z⟩) ?_)|refine tX 0 ?_|exact Zt|refine bR ?_ ?_<;>intro h)<;>(try conv=>whnf))
         all_goals first|exact Ze|exact Ei
       ·subst hk;rw[if_pos (by simp)]at hq;rw[ba hx h2 h4 hq];exact UY
       ·have XD:(!((kd==0)==false))=false:=by grind
        rw[if_pos bv]at hq;rw[ba hx h2 h4 hq];refine gI f126 h3 hl rfl ?_;repeat' ((first|(refine kO 7 rfl ?_;first|refine im (λ_ z=>⟨_,_,_,(c0 _ _ ⟨_,_,rfl,rfl⟩ rfl),z⟩) ?_|refine rG (λ_ z=>⟨_,ag1 XD _,z⟩) ?_|refine Rq (bZ _ _) ?_|refine rG (λ_ z=>⟨_,wF (E:=24) rfl,z⟩) ?_|refine im (λ_ z=>⟨_,_,_,(cv _ _ _ _ _ _ _ rfl (jS F3) rfl rfl rfl),z⟩) ?_|refine im (λ_ z=>⟨_,_,_,(cr _ _ _ _ _ _ _ rfl (jS F3) rfl rfl rfl),z⟩) ?_)|refine tX 0 ?_|exact Zt|refine bR ?_ ?_<;>intro h)<;>(try conv=>whnf))
        all_goals first|exact Ze|exact Ei
       ·have XD:(!((kd==0)==true))=true:=by grind
        rw[if_neg bv]at hq;by_cases hz:z2=0
        ·subst hz;rw[ba hx h2 h4 (hq.trans (if_pos rfl))];refine gI f126 h3 hl rfl ?_;repeat' ((first|(refine kO 7 rfl ?_;first|refine im (λ_ z=>⟨_,_,_,(c0 _ _ ⟨_,_,rfl,rfl⟩ rfl),z⟩) ?_|refine rG (λ_ z=>⟨_,aaB XD _,z⟩) ?_|refine Rq (bZ _ _) ?_|refine rG (λ_ z=>⟨_,wF (E:=0) rfl,z⟩) ?_|refine im (λ_ z=>⟨_,_,_,(cv _ _ _ _ _ _ _ rfl (jS F3) rfl rfl rfl),z⟩) ?_|refine im (λ_ z=>⟨_,_,_,(cr _ _ _ _ _ _ _ rfl (jS F3) rfl rfl rfl),z⟩) ?_|refine im (λ_ z=>⟨_,_,_,(Xq _ _ _ _ _ _ _ _ _ _ _ _ _ _ _ rfl rfl rfl (jS F3) rfl rfl rfl),z⟩) ?_)|refine tX 0 ?_|exact Zt|refine bR ?_ ?_<;>intro h)<;>(try conv=>whnf))
         all_goals first|exact Ze|(simp only[jj];exact Ei)|exact Ei
        ·rw[ba hx h2 h4 (hq.trans (if_neg hz)),if_neg hz];refine gI f126 h3 hl rfl ?_;repeat' ((first|(refine kO 7 rfl ?_;first|refine im (λ_ z=>⟨_,_,_,(c0 _ _ ⟨_,_,rfl,rfl⟩ rfl),z⟩) ?_|refine rG (λ_ z=>⟨_,aaB XD _,z⟩) ?_|refine Rq (bZ _ _) ?_|refine rG (λ_ z=>⟨_,wF (E:=0) rfl,z⟩) ?_|refine im (λ_ z=>⟨_,_,_,(cv _ _ _ _ _ _ _ rfl (jS F3) rfl rfl rfl),z⟩) ?_|refine im (λ_ z=>⟨_,_,_,(cr _ _ _ _ _ _ _ rfl (jS F3) rfl rfl rfl),z⟩) ?_|refine im (λ_ z=>⟨_,_,_,(Xq _ _ _ _ _ _ _ _ _ _ _ _ _ _ _ rfl rfl rfl (jS F3) rfl rfl rfl),z⟩) ?_)|refine tX 0 ?_|exact Zt|refine bR ?_ ?_<;>intro h)<;>(try conv=>whnf))
         all_goals first|exact Ze|exact Ei
     ·rw[if_pos rfl]at hq;rw[ba hx h2 h4 hq];exact UY
    ·rw[ba hx h2 h4 (hq.trans (if_neg (by simp)))];exact UY
   ·rw[ba hx h2 h4 (hq.trans (if_neg bv))];exact UY
  ·rw[fj hy]at ct;have dp: ¬0<=bg (cS p.aa) y:=by grind[fq]
   generalize kC p y=t at*;obtain⟨nm,kd,nd,ru,lo,hi⟩:=t;rw[ba hx h2 h4 (show aU E p log ⟨volt,earth,opens,hall,lots,units⟩ u 12 [x,y] n r=(u,6)from if_neg dp)];obtain⟨name,win,ul,res,failed,rel,shaken,used,gas⟩:=u;exact UY
 ·rw[oW hx];generalize kC p y=t at*;obtain⟨nm,kd,nd,ru,lo,hi⟩:=t;generalize decide (y∈cS p.aa)=is at*;refine gF f126 hl ?_;exact K15
def vw {E E':dG}{H:Hp}{nx n':Nat}{p:Pl}{log:List En}{s:bP}{u u0:Un}{us:List Un}{i:Nat}{m:List (Nat × Nat)}{X:Hp}{ks:List Nat}(hi:us[i]? =some u0)(hl:us.length<=1000)(hm:Go.Fw.IL ((9,9)::m)=true)(h9:H.get 9=some (.aD 17 ((az 0 us).set i (cU u 11 13 15))))
  (h1:bO ((9,9)::m) 11=some 11)(h2:bO ((9,9)::m) 13=some 13)(h3:bO ((9,9)::m) 15=some 15)
  (hY:jX ((9,9)::m++mW (aw us i)) H.get m=some (hd p log s++lC u 11 13 15++X))(hX:((ah X).all λk=>Nat.beq (k%2) 0)=true)(hE:ir H (aw us i))(hn:(m.all λq=>Nat.blt (tag q.2) n')=true)(h0:Nat.blt 0 n'=true)
  (ahs:dm ((9,9)::m++mW (aw us i)) E.get ks=some E'):bp ⟨E,H,nx⟩ ⟨E',X++er p log s u ((az 0 us).set i (cU u 11 13 15)) (aw us i),n'⟩:=by
 have hT:=BE hi hl;have hXe: ∀k∈ah X,k%2=0:=λk hk=>pb (wL.1 hX k hk);have ahJ: ∀ {k v:Nat},bO ((9,9)::m) k=some v->bO ((9,9)::m++mW (aw us i)) k=some v:=λ{k v} h=>by rw[kU,h]
 have iL:fG ((9,9)::m++mW (aw us i)) ((az 0 us).set i (cU u 11 13 15))=some ((az 0 us).set i (cU u 11 13 15)):=by
  rw[vl hi];refine ze (qH hT hm λn hn=>?_) ?_
  grind
  ·have h2':=qH (m:=(9,9)::m) hT hm (k:=i+1) (us:=us.drop (i+1)) λn hn=>by
    grind
   unfold fG;rw[h2'];simp only[cU,e8,m9,ahJ h1,ahJ h2,ahJ h3]
 have fC:=cZ.form (Y:=hd p log s++lC u 11 13 15++X) hT hm h9 iL hY (by
  rw[wL];intro k hk;have hk:k∈ah (hd p log s++lC u 11 13 15)++ah X:=by grind
  rcases iz.1 hk with h|h
  ·have:k=1\/k=3\/k=5\/k=7\/k=11\/k=13\/k=15:=by simpa [hd,lC,ah]using h
   rcases this with rfl|rfl|rfl|rfl|rfl|rfl|rfl<;>rfl
  grind[JE]) (hE.get hT)
 refine(rY fC (λq hq=>?_) ahs).trans (zf ?_)
 ·have h0:0<n':=by simp_all
  rcases iz.1 hq with h|h
  ·rcases dl.1 h with rfl|h
   ·exact h0
   grind[Nat.blt_eq]
  ·exact aic
 ·generalize (az 0 us).set i (cU u 11 13 15)=l at*;have e:((9,some (cD.aD 17 l))::(hd p log s++lC u 11 13 15++X)++aw us i:Hp)=((9,some (.aD 17 l))::(hd p log s++lC u 11 13 15))++(X++aw us i):=by simp
  rw[e,show X++er p log s u l (aw us i)=X++(((9,some (.aD 17 l))::(hd p log s++lC u 11 13 15))++aw us i)by simp[er]];refine oT λn hn hm=>?_;have h1:=hXe n hn;have:n=9\/n=1\/n=3\/n=5\/n=7\/n=11\/n=13\/n=15:=by simpa [hd,lC,ah]using hm
  omega
def voR (vd:List aj)(r:Rs):Rs:={r with void:=r.void || decide (r.test∈vd)}
def je (l:List Rs)(vd:List aj)(i:Nat):List Rs:=(l.take i).map (voR vd)++l.drop i
def aaE (l:List Rs)(vd:List aj)(i:Nat):(je l vd i).length =l.length:=by grind[je]
def Ko {l:List Rs}{vd:List aj}{i:Nat}(h:i<l.length):((je l vd i).map kF)[i]? =some (kF (l.getD i B5)):=by grind[je]
def E1 {l:List Rs}{vd:List aj}{i:Nat}(h:i<l.length):((je l vd i).map kF).set i (kF (voR vd (l.getD i B5)))=(je l vd (i+1)).map kF:=by
 rw[<- SW];congr 1;have ak:(l.take i).length =i:=by grind
 unfold je;rw[Sn _ _ bv,jj,ak,G9,CQ,zZ,G3];congr 1
 grind[List.drop_eq_getElem_cons]
def Od (l:List Rs)(vd:List aj):je l vd l.length=l.map (voR vd):=by simp[je]
def aaF {p:Pl}{y:aj}(h:y∈p.bf):nw p y=p.parts.getD (bg p.bf y).toNat ([],[])/\0<=bg p.bf y/\nw p y∈p.parts:=by
 obtain⟨k,hk,e⟩:=ld h;have xw:k<p.parts.length:=by grind[Pl.bf]
 have hd:nw p y=p.parts.getD (bg p.bf y).toNat ([],[]):=by unfold nw;grind
 grind
def Q2 (E:uj)(p:Pl)(log:List En)(s:bP)(hl:s.units.length<=1000)(x y:aj)(n:List Int)(r:aj)(hp:p.aa.length<=1000)(hpp:p.parts.length<=1000)(hpv: ∀q∈p.parts,q.2.length<=1000)(AV: ∀i<p.aa.length,(p.aa.getD i dz).bz.length <=1000)(hu: ∀u∈s.units,u.res.length<=1000):
  bx cx 127 1 ((false,[.ptr 1 0])::[w7 [x,y] n r].map dyn) (form p log s) [1] (.val (dyn (I (bs E p log s 13 [x,y] n r).2))) (form p log (bs E p log s 13 [x,y] n r).1):=by
 rw[show bs E p log s 13 [x,y] n r=TS E p log s 13 x [x,y] n r from rfl];obtain⟨volt,earth,opens,hall,lots,units⟩:=s;have ct:=QE p y hpp;by_cases hx:0<=io ⟨volt,earth,opens,hall,lots,units⟩ x
 ·obtain⟨i,u,h1,h2,h3,h4,h5⟩:=j0 hx;have c0:=λfid H=>lf (fid:=fid) (H:=H) h3 hl h1;have Lf:=jI h3;have hr:u.res.length<=1000:=hu u Lf;by_cases hy:y∈p.bf
  ·obtain⟨t1,t2,t3⟩:=aaF hy;rw[fL hy]at ct
   have hq:aU E p log ⟨volt,earth,opens,hall,lots,units⟩ u 13 [x,y] n r=if u.rel then(u,20)else if hall=u.name/\opens= []then(u,24)else
     ({u with res:=u.res.map (voR (jo p.aa (nw p y).2)),failed:=false},0):=by
    rw[t1];exact if_pos t2
   have cv:=QF p (nw p y) hp (hpv _ t3) AV;have Xl:(jo p.aa (nw p y).2).length <=p.aa.length:=rL _ _;generalize jo p.aa (nw p y).2=vd at*;clear t1 t2 t3;generalize nw p y=t at*;obtain⟨nm,vs⟩:=t;obtain⟨name,win,ul,res,failed,rel,shaken,used,gas⟩:=u;dsimp only at hq hr;cases rel
   ·rw[if_neg xP]at hq;by_cases hh:hall=name/\opens= []
    ·obtain⟨rfl,rfl⟩:=hh;rw[ba hx h2 h4 (hq.trans (if_pos ⟨rfl,rfl⟩))];exact agf
    ·rw[ba hx h2 h4 (hq.trans (if_neg hh))];refine gI f127 h3 hl rfl ?_;have hrl:(res.map kF).length =res.length:=by simp
     have ho:hall=name->((ab opens).length :Int)>0:=λe=>by
      cases opens with
      |nil=>grind
      |cons a l=>grind
     by_cases hn:hall=name
     ·have ho:=ho hn;repeat' ((first|(refine kO 7 rfl ?_;first|refine im (λ_ z=>⟨_,_,_,(c0 _ _ ⟨_,_,rfl,rfl⟩ rfl),z⟩) ?_|refine rG (λ_ z=>⟨_,aO ho _,z⟩) ?_|refine Rq (bZ _ _) ?_|refine rG (λ_ z=>⟨_,wF (E:=0) rfl,z⟩) ?_)|refine tX 0 ?_|exact Zt|refine bR ?_ ?_<;>intro h)<;>(try conv=>whnf))
      all_goals try contradiction
      refine af (ι:=Nat) (λk=>k<=res.length) (λk=>res.length -k) (λk=>⟨[(0,pP 1),(5,some (.val (false,[.cI 9 17 i 0]))),(9,pO 2),(76,vI res.length),(77,vI k)],[(2,some (.row true 1 (.view (ab vd))))]++er p log ⟨volt,earth,opens,hall,lots,units⟩ ⟨name,win,ul,je res vd k,failed,false,shaken,used,gas⟩ ((az 0 units).set i (cU ⟨name,win,ul,res,failed,false,shaken,used,gas⟩ 11 13 15)) (aw units i),1000⟩) 0
       (vw (ks:=[0,5,9,76,77]) (m:=[(1,1),(3,3),(5,5),(7,7),(11,11),(13,13),(15,15),(134,2)]) h3 hl cT rfl cT cT cT cT cT K46 cT cT UV) (dD _) ?_
      intro k hk;by_cases ak:k<res.length
      ·have he:=Ko (vd:=vd) ak;have nq:=E1 (vd:=vd) ak;have xw:((je res vd k).map kF).length =res.length:=by exact acb
       generalize res.getD k B5=rr at*;obtain⟨rt,ra,re,rv⟩:=rr;have cc:=bI vd rt K0;cases rv
       ·repeat' ((first|refine tX 0 ?_|exact Zt|refine bR ?_ ?_<;>intro h)<;>(try conv=>whnf))
        all_goals first|exact Zo|exact⟨k+1,ak,by omega,vw (ks:=[0,5,9,76,77]) (m:=[(1,1),(3,3),(5,5),(7,7),(11,11),(13,13),(15,15),(2,2)]) h3 hl cT rfl cT cT cT abY cT K46 cT cT cT⟩
       ·repeat' ((first|refine tX 0 ?_|exact Zt|refine bR ?_ ?_<;>intro h)<;>(try conv=>whnf))
        all_goals first|exact Zo|exact⟨k+1,ak,by omega,vw (ks:=[0,5,9,76,77]) (m:=[(1,1),(3,3),(5,5),(7,7),(11,11),(13,13),(15,15),(2,2)]) h3 hl cT rfl cT cT cT abY cT K46 cT cT cT⟩
      ·exact ajY
     ·repeat' ((first|(refine kO 7 rfl ?_;first|refine im (λ_ z=>⟨_,_,_,(c0 _ _ ⟨_,_,rfl,rfl⟩ rfl),z⟩) ?_|refine Rq (bZ _ _) ?_|refine rG (λ_ z=>⟨_,wF (E:=0) rfl,z⟩) ?_)|refine tX 0 ?_|exact Zt|refine bR ?_ ?_<;>intro h)<;>(try conv=>whnf))
      all_goals try contradiction
      refine af (ι:=Nat) (λk=>k<=res.length) (λk=>res.length -k) (λk=>⟨[(0,pP 1),(5,some (.val (false,[.cI 9 17 i 0]))),(9,pO 2),(76,vI res.length),(77,vI k)],[(2,some (.row true 1 (.view (ab vd))))]++er p log ⟨volt,earth,opens,hall,lots,units⟩ ⟨name,win,ul,je res vd k,failed,false,shaken,used,gas⟩ ((az 0 units).set i (cU ⟨name,win,ul,res,failed,false,shaken,used,gas⟩ 11 13 15)) (aw units i),1000⟩) 0
       (vw (ks:=[0,5,9,76,77]) (m:=[(1,1),(3,3),(5,5),(7,7),(11,11),(13,13),(15,15),(134,2)]) h3 hl cT rfl cT cT cT cT cT K46 cT cT UV) (dD _) ?_
      intro k hk;by_cases ak:k<res.length
      ·have he:=Ko (vd:=vd) ak;have nq:=E1 (vd:=vd) ak;have xw:((je res vd k).map kF).length =res.length:=by exact acb
       generalize res.getD k B5=rr at*;obtain⟨rt,ra,re,rv⟩:=rr;have cc:=bI vd rt K0;cases rv
       ·repeat' ((first|refine tX 0 ?_|exact Zt|refine bR ?_ ?_<;>intro h)<;>(try conv=>whnf))
        all_goals first|exact Zo|exact⟨k+1,ak,by omega,vw (ks:=[0,5,9,76,77]) (m:=[(1,1),(3,3),(5,5),(7,7),(11,11),(13,13),(15,15),(2,2)]) h3 hl cT rfl cT cT cT abY cT K46 cT cT cT⟩
       ·repeat' ((first|refine tX 0 ?_|exact Zt|refine bR ?_ ?_<;>intro h)<;>(try conv=>whnf))
        all_goals first|exact Zo|exact⟨k+1,ak,by omega,vw (ks:=[0,5,9,76,77]) (m:=[(1,1),(3,3),(5,5),(7,7),(11,11),(13,13),(15,15),(2,2)]) h3 hl cT rfl cT cT cT abY cT K46 cT cT cT⟩
      ·exact ajY
   ·rw[ba hx h2 h4 (hq.trans (if_pos rfl))];exact agf
  ·rw[fj hy]at ct;have dp: ¬0<=bg p.bf y:=by grind[fq]
   generalize nw p y=t at*;obtain⟨nm,vs⟩:=t;rw[ba hx h2 h4 (show aU E p log ⟨volt,earth,opens,hall,lots,units⟩ u 13 [x,y] n r=(u,6)from if_neg dp)];obtain⟨name,win,ul,res,failed,rel,shaken,used,gas⟩:=u;exact agf
 ·rw[oW hx];generalize nw p y=t at*;obtain⟨nm,vs⟩:=t;generalize decide (y∈p.bf)=is at*;refine gF f127 hl ?_;exact K15
def T6 {H:HF}{fid:Nat}{us:List Un}{i:Nat}(hl:us.length<=1000){x:aj}(hx:bg (us.map Un.name) x=(i:Nat))(h1: ∃t cs,H 1=some (.box t cs)/\cs[12]? =some (.own 9))(h9:H 9=some (.aD 17 (az 0 us))):
  bX cx fid 89 [(false,[.ptr 1 0]),(false,[.st (T x)])] H (bm (.cI 9 17 i 0)) [] [1,9]:=
 Ez (ns:=us.map Un.name) x ⟨h1,⟨_,h9,by rw[eO,jj],λ_ _ he=>Av he⟩,by grind⟩ (.inr ⟨by omega,by grind⟩)
def unZ (u:Un):List DC:=[.st (T u.name),.st (J u.win.k1),.st (J u.win.t1),.st (J u.win.s1),.st (K u.win.r1),.st (J u.win.k2),.st (J u.win.t2),.st (J u.win.s2),.st (K u.win.r2),.st (J u.win.st),.nil,.nil,.st (K u.failed),.st (K u.rel),.st (K u.shaken),.st (J u.used),.nil]
def aaH {E:dG}{Hh:Hp}{nx:Nat}(id:Nat){l:List (List DC)}{u:Un}(hB:Hh.get id=some (.aD 17 (l++[unZ u]))):
  ∃X2 X1:List (List DC),bp ⟨E,Hh,nx⟩ ⟨E,(id,some (.aD 17 (l++[cU u (2*nx) (2*(nx+1)) (2*(nx+1+1))])))::(2*(nx+1+1),some (.row true 5 (.view [])))::(id,some (.aD 17 X2))::(2*(nx+1),some (.row true 4 (.view [])))::(id,some (.aD 17 X1))::(2*nx,some (.row true 1 (.view [])))::Hh,nx+1+1+1⟩:=by
 have FM: ∀e e':List DC,(l++[e]).set l.length e'=l++[e']:=λe e'=>by simp
 have FE: ∀e:List DC,(l++[e])[l.length]? =some e:=λe=>by simp
 have s1:=EJ (E:=E) (nx:=nx) id l.length 10 1 (.view []) K9 rfl rfl hB (FE _) (show(unZ u)[10]? =some .nil from rfl);rw[FM]at s1;have s2:=EJ (E:=E) (nx:=nx+1) (Hh:=(id,some (.aD 17 (l++[(unZ u).set 10 (.own (2*nx))])))::(2*nx,some (.row true 1 (.view [])))::Hh) id l.length 11 4 (.view []) K9 rfl rfl LW (FE _) (show((unZ u).set 10 (.own (2*nx)))[11]? =some .nil from rfl);rw[FM]at s2;have s3:=EJ (E:=E) (nx:=nx+1+1) (Hh:=(id,some (.aD 17 (l++[((unZ u).set 10 (.own (2*nx))).set 11 (.own (2*(nx+1)))])))::(2*(nx+1),some (.row true 4 (.view [])))::(id,some (.aD 17 (l++[(unZ u).set 10 (.own (2*nx))])))::(2*nx,some (.row true 1 (.view [])))::Hh) id l.length 16 5 (.view []) K9 rfl rfl LW (FE _) (show(((unZ u).set 10 (.own (2*nx))).set 11 (.own (2*(nx+1))))[16]? =some .nil from rfl);rw[FM]at s3;exact⟨_,_,(s1.trans s2).trans s3⟩
def ag2 (fn:Func)(p:Pl)(log:List En)(s:bP)(us:List Un)(u:Un)(r:DV)(S:St):Prop:=∃lg op lt un a b c,
 S.env.get 0=some (.val (false,[.ptr 1 0]))/\S.hp.get 1=some (.box 126 [.st (.view (p.ae.map nh)),.st (.view (ab p.ap)),.st (.view (p.aa.map fD)),.st (.view (p.parts.map mj)),.st (J p.dZ),.st (J p.eK),.own lg,.st (K s.volt),.st (K s.earth),.own op,.st (T s.hall),.own lt,.own un])/\
 S.hp.get un=some (.aD 17 (az 0 us++[cU u a b c]))/\
 S.hp.get lg=some (.row true 3 (.view (log.map be)))/\S.hp.get op=some (.row true 1 (.view (ab s.opens)))/\S.hp.get lt=some (.row true 1 (.view (ab s.lots)))/\
 S.hp.get a=some (.row true 1 (.view (ab u.lots)))/\S.hp.get b=some (.row true 4 (.view (u.res.map kF)))/\S.hp.get c=some (.row true 5 (.view (u.gas.map vh)))/\
 Go.Fw.IL [(un,9),(1,1),(lg,3),(op,5),(lt,7),(a,11),(b,13),(c,15)]=true/\ir S.hp (bw 0 us)/\
 eB cx S.hp.get S.env.get fn.results.toList λys=>∃zs,kT ([(un,9),(1,1),(lg,3),(op,5),(lt,7),(a,11),(b,13),(c,15)]++mW (bw 0 us)) ys=some zs/\pv zs=r
def adD {un lg op lt a b c:Nat}(h:Go.Fw.IL [(un,9),(1,1),(lg,3),(op,5),(lt,7),(a,11),(b,13),(c,15)]=true):
  (1≠un)/\(lg≠un/\lg≠1)/\(op≠un/\op≠1/\op≠lg)/\(lt≠un/\lt≠1/\lt≠lg/\lt≠op)/\(a≠un/\a≠1/\a≠lg/\a≠op/\a≠lt)/\(b≠un/\b≠1/\b≠lg/\b≠op/\b≠lt/\b≠a)/\c≠un/\c≠1/\c≠lg/\c≠op/\c≠lt/\c≠a/\c≠b:=by
 exact ah4
def adE {fn:Func}{p:Pl}{log:List En}{s:bP}{u:Un}{us:List Un}{r:DV}{S:St}(hl:us.length<=1000)(h:ag2 fn p log s us u r S):
  ∃m:List (Nat × Nat),cZ m S.hp.get (er p log s u (az 0 us++[cU u 11 13 15]) (bw 0 us)).get /\(∀q∈[(0,1)],∃o off,S.env.get q.1=some (.val (false,[.ptr o off]))/\(o,q.2)∈m)/\
   eB cx S.hp.get S.env.get fn.results.toList λys=>∃zs,kT m ys=some zs/\pv zs=r:=by
 obtain⟨lg,op,lt,un,a,b,c,h0,h1,h9,h2,h3,h4,h5,h6,h7,hm,hE,hr⟩:=h;have hT:=gY hl;obtain⟨z1,⟨n1,n2⟩,⟨n3,n4,n5⟩,⟨n6,n7,n8,n9⟩,⟨a1,a2,a3,a4,a5⟩,⟨b1,b2,b3,b4,b5,b6⟩,c1,c2,c3,c4,c5,c6,c7⟩:=adD hm;have id1:bO ((un,9)::[(1,1),(lg,3),(op,5),(lt,7),(a,11),(b,13),(c,15)]++mW (bw 0 us)) lg=some 3:=act;have id2:bO ((un,9)::[(1,1),(lg,3),(op,5),(lt,7),(a,11),(b,13),(c,15)]++mW (bw 0 us)) op=some 5:=act;have id3:bO ((un,9)::[(1,1),(lg,3),(op,5),(lt,7),(a,11),(b,13),(c,15)]++mW (bw 0 us)) lt=some 7:=ab0;have id5:bO ((un,9)::[(1,1),(lg,3),(op,5),(lt,7),(a,11),(b,13),(c,15)]++mW (bw 0 us)) a=some 11:=ab0;have id6:bO ((un,9)::[(1,1),(lg,3),(op,5),(lt,7),(a,11),(b,13),(c,15)]++mW (bw 0 us)) b=some 13:=aiS;have id7:bO ((un,9)::[(1,1),(lg,3),(op,5),(lt,7),(a,11),(b,13),(c,15)]++mW (bw 0 us)) c=some 15:=aiM;have id4:bO ((un,9)::[(1,1),(lg,3),(op,5),(lt,7),(a,11),(b,13),(c,15)]++mW (bw 0 us)) un=some 9:=by grind[mO]
 have iL:fG ((un,9)::[(1,1),(lg,3),(op,5),(lt,7),(a,11),(b,13),(c,15)]++mW (bw 0 us)) (az 0 us++[cU u a b c])=some (az 0 us++[cU u 11 13 15]):=by
  refine ze (qH hT hm λn hn=>hn) ?_;unfold fG;simp only[cU,e8,m9,id5,id6,id7];rfl
 refine⟨_,cZ.aey (Y:=hd p log s++lC u 11 13 15) hT hm h9 iL ?_ rfl (hE.get hT),λq hq=>?_,hr⟩
 ·exact ajl
 grind
def adF {f:FuncId}{xs:List DX}{Hs:Hp}{p:Pl}{log:List En}{s':bP}{us:List Un}{i:Nat}{u u':Un}{y:SV}(hi:us[i]? =some u)(hl:us.length<=1000)(hs:s'.units=us.set i u')
  (h:bx cx f 1 xs Hs [1] (.val (dyn y)) (er p log s' u' ((az 0 us).set i (cU u' 11 13 15)) (aw us i))):bx cx f 1 xs Hs [1] (.val (dyn y)) (form p log s'):=by
 have eJ:=oe p log s' (u':=u') hi hl;have amJ: ∀k∈ah (er p log s' u' ((az 0 us).set i (cU u' 11 13 15)) (aw us i)),k≠17+6*i/\k≠19+6*i/\k≠21+6*i:=λk qR=>by exact ahZ
 have ahS: ∀a∈ah (er p log s' u' ((az 0 us).set i (cU u' 11 13 15)) (aw us i)),∀b∈ah (er p log s' u' ((az 0 us).set i (cU u' 11 13 15)) (aw us i)),HU i a=HU i b->a=b:=λa ha b hb e=>by grind[HU]
 have u1:HU i 1=1:=JR K0 K0 K0
 have g3:=h.out (nf.hp eJ ahS) (by
   grind[lH,bD]) (λid hid=>by rw[m6]at hid;subst hid;exact⟨eJ.xJ,u1⟩)
 have hr:La (HU i) (.val (dyn y))= .val (dyn y):=aQ DV.val (JF _ y)
 grind[bx.congr,MT]
def gU {f:FuncId}{c:Code}{p:Pl}{log:List En}{s s':bP}{u:Un}{ys:List SV}{y:SV}(fn:Func)(hl:s.units.length<1000)(hs:s'.units=s.units++[u])
  (h:m8 cx c ⟨iF 0 ((false,[.ptr 1 0])::ys.map dyn),form p log s,1⟩ (ag2 fn p log s' s.units u (.val (dyn y))) (λ_ _=>False) (ag2 fn p log s' s.units u (.val (dyn y))))
  (h1:iN cx.P f=true:=by kernel_rfl)(h2:cx.P.funcs[f]? =some fn:=by kernel_rfl)(h3:fn.body=some c:=by rfl)(h4:bS fn.ntmps c=true:=by kernel_rfl)(h5:ys.length+1<=fn.ntmps:=by exact fO rfl)(h6:aN [0] c=true:=by kernel_rfl):
  bx cx f 1 ((false,[.ptr 1 0])::ys.map dyn) (form p log s) [1] (.val (dyn y)) (form p log s'):=by
 have g:=fA lJ h1 h2 h3 h4 bv [(0,1)] (λp hp=>by grind) h6 (λS hS=>adE K0 hS) h;have hi:(s.units++[u])[s.units.length]? =some u:=by simp
 have e1:(az 0 (s.units++[u])).set s.units.length (cU u 11 13 15)=az 0 s.units++[cU u 11 13 15]:=by
  rw[vk];show(az 0 s.units++[cU u _ _ _]).set _ _=_;have:=eO 0 s.units;simp_all
 have e2:aw (s.units++[u]) s.units.length=bw 0 s.units:=by grind[bw,List.drop_eq_nil_of_le]
 refine adF (u':=u) hi bv bv ?_;rw[e1,e2];exact g
def Of (E:uj)(p:Pl)(log:List En)(s:bP)(hE:E.pu=NF)(hl:s.units.length<=900)(x:aj)(n:List Int)(r:aj)(hx:x.length<=1000)(hr:r.length<=100000):
  bx cx 116 1 ((false,[.ptr 1 0])::[w7 [x] n r].map dyn) (form p log s) [1] (.val (dyn (I (bs E p log s 2 [x] n r).2))) (form p log (bs E p log s 2 [x] n r).1):=by
 obtain⟨volt,earth,opens,hall,lots,units⟩:=s;have c1:=gi x K0;have c9:=λ_:Unit=>E3 r hr;unfold jG at c1;have e:bs E p log ⟨volt,earth,opens,hall,lots,units⟩ 2 [x] n r=if jK x then(if x∈units.map Un.name then(⟨volt,earth,opens,hall,lots,units⟩,5)else if units.length<6 then(if(NF r).2=0 then(⟨volt,earth,opens,hall,lots,units++[{qa with name:=x,win:=(NF r).1}]⟩,0)else(⟨volt,earth,opens,hall,lots,units⟩,(NF r).2))else(⟨volt,earth,opens,hall,lots,units⟩,16))else(⟨volt,earth,opens,hall,lots,units⟩,4):=by rw[<- hE];rfl
 rw[e];clear e;have hl:units.length<=900:=hl;have sJ:units.length<=1000:=by omega
 have iL:=eO 0 units;by_cases h2:x∈units.map Un.name
 ·obtain⟨i,hi,e⟩:=ld h2;have c0:=λfid H=>T6 (fid:=fid) (H:=H) sJ e;by_cases h1:jK x
  ·rw[if_pos h1]at c1 ⊢;rw[if_pos h2];refine gF f116 sJ ?_;repeat' ((first|(refine kO 7 rfl ?_;first|refine im (λ_ z=>⟨_,_,_,(c0 _ _ ⟨_,_,rfl,rfl⟩ rfl),z⟩) ?_|refine Rq (iY _) ?_|refine rG (λ_ z=>⟨_,wF (E:=5) rfl,z⟩) ?_)|refine tX 0 ?_|exact Zt|refine bR ?_ ?_<;>intro h)<;>(try conv=>whnf))
   all_goals first|exact Zo|exact Ew
  ·exact K64
 ·have dp:bg (units.map Un.name) x<0:=by grind[fq]
  have c0:=λfid H=>Aw (fid:=fid) (H:=H) sJ dp;by_cases h1:jK x
  ·rw[if_pos h1]at c1 ⊢;rw[if_neg h2];by_cases h3:units.length<6
   ·have h3':((az 0 units).length :Int)<6:=by omega
    rw[if_pos h3];generalize NF r=w at*;obtain⟨wi,we⟩:=w;by_cases h4:we=0
    ·subst h4;rw[if_pos rfl];refine gU (u:={qa with name:=x,win:=wi}) f116 bv rfl ?_;repeat' ((first|(refine kO 7 rfl ?_;first|refine im (λ_ z=>⟨_,_,_,(c0 _ _ ⟨_,_,rfl,rfl⟩ rfl),z⟩) ?_|refine rG (λ_ z=>⟨_,aO h3' _,z⟩) ?_|refine rG (λ_ z=>⟨_,wF (E:=0) rfl,z⟩) ?_)|refine tX 0 ?_|exact Zt|refine bR ?_ ?_<;>intro h)<;>(try conv=>whnf))
     all_goals try(exfalso;omega)
     have c2:=c9 ()
     (try(refine tX 2 ?_;try exact Zt))
     refine aM ?_;repeat' ((first|refine rGX rfl trivial ?_|refine oP rfl ?_|refine Tt rfl rfl rfl rfl rfl rfl (cvI K0) ?_|refine Tt rfl rfl rfl rfl rfl rfl (cv8 K0) ?_|refine rP rfl (λ_ z=>z) ?_|(refine kO 1 rfl ?_;first|refine aeW rfl rfl rfl (by first|omega|(simp;omega)|(simp only[sO,jP,xT];omega)|decide) ?_|refine alh rfl rfl rfl ?_|refine ali rfl rfl rfl ?_|refine ae2 rfl rfl rfl K0 ?_|refine ak0 rfl rfl rfl K0 ?_|refine ak1 rfl rfl rfl K0 ?_|refine ak2 rfl rfl rfl K0 ?_|refine ak3 rfl rfl rfl K0 ?_|refine ak4 rfl rfl rfl K0 ?_|refine aeO rfl rfl rfl K0 ?_|refine aeP rfl rfl rfl K0 ?_|refine rG (λ_ z=>z) ?_)|(refine kO 2 rfl ?_;first|refine ak5 rfl rfl (by omega) ?_|refine rG (λ_ z=>z) ?_)|(refine kO 3 rfl ?_;first|refine ak9 rfl rfl rfl rfl rfl ?_|refine ala rfl rfl rfl rfl rfl rfl rfl ?_|refine ak6 rfl rfl rfl rfl rfl rfl (by first|omega|decide|exact fO rfl|(dsimp only[SC.len];omega)|(simp;done)|(simp;omega)|omega) ?_|refine rG (λ_ z=>z) ?_|refine rG (λ_ z=>⟨_,rfl,z⟩) ?_|refine rG (λ_ z=>⟨_,(by assumption),z⟩) ?_)|(refine kO 4 rfl ?_;first|refine ak7 rfl rfl rfl rfl rfl rfl (by first|omega|decide|exact fO rfl|(dsimp only[SC.len];omega)|(simp;done)|(simp;omega)|omega) ?_|refine rG (λ_ z=>z) ?_)|(refine kO 5 rfl ?_;first|refine ak8 rfl rfl rfl rfl rfl rfl rfl (by first|omega|decide|exact fO rfl|(dsimp only[SC.len];omega)|(simp;done)|(simp;omega)|omega) ?_|refine agA rfl rfl rfl rfl rfl rfl rfl (by first|omega|decide|exact fO rfl|(dsimp only[SC.len];omega)|(simp;done)|(simp;omega)|omega) ?_|refine aeQ rfl rfl rfl rfl rfl rfl rfl rfl (by first|omega|decide|exact fO rfl|(dsimp only[SC.len];omega)|(simp;done)|(simp;omega)|omega) ?_|refine agB rfl rfl rfl rfl rfl rfl rfl rfl (by first|omega|decide|exact fO rfl|(dsimp only[SC.len];omega)|(simp;done)|(simp;omega)|omega) ?_|refine aeR rfl rfl rfl rfl rfl rfl (by first|assumption|rfl) rfl ?_)|(refine kO 6 rfl ?_;first|refine aeX rfl rfl rfl rfl rfl rfl ?_|refine alb rfl rfl rfl rfl rfl rfl ?_|refine aeS rfl rfl rfl rfl rfl rfl ?_|refine aeT rfl rfl rfl rfl rfl rfl rfl ?_|refine Y4 rfl rfl rfl rfl rfl rfl rfl ?_|refine ae3 rfl rfl rfl K0 ?_|refine alj rfl rfl rfl K0 ?_|refine rG (λ_ z=>z) ?_)|(refine kO 8 rfl ?_;first|refine aeY rfl rfl rfl rfl rfl (by first|omega|(simp;omega)|(simp only[sO,jP,xT];omega)|decide) ?_|refine ae1 rfl rfl rfl rfl rfl rfl (by first|omega|(simp;omega)|(simp only[sO,jP,xT];omega)|decide) ?_|refine aeZ rfl rfl rfl rfl rfl (by first|omega|(simp;omega)|(simp only[sO,jP,xT];omega)|decide) ?_|refine ae0 rfl rfl rfl rfl rfl (by first|omega|(simp;omega)|(simp only[sO,jP,xT];omega)|decide) ?_|refine alc rfl rfl rfl rfl rfl rfl rfl (by omega) ?_|refine ald rfl rfl rfl rfl rfl rfl rfl (by omega) ?_|refine rG (λ_ z=>z) ?_)|refine rGX rfl trivial ?_|refine rGX rfl (by(first|omega|decide|rfl|exact lnS K0|exact lnN (by decide)|exact lnN K0|exact lnC K0|exact lvS K0|exact lvN (by decide)|exact lvC K0|exact uvS rfl|exact uvN rfl|((try unfold SC.len);(try unfold SC.zW);(try unfold xE);(try simp);(try omega);done)|omega)) ?_|refine oN ?_|refine aS ?_|refine aR ?_|refine aK ?_|refine aX ?_|refine aB ?_|refine aT ?_|refine aC rfl ?_|refine bT ?_|refine bF ?_|refine bPt K0 ?_|refine bPf K0 ?_|refine aL ?_|refine aE ?_|refine oY rfl rfl rfl ?_|refine oZ rfl rfl rfl ?_|refine oO rfl rfl rfl ?_|refine oIt rfl rfl rfl K0 ?_|refine oIf rfl rfl rfl K0 ?_|refine oUt rfl rfl rfl K0 ?_|refine oUf rfl rfl rfl K0 ?_|refine dI cT ?_|refine rG (λ_ z=>⟨(by(first|omega|decide|rfl|exact lnS (by omega)|exact lnN (by decide)|exact lnN (by omega)|exact lnC (by omega)|exact lvS (by omega)|exact lvN (by decide)|exact lvC (by omega)|exact uvS rfl|exact uvN rfl|((try unfold SC.len);(try unfold SC.zW);(try unfold xE);(try simp);(try omega);done)|omega)),z⟩) ?_|refine rG (λ_ z=>⟨(by(first|omega|decide|rfl|exact lnS (by omega)|exact lnN (by decide)|exact lnN (by omega)|exact lnC (by omega)|exact lvS (by omega)|exact lvN (by decide)|exact lvC (by omega)|exact uvS rfl|exact uvN rfl|((try unfold SC.len);(try unfold SC.zW);(try unfold xE);(try simp);(try omega);done)|omega)),(by(first|omega|decide|rfl|exact lnS (by omega)|exact lnN (by decide)|exact lnN (by omega)|exact lnC (by omega)|exact lvS (by omega)|exact lvN (by decide)|exact lvC (by omega)|exact uvS rfl|exact uvN rfl|((try unfold SC.len);(try unfold SC.zW);(try unfold xE);(try simp);(try omega);done)|omega)),z⟩) ?_|refine brp (λh=>?_) λh=>?_|refine yF rfl rfl rfl (λh=>?_) λh=>?_|refine nJ rfl rfl rfl (λh=>?_) λh=>?_)<;>(try conv=>whnf))
     all_goals try(exfalso;omega)
     refine rGX rfl ⟨(λe he=>by rw[m6]at he;subst he;rfl),(by grind[xE])⟩ ?_
     (try conv=>whnf)
     repeat' ((first|refine tX 0 ?_|exact Zt|refine bR ?_ ?_<;>intro h)<;>(try conv=>whnf))
     refine Exists.elim (aaH 98 (l:=az 0 units) (u:={qa with name:=x,win:=wi}) ?hB) λX2 h=>h.elim λX1 h=>⟨_,h,?_⟩;case hB=>rfl
     repeat' ((first|refine tX 0 ?_|exact Zt|refine bR ?_ ?_<;>intro h)<;>(try conv=>whnf))
     refine⟨_,_,_,98,_,_,_,rfl,rfl,rfl,?_,?_,?_,rfl,rfl,rfl,rfl,?_,_,rfl,rfl⟩
     ·exact Er
     ·exact Er
     ·exact Er
     ·repeat(first|exact ir.base _|refine ir.step rfl ?_)
    ·rw[if_neg h4];have c2:=c9 ();refine gF f116 sJ ?_;repeat' ((first|(refine kO 7 rfl ?_;first|refine im (λ_ z=>⟨_,_,_,(c0 _ _ ⟨_,_,rfl,rfl⟩ rfl),z⟩) ?_|refine rG (λ_ z=>⟨_,aO h3' _,z⟩) ?_|refine rG (λ_ z=>⟨_,wF (E:=0) rfl,z⟩) ?_)|refine tX 0 ?_|exact Zt|refine bR ?_ ?_<;>intro h)<;>(try conv=>whnf))
     all_goals first|exact Zo|exact Ew
   ·have h3': ¬((az 0 units).length :Int)<6:=by omega
    rw[if_neg h3];refine gF f116 sJ ?_;repeat' ((first|(refine kO 7 rfl ?_;first|refine im (λ_ z=>⟨_,_,_,(c0 _ _ ⟨_,_,rfl,rfl⟩ rfl),z⟩) ?_|refine rG (λ_ z=>⟨_,bK h3' _,z⟩) ?_|refine rG (λ_ z=>⟨_,wF (E:=16) rfl,z⟩) ?_)|refine tX 0 ?_|exact Zt|refine bR ?_ ?_<;>intro h)<;>(try conv=>whnf))
    all_goals first|exact Zo|exact Ew
  ·exact K64
def T8 (d t:Int):0<=xd d t/\xd d t<=104857600000:=by
 unfold xd;by_cases h:BL d t
 ·rw[if_pos h];unfold BL at h;split
  ·omega
  ·exact xf K0 h.2
 ·rw[if_neg h];omega
def aaK (E:uj)(p:Pl)(log:List En)(s:bP)(hl:s.units.length<=1000)(x y z':aj)(d t:Int)(r:aj)(hp: -1000000000000000<=p.eK/\p.eK<=1000000000000000)(hu: ∀u∈s.units,0<=u.used/\u.used<=1000000000000000):
  bx cx 131 1 ((false,[.ptr 1 0])::[w7 [x,y,z'] [d,t] r].map dyn) (form p log s) [1] (.val (dyn (I (bs E p log s 17 [x,y,z'] [d,t] r).2))) (form p log (bs E p log s 17 [x,y,z'] [d,t] r).1):=by
 rw[show bs E p log s 17 [x,y,z'] [d,t] r=TS E p log s 17 x [x,y,z'] [d,t] r from rfl];obtain⟨volt,earth,opens,hall,lots,units⟩:=s;have cA:=Ip d t;by_cases hx:0<=io ⟨volt,earth,opens,hall,lots,units⟩ x
 ·obtain⟨i,u,h1,h2,h3,h4,h5⟩:=j0 hx;have c0:=λfid H=>lf (fid:=fid) (H:=H) h3 hl h1;have hT:=oe p log ⟨volt,earth,opens,hall,lots,units⟩ (u':=u) h3 hl;have hu:=hu u (jI h3);have hA:=T8 d t;obtain⟨name,win,ul,res,failed,rel,shaken,used,gas⟩:=u;have hu:0<=used/\used<=1000000000000000:=hu;have hq:aU E p log ⟨volt,earth,opens,hall,lots,units⟩ ⟨name,win,ul,res,failed,rel,shaken,used,gas⟩ 17 [x,y,z'] [d,t] r=if rel then(if shaken then(⟨name,win,ul,res,failed,rel,shaken,used,gas⟩,24)else if BL d t then(if used+xd d t<=p.eK then(⟨name,win,ul,res,failed,rel,shaken,used+xd d t,gas⟩,0)else(⟨name,win,ul,res,failed,rel,shaken,used,gas⟩,22))else(⟨name,win,ul,res,failed,rel,shaken,used,gas⟩,2))else(⟨name,win,ul,res,failed,rel,shaken,used,gas⟩,20):=rfl
  unfold WC at cA;generalize xd d t=A at*;cases rel
  ·rw[ba hx h2 h4 (hq.trans (if_neg xP))];refine gI f131 h3 hl rfl ?_;refine aS ?_;(refine aR ?_;conv=>whnf);(try(refine tX 2 ?_;try exact Zt));refine aM ?_;(refine aR ?_;conv=>whnf);repeat((first|(refine kO 7 rfl ?_;first|refine qU (λ_ z=>⟨_,_,_,(cO (fid:=_) h3 hl h1 (eV rfl) (eV rfl)),z⟩) ?_)|refine tX 2 ?_|exact Zt);(try conv=>whnf))
   refine⟨_,fJ (E':=[(0,pP 1),(3,pP 2),(5,some (.val (false,[.cI 9 17 i 0]))),(6,some (.val (false,[.st (J 20)])))]) (ks:=[0,3,5,6]) (n':=1000) hT hT (eV rfl) (eV rfl) (eV rfl) (fO rfl) cT,?_⟩;exact ah9
  ·cases shaken
   ·by_cases hk:BL d t
    ·rw[if_pos hk]at cA;by_cases hb:A<=p.eK -used
     ·rw[ba hx h2 h4 (hq.trans ((if_pos rfl).trans ((if_neg xP).trans ((if_pos hk).trans (if_pos K0)))))];refine gI f131 h3 hl rfl ?_;refine aS ?_;(refine aR ?_;conv=>whnf);(try(refine tX 2 ?_;try exact Zt));refine aM ?_;(refine aR ?_;conv=>whnf);repeat((first|(refine kO 7 rfl ?_;first|refine qU (λ_ z=>⟨_,_,_,(cO (fid:=_) h3 hl h1 (eV rfl) (eV rfl)),z⟩) ?_)|refine tX 2 ?_|exact Zt);(try conv=>whnf))
      refine⟨_,fJ (E':=[(0,pP 1),(3,pP 2),(5,some (.val (false,[.cI 9 17 i 0]))),(6,some (.val (false,[.st (J 0)])))]) (ks:=[0,3,5,6]) (n':=1000) hT hT (eV rfl) (eV rfl) (eV rfl) (fO rfl) cT,?_⟩;repeat' ((first|(refine kO 7 rfl ?_;first|refine Rq cA ?_|refine rG (λ_ z=>⟨_,aO hb _,z⟩) ?_|refine rG (λ_ z=>⟨_,wF rfl,z⟩) ?_)|refine tX 0 ?_|exact Zt|refine bR ?_ ?_<;>intro h)<;>(try conv=>whnf))
      all_goals exact Ei
     ·rw[ba hx h2 h4 (hq.trans ((if_pos rfl).trans ((if_neg xP).trans ((if_pos hk).trans (if_neg K0)))))];refine gI f131 h3 hl rfl ?_;refine aS ?_;(refine aR ?_;conv=>whnf);(try(refine tX 2 ?_;try exact Zt));refine aM ?_;(refine aR ?_;conv=>whnf);repeat((first|(refine kO 7 rfl ?_;first|refine qU (λ_ z=>⟨_,_,_,(cO (fid:=_) h3 hl h1 (eV rfl) (eV rfl)),z⟩) ?_)|refine tX 2 ?_|exact Zt);(try conv=>whnf))
      refine⟨_,fJ (E':=[(0,pP 1),(3,pP 2),(5,some (.val (false,[.cI 9 17 i 0]))),(6,some (.val (false,[.st (J 0)])))]) (ks:=[0,3,5,6]) (n':=1000) hT hT (eV rfl) (eV rfl) (eV rfl) (fO rfl) cT,?_⟩;repeat' ((first|(refine kO 7 rfl ?_;first|refine Rq cA ?_|refine rG (λ_ z=>⟨_,bK hb _,z⟩) ?_|refine rG (λ_ z=>⟨_,wF rfl,z⟩) ?_)|refine tX 0 ?_|exact Zt|refine bR ?_ ?_<;>intro h)<;>(try conv=>whnf))
      all_goals exact Ei
    ·rw[if_neg hk]at cA;rw[ba hx h2 h4 (hq.trans ((if_pos rfl).trans ((if_neg xP).trans (if_neg hk))))];refine gI f131 h3 hl rfl ?_;refine aS ?_;(refine aR ?_;conv=>whnf);(try(refine tX 2 ?_;try exact Zt));refine aM ?_;(refine aR ?_;conv=>whnf);repeat((first|(refine kO 7 rfl ?_;first|refine qU (λ_ z=>⟨_,_,_,(cO (fid:=_) h3 hl h1 (eV rfl) (eV rfl)),z⟩) ?_)|refine tX 2 ?_|exact Zt);(try conv=>whnf))
     refine⟨_,fJ (E':=[(0,pP 1),(3,pP 2),(5,some (.val (false,[.cI 9 17 i 0]))),(6,some (.val (false,[.st (J 0)])))]) (ks:=[0,3,5,6]) (n':=1000) hT hT (eV rfl) (eV rfl) (eV rfl) (fO rfl) cT,?_⟩;exact K67
   ·rw[ba hx h2 h4 (hq.trans ((if_pos rfl).trans (if_pos rfl)))];refine gI f131 h3 hl rfl ?_;refine aS ?_;(refine aR ?_;conv=>whnf);(try(refine tX 2 ?_;try exact Zt));refine aM ?_;(refine aR ?_;conv=>whnf);repeat((first|(refine kO 7 rfl ?_;first|refine qU (λ_ z=>⟨_,_,_,(cO (fid:=_) h3 hl h1 (eV rfl) (eV rfl)),z⟩) ?_)|refine tX 2 ?_|exact Zt);(try conv=>whnf))
    refine⟨_,fJ (E':=[(0,pP 1),(3,pP 2),(5,some (.val (false,[.cI 9 17 i 0]))),(6,some (.val (false,[.st (J 0)])))]) (ks:=[0,3,5,6]) (n':=1000) hT hT (eV rfl) (eV rfl) (eV rfl) (fO rfl) cT,?_⟩;by_cases hk:BL d t
    all_goals
     first|rw[if_pos hk]at cA|rw[if_neg hk]at cA
     exact K67
 ·rw[oW hx];have hT:=ci p log (s:=⟨volt,earth,opens,hall,lots,units⟩) hl;refine gF f131 hl ?_;refine aS ?_;(refine aR ?_;conv=>whnf);(try(refine tX 2 ?_;try exact Zt));refine aM ?_;(refine aR ?_;conv=>whnf);repeat((first|(refine kO 7 rfl ?_;first|refine qU (λ_ z=>⟨_,_,_,(pV (fid:=_) hl af7 (eV rfl) (eV rfl)),z⟩) ?_)|refine tX 2 ?_|exact Zt);(try conv=>whnf))
  refine⟨_,fJ (E':=[(0,pP 1),(3,pP 2),(5,some (.val (false,[.st (.lit (.pointer none))]))),(6,some (.val (false,[.st (J 6)])))]) (ks:=[0,3,5,6]) (n':=1000) hT hT (eV rfl) (eV rfl) (eV rfl) (fO rfl) cT,?_⟩;exact K65
def adG (E:uj)(p:Pl)(log:List En)(s:bP)(hl:s.units.length<=1000)(x a1 a2 a3 a4 a5:aj)(h m e y a:Int)(r:aj)(hu: ∀u∈s.units,u.gas.length<=1000):
  bx cx 132 1 ((false,[.ptr 1 0])::[w7 [x,a1,a2,a3,a4,a5] [h,m,e,y,a] r].map dyn) (form p log s) [1] (.val (dyn (I (bs E p log s 18 [x,a1,a2,a3,a4,a5] [h,m,e,y,a] r).2))) (form p log (bs E p log s 18 [x,a1,a2,a3,a4,a5] [h,m,e,y,a] r).1):=by
 rw[show bs E p log s 18 [x,a1,a2,a3,a4,a5] [h,m,e,y,a] r=TS E p log s 18 x [x,a1,a2,a3,a4,a5] [h,m,e,y,a] r from rfl];obtain⟨volt,earth,opens,hall,lots,units⟩:=s;have cG:=E4 (h:=h) (m:=m) (e:=e) (y:=y) (a:=a);by_cases hx:0<=io ⟨volt,earth,opens,hall,lots,units⟩ x
 ·obtain⟨i,u,h1,h2,h3,h4,h5⟩:=j0 hx;have c0:=λfid H=>lf (fid:=fid) (H:=H) h3 hl h1;have hT:=oe p log ⟨volt,earth,opens,hall,lots,units⟩ (u':=u) h3 hl;have hu:=hu u (jI h3);obtain⟨name,win,ul,res,failed,rel,shaken,used,gas⟩:=u;have hu:gas.length<=1000:=hu;have hq:aU E p log ⟨volt,earth,opens,hall,lots,units⟩ ⟨name,win,ul,res,failed,rel,shaken,used,gas⟩ 18 [x,a1,a2,a3,a4,a5] [h,m,e,y,a] r=if rel then(if gok h m e y a then(if gas.length<10 then(⟨name,win,ul,res,failed,rel,shaken,used,gas++[⟨h,m,e,y,a⟩]⟩,0)else(⟨name,win,ul,res,failed,rel,shaken,used,gas⟩,16))else(⟨name,win,ul,res,failed,rel,shaken,used,gas⟩,2))else(⟨name,win,ul,res,failed,rel,shaken,used,gas⟩,20):=rfl
  unfold WB at cG;have hgl:(gas.map vh).length =gas.length:=by simp
  cases rel
  ·rw[ba hx h2 h4 (hq.trans (if_neg xP))];refine gI f132 h3 hl rfl ?_;refine aS ?_;(refine aR ?_;conv=>whnf);(try(refine tX 2 ?_;try exact Zt));refine aM ?_;(refine aR ?_;conv=>whnf);repeat((first|(refine kO 7 rfl ?_;first|refine qU (λ_ z=>⟨_,_,_,(cO (fid:=_) h3 hl h1 (eV rfl) (eV rfl)),z⟩) ?_)|refine tX 2 ?_|exact Zt);(try conv=>whnf))
   refine⟨_,fJ (E':=[(0,pP 1),(3,pP 2),(5,some (.val (false,[.cI 9 17 i 0]))),(6,some (.val (false,[.st (J 20)])))]) (ks:=[0,3,5,6]) (n':=1000) hT hT (eV rfl) (eV rfl) (eV rfl) (fO rfl) cT,?_⟩;exact ah9
  ·by_cases hk:gok h m e y a
   ·rw[if_pos hk]at cG;by_cases hb:gas.length<10
    ·rw[ba hx h2 h4 (hq.trans ((if_pos rfl).trans ((if_pos hk).trans (if_pos hb))))];refine gI f132 h3 hl rfl ?_;refine aS ?_;(refine aR ?_;conv=>whnf);(try(refine tX 2 ?_;try exact Zt));refine aM ?_;(refine aR ?_;conv=>whnf);repeat((first|(refine kO 7 rfl ?_;first|refine qU (λ_ z=>⟨_,_,_,(cO (fid:=_) h3 hl h1 (eV rfl) (eV rfl)),z⟩) ?_)|refine tX 2 ?_|exact Zt);(try conv=>whnf))
     refine⟨_,fJ (E':=[(0,pP 1),(3,pP 2),(5,some (.val (false,[.cI 9 17 i 0]))),(6,some (.val (false,[.st (J 0)])))]) (ks:=[0,3,5,6]) (n':=1000) hT hT (eV rfl) (eV rfl) (eV rfl) (fO rfl) cT,?_⟩;repeat' ((first|(refine kO 7 rfl ?_;first|refine rG (λ_ z=>⟨_,aO acd _,z⟩) ?_|refine rG (λ_ z=>⟨_,wF rfl,z⟩) ?_)|refine tX 0 ?_|exact Zt|refine bR ?_ ?_<;>intro h)<;>(try conv=>whnf))
     all_goals exact Ei
    ·rw[ba hx h2 h4 (hq.trans ((if_pos rfl).trans ((if_pos hk).trans (if_neg hb))))];refine gI f132 h3 hl rfl ?_;refine aS ?_;(refine aR ?_;conv=>whnf);(try(refine tX 2 ?_;try exact Zt));refine aM ?_;(refine aR ?_;conv=>whnf);repeat((first|(refine kO 7 rfl ?_;first|refine qU (λ_ z=>⟨_,_,_,(cO (fid:=_) h3 hl h1 (eV rfl) (eV rfl)),z⟩) ?_)|refine tX 2 ?_|exact Zt);(try conv=>whnf))
     refine⟨_,fJ (E':=[(0,pP 1),(3,pP 2),(5,some (.val (false,[.cI 9 17 i 0]))),(6,some (.val (false,[.st (J 0)])))]) (ks:=[0,3,5,6]) (n':=1000) hT hT (eV rfl) (eV rfl) (eV rfl) (fO rfl) cT,?_⟩;repeat' ((first|(refine kO 7 rfl ?_;first|refine rG (λ_ z=>⟨_,bK acd _,z⟩) ?_|refine rG (λ_ z=>⟨_,wF rfl,z⟩) ?_)|refine tX 0 ?_|exact Zt|refine bR ?_ ?_<;>intro h)<;>(try conv=>whnf))
     all_goals exact Ei
   ·rw[if_neg hk]at cG;rw[ba hx h2 h4 (hq.trans ((if_pos rfl).trans (if_neg hk)))];refine gI f132 h3 hl rfl ?_;refine aS ?_;(refine aR ?_;conv=>whnf);(try(refine tX 2 ?_;try exact Zt));refine aM ?_;(refine aR ?_;conv=>whnf);repeat((first|(refine kO 7 rfl ?_;first|refine qU (λ_ z=>⟨_,_,_,(cO (fid:=_) h3 hl h1 (eV rfl) (eV rfl)),z⟩) ?_)|refine tX 2 ?_|exact Zt);(try conv=>whnf))
    refine⟨_,fJ (E':=[(0,pP 1),(3,pP 2),(5,some (.val (false,[.cI 9 17 i 0]))),(6,some (.val (false,[.st (J 0)])))]) (ks:=[0,3,5,6]) (n':=1000) hT hT (eV rfl) (eV rfl) (eV rfl) (fO rfl) cT,?_⟩;by_cases hb:gas.length<10
    all_goals
     repeat' ((first|(refine kO 7 rfl ?_;first|refine rG (λ_ z=>⟨_,aO acd _,z⟩) ?_|refine rG (λ_ z=>⟨_,bK acd _,z⟩) ?_|refine rG (λ_ z=>⟨_,wF rfl,z⟩) ?_)|refine tX 0 ?_|exact Zt|refine bR ?_ ?_<;>intro h)<;>(try conv=>whnf))
     all_goals exact Ei
 ·rw[oW hx];have hT:=ci p log (s:=⟨volt,earth,opens,hall,lots,units⟩) hl;refine gF f132 hl ?_;refine aS ?_;(refine aR ?_;conv=>whnf);(try(refine tX 2 ?_;try exact Zt));refine aM ?_;(refine aR ?_;conv=>whnf);repeat((first|(refine kO 7 rfl ?_;first|refine qU (λ_ z=>⟨_,_,_,(pV (fid:=_) hl af7 (eV rfl) (eV rfl)),z⟩) ?_)|refine tX 2 ?_|exact Zt);(try conv=>whnf))
  refine⟨_,fJ (E':=[(0,pP 1),(3,pP 2),(5,some (.val (false,[.st (.lit (.pointer none))]))),(6,some (.val (false,[.st (J 6)])))]) (ks:=[0,3,5,6]) (n':=1000) hT hT (eV rfl) (eV rfl) (eV rfl) (fO rfl) cT,?_⟩;exact K65
def WF (E:uj)(p:Pl)(log:List En)(s:bP)(hl:s.units.length<=1000)(x y:aj)(k:Int)(r:aj):
  bx cx 129 1 ((false,[.ptr 1 0])::[w7 [x,y] [k] r].map dyn) (form p log s) [1] (.val (dyn (I (bs E p log s 15 [x,y] [k] r).2))) (form p log (bs E p log s 15 [x,y] [k] r).1):=by
 rw[show bs E p log s 15 [x,y] [k] r=TS E p log s 15 x [x,y] [k] r from rfl];obtain⟨volt,earth,opens,hall,lots,units⟩:=s;by_cases hx:0<=io ⟨volt,earth,opens,hall,lots,units⟩ x
 ·obtain⟨i,u,h1,h2,h3,h4,h5⟩:=j0 hx;have c0:=λfid H=>lf (fid:=fid) (H:=H) h3 hl h1;have hT:=oe p log ⟨volt,earth,opens,hall,lots,units⟩ (u':=u) h3 hl;obtain⟨name,win,ul,res,failed,rel,shaken,used,gas⟩:=u;have hq:aU E p log ⟨volt,earth,opens,hall,lots,units⟩ ⟨name,win,ul,res,failed,rel,shaken,used,gas⟩ 15 [x,y] [k] r=if rel then(if k<=1000 then(⟨name,win,ul,res,failed,rel,shaken || decide (k>p.dZ),used,gas⟩,0)else(⟨name,win,ul,res,failed,rel,shaken,used,gas⟩,2))else(⟨name,win,ul,res,failed,rel,shaken,used,gas⟩,20):=rfl
  cases rel
  ·by_cases hk:k<=1000
   all_goals
    rw[ba hx h2 h4 (hq.trans (if_neg xP))];refine gI f129 h3 hl rfl ?_;refine aS ?_;(refine aR ?_;conv=>whnf);(try(refine tX 2 ?_;try exact Zt));refine aM ?_;(refine aR ?_;conv=>whnf);repeat((first|(refine kO 7 rfl ?_;first|refine qU (λ_ z=>⟨_,_,_,(cO (fid:=_) h3 hl h1 (eV rfl) (eV rfl)),z⟩) ?_)|refine tX 2 ?_|exact Zt);(try conv=>whnf))
    refine⟨_,fJ (E':=[(0,pP 1),(3,pP 2),(5,some (.val (false,[.cI 9 17 i 0]))),(6,some (.val (false,[.st (J 20)])))]) (ks:=[0,3,5,6]) (n':=1000) hT hT (eV rfl) (eV rfl) (eV rfl) (fO rfl) cT,?_⟩;exact K38
  ·by_cases hk:k<=1000
   ·rw[ba hx h2 h4 (hq.trans ((if_pos rfl).trans (if_pos hk)))];refine gI f129 h3 hl rfl ?_;refine aS ?_;(refine aR ?_;conv=>whnf);(try(refine tX 2 ?_;try exact Zt));refine aM ?_;(refine aR ?_;conv=>whnf);repeat((first|(refine kO 7 rfl ?_;first|refine qU (λ_ z=>⟨_,_,_,(cO (fid:=_) h3 hl h1 (eV rfl) (eV rfl)),z⟩) ?_)|refine tX 2 ?_|exact Zt);(try conv=>whnf))
    refine⟨_,fJ (E':=[(0,pP 1),(3,pP 2),(5,some (.val (false,[.cI 9 17 i 0]))),(6,some (.val (false,[.st (J 0)])))]) (ks:=[0,3,5,6]) (n':=1000) hT hT (eV rfl) (eV rfl) (eV rfl) (fO rfl) cT,?_⟩;cases shaken
    all_goals
     exact K38
   ·rw[ba hx h2 h4 (hq.trans ((if_pos rfl).trans (if_neg hk)))];refine gI f129 h3 hl rfl ?_;refine aS ?_;(refine aR ?_;conv=>whnf);(try(refine tX 2 ?_;try exact Zt));refine aM ?_;(refine aR ?_;conv=>whnf);repeat((first|(refine kO 7 rfl ?_;first|refine qU (λ_ z=>⟨_,_,_,(cO (fid:=_) h3 hl h1 (eV rfl) (eV rfl)),z⟩) ?_)|refine tX 2 ?_|exact Zt);(try conv=>whnf))
    refine⟨_,fJ (E':=[(0,pP 1),(3,pP 2),(5,some (.val (false,[.cI 9 17 i 0]))),(6,some (.val (false,[.st (J 0)])))]) (ks:=[0,3,5,6]) (n':=1000) hT hT (eV rfl) (eV rfl) (eV rfl) (fO rfl) cT,?_⟩;exact K38
 ·rw[oW hx];have hT:=ci p log (s:=⟨volt,earth,opens,hall,lots,units⟩) hl;refine gF f129 hl ?_;refine aS ?_;(refine aR ?_;conv=>whnf);(try(refine tX 2 ?_;try exact Zt));refine aM ?_;(refine aR ?_;conv=>whnf);repeat((first|(refine kO 7 rfl ?_;first|refine qU (λ_ z=>⟨_,_,_,(pV (fid:=_) hl af7 (eV rfl) (eV rfl)),z⟩) ?_)|refine tX 2 ?_|exact Zt);(try conv=>whnf))
  refine⟨_,fJ (E':=[(0,pP 1),(3,pP 2),(5,some (.val (false,[.st (.lit (.pointer none))]))),(6,some (.val (false,[.st (J 6)])))]) (ks:=[0,3,5,6]) (n':=1000) hT hT (eV rfl) (eV rfl) (eV rfl) (fO rfl) cT,?_⟩;by_cases hk:k<=1000
  all_goals
   repeat' ((first|(refine kO 7 rfl ?_;first|refine rG (λ_ z=>⟨_,aO hk _,z⟩) ?_|refine rG (λ_ z=>⟨_,bK hk _,z⟩) ?_|refine rG (λ_ z=>⟨_,wF rfl,z⟩) ?_)|refine tX 0 ?_|exact Zt|refine bR ?_ ?_<;>intro h)<;>(try conv=>whnf))
   all_goals exact Ew
def aaN (p:Pl)(log:List En)(s:bP)(hl:s.units.length<=1000)(y:SV):bx cx 114 1 ((false,[.ptr 1 0])::[y].map dyn) (form p log s) [1] (.val (dyn (I 0))) (form p log s):=by
 obtain⟨volt,earth,opens,hall,lots,units⟩:=s;refine gF f114 hl ?_;exact afH
structure PB (p:Pl):Prop where
 ae:p.ae.length<=1000
 ap:p.ap.length<=1000
 aa:p.aa.length<=1000
 parts:p.parts.length<=1000
 voids: ∀q∈p.parts,q.2.length<=1000
 bz: ∀t∈p.aa,t.bz.length<=1000
 eK:0<=p.eK/\p.eK<=1000000000000
 rules: ∀t∈p.aa,t.rules.length<=10000
 kind: ∀t∈p.aa,0<=t.kind/\t.kind<=3
 anc: ∀t∈p.aa,∀t'∈p.aa,t.name=t'.name->t=t'
 comp: ∀t∈p.aa,t.kind=2->∃n0 nd,t.bz=n0::nd/\∃t0∈p.aa,t0.name=n0/\t0.kind=1
def al0 (tx:aj):Prop:=(dW (cF (aJ 32 (cd 3 tx)))).2=0
def aaO (p:Pl)(log:List En)(r:Rs):Prop:=∃k:Nat,r.entry=(k:Nat)/\k<log.length/\(log.getD k dk).text.length <=400/\lB ((aJ 32 (log.getD k dk).text).getD 0 [])=12/\(∃a n q,fU (vb 12) (log.getD k dk).text =some (a,n,q))/\
 ∀t∈p.aa,t.name=r.test->t.kind=1->al0 (log.getD k dk).text
structure UB (p:Pl) (log:List En) (u:Un):Prop where
 lots:u.lots.length<=log.length
 len:u.res.length<=log.length
 gas:u.gas.length<=10
 used:0<=u.used/\u.used<=1000000000000
 res: ∀r∈u.res,aaO p log r
structure SB (p:Pl) (log:List En) (s:bP):Prop where
 units:s.units.length<=6
 lots:s.lots.length<=12
 opens:s.opens.length<=log.length
 unit: ∀u∈s.units,UB p log u
noncomputable def EE:uj:=⟨NF,Km⟩
def fE:List FuncId:=[114,115,116,117,118,119,120,121,122,123,124,125,126,127,128,129,130,131,132]
def qL: ∀ {u:List aj} {n:List Int},jU u=some n->n.length=u.length
 | [],n,h=>by cases h;rfl
 |s::r,n,h=>by
  unfold jU at h
  cases e:wN false 7 s with
  |none=>simp_all
  |some v=>
   cases e2:jU r with
   |none=>simp_all
   |some t=>
    rw[e,e2]at h;cases h;simp[qL e2]
def uI {v:Vb}{tx:aj}{a:List aj}{n:List Int}{q:aj}(h:fU v tx=some (a,n,q))(hk:v.sM<=v.words):a.length=v.words/\n.length=v.sM/\(∀x∈a,x.length<=tx.length)/\q.length<=tx.length/\q=(if v.rest then cd (v.words+1) tx else [])/\v.words+1<=(aJ 32 tx).length /\(v.rest=true->v.words+2<=(aJ 32 tx).length)/\a=((aJ 32 tx).take (v.words+1)).drop 1:=by
 unfold fU at h;dsimp only at h;split at h
 ·cases h
 rename_i hc;have h1:v.words+1<=(aJ 32 tx).length :=by grind
 have h2:v.rest=true->v.words+2<=(aJ 32 tx).length :=λhr=>by grind
 rw[mZ]at h;obtain⟨m,hm,e⟩:=h;simp only[ij]at e;obtain⟨rfl,rfl,rfl⟩:=e;have h3:=qL hm;have h4:=(cj 32 tx).2;refine⟨by grind,by grind,λx hx=>h4 x (CO (PD hx)),?_,rfl,h1,h2,rfl⟩;split
 grind[om]
 grind
def s7 {α:Type}{l:List α}(h:l.length=1): ∃a,l= [a]:=xO.1 h
def E5 {α:Type}{l:List α}(h:l.length=2): ∃a b,l= [a,b]:=by
 match l,h with
 | [a,b],_=>grind
def ag4 {α:Type}{l:List α}(h:l.length=3): ∃a b c,l= [a,b,c]:=by
 match l,h with
 | [a,b,c],_=>grind
def anM {α:Type}{l:List α}(h:l.length=5): ∃a b c d e,l= [a,b,c,d,e]:=by
 match l,h with
 | [a,b,c,d,e],_=>grind
def ag5 {α:Type}{l:List α}(h:l.length=6): ∃a b c d e f,l= [a,b,c,d,e,f]:=by
 match l,h with
 | [a,b,c,d,e,f],_=>grind
def Iq {l:List Rs}{t:aj}{r:Rs}(h:iT l t=some r):r∈l/\r.test=t/\r.void=false:=by
 unfold iT at h;have h1:=List.mem_of_find?_eq_some h;have h2:=List.find?_some h;unfold sS at h2
 grind
def E6 {l:List Rs}{t:Ts}{n0:aj}{nd:List aj}(h:i6 l t=true)(hn:t.bz=n0::nd): ∃r,iT l n0=some r:=by
 unfold i6 at h;rw[hn,List.all_cons,sQ]at h
 grind[bL]
def ag6 {p:Pl}{log:List En}{u:Un}{t:Ts}(hP:PB p)(hU:UB p log u)(ht:t∈p.aa)(hr:i6 u.res t=true)(hk:t.kind=2):aaA log u t:=by
 obtain⟨n0,nd,hn,_⟩:=hP.comp t ht hk;obtain⟨r,hl⟩:=E6 hr hn;obtain⟨k,h1,h2,h3,h4,⟨a,n,q,h5⟩,h6⟩:=hU.res r (Iq hl).1;obtain⟨rt,ra,re,rv⟩:=r;simp only at h1;subst h1;have h7:=(uI h5 K9).2.2.2.2.2.2.1 rfl;exact⟨n0,nd,rt,ra,k,rv,hn,hl,h2,h7,by omega⟩
def adH (p:Pl)(log:List En)(s:bP)(hP:PB p)(hS:SB p log s)(CG:log.length<60){k:Nat}(hk:k<19){tx:aj}(htx:tx.length<=400){a:List aj}{n:List Int}{q:aj}(h:fU (vb k) tx=some (a,n,q)):
  bx cx (fE.getD k 0) 1 ((false,[.ptr 1 0])::[w7 a n q].map dyn) (form p log s) [1] (.val (dyn (I (bs EE p log s k a n q).2))) (form p log (bs EE p log s k a n q).1):=by
 have hl:s.units.length<=1000:=by exact U0
 have hlo:s.lots.length<=1000:=by have:=hS.lots;omega
 have hop:s.opens.length<=1000:=by have:=hS.opens;omega
 have hur: ∀u∈s.units,u.res.length<=1000:=λu hu=>by have:=(hS.unit u hu).len;omega
 have hul: ∀u∈s.units,u.lots.length<=1000:=λu hu=>by have:=(hS.unit u hu).lots;omega
 have hug: ∀u∈s.units,u.gas.length<=1000:=λu hu=>by have:=(hS.unit u hu).gas;omega
 have huu: ∀u∈s.units,0<=u.used/\u.used<=1000000000000000:=λu hu=>by have:=(hS.unit u hu).used;omega
 have AV: ∀i<p.aa.length,(p.aa.getD i dz).bz.length <=1000:=λi hi=>hP.bz _ bv;obtain rfl|rfl|rfl|rfl|rfl|rfl|rfl|rfl|rfl|rfl|rfl|rfl|rfl|rfl|rfl|rfl|rfl|rfl|rfl:k=0\/k=1\/k=2\/k=3\/k=4\/k=5\/k=6\/k=7\/k=8\/k=9\/k=10\/k=11\/k=12\/k=13\/k=14\/k=15\/k=16\/k=17\/k=18:=by omega
 all_goals obtain⟨ha,hn,hx,hq,-,-,-,-⟩:=uI h K9
 ·exact aaN p log s hl _
 ·obtain⟨x,rfl⟩:=s7 ha;have:=hx x (by simp);exact Q7 EE p log s hl x n q K0 hlo
 ·obtain⟨x,rfl⟩:=s7 ha;have:=hx x (by simp);exact Of EE p log s rfl U0 x n q K0 K0
 ·obtain⟨x,y,rfl⟩:=E5 ha;exact adm EE p log s hl x y n q hlo hul
 ·obtain⟨x,rfl⟩:=s7 ha;exact aaL EE p log s hl x n q hP.ap hop
 ·obtain⟨x,rfl⟩:=s7 ha;exact aaM EE p log s hl x n q hP.ap hop
 ·exact V4 EE p log s hl a n q
 ·exact Z5 EE p log s hl a n q
 ·exact Nv EE p log s hl a n q
 ·have:=adi p log s hl a n q;cases hv:s.volt
  ·rw[hv]at this;rw[show bs EE p log s 9 a n q=(s,20)by grind[bs]];exact this
  ·rw[hv]at this;rw[show bs EE p log s 9 a n q=({s with volt:=false},0)by grind[bs]];exact this
 ·obtain⟨x,rfl⟩:=s7 ha;exact V6 EE p log s hl x n q
 ·obtain⟨x,rfl⟩:=s7 ha;exact V7 EE p log s hl x n q
 ·obtain⟨x,y,rfl⟩:=E5 ha;exact aaD EE p log s hl x y n q hP.aa hP.bz hur K0 λu hu t ht hr=>Kn p log u t q bv K0 (hP.rules t ht) (hP.kind t ht) λhk=>ag6 hP (hS.unit u hu) ht hr hk
 ·obtain⟨x,y,rfl⟩:=E5 ha;exact Q2 EE p log s hl x y n q hP.aa hP.parts hP.voids AV hur
 ·obtain⟨x,rfl⟩:=s7 ha;exact Nz EE p log s hl x n q hP.aa hur
 ·obtain⟨x,y,rfl⟩:=E5 ha;obtain⟨m,rfl⟩:=s7 hn;exact WF EE p log s hl x y m q
 ·obtain⟨x,rfl⟩:=s7 ha;exact Nw EE p log s hl x n q
 ·obtain⟨x,y,z,rfl⟩:=ag4 ha;obtain⟨d,t,rfl⟩:=E5 hn;exact aaK EE p log s hl x y z d t q (by have:=hP.eK;omega) huu
 ·obtain⟨x,a1,a2,a3,a4,a5,rfl⟩:=ag5 ha;obtain⟨h1,h2,h3,h4,h5,rfl⟩:=anM hn;exact adG EE p log s hl x a1 a2 a3 a4 a5 h1 h2 h3 h4 h5 q hug
inductive qM:Hp->Hp->Prop
 |base (T:Hp):qM T T
 |step {k:Nat} {b:Option cD} {H T:Hp} (h:Nat.blt 0 (tag k)=true) (e:qM H T):qM ((k,b)::H) T
theorem qM.get {H T:Hp}{root:Nat}(h:qM H T)(hT:HJ T root): ∀k∈ah T,T.get k=H.get k:=by
 induction h with
 |base=>grind
 |step h e ih=>
  intro k hk;rw[Hp.jO (λe=>by subst e;rw[vZ]at h;have:=(hT.lt k hk).2;omega)]
  grind
def oq {f:FuncId}{fid:Nat}{y:SV}{p:Pl}{log sr:List En}{s s':bP}{z:Int}{H:Hp}(h:bx cx f 1 ((false,[.ptr 1 0])::[y].map dyn) (form p log s) [1] (.val (dyn (I z))) (form p sr s'))(hl:s.units.length<=1000)(sJ:s'.units.length<=1000)
  (hf:tag fid≠0)(hO:qM H (form p log s)):
  bX cx fid f [(false,[.ptr 1 0]),dyn y] H.get (.val (dyn (I z))) (cB (form p log s) (cP (aq (tag fid) 1) (form p sr s'))) (ah (form p log s)):=by
 have hT:=ci p log hl;have eJ:=ci p sr sJ;have g:=wS (H:=H.get) h hT eJ (dE _) hf (hO.get hT) (λx hx=>?_) (bD (I z))
 ·exact anh
 ·rcases dl.1 hx with rfl|hx
  ·exact afR
  grind[bD]
def zE {fid nx n' b:Nat}{T T' H:Hp}{E E':dG}{ks:List Nat}{cs:List SC}(hT:HJ T 1)(eJ:HJ T' 1)(hf:tag fid≠0)(hb:tag b≠0)(hbf:tag b≠tag fid)(hbn:tag b<n')(hH:H.get b=some (.ec cs))
  (hE:dm (gh (aq (tag fid) 1) T' [(b,some (.ec cs))]) E.get ks=some E'):
  bp ⟨E,cB T (cP (aq (tag fid) 1) T')++H,nx⟩ ⟨E',(b,some (.ec cs))::T',n'⟩:=by
 have h1:b∉ah T:=λh=>hb (hT.lt b h).2;have h2:b∉ah T':=λh=>hb (eJ.lt b h).2;refine(yJ (R:=[(b,some (.ec cs))]) (n':=n') hT eJ hf (by simp) (λk hk=>?_) (λid bl e=>?_) K0 hE).trans (zf ?_)
 grind
 ·exact akc
 ·have:=oT (A:=T') (F':=[(b,some (.ec cs))]) (B:=[]) (λn hn hm=>by
   grind)
  grind
section
variable (p:Pl)(log:List En)(s s':bP)(et:Int)(ew tx:aj)
theorem Q8 (hl:s.units.length<=1000)(sJ:s'.units.length<=1000)(hp:p.ae.length<=1000)(ht:tx.length<=100000)(CG:log.length<60){role w k:Nat}{rest:Bool}{f:FuncId}(hf:ja uA (B ((aJ 32 tx).getD 0 []))=some (NI role w k rest f))(hX:sV p log et ew tx true=0)
  {ik:Nat}(IG:bg p.ay ew=(ik:Nat))(zS:ik<p.ae.length)(hr: ¬(p.ae.getD ik ([],0)).2<role){a:List aj}{n:List Int}{r:aj}(AU:ac 69 [NI role w k rest f,SS tx] (.aI [w7 a n r,Bo true]))
  {z:Int}(hz:z≠0)(hef:bx cx f 1 ((false,[.ptr 1 0])::[w7 a n r].map dyn) (form p log s) [1] (.val (dyn (I z))) (form p log s')):
  bx cx 62 1 ((false,[.ptr 1 0])::[enX ⟨et,ew,tx⟩].map dyn) (form p log s) [1] (.val (dyn (I z))) (form p log s'):=by
 have hn:(log.map be).length =log.length:=by simp
 have hpn:(p.ae.map nh).length =p.ae.length:=by simp
 have he:=aV (f:=nh) zS ([],0);have c1:=l6 p.ae et ew tx hp;have c2:=gZ tx 32 K0;rw[Wo]at c2;generalize (Lib.cut tx [32]).2.1=q1 at*;generalize (Lib.cut tx [32]).2.2=q2 at*;have c3:=kA tx K0;generalize (aJ 32 tx).getD 0 []=wd at*;have CD:fs [if bg p.ay ew>=0 then 0 else 6,if 0<=et/\et<=1000000000000 then 0 else 2,if et>=iq log then 0 else 9,if((tx.length:Nat):Int)<=400 then 0 else 8,if aW tx then 0 else 3,if true=true then 0 else 7]=0:=hX;rw[IG]at CD;rw[show p.ae.map Prod.fst=p.ay from rfl,IG]at c1;generalize p.ae.getD ik ([],0)=pe at*;obtain⟨pn,pr⟩:=pe;dsimp only at hr;have ce:=λfid H hO hf=>oq (fid:=fid) (H:=H) hef hl sJ hf hO;have hT:=ci p log hl;have eJ:=ci p log sJ;clear hef;obtain⟨volt,earth,opens,hall,lots,units⟩:=s;obtain⟨amU,ahK,ahQ,amy,am3,ahP⟩:=s'
 rcases J4 log with⟨g1,g2⟩|⟨j,g1,g2,g3⟩
 ·rw[g2]at CD;refine gF f62 sJ ?_;repeat' ((first|(refine kO 7 rfl ?_;first|refine Rh (kh _ _) ?_)|refine tX 0 ?_|exact Zt|refine bR ?_ ?_<;>intro h)<;>(try conv=>whnf))
  rw[hf];repeat' ((first|(refine kO 7 rfl ?_;first|refine Rq (iY _) ?_|refine rG (λ_ z=>⟨_,wF CD,z⟩) ?_)|refine tX 0 ?_|exact Zt|refine bR ?_ ?_<;>intro h)<;>(try conv=>whnf))
  repeat((first|(refine kO 7 rfl ?_;first|refine qU (λ_ z=>⟨_,_,_,(ce _ _ K76 (eV rfl)),z⟩) ?_)|refine tX 2 ?_|exact Zt);(try conv=>whnf))
  refine aM ?_;(refine aR ?_;conv=>whnf);(try(refine tX 2 ?_;try exact Zt));refine⟨_,zE (b:=2) (cs:=be ⟨et,ew,tx⟩) (E':=[(0,pP 1),(3,pP 2),(16,vI z),(114,some (lit (.bool (z != 0))))]) (ks:=[0,3,16,114]) (n':=1000) hT eJ (eV rfl) (eV rfl) (eV rfl) (fO rfl) rfl cT,?_⟩;exact K90
 ·rw[g3]at CD;have hN:dU (((log.map be).length :Int) -1) j:=⟨by omega⟩;generalize log.getD j ⟨0,[],[]⟩=le at*;obtain⟨lt,lw,lx⟩:=le;refine gF f62 sJ ?_;repeat' ((first|(refine kO 7 rfl ?_;first|refine Rh (kh _ _) ?_)|refine tX 0 ?_|exact Zt|refine bR ?_ ?_<;>intro h)<;>(try conv=>whnf))
  all_goals rw[hf]
  all_goals repeat' ((first|(refine kO 7 rfl ?_;first|refine Rq (iY _) ?_|refine rG (λ_ z=>⟨_,wF CD,z⟩) ?_)|refine tX 0 ?_|exact Zt|refine bR ?_ ?_<;>intro h)<;>(try conv=>whnf))
  all_goals try(exfalso;omega)
  repeat((first|(refine kO 7 rfl ?_;first|refine qU (λ_ z=>⟨_,_,_,(ce _ _ K76 (eV rfl)),z⟩) ?_)|refine tX 2 ?_|exact Zt);(try conv=>whnf))
  refine aM ?_;(refine aR ?_;conv=>whnf);(try(refine tX 2 ?_;try exact Zt));refine⟨_,zE (b:=2) (cs:=be ⟨et,ew,tx⟩) (E':=[(0,pP 1),(3,pP 2),(16,vI z),(114,some (lit (.bool (z != 0))))]) (ks:=[0,3,16,114]) (n':=1000) hT eJ (eV rfl) (eV rfl) (eV rfl) (fO rfl) rfl cT,?_⟩;exact K90
theorem WG (hl:s.units.length<=1000)(sJ:s'.units.length<=1000)(hp:p.ae.length<=1000)(ht:tx.length<=100000)(CG:log.length<60){role w k:Nat}{rest:Bool}{f:FuncId}(hf:ja uA (B ((aJ 32 tx).getD 0 []))=some (NI role w k rest f))(hX:sV p log et ew tx true=0)
  {ik:Nat}(IG:bg p.ay ew=(ik:Nat))(zS:ik<p.ae.length)(hr: ¬(p.ae.getD ik ([],0)).2<role){a:List aj}{n:List Int}{r:aj}(AU:ac 69 [NI role w k rest f,SS tx] (.aI [w7 a n r,Bo true]))
  (hef:bx cx f 1 ((false,[.ptr 1 0])::[w7 a n r].map dyn) (form p log s) [1] (.val (dyn (I 0))) (form p log s')):
  bx cx 62 1 ((false,[.ptr 1 0])::[enX ⟨et,ew,tx⟩].map dyn) (form p log s) [1] (.val (dyn (I 0))) (form p (log++[⟨et,ew,tx⟩]) s'):=by
 have hn:(log.map be).length =log.length:=by simp
 have hpn:(p.ae.map nh).length =p.ae.length:=by simp
 have he:=aV (f:=nh) zS ([],0);have c1:=l6 p.ae et ew tx hp;have c2:=gZ tx 32 K0;rw[Wo]at c2;generalize (Lib.cut tx [32]).2.1=q1 at*;generalize (Lib.cut tx [32]).2.2=q2 at*;have c3:=kA tx K0;generalize (aJ 32 tx).getD 0 []=wd at*;have CD:fs [if bg p.ay ew>=0 then 0 else 6,if 0<=et/\et<=1000000000000 then 0 else 2,if et>=iq log then 0 else 9,if((tx.length:Nat):Int)<=400 then 0 else 8,if aW tx then 0 else 3,if true=true then 0 else 7]=0:=hX;rw[IG]at CD;rw[show p.ae.map Prod.fst=p.ay from rfl,IG]at c1;generalize p.ae.getD ik ([],0)=pe at*;obtain⟨pn,pr⟩:=pe;dsimp only at hr;have ce:=λfid H hO hf=>oq (fid:=fid) (H:=H) hef hl sJ hf hO;have hT:=ci p log hl;have eJ:=ci p log sJ;clear hef;obtain⟨volt,earth,opens,hall,lots,units⟩:=s;obtain⟨amU,ahK,ahQ,amy,am3,ahP⟩:=s'
 rcases J4 log with⟨g1,g2⟩|⟨j,g1,g2,g3⟩
 ·rw[g2]at CD;refine gF f62 sJ ?_;repeat' ((first|(refine kO 7 rfl ?_;first|refine Rh (kh _ _) ?_)|refine tX 0 ?_|exact Zt|refine bR ?_ ?_<;>intro h)<;>(try conv=>whnf))
  rw[hf];repeat' ((first|(refine kO 7 rfl ?_;first|refine Rq (iY _) ?_|refine rG (λ_ z=>⟨_,wF CD,z⟩) ?_)|refine tX 0 ?_|exact Zt|refine bR ?_ ?_<;>intro h)<;>(try conv=>whnf))
  repeat((first|(refine kO 7 rfl ?_;first|refine qU (λ_ z=>⟨_,_,_,(ce _ _ K76 (eV rfl)),z⟩) ?_)|refine tX 2 ?_|exact Zt);(try conv=>whnf))
  refine aM ?_;(refine aR ?_;conv=>whnf);(try(refine tX 2 ?_;try exact Zt));refine⟨_,zE (b:=2) (cs:=be ⟨et,ew,tx⟩) (E':=[(0,pP 1),(3,pP 2),(16,vI 0),(114,some (lit (.bool (0 != 0))))]) (ks:=[0,3,16,114]) (n':=1000) hT eJ (eV rfl) (eV rfl) (eV rfl) (fO rfl) rfl cT,?_⟩;exact tL
 ·rw[g3]at CD;have hN:dU (((log.map be).length :Int) -1) j:=⟨by omega⟩;generalize log.getD j ⟨0,[],[]⟩=le at*;obtain⟨lt,lw,lx⟩:=le;refine gF f62 sJ ?_;repeat' ((first|(refine kO 7 rfl ?_;first|refine Rh (kh _ _) ?_)|refine tX 0 ?_|exact Zt|refine bR ?_ ?_<;>intro h)<;>(try conv=>whnf))
  all_goals rw[hf]
  all_goals repeat' ((first|(refine kO 7 rfl ?_;first|refine Rq (iY _) ?_|refine rG (λ_ z=>⟨_,wF CD,z⟩) ?_)|refine tX 0 ?_|exact Zt|refine bR ?_ ?_<;>intro h)<;>(try conv=>whnf))
  all_goals try(exfalso;omega)
  repeat((first|(refine kO 7 rfl ?_;first|refine qU (λ_ z=>⟨_,_,_,(ce _ _ K76 (eV rfl)),z⟩) ?_)|refine tX 2 ?_|exact Zt);(try conv=>whnf))
  refine aM ?_;(refine aR ?_;conv=>whnf);(try(refine tX 2 ?_;try exact Zt));refine⟨_,zE (b:=2) (cs:=be ⟨et,ew,tx⟩) (E':=[(0,pP 1),(3,pP 2),(16,vI 0),(114,some (lit (.bool (0 != 0))))]) (ks:=[0,3,16,114]) (n':=1000) hT eJ (eV rfl) (eV rfl) (eV rfl) (fO rfl) rfl cT,?_⟩;exact tL
end
def Ir {c:Prop} [Decidable c]{n:Int}{l:List Int}(hn:n≠0):fs ((if c then 0 else n)::l)=if c then fs l else n:=by
 by_cases h:c
 ·rw[if_pos h,if_pos h];rfl
 ·rw[if_neg h,if_neg h];show(if n≠0 then n else fs l)=n;rw[if_pos hn]
def adI (p:Pl)(log:List En)(et:Int)(ew tx:aj)(kn:Bool):sV p log et ew tx kn=if bg p.ay ew>=0 then(if 0<=et/\et<=1000000000000 then(if et>=iq log then(if((tx.length:Nat):Int)<=400 then(if aW tx then(if kn=true then 0 else 7)else 3)else 8)else 9)else 2)else 6:=by
 unfold sV;rw[Ir K9,Ir K9,Ir K9,Ir K9,Ir K9,Ir K9];rfl
noncomputable def Oh (E:uj)(p:Pl)(log:List En)(s:bP)(e:En):bP × Int:=
 if(p.ae.getD (bg p.ay e.lz).toNat ([],0)).2< (vb (lB ((aJ 32 e.text).getD 0 []))).role then(s,18)else
 match fU (vb (lB ((aJ 32 e.text).getD 0 []))) e.text with
 |none=>(s,7)
 |some (a,n,rest)=>bs E p log s (lB ((aJ 32 e.text).getD 0 [])) a n rest
def zF (E:uj)(p:Pl)(log:List En)(s:bP)(et:Int)(ew tx:aj):
  (sV p log et ew tx (decide (lB ((aJ 32 tx).getD 0 [])<19))≠0/\mI E p log s ⟨et,ew,tx⟩=(s,sV p log et ew tx (decide (lB ((aJ 32 tx).getD 0 [])<19))))\/
  (sV p log et ew tx (decide (lB ((aJ 32 tx).getD 0 [])<19))=0/\0<=bg p.ay ew/\tx.length<=400/\lB ((aJ 32 tx).getD 0 [])<19/\mI E p log s ⟨et,ew,tx⟩=Oh E p log s ⟨et,ew,tx⟩):=by
 rw[adI];unfold mI;dsimp only;by_cases h1:bg p.ay ew>=0
 ·rw[if_pos h1,if_neg (show ¬bg p.ay ew<0 by omega)];by_cases h2:0<=et/\et<=1000000000000
  ·rw[if_pos h2,if_neg (FZ h2)];by_cases h3:et>=iq log
   ·rw[if_pos h3,if_neg (show ¬et<iq log by omega)];by_cases h4:((tx.length:Nat):Int)<=400
    ·rw[if_pos h4,if_neg (show ¬400<tx.length by omega)];by_cases h5:aW tx
     ·rw[if_pos h5,if_neg (FZ h5)];by_cases h6:lB ((aJ 32 tx).getD 0 [])<19
      ·rw[if_pos (fL h6),if_neg (show ¬19<=lB ((aJ 32 tx).getD 0 [])by omega)];exact .inr ⟨rfl,h1,by omega,h6,rfl⟩
      ·rw[if_neg (by rw[fj h6];decide),if_pos (show 19<=lB ((aJ 32 tx).getD 0 [])by omega)];exact UZ
     ·rw[if_neg h5,if_pos h5];exact UZ
    ·rw[if_neg h4,if_pos (show 400<tx.length by omega)];exact UZ
   ·rw[if_neg h3,if_pos (show et<iq log by omega)];exact UZ
  ·rw[if_neg h2,if_pos h2];exact UZ
 ·rw[if_neg h1,if_pos (show bg p.ay ew<0 by omega)];exact UZ
def afj {k:Nat}(hk:k<19): ∃nm,∃role w m:Nat,∃rest,NJ[k]? =some (nm,NI role w m rest (fE.getD k 0))/\vb k=⟨(role:Nat),w,m,rest⟩/\w<=10/\m<=w/\(rest=true->m=0):=by
 obtain rfl|rfl|rfl|rfl|rfl|rfl|rfl|rfl|rfl|rfl|rfl|rfl|rfl|rfl|rfl|rfl|rfl|rfl|rfl:k=0\/k=1\/k=2\/k=3\/k=4\/k=5\/k=6\/k=7\/k=8\/k=9\/k=10\/k=11\/k=12\/k=13\/k=14\/k=15\/k=16\/k=17\/k=18:=by omega
 all_goals exact⟨_,_,_,_,_,rfl,rfl,by decide,by decide,by decide⟩
def E7 (E:uj)(p:Pl)(log:List En)(s:bP)(k:Nat)(a:List aj)(n:List Int)(q:aj):(bs E p log s k a n q).1.units.length <=s.units.length+1:=by
 unfold bs;split<;>(repeat' split)<;>simp
noncomputable def fh (p:Pl)(log:List En)(s:bP)(e:En):bP × Int:=if 60<=log.length then(s,8)else mI EE p log s e
def WH (log:List En)(e:En)(z:Int):List En:=if z=0 then log++[e]else log
def Q9 {l:List aj}{x:aj}(h:0<=bg l x): ∃k:Nat,bg l x=(k:Nat)/\k<l.length:=by
 by_cases hx:x∈l
 ·obtain⟨k,hk,e⟩:=ld hx;exact⟨k,e,hk⟩
 ·rw[fq hx]at h;omega
def E8 (p:Pl)(log:List En)(s:bP)(hP:PB p)(hS:SB p log s)(e:En)(he:e.text.length<=100000):
  bx cx 62 1 ((false,[.ptr 1 0])::[enX e].map dyn) (form p log s) [1] (.val (dyn (I (fh p log s e).2))) (form p (WH log e (fh p log s e).2) (fh p log s e).1):=by
 have hl:s.units.length<=1000:=by exact U0
 unfold fh;by_cases CG:60<=log.length
 ·rw[if_pos CG];exact NP p log s hl e CG
 ·rw[if_neg CG];have CG:log.length<60:=by omega
  obtain⟨et,ew,tx⟩:=e;dsimp only at he;have KY:=Wf ((aJ 32 tx).getD 0 [])
  rcases zF EE p log s et ew tx with⟨h1,h2⟩|⟨h1,h2,h3,h4,h5⟩
  ·rw[h2];have hz:WH log ⟨et,ew,tx⟩ (sV p log et ew tx (decide (lB ((aJ 32 tx).getD 0 [])<19)))=log:=if_neg h1;simp only;rw[hz];by_cases hk:lB ((aJ 32 tx).getD 0 [])<19
   ·obtain⟨nm,role,w,m,rest,g1,g2,_⟩:=afj hk;rw[g1]at KY;rw[fL hk]at h1 ⊢;exact Wp p log s et ew tx hl hP.ae he CG KY h1
   ·rw[fj hk]at h1 ⊢;have hn:NJ[lB ((aJ 32 tx).getD 0 [])]? =none:=List.getElem?_eq_none (by show 19<=_;omega);rw[hn]at KY;exact Wq p log s et ew tx hl hP.ae he CG KY h1
  ·rw[h5];rw[fL h4]at h1;obtain⟨nm,role,w,m,rest,g1,g2,g3,g4,g5⟩:=afj h4;rw[g1]at KY;obtain⟨ik,IG,zS⟩:=Q9 h2;have zS:ik<p.ae.length:=by simpa [Pl.ay]using zS
   unfold Oh;dsimp only;rw[IG,sP,g2];dsimp only;by_cases hr:(p.ae.getD ik ([],0)).2< (role:Nat)
   ·rw[if_pos hr];exact NQ p log s et ew tx hl hP.ae he CG KY h1 IG zS hr
   ·rw[if_neg hr];obtain⟨a,n,q,ok,c1,c2⟩:=Wn role w m rest (fE.getD (lB ((aJ 32 tx).getD 0 [])) 0) tx he g3 g4 g5;cases ok
    ·rw[if_neg xP]at c2;rw[c2];exact NR p log s et ew tx hl hP.ae he CG KY h1 IG zS hr c1
    ·rw[if_pos rfl]at c2;rw[c2];have hef:=adH p log s hP hS CG h4 h3 (by rw[g2];exact c2)
     have sJ:(bs EE p log s (lB ((aJ 32 tx).getD 0 [])) a n q).1.units.length <=1000:=by
      have:=E7 EE p log s (lB ((aJ 32 tx).getD 0 [])) a n q;have:=hS.units;omega
     show bx _ _ _ _ _ _ (.val (dyn (I (bs EE p log s (lB ((aJ 32 tx).getD 0 [])) a n q).2))) (form p (WH log _ (bs EE p log s (lB ((aJ 32 tx).getD 0 [])) a n q).2) (bs EE p log s (lB ((aJ 32 tx).getD 0 [])) a n q).1);generalize bs EE p log s (lB ((aJ 32 tx).getD 0 [])) a n q=y at*;obtain⟨s',z⟩:=y;by_cases hz:z=0
     ·subst hz;exact WG p log s s' et ew tx hl sJ hP.ae he CG KY h1 IG zS hr c1 hef
     ·have e1:WH log ⟨et,ew,tx⟩ z=log:=if_neg hz;simp only;rw[e1];exact Q8 p log s s' et ew tx hl sJ hP.ae he CG KY h1 IG zS hr c1 hz hef
def WI {p:Pl}{log:List En}{r:Rs}(e:En)(h:aaO p log r):aaO p (log++[e]) r:=by
 obtain⟨k,h1,h2,h3,h4,h5,h6⟩:=h;refine⟨k,h1,by simp;omega,?_⟩
 grind
def UB.app {p:Pl}{log:List En}{u:Un}(h:UB p log u)(e:En):UB p (log++[e]) u:=
 ⟨by have:=h.lots;simp;omega,by have:=h.len;simp;omega,h.gas,h.used,λr hr=>WI e (h.res r hr)⟩
def adJ {log:List En}{u:Un}{t:Ts}{rest:aj}(hk:t.kind=1)(h:(Km log u t rest).2=0):(dW (cF (aJ 32 rest))).2=0:=by
 unfold Km at h
 grind
def adK (d t:Int):0<=ZF d t:=by
 unfold ZF;split
 ·rename_i h;unfold ZE at h;split
  grind
  ·exact CS (Int.le_of_lt (Int.pow_pos K9)) h.2.1
 grind
def WJ {p:Pl}{log:List En}{s:bP}{u u':Un}(hP:PB p)(hU:UB p log u)(e:En){k:Nat}{a:List aj}{n:List Int}{q:aj}(ht:e.text.length<=400)(hv:lB ((aJ 32 e.text).getD 0 [])=k)(AU:fU (vb k) e.text=some (a,n,q))
  (h:aU EE p log s u k a n q=(u',0)):UB p (log++[e]) u':=by
 have hm:=hU.app e;unfold aU at h;split at h
 ·repeat' split at h
  all_goals(simp only[ij]at h;obtain⟨rfl,h⟩:=h)
  all_goals first|exact hm|exact⟨by have:=hU.lots;simp;omega,hm.len,hm.gas,hm.used,hm.res⟩
 ·grind
 ·grind
 ·by_cases hi:0<=bg (cS p.aa) (a.getD 1 [])
  ·rw[if_pos hi]at h;dsimp only at h;obtain⟨j,hj,hjl⟩:=Q9 hi;rw[hj,sP]at h;have htm:p.aa.getD j dz∈p.aa:=by grind[cS]
   generalize p.aa.getD j dz=t at*;by_cases o9:(EE.ev log u t q).2=0
   ·rw[if_pos o9]at h;repeat' split at h
    all_goals(simp only[ij]at h;obtain⟨rfl,h⟩:=h)
    all_goals first|exact hm|skip
    refine⟨hm.lots,by have:=hU.len;simp;omega,hm.gas,hm.used,λr hr=>?_⟩;rcases iz.1 hr with hr|hr
    ·exact hm.res r hr
    ·rw[m6]at hr;subst hr;have hg:(log++[e]).getD log.length dk=e:=by grind
     refine⟨log.length,rfl,by simp,?_⟩;rw[hg];refine⟨ht,hv,⟨a,n,q,AU⟩,λt' Lg hn hk=>?_⟩;obtain rfl:=hP.anc t' Lg t htm hn;obtain⟨_,_,_,_,hq,_⟩:=uI AU K9;have:q=cd 3 e.text:=hq;subst this;exact adJ hk o9
   grind
  grind
 ·repeat' split at h
  all_goals(simp only[ij]at h;obtain⟨rfl,h⟩:=h)
  all_goals first|exact hm|skip
  refine⟨hm.lots,by have:=hU.len;simp;omega,hm.gas,hm.used,λr hr=>?_⟩;obtain⟨r0,hr0,rfl⟩:=dT.1 hr;exact hm.res r0 hr0
 ·exact K78
 ·exact K78
 ·exact K78
 ·have hl:=hP.eK;have hu:=hU.used;have am2:=adK (n.getD 0 0) (n.getD 1 0);generalize ZF (n.getD 0 0) (n.getD 1 0)=ag at*;repeat' split at h
  all_goals(simp only[ij]at h;obtain⟨rfl,h⟩:=h)
  all_goals first|exact hm|exact⟨hm.lots,hm.len,hm.gas,aca,hm.res⟩
 ·dsimp only at h;repeat' split at h
  all_goals(simp only[ij]at h;obtain⟨rfl,h⟩:=h)
  all_goals first|exact hm|exact⟨hm.lots,hm.len,wa,hm.used,hm.res⟩
 grind
def SB.app {p:Pl}{log:List En}{s:bP}(h:SB p log s)(e:En):SB p (log++[e]) s:=⟨h.units,h.lots,by have:=h.opens;simp;omega,λu hu=>(h.unit u hu).app e⟩
theorem ag7 {p:Pl}{log:List En}{s:bP}(hP:PB p)(hS:SB p log s)(e:En){k:Nat}{a:List aj}{n:List Int}{q:aj}(ht:e.text.length<=400)(hv:lB ((aJ 32 e.text).getD 0 [])=k)(AU:fU (vb k) e.text=some (a,n,q))
  {s':bP}(h:bs EE p log s k a n q=(s',0)):SB p (log++[e]) s':=by
 have hm:=hS.app e;have ho:=hS.opens;unfold bs at h;split at h
 ·exact ajW
 ·repeat' split at h
  all_goals(simp only[ij]at h;obtain⟨rfl,h⟩:=h)
  all_goals first|exact hm|exact⟨hm.units,by simp;omega,hm.opens,hm.unit⟩
 ·repeat' split at h
  all_goals(simp only[ij]at h;obtain⟨rfl,h⟩:=h)
  all_goals first|exact hm|skip
  refine⟨by simp;omega,hm.lots,hm.opens,λu hu=>?_⟩;rcases iz.1 hu with hu|hu
  ·exact hm.unit u hu
  ·rw[m6]at hu;subst hu;exact⟨dD _,dD _,dD _,⟨by show(0:Int)<=0;decide,by show(0:Int)<=1000000000000;decide⟩,λr hr=>by cases hr⟩
 ·repeat' split at h
  all_goals(simp only[ij]at h;obtain⟨rfl,h⟩:=h)
  all_goals first|exact hm|exact⟨hm.units,hm.lots,by simp;omega,hm.unit⟩
 ·repeat' split at h
  all_goals(simp only[ij]at h;obtain⟨rfl,h⟩:=h)
  all_goals first|exact hm|exact⟨hm.units,hm.lots,by have:=List.length_erase_le (a:=a.getD 0 []) (l:=s.opens);show(s.opens.erase (a.getD 0 [])).length <=(log++[e]).length;rw[sO];simp only[Lz];omega,hm.unit⟩
 ·exact K48
 ·exact K48
 ·exact K48
 ·exact K48
 ·split at h
  ·rename_i hx;obtain⟨i,u,g1,g2,g3,g4,g5⟩:=j0 hx;dsimp only at h;rw[g2,g4]at h
   cases hr:aU EE p log s u k a n q with
   |mk u' z=>
    rw[hr]at h;simp only[ij]at h;obtain⟨rfl,rfl⟩:=h;have hU:=WJ hP (hS.unit u (jI g3)) e ht hv AU hr;refine⟨by simp;exact hm.units,hm.lots,hm.opens,λw hw=>?_⟩;rcases Sj hw with hw|rfl
    ·exact hm.unit w hw
    ·exact hU
  ·exact ajW
def E9 {p:Pl}{log:List En}{s s':bP}(hP:PB p)(hS:SB p log s)(e:En)(h:fh p log s e=(s',0)):SB p (log++[e]) s'/\log.length<60:=by
 unfold fh at h;by_cases CG:60<=log.length
 grind
 ·rw[if_neg CG]at h;obtain⟨et,ew,tx⟩:=e
  rcases zF EE p log s et ew tx with⟨h1,h2⟩|⟨h1,h2,h3,h4,h5⟩
  grind
  grind[Oh,ag7]
def Fa (p:Pl):SB p [] Go.Plain.iy:=⟨by decide,by decide,by decide,λu hu=>by cases hu⟩
def Iu {fid nx n':Nat}{T T' H:Hp}{E E':dG}{ks:List Nat}(hT:HJ T 1)(eJ:HJ T' 1)(hf:tag fid≠0)(hn:Nat.blt 0 n'=true)(hE:dm (gh (aq (tag fid) 1) T' []) E.get ks=some E'):
  bp ⟨E,cB T (cP (aq (tag fid) 1) T')++H,nx⟩ ⟨E',T',n'⟩:=by
 have h:=yJ (R:=[]) (hp:=H) (nx:=nx) (n':=n') hT eJ hf (by simp) (λk hk=>by cases hk) (λid b e=>by simp[Hp.get]at e) (by rwa [vZ]at hn) hE;rwa [xS]at h
def WK {E E':dG}{H:Hp}{nx n' un:Nat}{p:Pl}{log:List En}{s:bP}{m:List (Nat × Nat)}{ks:List Nat}(hl:s.units.length<=1000)(hm:Go.Fw.IL ((un,9)::m)=true)(h9:H.get un=some (.aD 17 (az 0 s.units)))
  (hY:jX ((un,9)::m++mW (bw 0 s.units)) H.get m=some (hd p log s))(hE:ir H (bw 0 s.units))(hn:(m.all λq=>Nat.blt (tag q.2) n')=true)(h0:Nat.blt 0 n'=true)
  (ahs:dm ((un,9)::m++mW (bw 0 s.units)) E.get ks=some E'):bp ⟨E,H,nx⟩ ⟨E',form p log s,n'⟩:=by
 have hT:=gY hl;have iL:=(Ia (us:=s.units) hm).resolve_right K0;have fC:=cZ.aey (Y:=hd p log s) hT hm h9 iL hY rfl (hE.get hT);refine rY fC (λq hq=>?_) ahs;have h0:0<n':=by rw[vZ]at h0;exact h0
 rcases iz.1 hq with h|h
 ·rcases dl.1 h with rfl|h
  ·show Fw.tag 9<n';rw[show Fw.tag 9=0 from rfl];exact h0
  ·exact ano
 ·exact aic
abbrev nwC (p:Pl)(a b c d:DC):List DC:=[.st (.view (p.ae.map nh)),.st (.view (ab p.ap)),.st (.view (p.aa.map fD)),.st (.view (p.parts.map mj)),.st (J p.dZ),.st (J p.eK),a,.st (K false),.st (K true),b,.st (T []),c,d]
abbrev Oi (p:Pl)(a b c d:DC):cD:=.box 126 (nwC p a b c d)
def al2 (fn:Func)(p:Pl)(fid:Nat)(S:St):Prop:=∃id,S.hp.get id=some (Oi p .nil .nil .nil .nil)/\eB cx S.hp.get S.env.get fn.results.toList λys=>∃zs,kT [(id,fid)] ys=some zs/\pv zs=Fw.bm (.ptr fid 0)
def anN {f:FuncId}{c:Code}{fid:Nat}{p:Pl}(fn:Func)(h:m8 cx c ⟨iF 0 [dyn (true,bE p)],[],1⟩ (al2 fn p fid) (λ_ _=>False) (al2 fn p fid))
  (h1:iN cx.P f=true:=by kernel_rfl)(h2:cx.P.funcs[f]? =some fn:=by kernel_rfl)(h3:fn.body=some c:=by rfl)(h4:bS fn.ntmps c=true:=by kernel_rfl)(h5: [dyn (true,bE p)].length <=fn.ntmps:=by exact fO rfl)(h6:aN [] c=true:=by kernel_rfl):
  bx cx f 1 [dyn (true,bE p)] [] [] (Fw.bm (.ptr fid 0)) [(fid,some (Oi p .nil .nil .nil .nil))]:=
 fA lJ h1 h2 h3 h4 h5 [] (λ_ h=>by cases h) h6 (λS hS=>by
  obtain⟨id,g1,g2⟩:=hS;refine⟨[(id,fid)],⟨by simp,by simp,λn b' e=>?_⟩,(λ_ h=>by cases h),g2⟩;obtain⟨rfl,rfl⟩:=gD e
  exact⟨id,_,by simp,g1,rfl⟩) h
def adU (p:Pl)(fid:Nat):bx cx 91 1 [dyn (true,bE p)] [] [] (Fw.bm (.ptr fid 0)) [(fid,some (Oi p .nil .nil .nil .nil))]:=by
 refine anN f91 ?_
 (try(refine tX 0 ?_;try exact Zt))
 exact⟨12,rfl,_,rfl,rfl⟩
def aaU {ok:Nat->Prop}(p:Pl):cD.dJ ok (Oi p .nil .nil .nil .nil):=by
 intro d hd;simp only[nwC,dl,nE,nF]at hd;rcases hd with rfl|rfl|rfl|rfl|rfl|rfl|rfl|rfl|rfl|rfl|rfl|rfl|rfl<;>trivial
def mw (H:HF)(fid:Nat)(p:Pl):bX cx fid 91 [dyn (true,bE p)] H (Fw.bm (.ptr fid 0)) [(fid,some (Oi p .nil .nil .nil .nil))] []:=
 gr (adU p fid) (λid hid=>by cases hid) (λid hid=>by cases hid) (λid b e=>by simp[Hp.get]at e) (λx hx=>by
   have:x=dyn (true,bE p):=by simpa using hx
   subst this
   exact bD _) (λid hid=>by cases hid)
  (λid hid=>.inr ajO) (λid b e=>by obtain⟨rfl,rfl⟩:=gD e;exact aaU p) (by
   intro d hd;have:d= .ptr fid 0:=by simpa [Fw.bm]using hd
   subst this
   exact .inr rfl)
def aaV {E:dG}{Hh:Hp}{nx:Nat}(id:Nat){p:Pl}(hid:2*(nx+1+1+1)≠id)(hB:Hh.get id=some (Oi p .nil .nil .nil .nil)):
  ∃B3 B2 B1 R4,bp ⟨E,Hh,nx⟩ ⟨E,(2*(nx+1+1+1),some (.aD 17 []))::(id,some (Oi p (.own (2*nx)) (.own (2*(nx+1))) (.own (2*(nx+1+1))) (.own (2*(nx+1+1+1)))))::(2*(nx+1+1+1),some R4)::(id,some B3)::(2*(nx+1+1),some (.row true 1 (.view [])))::(id,some B2)::(2*(nx+1),some (.row true 1 (.view [])))::(id,some B1)::(2*nx,some (.row true 3 (.view [])))::Hh,nx+1+1+1+1⟩:=by
 have s1:=iQ (E:=E) (nx:=nx) id 6 3 (.view []) K9 rfl rfl hB rfl;have s2:=iQ (E:=E) (nx:=nx+1) (Hh:=(id,some (Oi p (.own (2*nx)) .nil .nil .nil))::(2*nx,some (.row true 3 (.view [])))::Hh) id 9 1 (.view []) K9 rfl rfl LW rfl;have s3:=iQ (E:=E) (nx:=nx+1+1) (Hh:=(id,some (Oi p (.own (2*nx)) (.own (2*(nx+1))) .nil .nil))::(2*(nx+1),some (.row true 1 (.view [])))::(id,some (Oi p (.own (2*nx)) .nil .nil .nil))::(2*nx,some (.row true 3 (.view [])))::Hh) id 11 1 (.view []) K9 rfl rfl LW rfl;have s4:=iQ (E:=E) (nx:=nx+1+1+1) (Hh:=(id,some (Oi p (.own (2*nx)) (.own (2*(nx+1))) (.own (2*(nx+1+1))) .nil))::(2*(nx+1+1),some (.row true 1 (.view [])))::(id,some (Oi p (.own (2*nx)) (.own (2*(nx+1))) .nil .nil))::(2*(nx+1),some (.row true 1 (.view [])))::(id,some (Oi p (.own (2*nx)) .nil .nil .nil))::(2*nx,some (.row true 3 (.view [])))::Hh) id 12 17 (.view []) K9 rfl rfl LW rfl;have s5:=NM (E:=E) (nx:=nx+1+1+1+1) (Hh:=(id,some (Oi p (.own (2*nx)) (.own (2*(nx+1))) (.own (2*(nx+1+1))) (.own (2*(nx+1+1+1)))))::(2*(nx+1+1+1),some (.row true 17 (.view [])))::(id,some (Oi p (.own (2*nx)) (.own (2*(nx+1))) (.own (2*(nx+1+1))) .nil))::(2*(nx+1+1),some (.row true 1 (.view [])))::(id,some (Oi p (.own (2*nx)) (.own (2*(nx+1))) .nil .nil))::(2*(nx+1),some (.row true 1 (.view [])))::(id,some (Oi p (.own (2*nx)) .nil .nil .nil))::(2*nx,some (.row true 3 (.view [])))::Hh) (2*(nx+1+1+1)) (z:=17) (V:=[]) (by rw[Hp.jO hid,Hp.av,an]);exact⟨_,_,_,_,(((s1.trans s2).trans s3).trans s4).trans s5⟩
noncomputable def lh (p:Pl):List En->bP->List En->bP × Nat × Int
 |_,s,[]=>(s,0,0)
 |log,s,e::r=>if(fh p log s e).2=0 then lh p (log++[e]) (fh p log s e).1 r else(s,log.length,(fh p log s e).2)
noncomputable def cM (p:Pl)(l:List En):bP × Nat × Int:=if(p.err jL).2≠0 then(Go.Plain.iy,0,(p.err jL).2)else if 60<l.length then(Go.Plain.iy,0,8)else lh p [] Go.Plain.iy l
def Iw {p:Pl}{s:bP}{l:List En}{i:Nat}(h:i<l.length):lh p (l.take i) s (l.drop i)=if(fh p (l.take i) s (l.getD i dk)).2=0 then lh p (l.take (i+1)) (fh p (l.take i) s (l.getD i dk)).1 (l.drop (i+1))else(s,i,(fh p (l.take i) s (l.getD i dk)).2):=by
 have hd:l.drop i=l.getD i dk::l.drop (i+1):=by simp_all
 have ht:l.take (i+1)=l.take i++[l.getD i dk]:=by grind
 have bG:(l.take i).length =i:=by grind
 rw[hd,ht];show(if _ then _ else(s,(l.take i).length,_))=_
 grind
def Fc {p:Pl}{log:List En}{s:bP}(hS:SB p log s)(e:En):(fh p log s e).1.units.length <=1000:=by
 have hu:=hS.units;unfold fh;split
 grind
 ·obtain⟨et,ew,tx⟩:=e
  rcases zF EE p log s et ew tx with⟨h1,h2⟩|⟨h1,h2,h3,h4,h5⟩
  grind
  ·rw[h5];unfold Oh;dsimp only;split
   grind
   ·split
    ·show s.units.length<=1000;omega
    ·rename_i a n q _;have:=E7 EE p log s (lB ((aJ 32 tx).getD 0 [])) a n q;omega
def qN {T:Hp}(hT:HJ T 1):cZ (nL (ah T) λk=>k) T.get T.get:=by
 have h:=(nf.hp hT (ρ:=λk=>k) (λ_ _ _ _ e=>e)).ok
 have e:(cP (λk=>k) T).get =T.get:=by
  funext k;by_cases hk:k∈ah T
  ·rw[jR (ρ:=λk=>k) (λ_ _ _ _ e=>e) k hk]
   cases hb:T.get k with
   |none=>rfl
   |some b=>simp[cD.GZ]
  ·rw[Hp.get_none (by show k∉ah _;grind[di]),Hp.get_none hk]
 grind
def aaW {E E':dG}{nx n':Nat}{p:Pl}{log:List En}{s:bP}{ks:List Nat}(hl:s.units.length<=1000)(h0:Nat.blt 0 n'=true)(hE:dm (nL (ah (form p log s)) λk=>k) E.get ks=some E'):bp ⟨E,form p log s,nx⟩ ⟨E',form p log s,n'⟩:=by
 have hT:=ci p log hl;refine rY (qN hT) (λq hq=>?_) hE;obtain⟨o,n⟩:=q;obtain⟨h1,h2⟩:=gg.1 hq;show Fw.tag n<n';rw[h2];show Fw.tag o<n';rw[(hT.lt o h1).2];simp_all
def Rb (y:bP × Nat × Int):DV:=if y.2.2=0 then .aI [(false,[.ptr 1 0]),dyn (I (0:Nat)),dyn (I 0)]else .aI [(false,[.st (.lit (.pointer none))]),dyn (I y.2.1),dyn (I y.2.2)]
def Kq (p:Pl)(l:List En)(y:bP × Nat × Int):Hp:=if y.2.2=0 then form p l y.1 else []
def Kr (p:Pl)(l:List En)(hs:ii p)(hP:(p.err jL).2=0->PB p)(hl:l.length<=1000)(ht: ∀e∈l,e.text.length<=100000):
  bx cx 51 1 [dyn (true,bE p),(false,[.st (.view (l.map be))])] [] [] (Rb (cM p l)) (Kq p l (cM p l)):=by
 have hn:(l.map be).length =l.length:=by simp
 have c1:=Fb hs;unfold cM;generalize p.err jL=pe at*;obtain⟨pi,pz⟩:=pe;have c1:ac 90 [(true,bE p)] (.aI [I pi,I pz]):=c1;dsimp only at hP;by_cases h1:pz=0
 ·subst h1;rw[if_neg (by simp)];have hP:=hP rfl;by_cases h2:60<l.length
  ·rw[if_pos h2];show bx _ _ _ _ _ _ (.aI [(false,[.st (.lit (.pointer none))]),dyn (I (0:Nat)),dyn (I 8)]) [];refine gR f51 ?_;exact tL
  ·rw[if_neg h2];refine gR f51 ?_;repeat' ((first|(refine kO 7 rfl ?_;first|refine im (λ_ z=>⟨_,_,_,(mw _ _ p),z⟩) ?_)|refine tX 0 ?_|exact Zt|refine bR ?_ ?_<;>intro h)<;>(try conv=>whnf))
   all_goals try(exfalso;omega)
   refine af (ι:=Nat × bP) (λq=>q.1<=l.length/\SB p (l.take q.1) q.2/\lh p (l.take q.1) q.2 (l.drop q.1)=lh p [] Go.Plain.iy l) (λq=>l.length -q.1)
    (λq=>⟨[(9,pP 1),(26,some (.val (false,[.st (.view (l.map be))]))),(27,vI l.length),(28,vI q.1)],form p (l.take q.1) q.2,1000⟩) (0,Go.Plain.iy)
    (by
     refine Exists.elim (aaV 36 (p:=p) ?hid ?hB) λB3 h=>h.elim λB2 h=>h.elim λB1 h=>h.elim λR4 h=>bp.trans h (WK (ks:=[9,26,27,28]) (un:=52) (m:=[(36,1),(46,3),(48,5),(50,7)]) (s:=Go.Plain.iy) (log:=l.take 0) (dD _) cT rfl cT K46 cT cT PF);case hB=>rfl
     case hid=>decide) ⟨dD _,Fa p,rfl⟩ ?_
   rintro⟨i,s⟩ ⟨hi,hS,hR⟩;dsimp only at hi hS hR ⊢;by_cases ak:i<l.length
   ·have he:=aV (f:=be) ak dk;have dw:=Iw (p:=p) (s:=s) ak;rw[hR]at dw;have hem:l.getD i dk∈l:=by grind
    have ha:=E8 p (l.take i) s hP hS (l.getD i dk) (ht _ hem);have Pt:=λs' h=>E9 (s':=s') hP hS (l.getD i dk) h;have xp:l.take i++[l.getD i dk]=l.take (i+1):=by simp_all
    rw[xp]at Pt;have hu:s.units.length<=1000:=by exact U0
    have GR:(fh p (l.take i) s (l.getD i dk)).1.units.length <=1000:=Fc hS _;unfold WH at ha;rw[xp]at ha;generalize l.getD i dk=e at*;generalize fh p (l.take i) s e=y at*;obtain⟨s',z⟩:=y;obtain⟨et,ew,tx⟩:=e;dsimp only at ha dw GR;have hT:=ci p (l.take i) hu;by_cases hz:z=0
    ·subst hz;rw[if_pos rfl]at ha dw;have eJ:=ci p (l.take (i+1)) GR;have hS':=(Pt s' rfl).1;have ce:=λfid H hO hf=>oq (fid:=fid) (H:=H) ha hu GR hf hO;clear ha Pt;repeat' ((first|refine tX 0 ?_|exact Zt|refine bR ?_ ?_<;>intro h)<;>(try conv=>whnf))
     all_goals try(exfalso;omega)
     repeat((first|(refine kO 7 rfl ?_;first|refine qU (λ_ z=>⟨_,_,_,(ce _ _ K76 (eV rfl)),z⟩) ?_)|refine tX 2 ?_|exact Zt);(try conv=>whnf))
     refine aM ?_;(refine aR ?_;conv=>whnf);(try(refine tX 2 ?_;try exact Zt));refine⟨_,Iu (E':=[(9,pP 1),(10,vI i),(12,vI 0),(26,some (.val (false,[.st (.view (l.map be))]))),(27,vI l.length),(28,vI i),(37,some (lit (.bool (0 != 0))))]) (ks:=[9,10,12,26,27,28,37]) (n':=1000) hT eJ (eV rfl) rfl cT,?_⟩;repeat' ((first|refine tX 0 ?_|exact Zt|refine bR ?_ ?_<;>intro h)<;>(try conv=>whnf))
     all_goals try(exfalso;omega)
     exact⟨(i+1,s'),⟨ak,hS',dw.symm⟩,by grind,aaW (ks:=[9,26,27,28]) GR rfl cT⟩
    ·rw[if_neg hz]at ha dw;have eJ:=ci p (l.take i) GR;have ce:=λfid H hO hf=>oq (fid:=fid) (H:=H) ha hu GR hf hO;clear ha Pt;rw[dw,show Rb (s,i,z)= .aI [(false,[.st (.lit (.pointer none))]),dyn (I (i:Nat)),dyn (I z)]from if_neg hz,show Kq p l (s,i,z)= []from if_neg hz];repeat' ((first|refine tX 0 ?_|exact Zt|refine bR ?_ ?_<;>intro h)<;>(try conv=>whnf))
     all_goals try(exfalso;omega)
     repeat((first|(refine kO 7 rfl ?_;first|refine qU (λ_ z=>⟨_,_,_,(ce _ _ K76 (eV rfl)),z⟩) ?_)|refine tX 2 ?_|exact Zt);(try conv=>whnf))
     refine aM ?_;(refine aR ?_;conv=>whnf);(try(refine tX 2 ?_;try exact Zt));refine⟨_,Iu (E':=[(9,pP 1),(10,vI i),(12,vI z),(26,some (.val (false,[.st (.view (l.map be))]))),(27,vI l.length),(28,vI i),(37,some (lit (.bool (z != 0))))]) (ks:=[9,10,12,26,27,28,37]) (n':=1000) hT eJ (eV rfl) rfl cT,?_⟩;exact tL
   ·obtain rfl:i=l.length:=by omega
    rw[Lx]at hR;have hR:(s,0,0)=lh p [] Go.Plain.iy l:=hR;rw[<- hR,show Rb (s,0,0)= .aI [(false,[.ptr 1 0]),dyn (I (0:Nat)),dyn (I 0)]from rfl,show Kq p l (s,0,0)=form p l s from rfl,mA];have hT:=ci p l (s:=s) U0;repeat' ((first|refine tX 0 ?_|exact Zt|refine bR ?_ ?_<;>intro h)<;>(try conv=>whnf))
    all_goals first|exact Zo|exact⟨_,qN hT,_,rfl,rfl⟩
 ·rw[if_pos h1];have e1:Rb (Go.Plain.iy,0,pz)= .aI [(false,[.st (.lit (.pointer none))]),dyn (I (0:Nat)),dyn (I pz)]:=if_neg h1;have e2:Kq p l (Go.Plain.iy,0,pz)= []:=if_neg h1;rw[e1,e2];refine gR f51 ?_;exact tL
def Ua {p:Pl}(hP:PB p): ∀ {r log:List En} {s:bP},SB p log s->(lh p log s r).2.2=0->SB p (log++r) (lh p log s r).1
 | [],log,s,hS,_=>by rw[xS];exact hS
 |e::r,log,s,hS,h=>by
  unfold lh at h ⊢;by_cases hz:(fh p log s e).2=0
  ·rw[if_pos hz]at h ⊢;have:=(E9 (s':=(fh p log s e).1) hP hS e (by rw[<- hz])).1;have g:=Ua hP this h;rwa [G3]at g
  ·rw[if_neg hz]at h;exact absurd h hz
def Ks {p:Pl}{l:List En}(hP:(p.err jL).2=0->PB p)(h:(cM p l).2.2=0):SB p l (cM p l).1/\(p.err jL).2=0:=by
 unfold cM at h ⊢;by_cases h1:(p.err jL).2=0
 ·rw[if_neg (FZ h1)]at h ⊢;by_cases h2:60<l.length
  ·rw[if_pos h2]at h;exact absurd h K9
  ·rw[if_neg h2]at h ⊢;exact⟨Ua (hP h1) (Fa p) h,h1⟩
 ·rw[if_pos h1]at h;exact absurd h h1
def zG {p:Pl}{l:List En}{s:bP}(h:s.units.length<=1000):MH (form p l s):=by
 have hT:=ci p l h;refine⟨hT.nd,λk hk=>⟨?_,hT.lt k hk⟩,hT.dJ⟩;rw[qA]at hk;simp only[dl]at hk;rcases hk with rfl|rfl|rfl|rfl|rfl|h'
 ·decide
 ·decide
 ·decide
 ·decide
 ·decide
 ·obtain⟨j,q1,q2,q3⟩:=gj h';omega
def adV {p:Pl}{l:List En}(hP:(p.err jL).2=0->PB p):MH (Kq p l (cM p l)):=by
 unfold Kq;by_cases h:(cM p l).2.2=0
 ·rw[if_pos h];exact zG aj8
 ·rw[if_neg h];exact⟨by simp,(λk hk=>by cases hk),(λk b e=>by simp[Hp.get]at e)⟩
def Oj (H:HF)(fid:Nat){p:Pl}{l:List En}(hs:ii p)(hP:(p.err jL).2=0->PB p)(hl:l.length<=1000)(ht: ∀e∈l,e.text.length<=100000):
  bX cx fid 51 [dyn (true,bE p),(false,[.st (.view (l.map be))])] H (La (aq (tag fid) 0) (Rb (cM p l))) (cB [] (cP (aq (tag fid) 0) (Kq p l (cM p l)))) []:=by
 refine Go.Fw.mw (Kr p l hs hP hl ht) (adV hP) (λx hx=>?_) ?_
 ·rcases dl.1 hx with rfl|hx
  ·exact bD _
  ·have:x=(false,[.st (.view (l.map be))]):=by simpa using hx
   subst this;exact ajp
 ·unfold Rb Kq;by_cases h:(cM p l).2.2=0
  ·rw[if_pos h,if_pos h];intro x hx;simp only[dl,nE,nF]at hx;rcases hx with rfl|rfl|rfl
   ·intro d hd;have:d= .ptr 1 0:=by simpa using hd
    subst this;exact(ci p l aj8).xJ
   ·exact bD _
   ·exact bD _
  ·rw[if_neg h,if_neg h];intro x hx;simp only[dl,nE,nF]at hx;rcases hx with rfl|rfl|rfl
   ·exact K61
   ·exact bD _
   ·exact bD _
def Ol {p:Pl}: ∀ {r log:List En} {s:bP},(lh p log s r).2.2=0->(lh p log s r).2.1=0
 | [],_,_,_=>rfl
 |e::r,log,s,h=>by
  unfold lh at h ⊢;by_cases hz:(fh p log s e).2=0
  ·rw[if_pos hz]at h ⊢;exact Ol h
  ·rw[if_neg hz]at h;exact absurd h hz
def aaX {p:Pl}{l:List En}(h:(cM p l).2.2=0):(cM p l).2.1=0:=by
 unfold cM at h ⊢;split
 ·rfl
 ·rename_i h1;rw[if_neg h1]at h;split
  ·rfl
  ·rename_i h2;rw[if_neg h2]at h;exact Ol h
noncomputable def AK (p:Pl)(l:List En):bP:=(cM p l).1
def Fe {p:Pl}: ∀ {a log:List En} {s:bP} (b:List En),(lh p log s (a++b))=if(lh p log s a).2.2=0 then lh p (log++a) (lh p log s a).1 b else lh p log s a
 | [],log,s,b=>by rw[LM,xS];exact(if_pos rfl).symm
 |e::a,log,s,b=>by
  rw[qX];have e1: ∀r,lh p log s (e::r)=if(fh p log s e).2=0 then lh p (log++[e]) (fh p log s e).1 r else(s,log.length,(fh p log s e).2):=λ_=>rfl
  rw[e1,e1];by_cases hz:(fh p log s e).2=0
  ·rw[if_pos hz,if_pos hz,Fe b,G3];rfl
  ·rw[if_neg hz,if_neg hz,if_neg hz]
def nn {p:Pl}{l:List En}(h:(cM p l).2.2=0):cM p l=(AK p l,0,0)/\(p.err jL).2=0/\l.length<=60/\lh p [] Go.Plain.iy l=cM p l:=by
 have hi:=aaX h;refine⟨Prod.ext rfl (Prod.ext hi h),?_⟩;unfold cM at h ⊢;by_cases h1:(p.err jL).2=0
 ·rw[if_neg (FZ h1)]at h ⊢;by_cases h2:60<l.length
  ·rw[if_pos h2]at h;exact absurd h K9
  ·rw[if_neg h2];exact⟨h1,by omega,rfl⟩
 ·rw[if_pos h1]at h;exact absurd h h1
def uJ {p:Pl}{l:List En}(h:(cM p l).2.2=0)(i:Nat):(cM p (l.take i)).2.2=0:=by
 obtain⟨_,h1,h2,h3⟩:=nn h;have hl:(l.take i).length <=60:=by exact agi
 unfold cM;rw[if_neg (FZ h1),if_neg K0];rw[<- h3]at h;rw[<- LB i l,Fe]at h;by_cases hz:(lh p [] Go.Plain.iy (l.take i)).2.2=0
 ·exact hz
 ·rw[if_neg hz]at h;exact absurd h hz
def aaY {p:Pl}{l:List En}(h:(cM p l).2.2=0)(e:En):cM p (l++[e])=if(fh p l (AK p l) e).2=0 then((fh p l (AK p l) e).1,0,0)else if 60<=l.length then(Go.Plain.iy,0,8)else(AK p l,l.length,(fh p l (AK p l) e).2):=by
 obtain⟨h0,h1,h2,h3⟩:=nn h;by_cases h6:60<=l.length
 ·have ha:fh p l (AK p l) e=(AK p l,8):=if_pos h6;rw[ha,if_neg (show ¬(8:Int)=0 by decide),if_pos h6];unfold cM;rw[if_neg (FZ h1),if_pos ajE]
 ·rw[if_neg h6];unfold cM;rw[if_neg (FZ h1),if_neg ajE,Fe,h3,h0,if_pos rfl,LM];unfold lh;by_cases hz:(fh p l (AK p l) e).2=0
  ·rw[if_pos hz,if_pos hz];rfl
  ·rw[if_neg hz,if_neg hz]
def aaZ {p:Pl}{l:List En}(h:(cM p l).2.2=0){i:Nat}(hi:i<l.length):(fh p (l.take i) (AK p (l.take i)) (l.getD i dk)).2=0/\AK p (l.take (i+1))=(fh p (l.take i) (AK p (l.take i)) (l.getD i dk)).1:=by
 have ht:l.take (i+1)=l.take i++[l.getD i dk]:=by rw[CQ,pj hi];simp[jN,hi]
 have h1:=uJ h (i+1);have h2:=aaY (uJ h i) (l.getD i dk);rw[<- ht]at h2
 have hz:(fh p (l.take i) (AK p (l.take i)) (l.getD i dk)).2=0:=by
  apply Decidable.byContradiction;intro hn;rw[if_neg hn]at h2;rw[h2]at h1;split at h1
  ·exact absurd h1 K9
  ·exact hn h1
 rw[if_pos hz]at h2;exact⟨hz,by rw[show AK p (l.take (i+1))=(cM p (l.take (i+1))).1 from rfl,h2]⟩
def CA {x y:aj}(h:(B x==B y)=true):x=y:=by
 have h:(x.toArray==y.toArray)=true:=h;simpa using aQ Array.toList (eq_of_beq h)
def Rd {E:uj}{p:Pl}{log:List En}{s:bP}{u:Un}{k:Nat}{a:List aj}{n:List Int}{q:aj}:(aU E p log s u k a n q).2=0\/(aU E p log s u k a n q).1=u:=by
 unfold aU;split;all_goals(try dsimp only)
 all_goals repeat' split
 all_goals first|exact .inl rfl|exact .inr rfl
def aa0 {E:uj}{p:Pl}{log:List En}{s:bP}{k:Nat}{a:List aj}{n:List Int}{q:aj}:(bs E p log s k a n q).2=0\/(bs E p log s k a n q).1=s:=by
 unfold bs;split
 case h_10=>
  split
  ·rename_i hx;obtain⟨j,hj,hl⟩:=Q9 hx;have hj:io s (a.getD 0 [])=(j:Nat):=hj;have hl:j<s.units.length:=by simpa [jp]using hl
   dsimp only;rw[hj,sP];rcases Rd (E:=E) (p:=p) (log:=log) (s:=s) (u:=s.units.getD j qa) (k:=k) (a:=a) (n:=n) (q:=q)with h|h
   ·exact .inl h
   ·by_cases hz:(aU E p log s (s.units.getD j qa) k a n q).2=0
    ·exact .inl hz
    ·rw[if_neg hz,h,jN,pj hl,vK,US];exact .inr rfl
  ·exact .inr rfl
 all_goals(try dsimp only)
 all_goals repeat' split
 all_goals first|exact .inl rfl|exact .inr rfl
def Om {p:Pl}{log:List En}{s:bP}{e:En}(h:(fh p log s e).2≠0):(fh p log s e).1=s:=by
 unfold fh at h ⊢;split
 ·rfl
 ·rename_i h1;rw[if_neg h1]at h;obtain⟨et,ew,tx⟩:=e
  rcases zF EE p log s et ew tx with⟨_,h2⟩|⟨_,_,_,_,h2⟩
  ·rw[h2]
  ·rw[h2]at h ⊢;unfold Oh at h ⊢;dsimp only at h ⊢;split
   ·rfl
   ·rename_i h3;rw[if_neg h3]at h;split
    ·rfl
    ·rename_i h4;rw[h4]at h;exact aa0.resolve_left h
open Classical in
noncomputable def Kt:List En->List En->Nat
 |a::ar,b::br=>if a=b then Kt ar br+1 else 0
 |_,_=>0
def On: ∀ {a b:List En} {i:Nat},i<=a.length->i<=b.length->(∀j<i,a.getD j dk=b.getD j dk)->(i=a.length\/i=b.length\/a.getD i dk≠b.getD i dk)->Kt a b=i
 | [],b,i,h1,_,_,_=>by
  have:i=0:=by simpa using h1
  subst this;unfold Kt;rfl
 |a::ar,[],i,_,h2,_,_=>by
  have:i=0:=by simpa using h2
  subst this;unfold Kt;rfl
 |a::ar,b::br,0,_,_,_,h4=>by
  have:a≠b:=by simpa using h4
  unfold Kt;rw[if_neg this]
 |a::ar,b::br,i+1,h1,h2,h3,h4=>by
  have h0:a=b:=h3 0 K0;unfold Kt;rw[if_pos h0,On (a:=ar) (b:=br) (i:=i) (by simpa using h1) (by simpa using h2) (λj hj=>h3 (j+1) K0) (by simpa using h4)]
noncomputable def Re (p:Pl):List En->bP->List Int->List En->Nat->List En × List Int
 |log,_,out,[],_=>(log,out)
 |log,s,out,e::r,i=>if(fh p log s e).2=0 then Re p (log++[e]) (fh p log s e).1 out r (i+1)else Re p log s (out++[(i:Int)]) r (i+1)
def Ku {p:Pl}{log:List En}{s:bP}{out:List Int}{b:List En}{i:Nat}(h:i<b.length):Re p log s out (b.drop i) i=if(fh p log s (b.getD i dk)).2=0 then Re p (log++[b.getD i dk]) (fh p log s (b.getD i dk)).1 out (b.drop (i+1)) (i+1)else Re p log s (out++[(i:Int)]) (b.drop (i+1)) (i+1):=by
 have hd:b.drop i=b.getD i dk::b.drop (i+1):=by rw[UM h];simp[jN,h]
 rw[hd];rfl
noncomputable def mg (p:Pl)(a b:List En):List En × List Int:=Re p a (AK p a) [] (b.drop (Kt a b)) (Kt a b)
def aa1 {p:Pl}{log:List En}{s:bP}{e:En}(h:(fh p log s e).2=0):log.length<60:=by
 unfold fh at h;split at h
 ·exact absurd (show(8:Int)=0 from h) K9
 ·omega
def aa2 {p:Pl}: ∀ {r log:List En} {s:bP} {out:List Int} {i:Nat},log.length<=60->∃t,(Re p log s out r i).1=log++t/\(Re p log s out r i).1.length <=60/\(Re p log s out r i).2.length <=out.length+r.length
 | [],log,s,out,i,h=>⟨[],(xS _).symm,h,dE _⟩
 |e::r,log,s,out,i,h=>by
  unfold Re;split
  ·rename_i hz;have:=aa1 hz;obtain⟨t,h1,h2,h3⟩:=aa2 (p:=p) (r:=r) (log:=log++[e]) (s:=(fh p log s e).1) (out:=out) (i:=i+1) wa;exact⟨e::t,by rw[h1];simp,h2,by simp only[jP];omega⟩
  ·obtain⟨t,h1,h2,h3⟩:=aa2 (p:=p) (r:=r) (log:=log) (s:=s) (out:=out++[(i:Int)]) (i:=i+1) h;exact⟨t,h1,h2,by simp only[sO,jP,xT]at h3 ⊢;omega⟩
def ag8 {p:Pl}{a:List En}{h:Nat}(hh:h<=a.length):mg p a (a.take h)=(a,[]):=by
 have hl:(a.take h).length =h:=by simp;omega
 have:Kt a (a.take h)=h:=On hh K0 (λj hj=>by simp[jN,PE,hj]) (.inr (.inl hl.symm));unfold mg;rw[this,Ly K0];rfl
def Ub {p:Pl}{a:List En}(hz:(cM p a).2.2=0): ∀ {n h:Nat},h<=a.length->a.length -h=n->Re p (a.take h) (AK p (a.take h)) [] (a.drop h) h=(a,[])
 |0,h,h1,h2=>by
  obtain rfl:h=a.length:=by omega
  rw[mA,Lx];rfl
 |n+1,h,h1,h2=>by
  have ak:h<a.length:=by omega
  have xp:a.take h++[a.getD h dk]=a.take (h+1):=ajm;obtain⟨q1,q2⟩:=aaZ hz ak;rw[Ku ak,if_pos q1,xp,<- q2];exact Ub hz (n:=n) ak K0
def ag9 {p:Pl}{a:List En}{h:Nat}(hz:(cM p a).2.2=0)(hh:h<=a.length):mg p (a.take h) a=(a,[]):=by
 have hl:(a.take h).length =h:=by simp;omega
 have:Kt (a.take h) a=h:=On K0 hh (λj hj=>by simp[jN,PE,hj]) (.inl hl.symm);unfold mg;rw[this];exact Ub hz hh rfl
def mU (p:Pl)(n:aj)(hl:p.ae.length<=1000):ac 108 [(true,bE p),SS n] (.one (I (if n∈p.ay then(p.ae.getD (bg p.ay n).toNat ([],0)).2 else -1))):=by
 have hn:(p.ae.map nh).length =p.ae.length:=by simp
 have AX:p.ay.length=p.ae.length:=by simp[Pl.ay]
 refine sF f108 ?_
 (try(refine tX 0 ?_;try exact Zt))
 refine af (ι:=Nat) (λi=>i<=p.ae.length/\n∉p.ay.take i) (λi=>p.ae.length -i) (λi=>⟨[(1,lS n),(2,pP 0),(5,vI i)],[(0,some (.box 27 ((bE p).map .st)))],1⟩) 0 Zc ⟨dD _,by simp⟩ ?_;rintro i ⟨hi,dp⟩;by_cases ak:i<p.ae.length
 ·have he:=aV (f:=nh) ak ([],0);have hg:p.ay.getD i []=(p.ae.getD i ([],0)).1:=by rw[getD_at ak,getD_at K0];simp[Pl.ay]
  have nX:=λe=>mN (l:=p.ay) (x:=n) (i:=i) K0 e dp;have FL:=iS (l:=p.ay) (i:=i) (x:=n) K0;rw[hg]at nX FL;generalize hpe:p.ae.getD i ([],0)=pe at*;obtain⟨pn,pr⟩:=pe;dsimp only at nX FL;by_cases hx:pn=n
  ·have hm:n∈p.ay:=CO (FL.2 (.inr hx.symm));rw[if_pos hm,nX hx,sP,hpe];exact K87
  ·exact K50
 ·obtain rfl:i=p.ae.length:=by omega
  rw[pc K0]at dp;rw[if_neg dp];exact tA
abbrev Rf (q:aj × Vb):List SC:=[T q.1,J q.2.role,J q.2.words,K q.2.rest]
def lk:ac 45 [] (.own 4 (.view (lW.map Rf))):=by
 refine sF f45 ?_;exact K1
def aha {s:aj}{n:Int}(h:wN false 7 s=some n):fP 7 s=some n/\0<=n/\(s.getD 0 0).toNat ≠45/\0<s.length:=by
 obtain⟨h1,h2⟩:=iH h;have h3:0<=n:=h2.resolve_left K9;exact⟨h1,h3,λe=>((qw h1).1 e) h3,yO h1⟩
def ahb {s:aj}(h:wN false 7 s=none):fP 7 s=none\/∃n,fP 7 s=some n/\n<0:=by
 cases e:fP 7 s with
 |none=>exact .inl rfl
 |some n=>
  refine .inr ⟨n,rfl,?_⟩;rw[Qe e]at h;by_cases h1:(s.getD 0 0).toNat =45
  ·have:=(qw e).1 h1;omega
  ·rw[if_neg h1]at h;cases h
def afm (o:Option (List Int)):List SV:=match o with
 |some n=>[(false,[.ints n]),Bo true]
 |none=>[(false,[.ints []]),Bo false]
def ln (l:List aj)(f:Nat)(hf:f<=l.length)(hl:l.length<=1000)(hx: ∀x∈l,x.length<=100000):ac 196 [V1 l,I f] (.aI (afm (jU (l.drop f)))):=by
 have hn:(ab l).length =l.length:=by simp
 have hu:(l.drop f).length =l.length -f:=by simp
 have eC:=EH (l.drop f);rw[EL];refine sF f196 ?_
 (try(refine tX 0 ?_;try exact Zt))
 refine af (ι:=Nat) (λi=>i<=(dV (l.drop f)).length) (λi=>l.length -i) (λi=>⟨[(0,some (.val (false,[.st (.view (ab l))]))),(6,pO 0),(7,vI ((f+i:Nat):Int))],[(0,some (.row true 1 (.ints ((dV (l.drop f)).take i))))],1⟩) 0 (bp.trans (iG 6 1 (.ints []) K9 rfl rfl rfl) Zc) (dD _) ?_;intro i hi;by_cases ak:f+i<l.length
 ·have he:=sA ak;have hd:(l.drop f).getD i []=l.getD (f+i) []:=by simp[jN]
  have hxl:(l.getD (f+i) []).length <=100000:=hx _ (zk ak);have c1:=iI (l.getD (f+i) []) 7 K9 K0;by_cases hp:i< (dV (l.drop f)).length
  ·have qc:=EI hp;rw[hd]at qc;obtain⟨g1,g2,g3,g4⟩:=aha qc;have xp:(dV (l.drop f)).take (i+1)=(dV (l.drop f)).take i++[(dV (l.drop f)).getD i 0]:=by rw[CQ,pj hp,jN,pj hp];rfl
   have htl:((dV (l.drop f)).take i).length =i:=by simp;omega
   rw[g1]at c1;generalize (dV (l.drop f)).getD i 0=v at*;generalize (dV (l.drop f)).take i=w at*;generalize l.getD (f+i) []=y at*;have c2:ac 148 [SS y,I (7:Nat)] (.aI [I v,Bo true]):=c1;exact ah7
  ·have hi2:(dV (l.drop f)).length =i:=by omega
   have dw:=w9 (u:=l.drop f) K0;rw[hi2,hd]at dw;rw[if_neg K0];generalize l.getD (f+i) []=y at*;rcases ahb dw with g|⟨n,g,g2⟩
   ·rw[g]at c1;have c2:ac 148 [SS y,I (7:Nat)] (.aI [I 0,Bo false]):=c1;exact tA
   ·rw[g]at c1;have c2:ac 148 [SS y,I (7:Nat)] (.aI [I n,Bo true]):=c1;exact tA
 ·have IG:(dV (l.drop f)).length =l.length -f:=by omega
  have:i=l.length -f:=by omega
  rw[pc K0,if_pos K0];exact tA
def JN (tx:aj):List aj × Int × Bool:=
 if 19<=lB ((aJ 32 tx).getD 0 [])then([],-1,false)else
 if((vb (lB ((aJ 32 tx).getD 0 []))).rest =false/\(aJ 32 tx).length ≠(vb (lB ((aJ 32 tx).getD 0 []))).words +1)\/((vb (lB ((aJ 32 tx).getD 0 []))).rest =true/\(aJ 32 tx).length < (vb (lB ((aJ 32 tx).getD 0 []))).words +2)then([],(lB ((aJ 32 tx).getD 0 []):Nat),false)else
 if []∈(aJ 32 tx).take ((vb (lB ((aJ 32 tx).getD 0 []))).words +1)then([],(lB ((aJ 32 tx).getD 0 []):Nat),false)
 else((aJ 32 tx).take ((vb (lB ((aJ 32 tx).getD 0 []))).words +1)++(if(vb (lB ((aJ 32 tx).getD 0 []))).rest then [cd ((vb (lB ((aJ 32 tx).getD 0 []))).words +1) tx]else []),(lB ((aJ 32 tx).getD 0 []):Nat),true)
abbrev xF:aj × Vb:=([],⟨0,0,0,false⟩)
def adX {w:aj}{i:Nat}(hi:i<19)(hn:w∉(lW.map Prod.fst).take i)(he:(lW.getD i xF).1=w):lB w=i:=by
 unfold lB;have ak:i< (lW.map Prod.fst).length :=hi;have hg:(lW.map Prod.fst)[i]=w:=by grind
 rw[List.idxOf,Ye ak];refine⟨by grind,λj hj=>?_⟩;have hv:lW.length=19:=rfl;have:(lW.map Prod.fst)[j]'K0∈(lW.map Prod.fst).take i:=IU.2 ⟨j,by grind,by simp⟩
 grind
def ahc {w:aj}(hn:w∉lW.map Prod.fst):19<=lB w:=by
 unfold lB;have:=List.idxOf_eq_length hn;rw[this];decide
def xi {α:Type}{l:List α}{i:Nat}(h:i<l.length){x d:α}:x∈l.take (i+1)↔x∈l.take i\/x=l.getD i d:=by grind[List.take_add_one]
def Ot: ∀k<19,(lW.getD k xF).2.words <=10:=by decide
def lq (tx:aj)(hl:tx.length<=10000):ac 12 [SS tx] (.aI [(false,[.view (ab (JN tx).1)]),I (JN tx).2.1,Bo (JN tx).2.2]):=by
 have c1:ac 44 [SS tx,(false,[.lit (.int .u8 32)])] (.own 1 (.view (ab (aJ 32 tx)))):=by
  have:=jY tx 32 K0
  grind[iR]
 have c2:=lk;have h1:=(cj 32 tx).1;have h2:=(cj 32 tx).2;have h3:=Lu.2 (ng 32 tx);have ahB:=λk hk=>Iy k tx hk;have Xl:(lW.map Rf).length =19:=rfl;have CE:=sA h3;unfold JN;generalize hws:aJ 32 tx=ws at*;have hn:(ab ws).length =ws.length:=by simp
 generalize hw:ws.getD 0 []=w0 at*;refine sF f12 ?_;repeat' ((first|refine tX 0 ?_|exact Zt|refine bR ?_ ?_<;>intro h)<;>(try conv=>whnf))
 refine af (ι:=Nat) (λi=>i<=19/\w0∉(lW.map Prod.fst).take i) (λi=>19 -i) (λi=>⟨[(0,lS tx),(5,pO 0),(6,pO 1),(7,vI i)],[(0,some (.row false 1 (.view (ab ws)))),(1,some (.row true 4 (.view (lW.map Rf))))],2⟩) 0 (bp.trans (cL 8 rfl) Zc) ⟨dD _,by simp⟩ ?_;rintro i ⟨hi,dp⟩;by_cases ak:i<19
 ·have he:=aV (f:=Rf) (l:=lW) ak xF;have nX:=λe=>adX ak dp e;have FL:=xi (l:=lW.map Prod.fst) (i:=i) (x:=w0) (d:=[]) ak;have hg:(lW.map Prod.fst).getD i []=(lW.getD i xF).1:=by grind
  rw[hg]at FL;have anW:vb i=(lW.getD i xF).2:=rfl;have hwi:=Ot i ak;generalize lW.getD i xF=q at*;obtain⟨nm,role,w,nu,rest⟩:=q;dsimp only at nX FL hwi;have he:(lW.map Rf)[i]? =some [T nm,J role,J (w:Nat),K rest]:=he;by_cases hx:nm=w0
  ·have hk:=nX hx;rw[hk,anW,if_neg K0];dsimp only;have c3:=dH (ws.take (w+1)) bv;by_cases hshape:(rest=false/\ws.length≠w+1)\/(rest=true/\ws.length<w+2)
   ·rw[if_pos hshape];cases rest
    ·have hs':ws.length≠w+1:=by grind
     exact tL
    ·have hs':ws.length<w+2:=by grind
     exact tL
   ·rw[if_neg hshape];have hsh:w+1<=ws.length:=by grind
    have hol:(ws.take (w+1)).length =w+1:=by grind
    have aoI:(ab (ws.take (w+1))).length =w+1:=by grind
    cases rest
    ·have hs':ws.length=w+1:=by grind
     repeat' ((first|refine tX 0 ?_|exact Zt|refine bR ?_ ?_<;>intro h)<;>(try conv=>whnf))
     all_goals try first|exact Zo|(exact absurd hx h)
     refine af (ι:=Nat) (λk=>k<=w+1/\[]∉(ws.take (w+1)).take k) (λk=>w+1 -k) (λk=>⟨[(0,lS tx),(5,pO 0),(7,vI i),(8,pP 1),(9,pO 2),(10,vI k)],[(0,some (.row false 1 (.view (ab ws)))),(1,some (.box 112 [.st (T nm),.st (J role),.st (J w),.st (K false)])),(2,some (.row true 1 (.view (ab (ws.take (w+1))))))],3⟩) 0 Zc ⟨dD _,by simp⟩ ?_;rintro k ⟨XD,Li⟩;by_cases xw:k<w+1
     ·have KS:=sA (l:=ws.take (w+1)) (i:=k) K0;have ahH:=xi (l:=ws.take (w+1)) (i:=k) (x:=[]) (d:=[]) K0;exact K52
     ·obtain rfl:k=w+1:=by omega
      rw[pc K0]at Li;rw[if_neg Li];rw[if_neg K9,xS];exact tL
    ·have hs':w+2<=ws.length:=by grind
     repeat' ((first|refine tX 0 ?_|exact Zt|refine bR ?_ ?_<;>intro h)<;>(try conv=>whnf))
     all_goals try first|exact Zo|(exact absurd hx h)
     refine af (ι:=Nat) (λk=>k<=w+1/\[]∉(ws.take (w+1)).take k) (λk=>w+1 -k) (λk=>⟨[(0,lS tx),(5,pO 0),(7,vI i),(8,pP 1),(9,pO 2),(10,vI k)],[(0,some (.row false 1 (.view (ab ws)))),(1,some (.box 112 [.st (T nm),.st (J role),.st (J w),.st (K true)])),(2,some (.row true 1 (.view (ab (ws.take (w+1))))))],3⟩) 0 Zc ⟨dD _,by simp⟩ ?_;rintro k ⟨XD,Li⟩;by_cases xw:k<w+1
     ·have KS:=sA (l:=ws.take (w+1)) (i:=k) K0;have ahH:=xi (l:=ws.take (w+1)) (i:=k) (x:=[]) (d:=[]) K0;exact K52
     ·obtain rfl:k=w+1:=by omega
      rw[pc K0]at Li;rw[if_neg Li];rw[if_pos rfl,qG,<- (ahB (w+1) K0).2];have h00:AM ws 0=0:=by cases ws<;>rfl
      repeat' ((first|refine tX 0 ?_|exact Zt|refine bR ?_ ?_<;>intro h)<;>(try conv=>whnf))
      all_goals try(exfalso;omega)
      refine af (ι:=Nat) (λm=>m<=w+1) (λm=>w+1 -m) (λm=>⟨[(0,lS tx),(5,pO 0),(7,vI i),(8,pP 1),(9,pO 2),(11,vI (AM ws m:Nat)),(12,vI m)],[(0,some (.row false 1 (.view (ab ws)))),(1,some (.box 112 [.st (T nm),.st (J role),.st (J w),.st (K true)])),(2,some (.row true 1 (.view (ab (ws.take (w+1))))))],3⟩) 0 (ai (by rw[h00];kernel_rfl)) (dD _) ?_;intro m hm;by_cases hml:m<w+1
      ·have hem:=sA (l:=ws) (i:=m) K0;have hsu:=Ix (l:=ws) (k:=m) K0;have hom:=(ahB m K0).1;have hyl:=h2 (ws.getD m []) (zk K0);generalize ws.getD m []=y at*;repeat' ((first|refine tX 0 ?_|exact Zt|refine bR ?_ ?_<;>intro h)<;>(try conv=>whnf))
       all_goals first|exact Zo|exact⟨m+1,hml,by omega,ai (by rw[hsu];kernel_rfl)⟩
      ·obtain rfl:m=w+1:=by omega
       have hom:=(ahB (w+1) K0).1;exact tL
  ·exact tL
 ·obtain rfl:i=19:=by omega
  have aod:w0∉lW.map Prod.fst:=dp;rw[if_pos (ahc aod)];exact tL
def Fg (l:List aj):Bool:=if(l.getD 0 []≠[115,104,111,99,107]/\l.getD 0 []≠[108,111,97,100])/\l.getD 0 []≠[103,97,115]then true else(jU (l.drop 2)).isSome
def aa3 (o:Option (List Int)): ∃n,afm o= [(false,[.ints n]),Bo o.isSome]/\n=o.getD []:=by
 cases o with
 |none=>exact⟨_,rfl,rfl⟩
 |some n=>exact⟨_,rfl,rfl⟩
def zI (l:List aj)(h0:0<l.length)(h2:Fg l=true\/2<=l.length)(hl:l.length<=1000)(hx: ∀x∈l,x.length<=100000)(hs:(l.getD 0 []≠[115,104,111,99,107]/\l.getD 0 []≠[108,111,97,100])/\l.getD 0 []≠[103,97,115]\/2<=l.length):ac 110 [V1 l] (.one (Bo (Fg l))):=by
 have hn:(ab l).length =l.length:=by simp
 have he:=sA h0;unfold Fg;generalize l.getD 0 []=w at*;by_cases h1:(w≠[115,104,111,99,107]/\w≠[108,111,97,100])/\w≠[103,97,115]
 ·rw[if_pos h1];obtain⟨⟨a,b⟩,c⟩:=h1;exact aco
 ·rw[if_neg h1];have c1:=ln l 2 (hs.resolve_left h1) hl hx;obtain⟨n,e1,e2⟩:=aa3 (jU (l.drop 2));rw[e1]at c1;generalize (jU (l.drop 2)).isSome =ok at*;have c2:ac 196 [V1 l,I 2] (.aI [(false,[.ints n]),Bo ok]):=c1;by_cases a:w= [115,104,111,99,107]
  ·subst a;exact aco
  ·by_cases b:w= [108,111,97,100]
   ·subst b;exact aco
   ·have c:w= [103,97,115]:=by
     grind
    subst c;exact aco
def Fh (l:List Rs)(x:Rs)(t:aj):iT (l++[x]) t=if sS t x then some x else iT l t:=by grind[iT]
abbrev bxU (u:Un):cD:=.box 44 ((ky u).map .st)
def o4 (u:Un)(t:aj)(hl:u.res.length<=1000000):ac 83 [(true,ky u),SS t] (.one (Bo (bL u.res t))):=by
 have hn:(u.res.map kF).length =u.res.length:=by simp
 refine sF f83 ?_
 (try(refine tX 0 ?_;try exact Zt))
 refine af (ι:=Nat) (λn=>n<=u.res.length/\iT u.res t=iT (u.res.take n) t) (λn=>n) (λn=>⟨[(1,lS t),(2,pP 0),(5,vI ((n:Nat) -1:Int))],[(0,some (bxU u))],1⟩) u.res.length (ai PF) ⟨dE _,by grind⟩ ?_;rintro n ⟨hi,hg⟩
 cases n with
 |zero=>
  have hv:bL u.res t=false:=by unfold bL;rw[hg];rfl
  rw[hv];exact tL
 |succ n=>
  have ak:n<u.res.length:=by omega
  have he:=aV (f:=kF) ak B5;have xp:u.res.take (n+1)=u.res.take n++[u.res.getD n B5]:=by simp_all
  rw[xp,Fh]at hg;generalize u.res.getD n B5=x at*;obtain⟨xt,xa,xe,xv⟩:=x;have he:(u.res.map kF)[n]? =some [T xt,J xa,J xe,K xv]:=he;unfold sS at hg;dsimp only at hg;by_cases hx:xt=t
  ·subst hx;cases xv
   ·rw[if_pos (by simp)]at hg;have hv:bL u.res xt=(xa==2):=by grind[bL]
    rw[hv];exact tL
   ·rw[if_neg (by simp)]at hg;exact K29
  ·rw[if_neg bv]at hg;exact K29
abbrev bxT (t:Ts):cD:=.box 54 ((fD t).map .st)
def Ky (u:Un)(t:Ts)(ht:t.bz.length<=1000)(hl:u.res.length<=1000000):ac 84 [(true,ky u),(true,fD t)] (.one (Bo (i6 u.res t))):=by
 have hn:(ab t.bz).length =t.bz.length:=by simp
 have hv:=λx=>o4 u x hl;have IF:i6 u.res t=t.bz.all (bL u.res):=rfl;rw[IF];refine sF f84 ?_
 (try(refine tX 0 ?_;try exact Zt))
 refine af (ι:=Nat) (λi=>i<=t.bz.length/\∀j<i,bL u.res (t.bz.getD j [])=true) (λi=>t.bz.length -i) (λi=>⟨[(2,pP 0),(3,pP 1),(5,vI i)],[(0,some (bxU u)),(1,some (bxT t))],2⟩) 0 Zc ⟨dD _,λj hj=>by omega⟩ ?_;rintro i ⟨hi,hp⟩;by_cases ak:i<t.bz.length
 ·have he:=sA ak;have hc:=hv (t.bz.getD i []);have hge:t.bz.getD i []=t.bz[i]:=by grind
  cases hx:bL u.res (t.bz.getD i [])
  ·have hal:t.bz.all (bL u.res)=false:=by
    grind
   rw[hal];exact aj5
  ·have it: ∀j<i+1,bL u.res (t.bz.getD j [])=true:=λj hj=>by
    grind
   exact aj5
 ·obtain rfl:i=t.bz.length:=by omega
  have hal:t.bz.all (bL u.res)=true:=by
   rw[wL];intro x hx;obtain⟨j,hj,rfl⟩:=IU.1 hx
   grind
  rw[hal];exact tL
def Fi (p:Pl)(u:Un)(hp:p.aa.length<=1000)(hl:u.res.length<=1000000):ac 35 [(true,bE p),(true,ky u)] (.own 1 (.view (ab (ui p u.res)))):=by
 have hn:(p.aa.map fD).length =p.aa.length:=by simp
 have hv:=λx=>o4 u x hl;refine sF f35 ?_
 (try(refine tX 0 ?_;try exact Zt))
 refine af (ι:=Nat) (λi=>i<=p.aa.length) (λi=>p.aa.length -i) (λi=>⟨[(2,pP 0),(3,pP 1),(5,pO 2),(6,vI i)],[(0,some (.box 27 ((bE p).map .st))),(1,some (bxU u)),(2,some (.row true 1 (.view (ab (((cS p.aa).take i).filter λt=> !bL u.res t)))))],3⟩) 0
  (bp.trans (iG 5 1 (.view []) K9 rfl rfl rfl) Zc) (dD _) ?_
 intro i hi;by_cases ak:i<p.aa.length
 ·have he:=iU ak;have xG:=EA (l:=u.res) ak;have hc:=hv (p.aa.getD i dz).name;have Xl:(((cS p.aa).take i).filter λt=> !bL u.res t).length <=i:=pd (LC _ _) wa;generalize ((cS p.aa).take i).filter (λt=> !bL u.res t)=out at*;generalize p.aa.getD i dz=t at*
  rcases t with⟨nm,kd,nd,ru,lo,lA⟩;have he:(p.aa.map fD)[i]? =some [T nm,J kd,.view (ab nd),T ru,J lo,J lA]:=he;dsimp only at xG hc;have hol:(ab out).length =out.length:=by simp
  cases hvv:bL u.res nm
  ·rw[hvv]at hc xG;rw[if_neg K9]at xG;exact K22
  ·rw[hvv]at hc xG;rw[if_pos rfl,xS]at xG;exact K30
 ·exact aiy
def sW {fn:Func}{f:FuncId}{c:Code}{args:List SV}{r:lO}(h:m8 cx c (entry args) (λS=>acV cx fn S λr'=>r'=r) (λ_ _=>False) (λS=>acV cx fn S λr'=>r'=r))
  (h1:iN cx.P f=true:=by kernel_rfl)(h2:cx.P.funcs[f]? =some fn:=by kernel_rfl)(h3:fn.body=some c:=by rfl)(h4:bS fn.ntmps c=true:=by kernel_rfl)(h5:args.length<=fn.ntmps:=by exact fO rfl):ac f args r:=
 MG lJ h1 h2 h3 h4 h5 h
def Fo: ∀ {k:Nat} {us:List Un} {i:Nat} {u:Un},us[i]? =some u->(bw k us).get (17+6*(k+i))=some (.row true 1 (.view (ab u.lots)))/\(bw k us).get (19+6*(k+i))=some (.row true 4 (.view (u.res.map kF)))/\(bw k us).get (21+6*(k+i))=some (.row true 5 (.view (u.gas.map vh)))
 |k,[],i,u,h=>by grind
 |k,v::us,0,u,h=>by
  simp at h;subst h;have e:bw k (v::us)=lC v (17+6*k) (19+6*k) (21+6*k)++bw (k+1) us:=rfl;rw[e];refine⟨?_,?_,?_⟩
  ·show Hp.get ((17+6*k,_)::_) (17+6*k)=_;exact LW
  ·show Hp.get ((17+6*k,_)::(19+6*k,_)::_) (19+6*k)=_;rw[Hp.jO K0,Hp.av,an]
  ·show Hp.get ((17+6*k,_)::(19+6*k,_)::(21+6*k,_)::_) (21+6*k)=_;rw[Hp.jO K0,Hp.jO K0,Hp.av,an]
 |k,v::us,i+1,u,h=>by
  obtain⟨h1,h2,h3⟩:=Fo (k:=k+1) (us:=us) (i:=i) (u:=u) bv;rw[show k+1+i=k+(i+1)by omega]at h1 h2 h3
  have sk: ∀n,23+6*k<=n->(bw k (v::us)).get n=(bw (k+1) us).get n:=λn hn=>by
   show Hp.get ((17+6*k,_)::(19+6*k,_)::(21+6*k,_)::bw (k+1) us) n=_
   grind[Hp.jO]
  grind
theorem Fp (u:Un): ∀c∈ky u,c.flat=true:=by
 intro c hc;simp only[ky,dl,nE,nF]at hc;rcases hc with rfl|rfl|rfl|rfl|rfl|rfl|rfl|rfl|rfl|rfl|rfl|rfl|rfl|rfl|rfl|rfl|rfl<;>rfl
theorem uL {H:HF}{R:List Nat}{u:Un}{a b c:Nat}(hR:a∈R/\b∈R/\c∈R)(ha:H a=some (.row true 1 (.view (ab u.lots))))(hb:H b=some (.row true 4 (.view (u.res.map kF))))(hc:H c=some (.row true 5 (.view (u.gas.map vh)))):
  ∀(k:Nat) (d:DC) (x:SC),(cU u a b c)[k]? =some d->(ky u)[k]? =some x->Full H R d x:=
 al (.st _)<|al (.st _)<|al (.st _)<|al (.st _)<|al (.st _)<|al (.st _)<|al (.st _)<|al (.st _)<|al (.st _)<|al (.st _)<|al (.row hR.1 ha)<|al (.row hR.2.1 hb)<|al (.st _)<|al (.st _)<|al (.st _)<|al (.st _)<|al (.row hR.2.2 hc) gv
def Rj {H:HF}{R:List Nat}{us:List Un}(h9:H 9=some (.aD 17 (az 0 us)))(hR9:9∈R)(hRr: ∀k∈ah (bw 0 us),k∈R)(hr: ∀k∈ah (bw 0 us),H k=(bw 0 us).get k):Full H R (.own 9) (.view (us.map ky)):=by
 have FO: ∀ {i:Nat} {e:List DC} {e':List SC},(az 0 us)[i]? =some e->(us.map ky)[i]? =some e'->∃u,us[i]? =some u/\e=cU u (17+6*(0+i)) (19+6*(0+i)) (21+6*(0+i))/\e'=ky u:=λ{i e e'} h h'=>by
  rw[gK,mZ]at h';obtain⟨u,hu,rfl⟩:=h';have:=vi (k:=0) hu
  grind
 refine .aD hR9 h9 (by rw[jj,eO]) (λi e e' h h'=>?_) (λi e e' k d c h h' hd hc=>?_) (λi e' k c h' hc=>?_)
 ·obtain⟨u,_,rfl,rfl⟩:=FO h h';rfl
 ·obtain⟨u,hu,rfl,rfl⟩:=FO h h';obtain⟨g1,g2,g3⟩:=Fo (k:=0) hu
  grind[Hp.dK,uL]
 grind[Fp]
abbrev sD (s:bP):List DC:=[.st (K s.volt),.st (K s.earth),.own 5,.st (T s.hall),.own 7,.own 9]
def vA {fid nx n':Nat}{p:Pl}{l:List En}{s:bP}{R hp:Hp}{E E':dG}{ks:List Nat}(hl:s.units.length<=1000)(hR:Go.Fw.eN (ah R)=true)(hRk:((ah R).all λk=>Nat.blt 0 (tag k)&&(!Nat.beq (tag k) (tag fid)&&Nat.blt (tag k) n'))=true)
  (hRg: ∀(id:Nat) (b:cD),R.get id=some b->hp.get id=some b/\b.dJ λk=>k∈ah R)(hn:Nat.blt 0 n'=true)(hE:dm (gh (aq (tag fid) 0) (form p l s) R) E.get ks=some E'):
  bp ⟨E,cB [] (cP (aq (tag fid) 0) (form p l s))++hp,nx⟩ ⟨E',R++form p l s,n'⟩:=by
 have hT:=zG (p:=p) (l:=l) hl
 have hX0: ∀k∈ah R,0<tag k/\tag k≠tag fid/\tag k<n':=λk hk=>by
  have:=wL.1 hRk k hk;simp only[sQ,vZ,Bool.not_eq_true']at this;refine⟨this.1,λe=>?_,this.2.2⟩;simp_all
 refine(acX (R:=R) (n':=n') hT (bY hR) (λk hk=>?_) hRg (by simp_all) hE).trans (zf ?_)
 ·obtain⟨h1,h2,h3⟩:=hX0 k hk;exact⟨λh=>by have:=(hT.lt k h).2.2;omega,h2,h3⟩
 ·have:=oT (A:=form p l s) (F':=R) (B:=[]) (λn hn hm=>by
   have h1:=(hX0 n hn).1;have h2:=(hT.lt n hm).2.2
   omega)
  grind
abbrev amf:DX:=(false,[.st (.lit (.pointer none))])
def abk {H:HF}{p:Pl}{l:List En}{s:bP}(hu:s.units.length<=1000)(h1:H 1=(form p l s).get 1)(h3:H 3=(form p l s).get 3)(h5:H 5=(form p l s).get 5)(h7:H 7=(form p l s).get 7)(h9:H 9=(form p l s).get 9)(hr: ∀k∈ah (bw 0 s.units),H k=(bw 0 s.units).get k):
  cZ (nL (ah (form p l s)) λk=>k) H (form p l s).get :=by
 have hT:=ci p l hu
 have hk: ∀k∈ah (form p l s),H k=(form p l s).get k:=λk hk=>by
  rw[qA]at hk;simp only[dl]at hk;rcases hk with rfl|rfl|rfl|rfl|rfl|h'
  ·exact h9
  ·exact h1
  ·exact h3
  ·exact h5
  ·exact h7
  ·exact(hr k h').trans (ir.get (H:=form p l s) K46 (gY hu) k h').symm
 obtain⟨a,b,c⟩:=qN hT;refine⟨a,b,λn b' e=>?_⟩;obtain⟨o,b2,q1,q2,q3⟩:=c n b' e;exact⟨o,b2,q1,(hk o (gg.1 q1).1).trans q2,q3⟩
def Ee {p:Prop}(h:p:=by repeat first|exact ir.base _|refine ir.step rfl ?_):p:=h
def KK {H:Hp}{us:List Un}{k:Nat}{u:Un}(hE:ir H (bw 0 us))(hu:us.length<=1000)(hk:us[k]? =some u):H.get (17+6*(0+k))=some (.row true 1 (.view (ab u.lots)))/\H.get (19+6*(0+k))=some (.row true 4 (.view (u.res.map kF)))/\H.get (21+6*(0+k))=some (.row true 5 (.view (u.gas.map vh))):=by
 obtain⟨g1,g2,g3⟩:=Fo (k:=0) hk;exact⟨(hE.get (gY hu) _ (Hp.dK g1)).trans g1,(hE.get (gY hu) _ (Hp.dK g2)).trans g2,(hE.get (gY hu) _ (Hp.dK g3)).trans g3⟩
def Ex {p:Prop}(h:p:=by exact⟨_,abk hu rfl rfl rfl rfl rfl (λk hk=>ir.get (by repeat first|exact ir.base _|refine ir.step rfl ?_) (gY hu) k hk),_,rfl,rfl⟩):p:=h
section
variable {p:Pl}{l:List En}(hs:ii p)(hP:(p.err jL).2=0->PB p)(hl:l.length<=1000)(ht: ∀e∈l,e.text.length<=100000)
include hs hP hl ht
theorem KL (hz:(cM p l).2.2≠0)(H:HF)(fid:Nat):bX cx fid 51 [dyn (true,bE p),(false,[.st (.view (l.map be))])] H (.aI [amf,dyn (I (cM p l).2.1),dyn (I (cM p l).2.2)]) [] []:=by
 have c1:=Oj H fid hs hP hl ht;generalize cM p l=y at*;obtain⟨s,i,z⟩:=y;rw[show Rb (s,i,z)= .aI [amf,dyn (I (i:Nat)),dyn (I z)]from if_neg hz,show Kq p l (s,i,z)= []from if_neg hz]at c1;exact c1
theorem qQ {s:bP}{i:Nat}(h:cM p l=(s,i,0))(H:HF)(fid:Nat):bX cx fid 51 [dyn (true,bE p),(false,[.st (.view (l.map be))])] H (.aI [(false,[.ptr (aq (tag fid) 0 1) 0]),dyn (I (0:Nat)),dyn (I 0)]) (cB [] (cP (aq (tag fid) 0) (form p l s))) []:=by
 have c1:=Oj H fid hs hP hl ht;rw[h]at c1;exact c1
omit hs hl ht in
theorem kD {s:bP}{i:Nat}(h:cM p l=(s,i,0)):SB p l s/\s.units.length<=1000:=by
 have:=(Ks (l:=l) hP (by rw[h])).1;rw[h]at this;have hu:=this.units;exact⟨this,by dsimp only at hu;omega⟩
variable {x:aj}(hx:x.length<=1000)
include hx
theorem W7 {s:bP}{i:Nat}(h:cM p l=(s,i,0))(hn:jK x){k:Nat}(hi:bg (s.units.map Un.name) x=(k:Nat)):bx cx 47 1 [dyn (true,bE p),(false,[.st (.view (l.map be))]),dyn (SS x)] [] [] (.aI [(false,[.ptr 1 0]),(false,[.cI 9 17 k 0]),dyn (I 0)]) (form p l s):=by
 have c1:=gi x K0;have c2:=qQ hs hP hl ht h;obtain⟨_,hu⟩:=kD hP h;have c3:=λfid H=>T6 (fid:=fid) (H:=H) hu hi;unfold jG at c1;rw[if_pos hn]at c1;refine gR f47 ?_;refine aS ?_;(refine aR ?_;conv=>whnf);(try(refine tX 2 ?_;try exact Zt));refine aM ?_;(refine aR ?_;conv=>whnf);repeat((first|(refine kO 7 rfl ?_;first|refine Rw (c2 _ _) ?_)|refine tX 2 ?_|exact Zt);(try conv=>whnf))
 refine⟨_,vA (R:=[]) (E':=[(2,lS x),(9,pP 1),(11,vI 0)]) (ks:=[2,9,11]) (n':=1000) hu rfl rfl (λid b e=>by simp[Hp.get]at e) rfl cT,?_⟩;exact K97
omit hs hP hl ht hx in
theorem ad4: ∀y∈[dyn (true,bE p),(false,[.st (.view (l.map be))]),dyn (SS x)],eh (λ_=>False) y:=λy hy=>by
 simp only[dl,nE,nF]at hy;rcases hy with rfl|rfl|rfl
 ·exact bD _
 ·exact ajp
 ·exact bD _
theorem amg {s:bP}{i:Nat}(h:cM p l=(s,i,0))(hn:jK x){k:Nat}(hi:bg (s.units.map Un.name) x=(k:Nat))(H:HF)(fid:Nat):bX cx fid 47 [dyn (true,bE p),(false,[.st (.view (l.map be))]),dyn (SS x)] H (.aI [(false,[.ptr (aq (tag fid) 0 1) 0]),(false,[.cI (aq (tag fid) 0 9) 17 k 0]),dyn (I 0)]) (cB [] (cP (aq (tag fid) 0) (form p l s))) []:=by
 obtain⟨_,hu⟩:=kD hP h;refine Go.Fw.mw (W7 hs hP hl ht hx h hn hi) (zG hu) ad4 λy hy=>?_;simp only[dl,nE,nF]at hy;rcases hy with rfl|rfl|rfl
 ·exact anj
 ·intro d hd;have:d= .cI 9 17 k 0:=by simpa using hd
  subst this;show 9∈ah (form p l s);rw[qA];exact jx
 ·exact bD _
theorem wH {s:bP}{i:Nat}(h:cM p l=(s,i,0))(hn:jK x){k:Nat}(hi:bg (s.units.map Un.name) x=(k:Nat)){u:Un}(hk:s.units[k]? =some u):
  ac 29 [(true,bE p),(false,[.view (l.map be)]),SS x] (.aI [(false,[.view (ab (ui p u.res))]),I 0]):=by
 have c2:=amg hs hP hl ht hx h hn hi;obtain⟨hS,hu⟩:=kD hP h;have hr:u.res.length<=1000000:=by have:=(hS.unit u (jI hk)).len;omega
 have hp:=hs.te;obtain⟨M,hM⟩: ∃M,ui p u.res=M:=⟨_,rfl⟩;rw[hM];refine sW (fn:=f29) ?_;refine aS ?_;(refine aR ?_;conv=>whnf);(try(refine tX 2 ?_;try exact Zt));refine aM ?_;(refine aR ?_;conv=>whnf);repeat((first|(refine kO 7 rfl ?_;first|refine Rw (c2 _ _) ?_)|refine tX 2 ?_|exact Zt);(try conv=>whnf))
 refine⟨_,vA (R:=[]) (E':=[(8,pP 1),(9,some (.val (false,[.cI 9 17 k 0]))),(10,vI 0)]) (ks:=[8,9,10]) (n':=1000) hu rfl rfl (λid b e=>by simp[Hp.get]at e) rfl cT,?_⟩;repeat' ((first|(refine kO 7 rfl ?_;first|refine im (λ_ z=>⟨_,_,_,(vq hM K0 hr rfl rfl rfl (vi hk) (KK Ee hu hk).1 (KK Ee hu hk).2.1 (KK Ee hu hk).2.2),z⟩) ?_)|refine tX 0 ?_|exact Zt|refine bR ?_ ?_<;>intro h)<;>(try conv=>whnf))
 all_goals first|exact Zo|exact⟨[(false,[.view (ab M)]),I 0],[_],bd ⟨rfl,rfl,al (.row jx rfl) gv⟩ (bd (ig _) gz),rfl,rfl⟩
end
def OR {a b:Int × Int}:(o8 a b).2=0↔a.2=0/\b.2=0:=by
 unfold o8;by_cases h:a.2=0
 ·rw[if_neg (FZ h)];exact⟨λe=>⟨h,e⟩,λe=>e.2⟩
 ·rw[if_pos h];exact⟨λe=>absurd e h,λe=>absurd e.1 h⟩
def Uo {c:Prop} [Decidable c]{k:Int}(h:(if c then(0:Int)else k)=0)(hk:k≠0):c:=by
 by_cases e:c
 ·exact e
 ·rw[if_neg e]at h;exact absurd h hk
def ahi {α:Type}{l:List α}{i:Nat}{d:α}(h:i<l.length):l.getD i d∈l:=by rw[jN,pj h];exact qd _
def sq {α:Type}{l:List α}{x d:α}(h:x∈l): ∃i,i<l.length/\l.getD i d=x:=by
 obtain⟨i,hi,e⟩:=IU.1 h;exact⟨i,hi,by rw[jN,pj hi];exact e⟩
section
variable {p:Pl}
def OS (h:(p.err jL).2=0):(∀i<p.ae.length,p.dx i=0)/\(∀i<p.aa.length,p.gE jL i=0)/\0<=p.eK/\p.eK<=1000000000000:=by
 unfold Pl.err at h;obtain⟨_,h⟩:=OR.1 h;obtain⟨h2,h⟩:=OR.1 h;obtain⟨_,h⟩:=OR.1 h;obtain⟨_,h⟩:=OR.1 h;obtain⟨_,h⟩:=OR.1 h;obtain⟨h6,h⟩:=OR.1 h;obtain⟨_,h⟩:=OR.1 h;obtain⟨_,h9⟩:=OR.1 h;exact⟨oR h2,oR h6,(Uo h9 K9).2⟩
def KN (h:(p.err jL).2=0): ∀q∈p.ae,0<=q.2:=λq hq=>by
 obtain⟨i,hi,e⟩:=sq (d:=([],0)) hq;have:=(OS h).1 i hi;unfold Pl.dx at this;have:=Uo (wt.1 this).2 K9;rw[<- e];exact this.1
def Up {l:List aj}(h: ∀i<l.length,gW l i=0){i j:Nat}(Pv:i<j)(hj:j<l.length):l.getD i []≠l.getD j []:=λe=>by
 have h1:=(wt.1 (h j hj)).2;have hi:i<l.length:=by omega
 have hm:l.getD j []∈l.take j:=by
  rw[<- e];refine IU.2 ⟨i,by rw[LH];omega,?_⟩;rw[List.getElem_take];simp[jN,hi]
 rw[if_pos hm]at h1;exact absurd h1 K9
theorem OT (hs:ii p)(h:(p.err jL).2=0):PB p:=by
 obtain⟨_,ht,hl⟩:=OS h;have hT: ∀i<p.aa.length,gW (cS p.aa) i=0/\VF jL p.aa i=0:=λi hi=>wt.1 (ht i hi);have bG:(cS p.aa).length =p.aa.length:=by simp[cS]
 refine⟨hs.pe,hs.ga,hs.te,hs.pa,λq hq=>?_,λt Lg=>?_,hl,λt Lg=>?_,λt Lg=>?_,λt Lg t' ht2 e=>?_,λt Lg hk=>?_⟩
 ·obtain⟨i,hi,e⟩:=sq (d:=([],[])) hq;rw[<- e];exact hs.qv i hi
 ·obtain⟨i,hi,e⟩:=sq (d:=dz) Lg;rw[<- e];exact hs.td i hi
 ·obtain⟨i,hi,e⟩:=sq (d:=dz) Lg;rw[<- e];exact hs.tr i hi
 ·obtain⟨i,hi,e⟩:=sq (d:=dz) Lg;have:=Uo (wt.1 (hT i hi).2).1 K9;rw[<- e];exact this
 ·obtain⟨i,hi,e1⟩:=sq (d:=dz) Lg;obtain⟨j,hj,e2⟩:=sq (d:=dz) ht2;have g1:=rM hi;have g2:=rM hj;rw[e1]at g1;rw[e2]at g2;rcases SN i j with Pv|rfl|Pv
  ·exact absurd (by rw[g1,g2,e]) (Up (λk hk=>(hT k K0).1) Pv K0)
  ·rw[<- e1,<- e2]
  ·exact absurd (by rw[g1,g2,e]) (Up (λk hk=>(hT k K0).1) Pv K0)
 ·obtain⟨i,hi,e1⟩:=sq (d:=dz) Lg;have vX:=(hT i hi).2;unfold VF at vX;dsimp only at vX;rw[e1]at vX;obtain⟨_,h2⟩:=wt.1 vX;obtain⟨ha,h3⟩:=wt.1 h2;obtain⟨hc,_⟩:=wt.1 h3;unfold Qj at hc;rw[if_pos hk]at hc
  cases hn:t.bz with
  |nil=>rw[hn,if_pos (by rfl)]at hc;exact absurd hc K9
  |cons n0 nd=>
   rw[hn]at hc ha;rw[if_neg (by simp)]at hc;have hc:=Uo hc K9
   have hm:n0∈(cS p.aa).take i:=by
    have:=oR (f:=D4 (n0::nd) ((cS p.aa).take i)) ha 0 (by simp);unfold D4 at this;by_cases g:(n0::nd).getD 0 []∈(cS p.aa).take i
    ·exact g
    ·rw[if_neg g]at this;exact absurd this K9
   obtain⟨k,qR,ek⟩:=ld (CO hm);have ek':bg (cS p.aa) ((n0::nd).getD 0 [])=(k:Int):=ek;rw[ek',sP]at hc;refine⟨n0,nd,rfl,p.aa.getD k dz,ahi (by rw[<- bG];exact qR),?_,hc⟩;rw[<- rM (by rw[<- bG];exact qR)]
   have hko:k=(cS p.aa).idxOf n0:=by
    unfold bg at ek;rw[if_pos (CO hm)]at ek;omega
   subst hko;rw[getD_at qR];exact List.getElem_idxOf qR
end
abbrev wkS (p:Pl)(log:List En)(s:bP):List SC:=[.view (p.ae.map nh),.view (ab p.ap),.view (p.aa.map fD),.view (p.parts.map mj),J p.dZ,J p.eK,.view (log.map be)]++uk s
def wiF (us:List Un)(x:aj):List aj:=(us.filter λu=>decide (x∈u.lots)).map Un.name
def abn {us:List Un}{i:Nat}(h:i<us.length)(x:aj):wiF (us.take (i+1)) x=wiF (us.take i) x++(if x∈(us.getD i qa).lots then [(us.getD i qa).name]else []):=by
 have e:us.take (i+1)=us.take i++[us.getD i qa]:=by rw[CQ,pj h];simp[jN,h]
 unfold wiF;rw[e,SG,zZ];congr 1;generalize us.getD i qa=u;by_cases hx:x∈u.lots<;>simp[hx]
def abo (p:Pl)(log:List En)(s:bP)(x:aj)(hl:s.units.length<=1000)(hu: ∀u∈s.units,u.lots.length<=1000):ac 56 [(false,[.ref (wkS p log s)]),SS x] (.own 1 (.view (ab (TF s x)))):=by
 obtain⟨volt,earth,opens,hall,lots,us⟩:=s;have hn:(us.map ky).length =us.length:=by simp
 have hl:us.length<=1000:=hl;refine sF f56 ?_
 (try(refine tX 0 ?_;try exact Zt))
 refine af (ι:=Nat) (λi=>i<=us.length) (λi=>us.length -i) (λi=>⟨[(1,lS x),(5,pO 0),(12,some (.val (false,[.st (.view (us.map ky))]))),(13,vI us.length),(14,vI i)],[(0,some (.row true 1 (.view (ab (wiF (us.take i) x)))))],1⟩) 0
  (bp.trans (iG 5 1 (.view []) K9 rfl rfl rfl) (ai PF)) (dD _) ?_
 intro i hi;by_cases ak:i<us.length
 ·have he:=aV (f:=ky) ak qa;have xG:=abn ak x;have hc:=bI (us.getD i qa).lots x (by have:=hu (us.getD i qa) afJ;omega)
  have Xl:(wiF (us.take i) x).length <=i:=by
   unfold wiF;rw[jj];exact pd (LC _ _) wa
  generalize wiF (us.take i) x=out at*;generalize us.getD i qa=u at*;obtain⟨nm,⟨k1,t1,s1,r1,k2,t2,s2,r2,st⟩,ul,re,fa,rl,sh,ud,ga⟩:=u;dsimp only at xG hc;have hol:(ab out).length =out.length:=by simp
  by_cases hv:x∈ul
  ·rw[fL hv]at hc;rw[if_pos hv]at xG;exact K22
  ·rw[fj hv]at hc;rw[if_neg hv,xS]at xG;exact K30
 ·obtain rfl:i=us.length:=by omega
  rw[mA];exact tA
def Xa {H:HF}{fid:Nat}{p:Pl}{l:List En}{s:bP}(x:aj)(hl:s.units.length<=1000)(hu: ∀u∈s.units,u.lots.length<=1000)(h1:H 1=(form p l s).get 1)(h3:H 3=(form p l s).get 3)(h5:H 5=(form p l s).get 5)(h7:H 7=(form p l s).get 7)(h9:H 9=(form p l s).get 9)(hr: ∀k∈ah (bw 0 s.units),H k=(bw 0 s.units).get k):
  bX cx fid 56 [(false,[.ptr 1 0]),(false,[.st (T x)])] H (Fw.bm (.own fid)) [(fid,some (.row true 1 (.view (ab (TF s x)))))] (1::3::5::7::9::ah (bw 0 s.units)):=
 iP (bd (kg (.box (by simp) (h1.trans rfl) rfl (al (.st _)<|al (.st _)<|al (.st _)<|al (.st _)<|al (.st _)<|al (.st _)<|al (.row (by simp) (h3.trans rfl))<|al (.st _)<|al (.st _)<|al (.row (by simp) (h5.trans rfl))<|al (.st _)<|al (.row (by simp) (h7.trans rfl))<|al (Rj (h9.trans rfl) (by simp) (λk hk=>by simp only[dl];exact .inr (.inr (.inr (.inr (.inr hk))))) hr) gv))) (bd (kg (.st _)) gz)) (abo p l s x hl hu) (EB _) ⟨rfl,rfl,rfl⟩
def KO {p:Pl}{l:List En}(hs:ii p)(hP:(p.err jL).2=0->PB p)(hl:l.length<=1000)(ht: ∀e∈l,e.text.length<=100000){x:aj}(hx:x.length<=1000){s:bP}{i:Nat}(h:cM p l=(s,i,0))(hn:jK x)(hi:x∈s.lots):
  ac 18 [(true,bE p),(false,[.view (l.map be)]),SS x] (.aI [(false,[.view (ab (TF s x))]),I 0]):=by
 have c1:=gi x K0;have c2:=qQ hs hP hl ht h;obtain⟨hS,hu⟩:=kD hP h;have c4:=bI s.lots x (by have:=hS.lots;omega);have c5:=λfid H=>Xa (fid:=fid) (H:=H) (p:=p) (l:=l) x hu (λu h=>by have:=(hS.unit u h).lots;omega);unfold jG at c1;rw[if_pos hn]at c1;rw[fL hi]at c4;refine sW (fn:=f18) ?_;refine aS ?_;(refine aR ?_;conv=>whnf);(try(refine tX 2 ?_;try exact Zt));refine aM ?_;(refine aR ?_;conv=>whnf);repeat((first|(refine kO 7 rfl ?_;first|refine Rw (c2 _ _) ?_)|refine tX 2 ?_|exact Zt);(try conv=>whnf))
 refine⟨_,vA (R:=[]) (E':=[(2,lS x),(8,pP 1),(10,vI 0)]) (ks:=[2,8,10]) (n':=1000) hu rfl rfl (λid b e=>by simp[Hp.get]at e) rfl cT,?_⟩;repeat' ((first|(refine kO 7 rfl ?_;first|refine im (λ_ z=>⟨_,_,_,(c5 _ _ rfl rfl rfl rfl rfl (λk hk=>ir.get Ee (gY hu) k hk)),z⟩) ?_)|refine tX 0 ?_|exact Zt|refine bR ?_ ?_<;>intro h)<;>(try conv=>whnf))
 all_goals first|exact Zo|exact⟨[(false,[.view (ab (TF s x))]),I 0],[_],bd ⟨rfl,rfl,al (.row jx rfl) gv⟩ (bd (ig _) gz),rfl,rfl⟩
end Go.Proofs.Tryz
