import Derived.Test.YtackacoaaihcjaaGreatDoorPkF11
import Derived.Test.YtackacoaaihcjaaGreatDoorPkF16
import Derived.Test.YtackacoaaihcjaaGreatDoorPkF19
set_option linter.all false
set_option maxRecDepth 100000
set_option maxHeartbeats 8000000
namespace Go.Proofs.Tryz
open Go.Fw Go.IntWalk Go.Plain
def QK (x:Ts)(n:aj):ac 136 [(true,fq x),(false,[.ref [T n]])] (.one (Bo (decide (x.name=n)))):=by
 refine sF f136 ?_;exact tL
def NO (ps:List Ts)(n:aj)(hl:ps.length<=1000):ac 135 [(false,[.view (ps.map fq)]),Le 136 [[T n]]] (.one (I (aZ (ps.map Ts.name) n))):=by
 have hn:(ps.map fq).length =ps.length:=by simp
 have AP:(ps.map Ts.name).length =ps.length:=by simp
 refine sF f135 ?_
 (try(refine tX 0 ?_;try exact Zt))
 refine af (ι:=Nat) (λi=>i<=ps.length/\n∉(ps.map Ts.name).take i) (λi=>ps.length -i) (λi=>⟨[(0,some (.val (false,[.st (.view (ps.map fq))]))),(1,vF 136 [[T n]]),(7,vI ps.length),(8,vI i)],[],0⟩) 0 (ai PD) ⟨dM _,by simp⟩ ?_;rintro i ⟨hi,dy⟩;by_cases ak:i<ps.length
 ·have he:=bg (f:=fq) ak dk;have hg:(ps.map Ts.name).getD i []=(ps.getD i dk).name :=by rw[getD_at ak,getD_at K0];simp
  have nM:=λe=>mK (l:=ps.map Ts.name) (x:=n) (i:=i) K0 e dy;have FP:=iM (l:=ps.map Ts.name) (i:=i) (x:=n) K0;rw[hg]at nM FP;have hp1:=QK (ps.getD i dk) n;by_cases hx:(ps.getD i dk).name =n
  ·exact afW
  ·exact af3
 ·obtain rfl:i=ps.length:=by omega
  rw[o0 K0]at dy;rw[eN dy];exact tL
def gA (p:Pl)(n:aj):Ts:=if n∈(cL p.aa)then p.aa.getD (aZ (cL p.aa) n).toNat dk else dk
def EJ (p:Pl)(n:aj)(hl:p.aa.length<=1000):ac 70 [(true,bU p),SS n] (.aJ [(true,fq (gA p n)),Bo (decide (n∈(cL p.aa)))]):=by
 have Xk:=NO p.aa n hl;have hq:p.aa.map Ts.name=(cL p.aa):=rfl;have pG:(p.aa.map fq).length =p.aa.length:=by simp
 rw[hq]at Xk;by_cases h:n∈(cL p.aa)
 ·obtain⟨k,hk,e⟩:=k7 h;have uI:k<p.aa.length:=by simpa [cL]using hk
  have hd:gA p n=p.aa.getD k dk:=by unfold gA;rw[if_pos h,e,p8]
  have RR:=bg (f:=fq) uI dk;rw[e]at Xk;rw[hd,fG h];refine sF f70 ?_;exact tL
 ·have hd:gA p n=dk:=by unfold gA;rw[if_neg h]
  rw[eN h]at Xk;rw[hd,eU h];refine sF f70 ?_;exact tL
def Z7 (x:aj × Int)(FN:Int)(n tx:aj):ac 105 [(true,na x),(false,[.ref [J FN,T n,T tx]])] (.one (Bo (decide (x.1=n)))):=by
 refine sF f105 ?_;exact tL
def lZ (ps:List (aj × Int))(FN:Int)(n tx:aj)(hl:ps.length<=1000):ac 104 [(false,[.view (ps.map na)]),Le 105 [[J FN,T n,T tx]]] (.one (I (aZ (ps.map Prod.fst) n))):=by
 have hn:(ps.map na).length =ps.length:=by simp
 have AP:(ps.map Prod.fst).length =ps.length:=by simp
 refine sF f104 ?_
 (try(refine tX 0 ?_;try exact Zt))
 refine af (ι:=Nat) (λi=>i<=ps.length/\n∉(ps.map Prod.fst).take i) (λi=>ps.length -i) (λi=>⟨[(0,some (.val (false,[.st (.view (ps.map na))]))),(1,vF 105 [[J FN,T n,T tx]]),(7,vI ps.length),(8,vI i)],[],0⟩) 0 (ai PD) ⟨dM _,by simp⟩ ?_;rintro i ⟨hi,dy⟩;by_cases ak:i<ps.length
 ·have he:=bg (f:=na) ak ([],0);have hg:(ps.map Prod.fst).getD i []=(ps.getD i ([],0)).1:=by rw[getD_at ak,getD_at K0];simp
  have nM:=λe=>mK (l:=ps.map Prod.fst) (x:=n) (i:=i) K0 e dy;have FP:=iM (l:=ps.map Prod.fst) (i:=i) (x:=n) K0;rw[hg]at nM FP;have hp1:=Z7 (ps.getD i ([],0)) FN n tx;by_cases hx:(ps.getD i ([],0)).1=n
  ·exact afW
  ·exact af3
 ·obtain rfl:i=ps.length:=by omega
  rw[o0 K0]at dy;rw[eN dy];exact tL
def J6 (u:Un)(l:List aj)(hl:l.length<=1000)(hr:u.res.length<=1000000):ac 226 [V1 l,Le 228 [[.ref (kz u)]]] (.one (I (H8 u.res l))):=by
 have hn:(ab l).length =l.length:=by simp
 refine sF f226 ?_
 (try(refine tX 0 ?_;try exact Zt))
 refine af (ι:=Nat) (λi=>i<=l.length/\∀j<i,bH u.res (l.getD j [])=true) (λi=>l.length -i) (λi=>⟨[(0,some (.val (false,[.st (.view (ab l))]))),(1,vF 228 [[.ref (kz u)]]),(7,vI l.length),(8,vI i)],[],0⟩) 0 (ai PD) ⟨dM _,λj hj=>by omega⟩ ?_;rintro i ⟨hi,hp⟩;by_cases ak:i<l.length
 ·have he:=sA ak;have hv:=QF u (l.getD i []) hr;have hge:l.getD i []=l[i]:=by rw[jP,oX ak,sZ]
  cases hx:bH u.res (l.getD i [])
  ·rw[hx]at hv
   have hf:H8 u.res l=i:=by
    unfold H8
    have h1:l.all (bH u.res)=false:=by
     rw[Bool.eq_false_iff];intro h;rw[ww]at h;have:=h _ (pH ak);rw[<- hge,hx]at this;cases this
    rw[h1]
    have h2:l.findIdx (λt=> !bH u.res t)=i:=by
     rw[X7 ak];refine⟨by rw[<- hge,hx];rfl,λj hj=>?_⟩;have:=hp j hj;rw[jP,oX K0,sZ]at this;rw[this];rfl
    rw[h2];rfl
   rw[hf];exact tL
  ·rw[hx]at hv
   have iU: ∀j<i+1,bH u.res (l.getD j [])=true:=λj hj=>by
    rcases Si.1 hj with h'|rfl
    ·exact hp j h'
    ·exact hx
   exact tL
 ·obtain rfl:i=l.length:=by omega
  have hf:H8 u.res l= -1:=by
   unfold H8;rw[if_pos];rw[ww];intro x hx;obtain⟨j,hj,rfl⟩:=CI.1 hx;have:=hp j hj;rwa [jP,oX hj,sZ]at this
  rw[hf];exact tL
def QL (u:Un)(l:List aj)(hl:l.length<=1000)(hr:u.res.length<=1000000):ac 227 [V1 l,Le 228 [[.ref (kz u)]]] (.one (Bo (!l.all (bH u.res)))):=by
 have hi:=J6 u l hl hr;unfold H8 at hi;refine sF f227 ?_;cases h:l.all (bH u.res)
 ·rw[h]at hi;exact tL
 ·rw[h]at hi;exact tL
def NP (u:Un)(t:Ts)(hl:t.bu.length<=1000)(hr:u.res.length<=1000000):ac 157 [UR u,(true,fq t)] (.one (Bo (iV u.res t))):=by
 have hi:=QL u t.bu hl hr;refine sF f157 ?_;repeat' ((first|refine tX 0 ?_|exact Zt|refine bR ?_ ?_<;>intro h)<;>(try conv=>whnf))
 all_goals exact gX (by unfold iV;simp)
abbrev enX (e:En):SV:=(true,cY e)
def QM (s:aj):(Lib.cut s [32]).1=(ar 32 s).getD 0 []:=by grind[uR]
def J7 (log:List En):(log.length=0/\il log=0)\/∃k,log.length=k+1/\(log.map cY)[k]? =some (cY (log.getD k ⟨0,[],[]⟩))/\il log=(log.getD k ⟨0,[],[]⟩).t :=by
 by_cases h:log.length=0
 ·refine .inl ⟨h,?_⟩;rw[CG.1 h];rfl
 ·refine .inr ⟨log.length -1,by omega,bg K0 _,?_⟩
  grind[il]
def NQ (p:Pl)(log:List En)(s:bQ)(hl:s.units.length<=1000)(e:En)(h:60<=log.length):
  bt cx 62 1 ((false,[.ptr 1 0])::[enX e].map dyn) (form p log s) [1] (.val (dyn (I 8))) (form p log s):=by
 have hn:(log.map cY).length =log.length:=by simp
 obtain⟨et,ew,tx⟩:=e;obtain⟨volt,earth,opens,hall,lots,units⟩:=s;refine gF f62 hl ?_;exact K90
section
variable (p:Pl)(log:List En)(s:bQ)(et:Int)(ew tx:aj)
noncomputable def sM (kn:Bool):Int:=fs [if aZ p.ay ew>=0 then 0 else 6,if 0<=et/\et<=1000000000000 then 0 else 2,if et>=il log then 0 else 9,if((tx.length:Nat):Int)<=400 then 0 else 8,if aU tx then 0 else 3,if kn=true then 0 else 7]
theorem Wj (hl:s.units.length<=1000)(hp:p.ae.length<=1000)(ht:tx.length<=100000)(Cc:log.length<60){role w k:Nat}{rest:Bool}{f:FuncId}(hf:iY ui (B ((ar 32 tx).getD 0 []))=some (NJ role w k rest f))(hX:sM p log et ew tx true≠0):
  bt cx 62 1 ((false,[.ptr 1 0])::[enX ⟨et,ew,tx⟩].map dyn) (form p log s) [1] (.val (dyn (I (sM p log et ew tx true)))) (form p log s):=by
 have hn:(log.map cY).length =log.length:=by simp
 have c1:=lZ p.ae et ew tx hp;have c2:=gh tx 32 K0;rw[QM]at c2;generalize (Lib.cut tx [32]).2.1=q1 at*;generalize (Lib.cut tx [32]).2.2=q2 at*;have c3:=kC tx K0;generalize (ar 32 tx).getD 0 []=wd at*;have hE:sM p log et ew tx true=fs [if aZ p.ay ew>=0 then 0 else 6,if 0<=et/\et<=1000000000000 then 0 else 2,if et>=il log then 0 else 9,if((tx.length:Nat):Int)<=400 then 0 else 8,if aU tx then 0 else 3,if true=true then 0 else 7]:=rfl;have CB:=hE.symm;generalize sM p log et ew tx true=X at*;clear hE;rw[show p.ay=p.ae.map Prod.fst from rfl]at CB;generalize aZ (p.ae.map Prod.fst) ew=iw at*;exact K3
theorem Wl (hl:s.units.length<=1000)(hp:p.ae.length<=1000)(ht:tx.length<=100000)(Cc:log.length<60)(hf:iY ui (B ((ar 32 tx).getD 0 []))=none)(hX:sM p log et ew tx false≠0):
  bt cx 62 1 ((false,[.ptr 1 0])::[enX ⟨et,ew,tx⟩].map dyn) (form p log s) [1] (.val (dyn (I (sM p log et ew tx false)))) (form p log s):=by
 have hn:(log.map cY).length =log.length:=by simp
 have c1:=lZ p.ae et ew tx hp;have c2:=gh tx 32 K0;rw[QM]at c2;generalize (Lib.cut tx [32]).2.1=q1 at*;generalize (Lib.cut tx [32]).2.2=q2 at*;have c3:=kC tx K0;generalize (ar 32 tx).getD 0 []=wd at*;have hE:sM p log et ew tx false=fs [if aZ p.ay ew>=0 then 0 else 6,if 0<=et/\et<=1000000000000 then 0 else 2,if et>=il log then 0 else 9,if((tx.length:Nat):Int)<=400 then 0 else 8,if aU tx then 0 else 3,if false=true then 0 else 7]:=rfl;have CB:=hE.symm;generalize sM p log et ew tx false=X at*;clear hE;rw[show p.ay=p.ae.map Prod.fst from rfl]at CB;generalize aZ (p.ae.map Prod.fst) ew=iw at*;exact K3
theorem NR (hl:s.units.length<=1000)(hp:p.ae.length<=1000)(ht:tx.length<=100000)(Cc:log.length<60){role w k:Nat}{rest:Bool}{f:FuncId}(hf:iY ui (B ((ar 32 tx).getD 0 []))=some (NJ role w k rest f))(hX:sM p log et ew tx true=0)
  {ik:Nat}(IF:aZ p.ay ew=(ik:Nat))(zI:ik<p.ae.length)(hr:(p.ae.getD ik ([],0)).2<role):
  bt cx 62 1 ((false,[.ptr 1 0])::[enX ⟨et,ew,tx⟩].map dyn) (form p log s) [1] (.val (dyn (I 18))) (form p log s):=by
 have hn:(log.map cY).length =log.length:=by simp
 have hpn:(p.ae.map na).length =p.ae.length:=by simp
 have he:=bg (f:=na) zI ([],0);have c1:=lZ p.ae et ew tx hp;have c2:=gh tx 32 K0;rw[QM]at c2;generalize (Lib.cut tx [32]).2.1=q1 at*;generalize (Lib.cut tx [32]).2.2=q2 at*;have c3:=kC tx K0;generalize (ar 32 tx).getD 0 []=wd at*;have CB:fs [if aZ p.ay ew>=0 then 0 else 6,if 0<=et/\et<=1000000000000 then 0 else 2,if et>=il log then 0 else 9,if((tx.length:Nat):Int)<=400 then 0 else 8,if aU tx then 0 else 3,if true=true then 0 else 7]=0:=hX;rw[IF]at CB;rw[show p.ae.map Prod.fst=p.ay from rfl,IF]at c1;generalize p.ae.getD ik ([],0)=pe at*;obtain⟨pn,pr⟩:=pe;dsimp only at hr;exact K3
theorem NS (hl:s.units.length<=1000)(hp:p.ae.length<=1000)(ht:tx.length<=100000)(Cc:log.length<60){role w k:Nat}{rest:Bool}{f:FuncId}(hf:iY ui (B ((ar 32 tx).getD 0 []))=some (NJ role w k rest f))(hX:sM p log et ew tx true=0)
  {ik:Nat}(IF:aZ p.ay ew=(ik:Nat))(zI:ik<p.ae.length)(hr: ¬(p.ae.getD ik ([],0)).2<role){a:List aj}{n:List Int}{r:aj}(qO:ac 69 [NJ role w k rest f,SS tx] (.aJ [wS a n r,Bo false])):
  bt cx 62 1 ((false,[.ptr 1 0])::[enX ⟨et,ew,tx⟩].map dyn) (form p log s) [1] (.val (dyn (I 7))) (form p log s):=by
 have hn:(log.map cY).length =log.length:=by simp
 have hpn:(p.ae.map na).length =p.ae.length:=by simp
 have he:=bg (f:=na) zI ([],0);have c1:=lZ p.ae et ew tx hp;have c2:=gh tx 32 K0;rw[QM]at c2;generalize (Lib.cut tx [32]).2.1=q1 at*;generalize (Lib.cut tx [32]).2.2=q2 at*;have c3:=kC tx K0;generalize (ar 32 tx).getD 0 []=wd at*;have CB:fs [if aZ p.ay ew>=0 then 0 else 6,if 0<=et/\et<=1000000000000 then 0 else 2,if et>=il log then 0 else 9,if((tx.length:Nat):Int)<=400 then 0 else 8,if aU tx then 0 else 3,if true=true then 0 else 7]=0:=hX;rw[IF]at CB;rw[show p.ae.map Prod.fst=p.ay from rfl,IF]at c1;generalize p.ae.getD ik ([],0)=pe at*;obtain⟨pn,pr⟩:=pe;dsimp only at hr;exact K3
end
def vi (s:aj):qy (cO (bY (ar 59 s))).1.2.1/\(∀x∈(cO (bY (ar 59 s))).1.2.2,qy x)/\(cO (bY (ar 59 s))).1.2.2.length <=s.length+1:=by
 have z:pW 0:=by grind[pW]
 have h0:qy ((0,0,0,0):MS)/\(∀x∈([]:List MS),qy x)/\([]:List MS).length <=s.length+1:=⟨⟨z,z,z,z⟩,(λ_ h=>by cases h),dM _⟩;unfold cO
 cases e:bY (ar 59 s)with
 |none=>exact h0
 |some v=>
  obtain⟨e1,q,ch⟩:=v;dsimp only;by_cases h:aV e1 q ch=0
  ·rw[if_pos h];unfold bY at e
   cases e2:wN false 4 ((ar 59 s).getD 0 [])with
   |none=>rw[e2]at e;cases e
   |some n=>
    cases e3:fQ Bk ((ar 59 s).drop 1)with
    |none=>rw[e2,e3]at e;cases e
    |some l=>
     rw[e2,e3]at e;have B8:=yH (P:=qy) (λs x=>Qf) e3;have bA:=yG e3
     cases l with
     |nil=>cases e
     |cons q' ch'=>
      grind[cd]
  grind
def pC (s:aj):(ci (bC (ar 32 s))).1.2.length <=s.length+1:=by
 unfold ci
 cases e:bC (ar 32 s)with
 |none=>grind
 |some v=>
  obtain⟨st,l⟩:=v;dsimp only;have h:=Qe e;have h6:=(cd 32 s).1
  grind
def rY (a b lo hi:Int):Int × Int:=if rR a b lo hi=0 then(Wr a b lo hi,0)else(0,rR a b lo hi)
def uq (a b lo hi:Int):ac 249 [F2 a b,F2 lo hi] (.aJ [I (rY a b lo hi).1,I (rY a b lo hi).2]):=by
 have h:=Gu a b lo hi;unfold rY
 grind
def Oc (s:aj):Option (Int × Int):=DW 32 (wN true 16) (wN true 16) s
def adp {s:aj}(h: ∃y∈s,y=(32:UInt8)):wN true 16 s=none:=by
 cases e:wN true 16 s with
 |none=>rfl
 |some n=>
  obtain⟨y,hy,rfl⟩:=h;rcases DT e 32 hy with h|h
  grind
  grind[dp]
def ur (lo hi:Int)(rest:aj):Int × Int:=match Oc rest with
 |some q=>rY q.1 q.2 lo hi
 |none=>(0,7)
noncomputable def EX (lo hi:Int)(rest:aj):Int × Int:=if(Cr rest).2=0 then(if(TT (Cr rest).1).2=0 then rY (TT (Cr rest).1).1.1 (TT (Cr rest).1).1.2 lo hi else(0,(TT (Cr rest).1).2))else(0,(Cr rest).2)
def zk (e:Int)(q:Sp)(ch:List Sp)(l:List Int):(Int × Int) × Int:=
 if jN e q ch (eT (pk l:Nat) (py l -e) (py l+e) (QQ l e) (EN l e) (QR l e) (EP l e) (og l e) (hfh l e))=0 then((aab (py l -e) (iW ch),aac (py l+e) (iW ch)),0)
 else((0,0),jN e q ch (eT (pk l:Nat) (py l -e) (py l+e) (QQ l e) (EN l e) (QR l e) (EP l e) (og l e) (hfh l e)))
def Ko (e:Int)(q:Sp)(ch:List Sp)(hq:qy q)(vH: ∀s∈ch,qy s)(hl:ch.length<=4294967296)(l:List Int):ac 253 [Ru e q ch,FG l e] (.aJ [F2 (zk e q ch l).1.1 (zk e q ch l).1.2,I (zk e q ch l).2]):=by
 have h:=Gw e q ch hq vH hl (pk l:Nat) (py l -e) (py l+e) (QQ l e) (EN l e) (QR l e) (EP l e) (og l e) (hfh l e);unfold zk
 grind
def aar (e:Int)(q:Sp)(ch:List Sp)(st:Int)(l:List Int)(lo hi:Int):Int × Int:=
 if qF e q ch st l=0 then(if(zk e q ch l).2=0 then rY (zk e q ch l).1.1 (zk e q ch l).1.2 lo hi else(0,(zk e q ch l).2))else(0,qF e q ch st l)
def Wu (z e:Int)(s:Iv):Int × Int:=if z≠0 then(0,z)else if ki s then(0,0)else(2,0)
noncomputable def Kp (log:List En)(u:Un)(t:Ts)(rest:aj):Int × Int:=
 if t.kind=0 then ur t.lo t.hi rest else if t.kind=3 then EX t.lo t.hi rest else
  let R:=(cO (bY (ar 59 t.rules))).1;let X:=ci (bC (ar 32 rest))
  if X.2=0 then
   (if t.kind=2 then
    (let A:=(ci (bC (ar 32 (bP 3 (log.getD ((iN u.res (t.bu.getD 0 [])).getD BW).entry.toNat ⟨0,[],[]⟩).text)))).1
     Wu (dx R.1 R.2.1 R.2.2 A.1 A.2 X.1.1 X.1.2) R.1 (T4 R.1 R.2.1 A.2 X.1.2))
   else aar R.1 R.2.1 R.2.2 X.1.1 X.1.2 t.lo t.hi)
  else(0,X.2)
def alK (p:Pl)(log:List En)(u:Un)(nm:aj)(nd:List aj)(ru:aj)(lo hi:Int)(rest:aj)(hl:rest.length<=10000):
  ac 203 [WR p log,UR u,(true,fq ⟨nm,0,nd,ru,lo,hi⟩),SS rest] (.aJ [I (ur lo hi rest).1,I (ur lo hi rest).2]):=by
 have ct:=gh rest 32 K0
 rcases uR rest 32 with⟨h1,h2⟩|⟨a,b,h1,h2,h3,h4⟩
 ·rw[h1]at ct;obtain⟨v,c1,hv⟩:=mO true 16 K9 rest K0;obtain⟨v',c2,Ps⟩:=mO true 16 K9 [] (by simp);have e:Oc rest=none:=yD h2;unfold ur;rw[e];generalize (wN true 16 rest).isSome =o1 at*;generalize (wN true 16 []).isSome =o2 at*;exact CZ
 ·rw[h1]at ct;obtain⟨v,c1,hv⟩:=mO true 16 K9 a K0;obtain⟨v',c2,Ps⟩:=mO true 16 K9 b K0;have e:Oc rest=(wN true 16 a).bind λx=>(wN true 16 b).map λy=>(x,y):=yE (λ_ h=>adp h) h2;unfold ur;rw[e]
  cases e1:wN true 16 a with
  |none=>
   rw[e1]at c1;generalize (wN true 16 b).isSome =o2 at*;exact CZ
  |some n=>
   cases e2:wN true 16 b with
   |none=>
    rw[e1]at c1;rw[e2]at c2;exact CZ
   |some n'=>
    rw[e1]at c1;rw[e2]at c2;obtain rfl:=hv _ e1;obtain rfl:=Ps _ e2;have c3:=uq n n' lo hi;show nN _ _ _ _ (.aJ [I (rY n n' lo hi).1,I (rY n n' lo hi).2]);generalize rY n n' lo hi=z at*;exact CZ
def alL (p:Pl)(log:List En)(u:Un)(nm:aj)(nd:List aj)(ru:aj)(lo hi:Int)(rest:aj)(hl:rest.length<=10000):
  ac 203 [WR p log,UR u,(true,fq ⟨nm,3,nd,ru,lo,hi⟩),SS rest] (.aJ [I (EX lo hi rest).1,I (EX lo hi rest).2]):=by
 have c1:=AD rest hl;obtain⟨⟨b1,b2⟩,b3⟩:=Z6 rest;have c2:=Gz (Cr rest).1 K0 K0 b3;unfold EX;generalize Cr rest=y at*;obtain⟨x,ye⟩:=y;by_cases h1:ye=0
 ·subst h1;rw[if_pos rfl];dsimp only at c1 c2 ⊢;generalize TT x=w at*;obtain⟨⟨w1,w2⟩,we⟩:=w;by_cases h2:we=0
  ·subst h2;rw[if_pos rfl];have c3:=uq w1 w2 lo hi;generalize rY w1 w2 lo hi=z at*;exact CZ
  ·rw[if_neg h2];exact CZ
 ·rw[if_neg h1];exact CZ
def alM (p:Pl)(log:List En)(u:Un)(nm:aj)(nd:List aj)(ru:aj)(lo hi:Int)(rest:aj)(hl:rest.length<=10000)(hr:ru.length<=10000):
  ac 203 [WR p log,UR u,(true,fq ⟨nm,1,nd,ru,lo,hi⟩),SS rest] (.aJ [I (Kp log u ⟨nm,1,nd,ru,lo,hi⟩ rest).1,I (Kp log u ⟨nm,1,nd,ru,lo,hi⟩ rest).2]):=by
 have c1:=j0 ru hr;have c2:=jD rest hl;obtain⟨b1,b2,b3⟩:=vi ru;have b4:=pC rest;unfold Kp;dsimp only;rw[if_neg K9,if_neg K9];generalize cO (bY (ar 59 ru))=y at*;obtain⟨⟨e,q,ch⟩,ye⟩:=y;generalize ci (bC (ar 32 rest))=x at*;obtain⟨⟨st,l⟩,xe⟩:=x;dsimp only at*;by_cases h1:xe=0
 ·subst h1;rw[if_pos rfl,if_neg K9];have c3:=wc e q ch st l b1 b2 K0 ab3;unfold aar;by_cases h2:qF e q ch st l=0
  ·rw[if_pos h2]at c3 ⊢;have c4:=Ko e q ch b1 b2 K0 l;generalize zk e q ch l=w at*;obtain⟨⟨w1,w2⟩,we⟩:=w;by_cases h3:we=0
   ·subst h3;rw[if_pos rfl];have c5:=uq w1 w2 lo hi;generalize rY w1 w2 lo hi=z at*;exact CZ
   ·rw[if_neg h3];exact CZ
  ·rw[if_neg h2]at c3 ⊢;generalize qF e q ch st l=z at*;exact CZ
 ·rw[if_neg h1];exact CZ
abbrev gD:En:=⟨0,[],[]⟩
def QY (s:aj)(hl:s.length<=100000)(h:4<=(ar 32 s).length):ac 290 [SS s] (.one (SS (bP 3 s))):=by
 have c1:ac 133 [SS s,SS [32],I 4] _:=rQ s 4 K0 K0 K0;rw[J4 _ _ K0 h,show 4 -1=3 from rfl]at c1;have ak:((ar 32 s).take 3).length =3:=by simp;omega
 generalize (ar 32 s).take 3=l at*;generalize bP 3 s=r at*;have hg:(ab (l++[r]))[3]? =some [T r]:=by simp[ab,ak]
 have hn:(ab (l++[r])).length =4:=by simp[ab,ak]
 refine sF f290 ?_;exact tA
def Od (p:Pl)(log:List En)(u:Un)(nm n0:aj)(kd:Int)(nd:List aj)(ru:aj)(lo hi:Int)(lD:u.res.length<=1000000){rt:aj}{ra:Int}{k:Nat}{rv:Bool}(hr:iN u.res n0=some ⟨rt,ra,(k:Nat),rv⟩)
  (hk:k<log.length)(h4:4<=(ar 32 (log.getD k gD).text).length)(ht:(log.getD k gD).text.length <=9000)(e:Int)(q:Sp)(ch:List Sp)(hq:qy q)(vH: ∀s∈ch,qy s)(hc:ch.length<=100000)(st:Int)(l:List Int)(hl:l.length<=100000):
  ac 252 [WR p log,UR u,(true,fq ⟨nm,kd,n0::nd,ru,lo,hi⟩),Ru e q ch,Rc st l]
   (.aJ [I (Wu (dx e q ch (ci (bC (ar 32 (bP 3 (log.getD k gD).text)))).1.1 (ci (bC (ar 32 (bP 3 (log.getD k gD).text)))).1.2 st l) e (T4 e q (ci (bC (ar 32 (bP 3 (log.getD k gD).text)))).1.2 l)).1,
    I (Wu (dx e q ch (ci (bC (ar 32 (bP 3 (log.getD k gD).text)))).1.1 (ci (bC (ar 32 (bP 3 (log.getD k gD).text)))).1.2 st l) e (T4 e q (ci (bC (ar 32 (bP 3 (log.getD k gD).text)))).1.2 l)).2]):=by
 have he:=bg (f:=cY) hk gD;have c1:=Ny (T u.name) (J u.win.k1) (J u.win.t1) (J u.win.s1) (K u.win.r1) (J u.win.k2) (J u.win.t2) (J u.win.s2) (K u.win.r2) (J u.win.st) (.view (ab u.lots)) u.res [K u.failed,K u.rel,K u.shaken,J u.used,.view (u.gas.map uV)] n0 lD;replace c1:ac 225 [UR u,SS n0] (.aJ [(true,[T rt,J ra,J ((k:Nat):Int),K rv]),Bo true]):=by rw[hr]at c1;exact c1
 generalize hE:log.getD k gD=en at*;obtain⟨et,ew,tx⟩:=en;dsimp only at*;have c2:=QY tx K0 h4;have hdl:=lY 3 tx;have c3:=jD (bP 3 tx) K0;have b1:=pC (bP 3 tx);have AP:(log.map cY).length =log.length:=by simp
 generalize ci (bC (ar 32 (bP 3 tx)))=x at*;obtain⟨⟨sa,la⟩,xe⟩:=x;dsimp only at*;generalize bP 3 tx=dr at*;have c4:=AC e q ch sa la st l hq vH K0 UV UV;unfold Ws at c4;unfold Wu;by_cases h1:dx e q ch sa la st l=0
 ·rw[h1]at c4 ⊢;rw[if_neg K0]at c4 ⊢;by_cases h2:ki (T4 e q la l)
  ·rw[if_pos h2]at c4 ⊢;exact aca
  ·rw[if_neg h2]at c4 ⊢;by_cases h3:e=0
   ·rw[if_pos h3]at c4;exact aca
   ·rw[if_neg h3]at c4;exact aca
 ·rw[if_pos h1]at c4 ⊢;generalize dx e q ch sa la st l=z at*;exact aca
def aas (log:List En)(u:Un)(t:Ts):Prop:=∃n0 nd rt ra,∃k:Nat,∃rv,t.bu=n0::nd/\iN u.res n0=some ⟨rt,ra,(k:Nat),rv⟩/\k<log.length/\4<=(ar 32 (log.getD k gD).text).length /\(log.getD k gD).text.length <=9000
def alN (p:Pl)(log:List En)(u:Un)(nm:aj)(nd:List aj)(ru:aj)(lo hi:Int)(rest:aj)(lD:u.res.length<=1000000)(hl:rest.length<=10000)(hr:ru.length<=10000)(hc:aas log u ⟨nm,2,nd,ru,lo,hi⟩):
  ac 203 [WR p log,UR u,(true,fq ⟨nm,2,nd,ru,lo,hi⟩),SS rest] (.aJ [I (Kp log u ⟨nm,2,nd,ru,lo,hi⟩ rest).1,I (Kp log u ⟨nm,2,nd,ru,lo,hi⟩ rest).2]):=by
 obtain⟨n0,nd',rt,ra,k,rv,rfl,h1,h2,h3,h4⟩:=hc;have c1:=j0 ru hr;have c2:=jD rest hl;obtain⟨b1,b2,b3⟩:=vi ru;have b4:=pC rest;have c3:=λe q ch hq vH hc st l hl=>Od p log u nm n0 2 nd' ru lo hi lD h1 h2 h3 h4 e q ch hq vH hc st l hl;unfold Kp;dsimp only;rw[if_neg K9,if_neg K9,LF,h1];simp only[sZ,p8];generalize log.getD k gD=en at*;generalize cO (bY (ar 59 ru))=y at*;obtain⟨⟨e,q,ch⟩,ye⟩:=y;generalize ci (bC (ar 32 rest))=x at*;obtain⟨⟨st,l⟩,xe⟩:=x;dsimp only at*;by_cases h1:xe=0
 ·subst h1;rw[if_pos rfl,if_pos trivial];have c4:=c3 e q ch b1 b2 K0 st l K0;generalize Wu (dx e q ch (ci (bC (ar 32 (bP 3 en.text)))).1.1 (ci (bC (ar 32 (bP 3 en.text)))).1.2 st l) e (T4 e q (ci (bC (ar 32 (bP 3 en.text)))).1.2 l)=z at*;refine sF f203 ?_;exact tA
 ·rw[if_neg h1];refine sF f203 ?_;exact tA
def Kq (p:Pl)(log:List En)(u:Un)(t:Ts)(rest:aj)(lD:u.res.length<=1000000)(hl:rest.length<=10000)(hr:t.rules.length<=10000)(hk:0<=t.kind/\t.kind<=3)(hc:t.kind=2->aas log u t):
  ac 203 [WR p log,UR u,(true,fq t),SS rest] (.aJ [I (Kp log u t rest).1,I (Kp log u t rest).2]):=by
 obtain⟨nm,kd,nd,ru,lo,hi⟩:=t;dsimp only at hr hk hc;obtain rfl|rfl|rfl|rfl:kd=0\/kd=1\/kd=2\/kd=3:=by omega
 ·exact alK p log u nm nd ru lo hi rest hl
 ·exact alM p log u nm nd ru lo hi rest hl hr
 ·exact alN p log u nm nd ru lo hi rest lD hl hr (hc rfl)
 ·exact alL p log u nm nd ru lo hi rest hl
def vj {E E':dT}{H:Hp}{nx n':Nat}{p:Pl}{log:List En}{s:bQ}{u u0:Un}{us:List Un}{i:Nat}{m:List (Nat × Nat)}{X:Hp}{ks:List Nat}(hi:us[i]? =some u0)(hl:us.length<=1000)(hm:Go.Fw.IQ ((9,9)::m)=true)(h9:H.get 9=some (.aG 17 ((aA 0 us).set i (cP u 11 13 15))))
  (h1:bO ((9,9)::m) 11=some 11)(h2:bO ((9,9)::m) 13=some 13)(h3:bO ((9,9)::m) 15=some 15)
  (hY:jW ((9,9)::m++mT (ax us i)) H.get m=some (hd p log s++lA u 11 13 15++X))(hX:((ah X).all λk=>Nat.beq (k%2) 0)=true)(hE:im H (ax us i))(hn:(m.all λq=>Nat.blt (tag q.2) n')=true)(h0:Nat.blt 0 n'=true)
  (ahr:e8 ((9,9)::m++mT (ax us i)) E.get ks=some E'):bs ⟨E,H,nx⟩ ⟨E',X++ep p log s u ((aA 0 us).set i (cP u 11 13 15)) (ax us i),n'⟩:=by
 have hT:=By hi hl;have hXe: ∀k∈ah X,k%2=0:=λk hk=>o7 (ww.1 hX k hk);have ahD: ∀ {k v:Nat},bO ((9,9)::m) k=some v->bO ((9,9)::m++mT (ax us i)) k=some v:=λ{k v} h=>by rw[kW,h]
 have iF:fH ((9,9)::m++mT (ax us i)) ((aA 0 us).set i (cP u 11 13 15))=some ((aA 0 us).set i (cP u 11 13 15)):=by
  rw[uZ hi];refine yU (qD hT hm λn hn=>?_) ?_
  grind
  ·have h2':=qD (m:=(9,9)::m) hT hm (k:=i+1) (us:=us.drop (i+1)) λn hn=>by
    grind
   unfold fH;rw[h2'];simp only[cP,eZ,m7,ahD h1,ahD h2,ahD h3]
 have fC:=cW.form (Y:=hd p log s++lA u 11 13 15++X) hT hm h9 iF hY (by
  rw[ww];intro k hk;have hk:k∈ah (hd p log s++lA u 11 13 15)++ah X:=by grind
  rcases gC.1 hk with h|h
  ·have:k=1\/k=3\/k=5\/k=7\/k=11\/k=13\/k=15:=by simpa [hd,lA,ah]using h
   rcases this with rfl|rfl|rfl|rfl|rfl|rfl|rfl<;>rfl
  grind[JH]) (hE.get hT)
 refine(Cs fC (λq hq=>?_) ahr).trans (Cq ?_)
 ·have h0:0<n':=by simp_all
  rcases gC.1 hq with h|h
  ·rcases dh.1 h with rfl|h
   ·exact h0
   grind[Nat.blt_eq]
  ·exact ah3
 ·generalize (aA 0 us).set i (cP u 11 13 15)=l at*;have e:((9,some (cB.aG 17 l))::(hd p log s++lA u 11 13 15++X)++ax us i:Hp)=((9,some (.aG 17 l))::(hd p log s++lA u 11 13 15))++(X++ax us i):=by simp
  rw[e,show X++ep p log s u l (ax us i)=X++(((9,some (.aG 17 l))::(hd p log s++lA u 11 13 15))++ax us i)by simp[ep]];refine qt λn hn hm=>?_;have h1:=hXe n hn;have:n=9\/n=1\/n=3\/n=5\/n=7\/n=11\/n=13\/n=15:=by simpa [hd,lA,ah]using hm
  omega
def voR (vd:List aj)(r:Rs):Rs:={r with void:=r.void || decide (r.test∈vd)}
def jb (l:List Rs)(vd:List aj)(i:Nat):List Rs:=(l.take i).map (voR vd)++l.drop i
def aav (l:List Rs)(vd:List aj)(i:Nat):(jb l vd i).length =l.length:=by grind[jb]
def Kr {l:List Rs}{vd:List aj}{i:Nat}(h:i<l.length):((jb l vd i).map kG)[i]? =some (kG (l.getD i BW)):=by grind[jb]
def EZ {l:List Rs}{vd:List aj}{i:Nat}(h:i<l.length):((jb l vd i).map kG).set i (kG (voR vd (l.getD i BW)))=(jb l vd (i+1)).map kG:=by
 rw[<- LU];congr 1;have ak:(l.take i).length =i:=by grind
 unfold jb;rw[Sq _ _ bq,jf,ak,G6,CK,wx,G0];congr 1
 grind[List.drop_eq_getElem_cons]
def Oe (l:List Rs)(vd:List aj):jb l vd l.length=l.map (voR vd):=by simp[jb]
def aaw {p:Pl}{y:aj}(h:y∈p.bd):nk p y=p.parts.getD (aZ p.bd y).toNat ([],[])/\0<=aZ p.bd y/\nk p y∈p.parts:=by
 obtain⟨k,hk,e⟩:=k7 h;have uI:k<p.parts.length:=by grind[Pl.bd]
 have hd:nk p y=p.parts.getD (aZ p.bd y).toNat ([],[]):=by unfold nk;grind
 grind
def Q1 (E:qp)(p:Pl)(log:List En)(s:bQ)(hl:s.units.length<=1000)(x y:aj)(n:List Int)(r:aj)(hp:p.aa.length<=1000)(hpp:p.parts.length<=1000)(hpv: ∀q∈p.parts,q.2.length<=1000)(AR: ∀i<p.aa.length,(p.aa.getD i dk).bu.length <=1000)(hu: ∀u∈s.units,u.res.length<=1000):
  bt cx 127 1 ((false,[.ptr 1 0])::[wS [x,y] n r].map dyn) (form p log s) [1] (.val (dyn (I (ba E p log s 13 [x,y] n r).2))) (form p log (ba E p log s 13 [x,y] n r).1):=by
 rw[show ba E p log s 13 [x,y] n r=TS E p log s 13 x [x,y] n r from rfl];obtain⟨volt,earth,opens,hall,lots,units⟩:=s;have ct:=QD p y hpp;by_cases hx:0<=gY ⟨volt,earth,opens,hall,lots,units⟩ x
 ·obtain⟨i,u,h1,h2,h3,h4,h5⟩:=j6 hx;have c0:=λfid H=>k8 (fid:=fid) (H:=H) h3 hl h1;have Li:=jv h3;have hr:u.res.length<=1000:=hu u Li;by_cases hy:y∈p.bd
  ·obtain⟨t1,t2,t3⟩:=aaw hy;rw[fG hy]at ct
   have hq:aI E p log ⟨volt,earth,opens,hall,lots,units⟩ u 13 [x,y] n r=if u.rel then(u,20)else if hall=u.name/\opens= []then(u,24)else
     ({u with res:=u.res.map (voR (jk p.aa (nk p y).2)),failed:=false},0):=by
    rw[t1];exact if_pos t2
   have cv:=QE p (nk p y) hp (hpv _ t3) AR;have Xo:(jk p.aa (nk p y).2).length <=p.aa.length:=rF _ _;generalize jk p.aa (nk p y).2=vd at*;clear t1 t2 t3;generalize nk p y=t at*;obtain⟨nm,vs⟩:=t;obtain⟨name,win,ul,res,failed,rel,shaken,used,gas⟩:=u;dsimp only at hq hr;cases rel
   ·rw[if_neg xH]at hq;by_cases hh:hall=name/\opens= []
    ·obtain⟨rfl,rfl⟩:=hh;rw[aY hx h2 h4 (hq.trans (if_pos ⟨rfl,rfl⟩))];exact af6
    ·rw[aY hx h2 h4 (hq.trans (if_neg hh))];refine gI f127 h3 hl rfl ?_;have Ur:(res.map kG).length =res.length:=by simp
     have ho:hall=name->((ab opens).length :Int)>0:=λe=>by
      cases opens with
      |nil=>grind
      |cons a l=>grind
     by_cases hn:hall=name
     ·have ho:=ho hn;repeat' ((first|(refine kO 7 rfl ?_;first|refine ii (λ_ z=>⟨_,_,_,(c0 _ _ ⟨_,_,rfl,rfl⟩ rfl),z⟩) ?_|refine rG (λ_ z=>⟨_,aN ho _,z⟩) ?_|refine Rq (bZ _ _) ?_|refine rG (λ_ z=>⟨_,wF (E:=0) rfl,z⟩) ?_)|refine tX 0 ?_|exact Zt|refine bR ?_ ?_<;>intro h)<;>(try conv=>whnf))
      all_goals try contradiction
      refine af (ι:=Nat) (λk=>k<=res.length) (λk=>res.length -k) (λk=>⟨[(0,pP 1),(5,some (.val (false,[.cE 9 17 i 0]))),(9,pO 2),(76,vI res.length),(77,vI k)],[(2,some (.row true 1 (.view (ab vd))))]++ep p log ⟨volt,earth,opens,hall,lots,units⟩ ⟨name,win,ul,jb res vd k,failed,false,shaken,used,gas⟩ ((aA 0 units).set i (cP ⟨name,win,ul,res,failed,false,shaken,used,gas⟩ 11 13 15)) (ax units i),1000⟩) 0
       (vj (ks:=[0,5,9,76,77]) (m:=[(1,1),(3,3),(5,5),(7,7),(11,11),(13,13),(15,15),(134,2)]) h3 hl dl rfl dl dl dl dl dl K47 dl dl UQ) (dM _) ?_
      intro k hk;by_cases ak:k<res.length
      ·have he:=Kr (vd:=vd) ak;have lq:=EZ (vd:=vd) ak;have uI:((jb res vd k).map kG).length =res.length:=by exact abZ
       generalize res.getD k BW=rr at*;obtain⟨rt,ra,re,rv⟩:=rr;have cc:=bD vd rt K0;cases rv
       ·repeat' ((first|refine tX 0 ?_|exact Zt|refine bR ?_ ?_<;>intro h)<;>(try conv=>whnf))
        all_goals first|exact Zo|exact⟨k+1,ak,by omega,vj (ks:=[0,5,9,76,77]) (m:=[(1,1),(3,3),(5,5),(7,7),(11,11),(13,13),(15,15),(2,2)]) h3 hl dl rfl dl dl dl abN dl K47 dl dl dl⟩
       ·repeat' ((first|refine tX 0 ?_|exact Zt|refine bR ?_ ?_<;>intro h)<;>(try conv=>whnf))
        all_goals first|exact Zo|exact⟨k+1,ak,by omega,vj (ks:=[0,5,9,76,77]) (m:=[(1,1),(3,3),(5,5),(7,7),(11,11),(13,13),(15,15),(2,2)]) h3 hl dl rfl dl dl dl abN dl K47 dl dl dl⟩
      ·exact ajO
     ·repeat' ((first|(refine kO 7 rfl ?_;first|refine ii (λ_ z=>⟨_,_,_,(c0 _ _ ⟨_,_,rfl,rfl⟩ rfl),z⟩) ?_|refine Rq (bZ _ _) ?_|refine rG (λ_ z=>⟨_,wF (E:=0) rfl,z⟩) ?_)|refine tX 0 ?_|exact Zt|refine bR ?_ ?_<;>intro h)<;>(try conv=>whnf))
      all_goals try contradiction
      refine af (ι:=Nat) (λk=>k<=res.length) (λk=>res.length -k) (λk=>⟨[(0,pP 1),(5,some (.val (false,[.cE 9 17 i 0]))),(9,pO 2),(76,vI res.length),(77,vI k)],[(2,some (.row true 1 (.view (ab vd))))]++ep p log ⟨volt,earth,opens,hall,lots,units⟩ ⟨name,win,ul,jb res vd k,failed,false,shaken,used,gas⟩ ((aA 0 units).set i (cP ⟨name,win,ul,res,failed,false,shaken,used,gas⟩ 11 13 15)) (ax units i),1000⟩) 0
       (vj (ks:=[0,5,9,76,77]) (m:=[(1,1),(3,3),(5,5),(7,7),(11,11),(13,13),(15,15),(134,2)]) h3 hl dl rfl dl dl dl dl dl K47 dl dl UQ) (dM _) ?_
      intro k hk;by_cases ak:k<res.length
      ·have he:=Kr (vd:=vd) ak;have lq:=EZ (vd:=vd) ak;have uI:((jb res vd k).map kG).length =res.length:=by exact abZ
       generalize res.getD k BW=rr at*;obtain⟨rt,ra,re,rv⟩:=rr;have cc:=bD vd rt K0;cases rv
       ·repeat' ((first|refine tX 0 ?_|exact Zt|refine bR ?_ ?_<;>intro h)<;>(try conv=>whnf))
        all_goals first|exact Zo|exact⟨k+1,ak,by omega,vj (ks:=[0,5,9,76,77]) (m:=[(1,1),(3,3),(5,5),(7,7),(11,11),(13,13),(15,15),(2,2)]) h3 hl dl rfl dl dl dl abN dl K47 dl dl dl⟩
       ·repeat' ((first|refine tX 0 ?_|exact Zt|refine bR ?_ ?_<;>intro h)<;>(try conv=>whnf))
        all_goals first|exact Zo|exact⟨k+1,ak,by omega,vj (ks:=[0,5,9,76,77]) (m:=[(1,1),(3,3),(5,5),(7,7),(11,11),(13,13),(15,15),(2,2)]) h3 hl dl rfl dl dl dl abN dl K47 dl dl dl⟩
      ·exact ajO
   ·rw[aY hx h2 h4 (hq.trans (if_pos rfl))];exact af6
  ·rw[eU hy]at ct;have dy: ¬0<=aZ p.bd y:=by grind[eN]
   generalize nk p y=t at*;obtain⟨nm,vs⟩:=t;rw[aY hx h2 h4 (show aI E p log ⟨volt,earth,opens,hall,lots,units⟩ u 13 [x,y] n r=(u,6)from if_neg dy)];obtain⟨name,win,ul,res,failed,rel,shaken,used,gas⟩:=u;exact af6
 ·rw[oJ hx];generalize nk p y=t at*;obtain⟨nm,vs⟩:=t;generalize decide (y∈p.bd)=is at*;refine gF f127 hl ?_;exact K15
def T6 {H:HF}{fid:Nat}{us:List Un}{i:Nat}(hl:us.length<=1000){x:aj}(hx:aZ (us.map Un.name) x=(i:Nat))(h1: ∃t cs,H 1=some (.box t cs)/\cs[12]? =some (.own 9))(h9:H 9=some (.aG 17 (aA 0 us))):
  bW cx fid 89 [(false,[.ptr 1 0]),(false,[.st (T x)])] H (bm (.cE 9 17 i 0)) [] [1,9]:=
 Eu (ns:=us.map Un.name) x ⟨h1,⟨_,h9,by rw[eO,jf],λ_ _ he=>Aq he⟩,by grind⟩ (.inr ⟨by omega,by grind⟩)
def unZ (u:Un):List DC:=[.st (T u.name),.st (J u.win.k1),.st (J u.win.t1),.st (J u.win.s1),.st (K u.win.r1),.st (J u.win.k2),.st (J u.win.t2),.st (J u.win.s2),.st (K u.win.r2),.st (J u.win.st),.nil,.nil,.st (K u.failed),.st (K u.rel),.st (K u.shaken),.st (J u.used),.nil]
def aay {E:dT}{Hh:Hp}{nx:Nat}(id:Nat){l:List (List DC)}{u:Un}(hB:Hh.get id=some (.aG 17 (l++[unZ u]))):
  ∃X2 X1:List (List DC),bs ⟨E,Hh,nx⟩ ⟨E,(id,some (.aG 17 (l++[cP u (2*nx) (2*(nx+1)) (2*(nx+1+1))])))::(2*(nx+1+1),some (.row true 5 (.view [])))::(id,some (.aG 17 X2))::(2*(nx+1),some (.row true 4 (.view [])))::(id,some (.aG 17 X1))::(2*nx,some (.row true 1 (.view [])))::Hh,nx+1+1+1⟩:=by
 have FI: ∀e e':List DC,(l++[e]).set l.length e'=l++[e']:=λe e'=>by simp
 have FH: ∀e:List DC,(l++[e])[l.length]? =some e:=λe=>by simp
 have s1:=EG (E:=E) (nx:=nx) id l.length 10 1 (.view []) K9 rfl rfl hB (FH _) (show(unZ u)[10]? =some .nil from rfl);rw[FI]at s1;have s2:=EG (E:=E) (nx:=nx+1) (Hh:=(id,some (.aG 17 (l++[(unZ u).set 10 (.own (2*nx))])))::(2*nx,some (.row true 1 (.view [])))::Hh) id l.length 11 4 (.view []) K9 rfl rfl PE (FH _) (show((unZ u).set 10 (.own (2*nx)))[11]? =some .nil from rfl);rw[FI]at s2;have s3:=EG (E:=E) (nx:=nx+1+1) (Hh:=(id,some (.aG 17 (l++[((unZ u).set 10 (.own (2*nx))).set 11 (.own (2*(nx+1)))])))::(2*(nx+1),some (.row true 4 (.view [])))::(id,some (.aG 17 (l++[(unZ u).set 10 (.own (2*nx))])))::(2*nx,some (.row true 1 (.view [])))::Hh) id l.length 16 5 (.view []) K9 rfl rfl PE (FH _) (show(((unZ u).set 10 (.own (2*nx))).set 11 (.own (2*(nx+1))))[16]? =some .nil from rfl);rw[FI]at s3;exact⟨_,_,(s1.trans s2).trans s3⟩
def agS (fn:Func)(p:Pl)(log:List En)(s:bQ)(us:List Un)(u:Un)(r:DV)(S:St):Prop:=∃lg op lt un a b c,
 S.env.get 0=some (.val (false,[.ptr 1 0]))/\S.hp.get 1=some (.box 126 [.st (.view (p.ae.map na)),.st (.view (ab p.ap)),.st (.view (p.aa.map fq)),.st (.view (p.parts.map mh)),.st (J p.dY),.st (J p.eH),.own lg,.st (K s.volt),.st (K s.earth),.own op,.st (T s.hall),.own lt,.own un])/\
 S.hp.get un=some (.aG 17 (aA 0 us++[cP u a b c]))/\
 S.hp.get lg=some (.row true 3 (.view (log.map cY)))/\S.hp.get op=some (.row true 1 (.view (ab s.opens)))/\S.hp.get lt=some (.row true 1 (.view (ab s.lots)))/\
 S.hp.get a=some (.row true 1 (.view (ab u.lots)))/\S.hp.get b=some (.row true 4 (.view (u.res.map kG)))/\S.hp.get c=some (.row true 5 (.view (u.gas.map uV)))/\
 Go.Fw.IQ [(un,9),(1,1),(lg,3),(op,5),(lt,7),(a,11),(b,13),(c,15)]=true/\im S.hp (br 0 us)/\
 eA cx S.hp.get S.env.get fn.results.toList λys=>∃zs,kV ([(un,9),(1,1),(lg,3),(op,5),(lt,7),(a,11),(b,13),(c,15)]++mT (br 0 us)) ys=some zs/\pg zs=r
def adq {un lg op lt a b c:Nat}(h:Go.Fw.IQ [(un,9),(1,1),(lg,3),(op,5),(lt,7),(a,11),(b,13),(c,15)]=true):
  (1≠un)/\(lg≠un/\lg≠1)/\(op≠un/\op≠1/\op≠lg)/\(lt≠un/\lt≠1/\lt≠lg/\lt≠op)/\(a≠un/\a≠1/\a≠lg/\a≠op/\a≠lt)/\(b≠un/\b≠1/\b≠lg/\b≠op/\b≠lt/\b≠a)/\c≠un/\c≠1/\c≠lg/\c≠op/\c≠lt/\c≠a/\c≠b:=by
 exact ahV
def adr {fn:Func}{p:Pl}{log:List En}{s:bQ}{u:Un}{us:List Un}{r:DV}{S:St}(hl:us.length<=1000)(h:agS fn p log s us u r S):
  ∃m:List (Nat × Nat),cW m S.hp.get (ep p log s u (aA 0 us++[cP u 11 13 15]) (br 0 us)).get /\(∀q∈[(0,1)],∃o off,S.env.get q.1=some (.val (false,[.ptr o off]))/\(o,q.2)∈m)/\
   eA cx S.hp.get S.env.get fn.results.toList λys=>∃zs,kV m ys=some zs/\pg zs=r:=by
 obtain⟨lg,op,lt,un,a,b,c,h0,h1,h9,h2,h3,h4,h5,h6,h7,hm,hE,hr⟩:=h;have hT:=gZ hl;obtain⟨z1,⟨n1,n2⟩,⟨n3,n4,n5⟩,⟨n6,n7,n8,n9⟩,⟨a1,a2,a3,a4,a5⟩,⟨b1,b2,b3,b4,b5,b6⟩,c1,c2,c3,c4,c5,c6,c7⟩:=adq hm;have id1:bO ((un,9)::[(1,1),(lg,3),(op,5),(lt,7),(a,11),(b,13),(c,15)]++mT (br 0 us)) lg=some 3:=ach;have id2:bO ((un,9)::[(1,1),(lg,3),(op,5),(lt,7),(a,11),(b,13),(c,15)]++mT (br 0 us)) op=some 5:=ach;have id3:bO ((un,9)::[(1,1),(lg,3),(op,5),(lt,7),(a,11),(b,13),(c,15)]++mT (br 0 us)) lt=some 7:=abP;have id5:bO ((un,9)::[(1,1),(lg,3),(op,5),(lt,7),(a,11),(b,13),(c,15)]++mT (br 0 us)) a=some 11:=abP;have id6:bO ((un,9)::[(1,1),(lg,3),(op,5),(lt,7),(a,11),(b,13),(c,15)]++mT (br 0 us)) b=some 13:=aiJ;have id7:bO ((un,9)::[(1,1),(lg,3),(op,5),(lt,7),(a,11),(b,13),(c,15)]++mT (br 0 us)) c=some 15:=aiE;have id4:bO ((un,9)::[(1,1),(lg,3),(op,5),(lt,7),(a,11),(b,13),(c,15)]++mT (br 0 us)) un=some 9:=by grind[mL]
 have iF:fH ((un,9)::[(1,1),(lg,3),(op,5),(lt,7),(a,11),(b,13),(c,15)]++mT (br 0 us)) (aA 0 us++[cP u a b c])=some (aA 0 us++[cP u 11 13 15]):=by
  refine yU (qD hT hm λn hn=>hn) ?_;unfold fH;simp only[cP,eZ,m7,id5,id6,id7];rfl
 refine⟨_,cW.aet (Y:=hd p log s++lA u 11 13 15) hT hm h9 iF ?_ rfl (hE.get hT),λq hq=>?_,hr⟩
 ·exact ajc
 grind
def ads {f:FuncId}{xs:List DX}{Hs:Hp}{p:Pl}{log:List En}{s':bQ}{us:List Un}{i:Nat}{u u':Un}{y:SV}(hi:us[i]? =some u)(hl:us.length<=1000)(hs:s'.units=us.set i u')
  (h:bt cx f 1 xs Hs [1] (.val (dyn y)) (ep p log s' u' ((aA 0 us).set i (cP u' 11 13 15)) (ax us i))):bt cx f 1 xs Hs [1] (.val (dyn y)) (form p log s'):=by
 have fj:=nU p log s' (u':=u') hi hl;have amY: ∀k∈ah (ep p log s' u' ((aA 0 us).set i (cP u' 11 13 15)) (ax us i)),k≠17+6*i/\k≠19+6*i/\k≠21+6*i:=λk pF=>by exact ahP
 have ahj: ∀a∈ah (ep p log s' u' ((aA 0 us).set i (cP u' 11 13 15)) (ax us i)),∀b∈ah (ep p log s' u' ((aA 0 us).set i (cP u' 11 13 15)) (ax us i)),HQ i a=HQ i b->a=b:=λa ha b hb e=>by grind[HQ]
 have u1:HQ i 1=1:=JU K0 K0 K0
 have g3:=h.out (m8.hp fj ahj) (by
   grind[lG,bz]) (λid hid=>by rw[lz]at hid;subst hid;exact⟨fj.xE,u1⟩)
 have hr:Lc (HQ i) (.val (dyn y))= .val (dyn y):=aP DV.val (JJ _ y)
 grind[bt.congr,MW]
def gU {f:FuncId}{c:Code}{p:Pl}{log:List En}{s s':bQ}{u:Un}{ys:List SV}{y:SV}(fn:Func)(hl:s.units.length<1000)(hs:s'.units=s.units++[u])
  (h:m6 cx c ⟨iz 0 ((false,[.ptr 1 0])::ys.map dyn),form p log s,1⟩ (agS fn p log s' s.units u (.val (dyn y))) (λ_ _=>False) (agS fn p log s' s.units u (.val (dyn y))))
  (h1:iH cx.P f=true:=by kernel_rfl)(h2:cx.P.funcs[f]? =some fn:=by kernel_rfl)(h3:fn.body=some c:=by rfl)(h4:bM fn.ntmps c=true:=by kernel_rfl)(h5:ys.length+1<=fn.ntmps:=by exact fO rfl)(h6:aM [0] c=true:=by kernel_rfl):
  bt cx f 1 ((false,[.ptr 1 0])::ys.map dyn) (form p log s) [1] (.val (dyn y)) (form p log s'):=by
 have g:=fA lH h1 h2 h3 h4 bq [(0,1)] (λp hp=>by grind) h6 (λS hS=>adr K0 hS) h;have hi:(s.units++[u])[s.units.length]? =some u:=by simp
 have e1:(aA 0 (s.units++[u])).set s.units.length (cP u 11 13 15)=aA 0 s.units++[cP u 11 13 15]:=by
  rw[uY];show(aA 0 s.units++[cP u _ _ _]).set _ _=_;have:=eO 0 s.units;simp_all
 have e2:ax (s.units++[u]) s.units.length=br 0 s.units:=by grind[br,List.drop_eq_nil_of_le]
 refine ads (u':=u) hi bq bq ?_;rw[e1,e2];exact g
def Og (E:qp)(p:Pl)(log:List En)(s:bQ)(hE:E.pu=NG)(hl:s.units.length<=900)(x:aj)(n:List Int)(r:aj)(hx:x.length<=1000)(hr:r.length<=100000):
  bt cx 116 1 ((false,[.ptr 1 0])::[wS [x] n r].map dyn) (form p log s) [1] (.val (dyn (I (ba E p log s 2 [x] n r).2))) (form p log (ba E p log s 2 [x] n r).1):=by
 obtain⟨volt,earth,opens,hall,lots,units⟩:=s;have c1:=ge x K0;have c9:=λ_:Unit=>E2 r hr;unfold jI at c1;have e:ba E p log ⟨volt,earth,opens,hall,lots,units⟩ 2 [x] n r=if eK x then(if x∈units.map Un.name then(⟨volt,earth,opens,hall,lots,units⟩,5)else if units.length<6 then(if(NG r).2=0 then(⟨volt,earth,opens,hall,lots,units++[{pX with name:=x,win:=(NG r).1}]⟩,0)else(⟨volt,earth,opens,hall,lots,units⟩,(NG r).2))else(⟨volt,earth,opens,hall,lots,units⟩,16))else(⟨volt,earth,opens,hall,lots,units⟩,4):=by rw[<- hE];rfl
 rw[e];clear e;have hl:units.length<=900:=hl;have sw:units.length<=1000:=by omega
 have iF:=eO 0 units;by_cases h2:x∈units.map Un.name
 ·obtain⟨i,hi,e⟩:=k7 h2;have c0:=λfid H=>T6 (fid:=fid) (H:=H) sw e;by_cases h1:eK x
  ·rw[if_pos h1]at c1 ⊢;rw[if_pos h2];refine gF f116 sw ?_;repeat' ((first|(refine kO 7 rfl ?_;first|refine ii (λ_ z=>⟨_,_,_,(c0 _ _ ⟨_,_,rfl,rfl⟩ rfl),z⟩) ?_|refine Rq (iS _) ?_|refine rG (λ_ z=>⟨_,wF (E:=5) rfl,z⟩) ?_)|refine tX 0 ?_|exact Zt|refine bR ?_ ?_<;>intro h)<;>(try conv=>whnf))
   all_goals first|exact Zo|exact Ew
  ·exact K64
 ·have dy:aZ (units.map Un.name) x<0:=by grind[eN]
  have c0:=λfid H=>Ar (fid:=fid) (H:=H) sw dy;by_cases h1:eK x
  ·rw[if_pos h1]at c1 ⊢;rw[if_neg h2];by_cases h3:units.length<6
   ·have h3':((aA 0 units).length :Int)<6:=by omega
    rw[if_pos h3];generalize NG r=w at*;obtain⟨wi,we⟩:=w;by_cases h4:we=0
    ·subst h4;rw[if_pos rfl];refine gU (u:={pX with name:=x,win:=wi}) f116 bq rfl ?_;repeat' ((first|(refine kO 7 rfl ?_;first|refine ii (λ_ z=>⟨_,_,_,(c0 _ _ ⟨_,_,rfl,rfl⟩ rfl),z⟩) ?_|refine rG (λ_ z=>⟨_,aN h3' _,z⟩) ?_|refine rG (λ_ z=>⟨_,wF (E:=0) rfl,z⟩) ?_)|refine tX 0 ?_|exact Zt|refine bR ?_ ?_<;>intro h)<;>(try conv=>whnf))
     all_goals try(exfalso;omega)
     have c2:=c9 ()
     (try(refine tX 2 ?_;try exact Zt))
     refine aQ ?_;repeat' ((first|refine rGX rfl trivial ?_|refine oP rfl ?_|refine Tt rfl rfl rfl rfl rfl rfl (cvI K0) ?_|refine Tt rfl rfl rfl rfl rfl rfl (cv8 K0) ?_|refine rP rfl (λ_ z=>z) ?_|(refine kO 1 rfl ?_;first|refine aeQ rfl rfl rfl (by first|omega|(simp;omega)|(simp only[xI,kF,zR];omega)|decide) ?_|refine ak5 rfl rfl rfl ?_|refine ak6 rfl rfl rfl ?_|refine aeW rfl rfl rfl K0 ?_|refine akO rfl rfl rfl K0 ?_|refine akP rfl rfl rfl K0 ?_|refine akQ rfl rfl rfl K0 ?_|refine akR rfl rfl rfl K0 ?_|refine akS rfl rfl rfl K0 ?_|refine aeI rfl rfl rfl K0 ?_|refine aeJ rfl rfl rfl K0 ?_|refine rG (λ_ z=>z) ?_)|(refine kO 2 rfl ?_;first|refine akT rfl rfl (by omega) ?_|refine rG (λ_ z=>z) ?_)|(refine kO 3 rfl ?_;first|refine akX rfl rfl rfl rfl rfl ?_|refine akY rfl rfl rfl rfl rfl rfl rfl ?_|refine akU rfl rfl rfl rfl rfl rfl (by first|omega|decide|exact fO rfl|(dsimp only[SC.len];omega)|(simp;done)|(simp;omega)|omega) ?_|refine rG (λ_ z=>z) ?_|refine rG (λ_ z=>⟨_,rfl,z⟩) ?_|refine rG (λ_ z=>⟨_,(by assumption),z⟩) ?_)|(refine kO 4 rfl ?_;first|refine akV rfl rfl rfl rfl rfl rfl (by first|omega|decide|exact fO rfl|(dsimp only[SC.len];omega)|(simp;done)|(simp;omega)|omega) ?_|refine rG (λ_ z=>z) ?_)|(refine kO 5 rfl ?_;first|refine akW rfl rfl rfl rfl rfl rfl rfl (by first|omega|decide|exact fO rfl|(dsimp only[SC.len];omega)|(simp;done)|(simp;omega)|omega) ?_|refine agq rfl rfl rfl rfl rfl rfl rfl (by first|omega|decide|exact fO rfl|(dsimp only[SC.len];omega)|(simp;done)|(simp;omega)|omega) ?_|refine aeK rfl rfl rfl rfl rfl rfl rfl rfl (by first|omega|decide|exact fO rfl|(dsimp only[SC.len];omega)|(simp;done)|(simp;omega)|omega) ?_|refine agr rfl rfl rfl rfl rfl rfl rfl rfl (by first|omega|decide|exact fO rfl|(dsimp only[SC.len];omega)|(simp;done)|(simp;omega)|omega) ?_|refine aeL rfl rfl rfl rfl rfl rfl (by first|assumption|rfl) rfl ?_)|(refine kO 6 rfl ?_;first|refine aeR rfl rfl rfl rfl rfl rfl ?_|refine akZ rfl rfl rfl rfl rfl rfl ?_|refine aeM rfl rfl rfl rfl rfl rfl ?_|refine aeN rfl rfl rfl rfl rfl rfl rfl ?_|refine YW rfl rfl rfl rfl rfl rfl rfl ?_|refine aeX rfl rfl rfl K0 ?_|refine ak7 rfl rfl rfl K0 ?_|refine rG (λ_ z=>z) ?_)|(refine kO 8 rfl ?_;first|refine aeS rfl rfl rfl rfl rfl (by first|omega|(simp;omega)|(simp only[xI,kF,zR];omega)|decide) ?_|refine aeV rfl rfl rfl rfl rfl rfl (by first|omega|(simp;omega)|(simp only[xI,kF,zR];omega)|decide) ?_|refine aeT rfl rfl rfl rfl rfl (by first|omega|(simp;omega)|(simp only[xI,kF,zR];omega)|decide) ?_|refine aeU rfl rfl rfl rfl rfl (by first|omega|(simp;omega)|(simp only[xI,kF,zR];omega)|decide) ?_|refine ak0 rfl rfl rfl rfl rfl rfl rfl (by omega) ?_|refine ak1 rfl rfl rfl rfl rfl rfl rfl (by omega) ?_|refine rG (λ_ z=>z) ?_)|refine rGX rfl trivial ?_|refine rGX rfl (by(first|omega|decide|rfl|exact lnS K0|exact lnN (by decide)|exact lnN K0|exact lnC K0|exact lvS K0|exact lvN (by decide)|exact lvC K0|exact uvS rfl|exact uvN rfl|((try unfold SC.len);(try unfold SC.zN);(try unfold xq);(try simp);(try omega);done)|omega)) ?_|refine oN ?_|refine aS ?_|refine aR ?_|refine aK ?_|refine aX ?_|refine aB ?_|refine aT ?_|refine aC rfl ?_|refine bT ?_|refine bF ?_|refine bPt K0 ?_|refine bPf K0 ?_|refine aL ?_|refine aE ?_|refine oY rfl rfl rfl ?_|refine oZ rfl rfl rfl ?_|refine oO rfl rfl rfl ?_|refine oIt rfl rfl rfl K0 ?_|refine oIf rfl rfl rfl K0 ?_|refine oUt rfl rfl rfl K0 ?_|refine oUf rfl rfl rfl K0 ?_|refine dI dl ?_|refine rG (λ_ z=>⟨(by(first|omega|decide|rfl|exact lnS (by omega)|exact lnN (by decide)|exact lnN (by omega)|exact lnC (by omega)|exact lvS (by omega)|exact lvN (by decide)|exact lvC (by omega)|exact uvS rfl|exact uvN rfl|((try unfold SC.len);(try unfold SC.zN);(try unfold xq);(try simp);(try omega);done)|omega)),z⟩) ?_|refine rG (λ_ z=>⟨(by(first|omega|decide|rfl|exact lnS (by omega)|exact lnN (by decide)|exact lnN (by omega)|exact lnC (by omega)|exact lvS (by omega)|exact lvN (by decide)|exact lvC (by omega)|exact uvS rfl|exact uvN rfl|((try unfold SC.len);(try unfold SC.zN);(try unfold xq);(try simp);(try omega);done)|omega)),(by(first|omega|decide|rfl|exact lnS (by omega)|exact lnN (by decide)|exact lnN (by omega)|exact lnC (by omega)|exact lvS (by omega)|exact lvN (by decide)|exact lvC (by omega)|exact uvS rfl|exact uvN rfl|((try unfold SC.len);(try unfold SC.zN);(try unfold xq);(try simp);(try omega);done)|omega)),z⟩) ?_|refine brp (λh=>?_) λh=>?_|refine yr rfl rfl rfl (λh=>?_) λh=>?_|refine nC rfl rfl rfl (λh=>?_) λh=>?_)<;>(try conv=>whnf))
     all_goals try(exfalso;omega)
     refine rGX rfl ⟨(λe he=>by rw[lz]at he;subst he;rfl),(by grind[xq])⟩ ?_
     (try conv=>whnf)
     repeat' ((first|refine tX 0 ?_|exact Zt|refine bR ?_ ?_<;>intro h)<;>(try conv=>whnf))
     refine Exists.elim (aay 98 (l:=aA 0 units) (u:={pX with name:=x,win:=wi}) ?hB) λX2 h=>h.elim λX1 h=>⟨_,h,?_⟩;case hB=>rfl
     repeat' ((first|refine tX 0 ?_|exact Zt|refine bR ?_ ?_<;>intro h)<;>(try conv=>whnf))
     refine⟨_,_,_,98,_,_,_,rfl,rfl,rfl,?_,?_,?_,rfl,rfl,rfl,rfl,?_,_,rfl,rfl⟩
     ·exact Er
     ·exact Er
     ·exact Er
     ·repeat(first|exact im.base _|refine im.step rfl ?_)
    ·rw[if_neg h4];have c2:=c9 ();refine gF f116 sw ?_;repeat' ((first|(refine kO 7 rfl ?_;first|refine ii (λ_ z=>⟨_,_,_,(c0 _ _ ⟨_,_,rfl,rfl⟩ rfl),z⟩) ?_|refine rG (λ_ z=>⟨_,aN h3' _,z⟩) ?_|refine rG (λ_ z=>⟨_,wF (E:=0) rfl,z⟩) ?_)|refine tX 0 ?_|exact Zt|refine bR ?_ ?_<;>intro h)<;>(try conv=>whnf))
     all_goals first|exact Zo|exact Ew
   ·have h3': ¬((aA 0 units).length :Int)<6:=by omega
    rw[if_neg h3];refine gF f116 sw ?_;repeat' ((first|(refine kO 7 rfl ?_;first|refine ii (λ_ z=>⟨_,_,_,(c0 _ _ ⟨_,_,rfl,rfl⟩ rfl),z⟩) ?_|refine rG (λ_ z=>⟨_,bG h3' _,z⟩) ?_|refine rG (λ_ z=>⟨_,wF (E:=16) rfl,z⟩) ?_)|refine tX 0 ?_|exact Zt|refine bR ?_ ?_<;>intro h)<;>(try conv=>whnf))
    all_goals first|exact Zo|exact Ew
  ·exact K64
end Go.Proofs.Tryz
