import Derived.Test.YtackacoaaihcjaaGreatDoorPkM13
import Derived.Test.YtackacoaaihcjaaGreatDoorPkM14
set_option linter.all false
set_option maxRecDepth 100000
set_option maxHeartbeats 8000000
namespace Go.Proofs.Tryz
open Go.Fw Go.IntWalk Go.Plain
def B9 (s:aj)(hl:s.length<=10000): ∃a b ok,ac 304 [SS s] (.aI [F2 a b,Bo ok])/\Ob s=if ok=true then some (a,b)else none:=by
 have c1:ac 44 [SS s,(false,[.lit (.int .u8 32)])] (.own 1 (.view (ab (aJ 32 s)))):=by
  have:=jY s 32 K0
  grind[iR]
 have hm:Ob s=DY (wN true 16) (wN true 16) (aJ 32 s):=rfl;have h1:=(cj 32 s).2;rw[hm];generalize aJ 32 s=ws at*;have hn:(ab ws).length =ws.length:=by simp
 by_cases h2:ws.length=2
 ·obtain⟨x,y,rfl⟩:=E5 h2;have hx:=h1 x (by simp);have hy:=h1 y (by simp);have cx':=iI x 16 K9 K0;have cy':=iI y 16 K9 K0;show ∃a b ok,_/\((wN true 16 x).bind λu=>(wN true 16 y).map λv=>(u,v))=_;rw[Cp,Cp];have aeq:ac 148 [SS x,I 16] (.aI (MW (fP 16 x))):=cx';have aeu:ac 148 [SS y,I 16] (.aI (MW (fP 16 y))):=cy'
  cases e1:fP 16 x with
  |none=>
   cases e2:fP 16 y with
   |none=>
    rw[e1]at aeq;rw[e2]at aeu;refine⟨0,0,false,?_,rfl⟩;exact Yr
   |some b=>
    rw[e1]at aeq;rw[e2]at aeu;refine⟨0,b,false,?_,rfl⟩;exact Yr
  |some a=>
   cases e2:fP 16 y with
   |none=>
    rw[e1]at aeq;rw[e2]at aeu;refine⟨a,0,false,?_,rfl⟩;exact Yr
   |some b=>
    rw[e1]at aeq;rw[e2]at aeu;refine⟨a,b,true,?_,rfl⟩;exact Yr
 ·refine⟨0,0,false,?_,?_⟩
  ·exact Yr
  ·match ws,h2 with
   | [],_=>rfl
   | [_],_=>rfl
   |_::_::_::_,_=>rfl
def Fm (log:List En)(u:Un)(t:aj)(hl:u.res.length<=1000000){rt:aj}{ra:Int}{k:Nat}{rv:Bool}(hr:iT u.res t=some ⟨rt,ra,(k:Nat),rv⟩)(hk:k<log.length){a:List aj}{i:Int}(ha:a.length=3)(hs:JN (log.getD k dk).text =(a++[cd 3 (log.getD k dk).text],i,true))(ht:(log.getD k dk).text.length <=9000):
  ac 308 [(false,[.view (log.map be)]),(true,ky u),SS t] (.aI (PR (dW (cF (aJ 32 (cd 3 (log.getD k dk).text)))))):=by
 have hn:(u.res.map kF).length =u.res.length:=by simp
 have AX:(log.map be).length =log.length:=by simp
 have iL:=aV (f:=be) hk dk;generalize log.getD k dk=en at*;obtain⟨et,ew,tx⟩:=en;dsimp only at hs ht ⊢;have iL:(log.map be)[k]? =some [J et,T ew,T tx]:=iL;have c1:=lq tx K0;rw[hs]at c1;have hdl:=om 3 tx;have c2:=kf (cd 3 tx) K0;generalize cd 3 tx=dr at*;generalize dW (cF (aJ 32 dr))=y at*;obtain⟨⟨st,rl⟩,ye⟩:=y;have hw3:(ab (a++[dr]))[3]? =some [T dr]:=by grind
 have Uw:(ab (a++[dr])).length =4:=by grind
 refine sF f308 ?_
 (try(refine tX 0 ?_;try exact Zt))
 refine af (ι:=Nat) (λn=>n<=u.res.length/\iT u.res t=iT (u.res.take n) t) (λn=>n) (λn=>⟨[(0,some (.val (false,[.st (.view (log.map be))]))),(2,lS t),(4,pP 0),(6,pP 1),(8,vI ((n:Nat) -1:Int))],[(0,some (bxU u)),(1,some (.box 168 [.st (J 0),.nil]))],2⟩) u.res.length (ai PF) ⟨dE _,by grind⟩ ?_;rintro n ⟨hi,hg⟩
 cases n with
 |zero=>
  rw[hr]at hg;exact absurd hg (by simp[iT])
 |succ n=>
  have ak:n<u.res.length:=by omega
  have he:=aV (f:=kF) ak B5;have xp:u.res.take (n+1)=u.res.take n++[u.res.getD n B5]:=by simp_all
  rw[xp,Fh]at hg;generalize u.res.getD n B5=x at*;obtain⟨xt,xa,xe,xv⟩:=x;have he:(u.res.map kF)[n]? =some [T xt,J xa,J xe,K xv]:=he;unfold sS at hg;dsimp only at hg;by_cases hx:xt=t
  ·subst hx;cases xv
   ·rw[if_pos (by simp),hr]at hg;simp only[lM,Rs.mk.injEq]at hg;obtain⟨-,-,rfl,-⟩:=hg;exact tL
   ·rw[if_neg (by simp)]at hg;exact K29
  ·rw[if_neg bv]at hg;exact K29
def o5 (a b lo hi:Int):ac 305 [F2 a b,F2 lo hi] (.aI [I (sf a b lo hi).1,I (sf a b lo hi).2]):=by
 have h:=AD a b lo hi;unfold sf
 grind
def Ca (e:Int)(q:Sp)(ch:List Sp)(hq:qC q)(vW: ∀s∈ch,qC s)(l:List Int):ac 310 [Ru e q ch,FG l e] (.aI [F2 (zC e q ch l).1.1 (zC e q ch l).1.2,I (zC e q ch l).2]):=by
 have h:=AE e q ch hq vW (pk l:Nat) (pG l -e) (pG l+e) (QR l e) (EQ l e) (QS l e) (ER l e) (ox l e) (hfh l e);unfold zC
 grind
def aa9 (log:List En)(u:Un)(nm:aj)(nd:List aj)(ru:aj)(lo hi:Int)(rest:aj)(hl:rest.length<=10000):
  ac 280 [(false,[.view (log.map be)]),(true,ky u),(true,fD ⟨nm,0,nd,ru,lo,hi⟩),SS rest] (.aI [I (uG lo hi rest).1,I (uG lo hi rest).2]):=by
 obtain⟨a,b,ok,c1,e⟩:=B9 rest hl;unfold uG;rw[e];cases ok
 ·rw[if_neg xP];exact xX
 ·rw[if_pos rfl];have c3:=o5 a b lo hi;show nY _ _ _ _ (.aI [I (sf a b lo hi).1,I (sf a b lo hi).2]);generalize sf a b lo hi=z at*;exact xX
def aba (log:List En)(u:Un)(nm:aj)(nd:List aj)(ru:aj)(lo hi:Int)(rest:aj)(hl:rest.length<=10000):
  ac 280 [(false,[.view (log.map be)]),(true,ky u),(true,fD ⟨nm,3,nd,ru,lo,hi⟩),SS rest] (.aI [I (EZ lo hi rest).1,I (EZ lo hi rest).2]):=by
 have c1:=AO rest hl;obtain⟨⟨b1,b2⟩,b3⟩:=aae rest;have c2:=GI (Cu rest).1 K0 K0 b3;unfold EZ;generalize Cu rest=y at*;obtain⟨x,ye⟩:=y;by_cases h1:ye=0
 ·subst h1;rw[if_pos rfl];dsimp only at c1 c2 ⊢;generalize TT x=w at*;obtain⟨⟨w1,w2⟩,we⟩:=w;by_cases h2:we=0
  ·subst h2;rw[if_pos rfl];have c3:=o5 w1 w2 lo hi;generalize sf w1 w2 lo hi=z at*;exact xX
  ·rw[if_neg h2];exact xX
 ·rw[if_neg h1];exact xX
def abb (log:List En)(u:Un)(nm:aj)(nd:List aj)(ru:aj)(lo hi:Int)(rest:aj)(hl:rest.length<=10000)(hr:ru.length<=10000):
  ac 280 [(false,[.view (log.map be)]),(true,ky u),(true,fD ⟨nm,1,nd,ru,lo,hi⟩),SS rest] (.aI [I (Km log u ⟨nm,1,nd,ru,lo,hi⟩ rest).1,I (Km log u ⟨nm,1,nd,ru,lo,hi⟩ rest).2]):=by
 have c1:=k9 ru hr;have c2:=kf rest hl;obtain⟨b1,b2,b3⟩:=Cz ru;have b4:=vu rest;unfold Km;dsimp only;rw[if_neg K9,if_neg K9];generalize iK (eF (aJ 59 ru))=y at*;obtain⟨⟨e,q,ch⟩,ye⟩:=y;generalize dW (cF (aJ 32 rest))=x at*;obtain⟨⟨st,l⟩,xe⟩:=x;dsimp only at*;by_cases h1:xe=0
 ·subst h1;rw[if_pos rfl,if_neg K9];have c3:=AC e q ch st l b1 b2 acg;unfold aaz;by_cases h2:sY e q ch st l=0
  ·rw[if_pos h2]at c3 ⊢;have c4:=Ca e q ch b1 b2 l;generalize zC e q ch l=w at*;obtain⟨⟨w1,w2⟩,we⟩:=w;by_cases h3:we=0
   ·subst h3;rw[if_pos rfl];have c5:=o5 w1 w2 lo hi;generalize sf w1 w2 lo hi=z at*;exact xX
   ·rw[if_neg h3];exact xX
  ·rw[if_neg h2]at c3 ⊢;generalize sY e q ch st l=z at*;exact xX
 ·rw[if_neg h1];exact xX
def ad0 (log:List En)(u:Un)(t:Ts):Prop:=∃n0 nd rt ra,∃k:Nat,∃rv a i,t.bz=n0::nd/\iT u.res n0=some ⟨rt,ra,(k:Nat),rv⟩/\k<log.length/\a.length=3/\JN (log.getD k dk).text =(a++[cd 3 (log.getD k dk).text],i,true)/\(log.getD k dk).text.length <=9000/\(dW (cF (aJ 32 (cd 3 (log.getD k dk).text)))).2=0
def abc (log:List En)(u:Un)(nm:aj)(nd:List aj)(ru:aj)(lo hi:Int)(rest:aj)(lE:u.res.length<=1000000)(hl:rest.length<=10000)(hr:ru.length<=10000)(hc:ad0 log u ⟨nm,2,nd,ru,lo,hi⟩):
  ac 280 [(false,[.view (log.map be)]),(true,ky u),(true,fD ⟨nm,2,nd,ru,lo,hi⟩),SS rest] (.aI [I (Km log u ⟨nm,2,nd,ru,lo,hi⟩ rest).1,I (Km log u ⟨nm,2,nd,ru,lo,hi⟩ rest).2]):=by
 obtain⟨n0,nd',rt,ra,k,rv,a,i,rfl,h1,h2,h3,h4,h5,h6⟩:=hc;have c1:=k9 ru hr;have c2:=kf rest hl;obtain⟨b1,b2,b3⟩:=Cz ru;have b4:=vu rest;have c3:=Fm log u n0 lE h1 h2 h3 h4 h5;have hdl:=om 3 (log.getD k dk).text;have b5:=vu (cd 3 (log.getD k dk).text);unfold Km;dsimp only;rw[if_neg K9,if_neg K9,LF,h1];simp only[vK,sP];generalize log.getD k dk=en at*;generalize iK (eF (aJ 59 ru))=y at*;obtain⟨⟨e,q,ch⟩,ye⟩:=y;generalize dW (cF (aJ 32 rest))=x at*;obtain⟨⟨st,l⟩,xe⟩:=x;generalize dW (cF (aJ 32 (cd 3 en.text)))=v at*;obtain⟨⟨sa,la⟩,va⟩:=v;dsimp only at*;subst h6;by_cases h1:xe=0
 ·subst h1;rw[if_pos rfl,if_pos trivial];have c4:=vT e q ch sa la st l b1 b2 acg acg;unfold Wx at c4;unfold Wz;by_cases h1:dC e q ch sa la st l=0
  ·rw[h1]at c4 ⊢;rw[if_neg K0]at c4 ⊢;by_cases h2:ki (T4 e q la l)
   ·rw[if_pos h2]at c4 ⊢;exact xX
   ·rw[if_neg h2]at c4 ⊢;by_cases h3:e=0
    ·rw[if_pos h3]at c4;exact xX
    ·rw[if_neg h3]at c4;exact xX
  ·rw[if_pos h1]at c4 ⊢;generalize dC e q ch sa la st l=z at*;exact xX
 ·rw[if_neg h1];exact xX
def Cb (log:List En)(u:Un)(t:Ts)(rest:aj)(lE:u.res.length<=1000000)(hl:rest.length<=10000)(hr:t.rules.length<=10000)(hk:0<=t.kind/\t.kind<=3)(hc:t.kind=2->ad0 log u t):
  ac 280 [(false,[.view (log.map be)]),(true,ky u),(true,fD t),SS rest] (.aI [I (Km log u t rest).1,I (Km log u t rest).2]):=by
 obtain⟨nm,kd,nd,ru,lo,hi⟩:=t;dsimp only at hr hk hc;obtain rfl|rfl|rfl|rfl:kd=0\/kd=1\/kd=2\/kd=3:=by omega
 ·exact aa9 log u nm nd ru lo hi rest hl
 ·exact abb log u nm nd ru lo hi rest hl hr
 ·exact abc log u nm nd ru lo hi rest lE hl hr (hc rfl)
 ·exact aba log u nm nd ru lo hi rest hl
def dY {m:List (Nat × Nat)}{H:HF}{Y:Hp}(h:(Go.Fw.eN (m.map Prod.fst)&&Go.Fw.eN (m.map Prod.snd))=true)(hY:jX m H m=some Y):cZ m H Y.get:=by
 simp only[sQ]at h;exact⟨bY h.1,bY h.2,λn b' e=>pt hY e⟩
def sl (u:Un)(h1:u.lots.length<=1000)(h2:u.res.length<=1000)(h3:u.gas.length<=1000):ac 200 [(true,ky u)] (.one (true,ky u)):=by
 have c1:=dH u.lots K0;have n2:(u.res.map kF).length =u.res.length:=by simp
 have n3:(u.gas.map vh).length =u.gas.length:=by simp
 refine sW (fn:=f200) ?_;repeat' ((first|refine tX 0 ?_|exact Zt|refine bR ?_ ?_<;>intro h)<;>(try conv=>whnf))
 exact⟨[(true,ky u)],[8,20,32],bd ⟨rfl,rfl,uL (a:=8) (b:=20) (c:=32) (by simp) rfl rfl rfl⟩ gz,rfl,rfl⟩
def KB (u:Un)(h1:u.lots.length<=1000)(h2:u.res.length<=1000)(h3:u.gas.length<=1000):bx cx 200 1 [dyn (true,ky u)] [] [] (.val (true,cU u 11 13 15)) (lC u 11 13 15):=by
 have c1:=dH u.lots K0;have n2:(u.res.map kF).length =u.res.length:=by simp
 have n3:(u.gas.map vh).length =u.gas.length:=by simp
 refine gR f200 ?_;repeat' ((first|refine tX 0 ?_|exact Zt|refine bR ?_ ?_<;>intro h)<;>(try conv=>whnf))
 exact⟨[(10,11),(22,13),(34,15)],dY rfl rfl,_,rfl,rfl⟩
abbrev stE (s:bP):List DC:=sD s
def F0 (s:bP):Hp:=[(5,some (.row true 1 (.view (ab s.opens)))),(7,some (.row true 1 (.view (ab s.lots)))),(9,some (.row true 17 (.view (s.units.map ky))))]
def Rk (s:bP)(h1:s.opens.length<=1000)(h2:s.lots.length<=1000)(h3:s.units.length<=1000)(hu: ∀u∈s.units,(u.lots.length<=1000/\u.res.length<=1000)/\u.gas.length<=1000):bx cx 112 1 [dyn (true,uk s)] [] [] (.val (true,sD s)) (F0 s):=by
 have c1:=dH s.opens K0;have c2:=dH s.lots K0;have n1:(s.units.map ky).length =s.units.length:=by simp
 refine gR f112 ?_;repeat' ((first|refine tX 0 ?_|exact Zt|refine bR ?_ ?_<;>intro h)<;>(try conv=>whnf))
 refine af (ι:=Nat) (λi=>i<=s.units.length) (λi=>s.units.length -i) (λi=>⟨[(1,pP 0),(2,pP 1),(3,vI i)],[(0,some (.box 58 [.st (K s.volt),.st (K s.earth),.own 2,.st (T s.hall),.own 3,.own 4])),(1,some (.box 58 [.st (K false),.st (K false),.nil,.st (T []),.nil,.nil])),(2,some (.row true 1 (.view (ab s.opens)))),(3,some (.row true 1 (.view (ab s.lots)))),(4,some (.row true 17 (.view (s.units.map ky))))],5⟩) 0 Zc (dD _) ?_;intro i hi;by_cases ak:i<s.units.length
 ·have he:=aV (f:=ky) ak qa;have Lf:s.units.getD i qa∈s.units:=zk ak;have c3:=sl (s.units.getD i qa) (hu _ Lf).1.1 (hu _ Lf).1.2 (hu _ Lf).2
  have nq:(s.units.map ky).set i (ky (s.units.getD i qa))=s.units.map ky:=by
   rw[<- SW];congr 1;rw[jN,pj ak,vK,US]
  generalize s.units.getD i qa=u at*;repeat' ((first|refine tX 0 ?_|exact Zt|refine bR ?_ ?_<;>intro h)<;>(try conv=>whnf))
  all_goals first|exact Zo|exact⟨i+1,ak,by omega,ai ajZ⟩
 ·obtain rfl:i=s.units.length:=by omega
  repeat' ((first|refine tX 0 ?_|exact Zt|refine bR ?_ ?_<;>intro h)<;>(try conv=>whnf))
  all_goals first|exact Zo|exact⟨[(2,5),(3,7),(4,9)],dY rfl rfl,_,rfl,rfl⟩
abbrev fz (n k:Nat):Nat:=2*(n*4294967296+k)+1
theorem sn {m:List (Nat × Nat)}{z:Nat}{l l':List (List DC)}(h:fG m l=some l'):fp m (.aD z l)=some (.aD z l'):=by
 show(match fG m l with|some l'=>some (cD.aD z l')|none=>none)=_;rw[h]
abbrev unS (u:Un):List DC:=(ky u).map .st
abbrev so (us:List Un):List (List DC):=stL (us.map ky)
abbrev zT (s:bP):List DC:=[.st (K s.volt),.st (K s.earth),.st (.view (ab s.opens)),.st (T s.hall),.st (.view (ab s.lots)),.own 9]
def F1 (us:List Un)(i:Nat)(u:Un):Hp:=[(9,some (.aD 17 ((so us).set i (cU u 11 13 15)))),(11,some (.row true 1 (.view (ab u.lots)))),(13,some (.row true 4 (.view (u.res.map kF)))),(15,some (.row true 5 (.view (u.gas.map vh))))]
def GJ (H:HF)(fid:Nat)(u:Un)(h1:u.lots.length<=1000)(h2:u.res.length<=1000)(h3:u.gas.length<=1000):
  bX cx fid 200 [dyn (true,ky u)] H (La (aq (tag fid) 0) (.val (true,cU u 11 13 15))) (cB [] (cP (aq (tag fid) 0) (lC u 11 13 15))) []:=by
 refine Go.Fw.mw (KB u h1 h2 h3) ⟨by simp[lC],λk hk=>?_,λk b e=>?_⟩ (λx hx=>?_) (λd hd=>?_)
 ·exact aiG
 ·exact aiB
 ·have:x=dyn (true,ky u):=by simpa using hx
  subst this;exact bD _
 ·exact ahY
def Rl (s:bP){i:Nat}{u:Un}(hi:s.units[i]? =some u)(h1:s.opens.length<=1000)(h2:s.lots.length<=1000)(h3:s.units.length<=1000)(hu: ∀u∈s.units,(u.lots.length<=1000/\u.res.length<=1000)/\u.gas.length<=1000):bx cx 112 1 [dyn (true,uk s)] [] [] (.val (true,zT s)) (F1 s.units i u):=by
 have c1:=(dH s.opens K0).xK;have c2:=(dH s.lots K0).xK;have n1:(s.units.map ky).length =s.units.length:=by simp
 have XC:=(kJ.1 hi).1;refine gR f112 ?_;repeat' ((first|refine tX 0 ?_|exact Zt|refine bR ?_ ?_<;>intro h)<;>(try conv=>whnf))
 have n2:(so s.units).length =s.units.length:=by simp[stL]
 have hA: ∀m,fG m (so s.units)=some (so s.units):=λm=>KC m _
 refine af (ι:=Nat) (λj=>j<=s.units.length) (λj=>s.units.length -j)
  (λj=>if j<=i then⟨[(1,pP 2),(2,pP 4),(3,vI j)],[(9,some (.aD 17 (so s.units))),(2,some (.box 58 (zT s))),(4,some (.box 58 [.st (K false),.st (K false),.nil,.st (T []),.nil,.nil]))],1000⟩
   else⟨[(1,pP 2),(2,pP 4),(3,vI j)],[(9,some (.aD 17 ((so s.units).set i (cU u 11 13 15)))),(2,some (.box 58 (zT s))),(4,some (.box 58 [.st (K false),.st (K false),.nil,.st (T []),.nil,.nil])),(11,some (.row true 1 (.view (ab u.lots)))),(13,some (.row true 4 (.view (u.res.map kF)))),(15,some (.row true 5 (.view (u.gas.map vh))))],1000⟩) 0
  (by
   rw[if_pos (dD _)]
   refine bp.trans (NM 32 (V:=s.units.map ky) rfl) (vC (ks:=[1,2,3]) (m:=[(32,9),(2,2),(4,4)]) rfl ⟨⟨32,_,by simp,rfl,sn (hA _)⟩,⟨2,_,by simp,rfl,rfl⟩,⟨4,_,by simp,rfl,rfl⟩,trivial⟩ rfl cT)) (dD _) ?_
 intro j hj;by_cases ak:j<s.units.length
 ·have he:(so s.units)[j]? =some (unS (s.units.getD j qa)):=by
   have:=aV (f:=ky) ak qa;show((s.units.map ky).map _)[j]? =_;rw[gK,this];rfl
  have Lf:s.units.getD j qa∈s.units:=zk ak
  have nq:(so s.units).set j (unS (s.units.getD j qa))=so s.units:=by
   have h:=(kJ.1 he).2;rw[<- h,US]
  rcases SN j i with hji|hji|hji
  ·rw[if_pos K0];have c3:=sl (s.units.getD j qa) (hu _ Lf).1.1 (hu _ Lf).1.2 (hu _ Lf).2;generalize s.units.getD j qa=v at*;repeat' ((first|refine tX 0 ?_|exact Zt|refine bR ?_ ?_<;>intro h)<;>(try conv=>whnf))
   all_goals first|exact Zo|skip
   refine⟨j+1,ak,by omega,?_⟩;rw[if_pos K0];exact vC (ks:=[1,2,3]) (m:=[(9,9),(2,2),(4,4)]) rfl ⟨⟨9,_,by simp,rfl,sn (show fG _ ((so s.units).set j (unS v))=_ by rw[nq];exact hA _)⟩,⟨2,_,by simp,rfl,rfl⟩,⟨4,_,by simp,rfl,rfl⟩,trivial⟩ rfl cT
  ·subst hji;rw[if_pos (dE _)];have hgu:s.units.getD j qa=u:=by rw[jN,hi];rfl
   rw[hgu]at he Lf nq;have c3:=λH fid=>GJ H fid u (hu _ Lf).1.1 (hu _ Lf).1.2 (hu _ Lf).2;repeat' ((first|(refine kO 7 rfl ?_;first|refine Rw (c3 _ _) ?_)|refine tX 0 ?_|exact Zt|refine bR ?_ ?_<;>intro h)<;>(try conv=>whnf))
   all_goals first|exact Zo|skip
   refine⟨j+1,ak,by omega,?_⟩;rw[if_neg K0];exact vC (ks:=[1,2,3]) (m:=[(9,9),(2,2),(4,4),(fz 1013 11,11),(fz 1013 13,13),(fz 1013 15,15)]) rfl ⟨⟨9,_,by simp,rfl,sn (show fG _ ((so s.units).set j (cU u (fz 1013 11) (fz 1013 13) (fz 1013 15)))=_ from kl rfl)⟩,⟨2,_,by simp,rfl,rfl⟩,⟨4,_,by simp,rfl,rfl⟩,⟨fz 1013 11,_,by simp,rfl,rfl⟩,⟨fz 1013 13,_,by simp,rfl,rfl⟩,⟨fz 1013 15,_,by simp,rfl,rfl⟩,trivial⟩ rfl cT
  ·rw[if_neg K0];have c3:=sl (s.units.getD j qa) (hu _ Lf).1.1 (hu _ Lf).1.2 (hu _ Lf).2;have he2:((so s.units).set i (cU u 11 13 15))[j]? =some (unS (s.units.getD j qa)):=by rw[PC K0];exact he
   have am1:((so s.units).set i (cU u 11 13 15)).set j (unS (s.units.getD j qa))=(so s.units).set i (cU u 11 13 15):=by
    have h:=(kJ.1 he2).2;rw[<- h,US]
   have n3:((so s.units).set i (cU u 11 13 15)).length =s.units.length:=by rw[FX];exact n2
   generalize s.units.getD j qa=v at*;clear he nq;repeat' ((first|refine tX 0 ?_|exact Zt|refine bR ?_ ?_<;>intro h)<;>(try conv=>whnf))
   all_goals first|exact Zo|skip
   refine⟨j+1,ak,by omega,?_⟩;rw[if_neg K0];exact vC (ks:=[1,2,3]) (m:=[(9,9),(2,2),(4,4),(11,11),(13,13),(15,15)]) rfl ⟨⟨9,_,by simp,rfl,sn (show fG _ (((so s.units).set i (cU u 11 13 15)).set j (unS v))=_ by rw[am1];exact kl rfl)⟩,⟨2,_,by simp,rfl,rfl⟩,⟨4,_,by simp,rfl,rfl⟩,⟨11,_,by simp,rfl,rfl⟩,⟨13,_,by simp,rfl,rfl⟩,⟨15,_,by simp,rfl,rfl⟩,trivial⟩ rfl cT
 ·obtain rfl:j=s.units.length:=by omega
  rw[if_neg K0];have n3:((so s.units).set i (cU u 11 13 15)).length =s.units.length:=by rw[FX];exact n2
  repeat' ((first|refine tX 0 ?_|exact Zt|refine bR ?_ ?_<;>intro h)<;>(try conv=>whnf))
  all_goals first|exact Zo|exact⟨[(9,9),(11,11),(13,13),(15,15)],nR rfl ⟨⟨9,_,by simp,rfl,sn (kl rfl)⟩,⟨11,_,by simp,rfl,rfl⟩,⟨13,_,by simp,rfl,rfl⟩,⟨15,_,by simp,rfl,rfl⟩,trivial⟩,_,rfl,rfl⟩
abbrev GU (f:FuncId)(xs:List DX)(u:Un)(y:Un × Int):Prop:=bx cx f 1 xs (lC u 11 13 15) [] (.aI [(true,cU y.1 11 13 15),dyn (I y.2)]) (lC y.1 11 13 15)
def gH {f:FuncId}{c:Code}{xs:List DX}{r:DV}{T T':Hp}(fn:Func)(h:m8 cx c ⟨iF 0 xs,T,1⟩ (adn fn r T') (λ_ _=>False) (adn fn r T'))
  (h1:iN cx.P f=true:=by kernel_rfl)(h2:cx.P.funcs[f]? =some fn:=by kernel_rfl)(h3:fn.body=some c:=by rfl)(h4:bS fn.ntmps c=true:=by kernel_rfl)(h5:xs.length<=fn.ntmps:=by exact fO rfl)(h6:aN [] c=true:=by kernel_rfl):
  bx cx f 1 xs T [] r T':=
 fA lJ h1 h2 h3 h4 h5 [] (λ_ h=>by cases h) h6 (λS hS=>by
  obtain⟨m,g1,g2⟩:=hS
  exact⟨m,g1,(λ_ h=>by cases h),g2⟩) h
abbrev m3:List (Nat × Nat):=[(11,11),(13,13),(15,15)]
abbrev Rm:aj:=[115,104,111,99,107]
abbrev afp:aj:=[108,111,97,100]
abbrev anO:aj:=[103,97,115]
def Ft (p:Pl)(u:Un)(w:List aj)(hr:u.rel=false):GU 244 [dyn (true,bE p),(true,cU u 11 13 15),dyn (V1 w)] u (u,20):=by
 obtain⟨name,win,ul,res,failed,rel,shaken,used,gas⟩:=u;have hr:rel=false:=hr;subst hr;refine gH f244 ?_;exact UT
def OA (p:Pl)(u:Un)(x s:aj)(k:Int){w0:aj}(hw:w0=Rm)(hr:u.rel=true)(hl: ∀y∈[w0,x,s],y.length<=100000)(hn:jU [s]=some [k]):
  GU 244 [dyn (true,bE p),(true,cU u 11 13 15),dyn (V1 [w0,x,s])] u (if k<=1000 then({u with shaken:=u.shaken || decide (k>p.dZ)},0)else(u,2)):=by
 have c1:=ln [w0,x,s] 2 (by simp) (by simp) hl;rw[show [w0,x,s].drop 2= [s]from rfl,hn]at c1;have c2:ac 196 [V1 [w0,x,s],I 2] (.aI [(false,[.ints [k]]),Bo true]):=c1;obtain⟨name,win,ul,res,failed,rel,shaken,used,gas⟩:=u;have hr:rel=true:=hr;have e0:([k]:List Int).getD 0 0=k:=rfl;subst hr;by_cases hk:k<=1000
 ·rw[if_pos hk];cases shaken
  ·refine gH f244 ?_;exact UT
  ·refine gH f244 ?_;exact UT
 ·rw[if_neg hk];refine gH f244 ?_;exact UT
def Rn (p:Pl)(u:Un)(x s1 s2:aj)(d t:Int){w0:aj}(hw:w0=afp)(hr:u.rel=true)(hl: ∀y∈[w0,x,s1,s2],y.length<=100000)(hn:jU [s1,s2]=some [d,t])(hp:0<=p.eK/\p.eK<=1000000000000)(hu:0<=u.used/\u.used<=1000000000000):
  GU 244 [dyn (true,bE p),(true,cU u 11 13 15),dyn (V1 [w0,x,s1,s2])] u (if u.shaken then(u,24)else if BL d t then(if u.used+xd d t<=p.eK then({u with used:=u.used+xd d t},0)else(u,22))else(u,2)):=by
 have n0: ¬w0=Rm:=by rw[hw];decide
 have c1:=ln [w0,x,s1,s2] 2 (by simp) (by simp) hl;rw[show [w0,x,s1,s2].drop 2= [s1,s2]from rfl,hn]at c1;have c2:ac 196 [V1 [w0,x,s1,s2],I 2] (.aI [(false,[.ints [d,t]]),Bo true]):=c1;have c3:=Q5 d t;have hA:=T8 d t;unfold WC at c3;generalize xd d t=A at*;have e0:([d,t]:List Int).getD 0 0=d:=rfl;have e1:([d,t]:List Int).getD 1 0=t:=rfl;by_cases hs:u.shaken=true;rotate_left
 ·rw[if_neg hs];by_cases ha:BL d t
  ·rw[if_pos ha]at c3 ⊢;by_cases hb:u.used+A<=p.eK
   ·rw[if_pos hb];refine gH f244 ?_;exact UT
   ·rw[if_neg hb];refine gH f244 ?_;exact UT
  ·rw[if_neg ha]at c3 ⊢;refine gH f244 ?_;exact UT
 ·rw[if_pos hs];refine gH f244 ?_;exact UT
def WQ (p:Pl)(u:Un)(x s1 s2 s3 s4 s5:aj)(h m e y a:Int){w0:aj}(hw:w0=anO)(hr:u.rel=true)(hl: ∀y∈[w0,x,s1,s2,s3,s4,s5],y.length<=100000)(hn:jU [s1,s2,s3,s4,s5]=some [h,m,e,y,a])(hg:u.gas.length<=1000):
  GU 244 [dyn (true,bE p),(true,cU u 11 13 15),dyn (V1 [w0,x,s1,s2,s3,s4,s5])] u (if gok h m e y a then(if u.gas.length<10 then({u with gas:=u.gas++[⟨h,m,e,y,a⟩]},0)else(u,16))else(u,2)):=by
 have n0: ¬w0=Rm:=by rw[hw];decide
 have n1: ¬w0=afp:=by rw[hw];decide
 have c1:=ln [w0,x,s1,s2,s3,s4,s5] 2 (by simp) (by simp) hl;rw[show [w0,x,s1,s2,s3,s4,s5].drop 2= [s1,s2,s3,s4,s5]from rfl,hn]at c1;have c2:ac 196 [V1 [w0,x,s1,s2,s3,s4,s5],I 2] (.aI [(false,[.ints [h,m,e,y,a]]),Bo true]):=c1;have c3:=GD (h:=h) (m:=m) (e:=e) (y:=y) (a:=a);unfold WB at c3;have hgl:(u.gas.map vh).length =u.gas.length:=by simp
 by_cases ho:gok h m e y a
 ·rw[if_pos ho]at c3 ⊢;by_cases hb:u.gas.length<10
  ·rw[if_pos hb];refine gH f244 ?_;repeat' ((first|refine tX 0 ?_|exact Zt|refine bR ?_ ?_<;>intro h)<;>(try conv=>whnf))
   all_goals first|exact Ze|exact⟨[(11,11),(13,13),(110,15)],nR rfl ⟨⟨11,_,by simp,rfl,rfl⟩,⟨13,_,by simp,rfl,rfl⟩,⟨110,_,by simp,rfl,by rw[zZ];kernel_rfl⟩,trivial⟩,_,rfl,rfl⟩
  ·rw[if_neg hb];refine gH f244 ?_;exact UT
 ·rw[if_neg ho]at c3 ⊢;refine gH f244 ?_;exact UT
abbrev Ld (s:bP):SV:=(true,[K s.volt,K s.earth,.view (ab s.opens),T s.hall,.view (ab s.lots),.any])
abbrev nU (log:List En):DX:=(false,[.st (.view (log.map be))])
section
variable {H:HF}{fid:Nat}{u:Un}{a b c:Nat}
def CB (ha:H a=some (.row true 1 (.view (ab u.lots))))(hb:H b=some (.row true 4 (.view (u.res.map kF))))(hc:H c=some (.row true 5 (.view (u.gas.map vh)))):Bm H [a,b,c] (true,cU u a b c) (true,ky u):=
 ⟨rfl,rfl,uL (by simp) ha hb hc⟩
def OB {t:aj}{V:Bool}(hV:bL u.res t=V)(hl:u.res.length<=1000000)(ha:H a=some (.row true 1 (.view (ab u.lots))))(hb:H b=some (.row true 4 (.view (u.res.map kF))))(hc:H c=some (.row true 5 (.view (u.gas.map vh)))):
  bX cx fid 83 [(true,cU u a b c),(false,[.st (T t)])] H (.val (dyn (Bo V))) [] [a,b,c]:=by
 subst hV;exact iP (bd (CB ha hb hc) (bd (kg (.st _)) gz)) (o4 u t hl) rfl ⟨rfl,rfl,rfl⟩
def OC {t:Ts}{V:Bool}(hV:i6 u.res t=V)(ht:t.bz.length<=1000)(hl:u.res.length<=1000000)(ha:H a=some (.row true 1 (.view (ab u.lots))))(hb:H b=some (.row true 4 (.view (u.res.map kF))))(hc:H c=some (.row true 5 (.view (u.gas.map vh)))):
  bX cx fid 84 [(true,cU u a b c),dyn (true,fD t)] H (.val (dyn (Bo V))) [] [a,b,c]:=by
 subst hV;exact iP (bd (CB ha hb hc) (bd (ig _) gz)) (Ky u t ht hl) rfl ⟨rfl,rfl,rfl⟩
def Ro {log:List En}{t:Ts}{r:aj}{y:Int × Int}(hs:ac 280 [(false,[.view (log.map be)]),(true,ky u),(true,fD t),SS r] (.aI [I y.1,I y.2]))(ha:H a=some (.row true 1 (.view (ab u.lots))))(hb:H b=some (.row true 4 (.view (u.res.map kF))))(hc:H c=some (.row true 5 (.view (u.gas.map vh)))):
  bX cx fid 280 [nU log,(true,cU u a b c),dyn (true,fD t),(false,[.st (T r)])] H (.aI [dyn (I y.1),dyn (I y.2)]) [] [a,b,c]:=
 iP (bd (kg (.st _)) (bd (CB ha hb hc) (bd (ig _) (bd (kg (.st _)) gz)))) hs ajC ⟨rfl,rfl,rfl⟩
def Rp {p:Pl}{M:List aj}(hM:ui p u.res=M)(hp:p.aa.length<=1000)(hl:u.res.length<=1000000)(ha:H a=some (.row true 1 (.view (ab u.lots))))(hb:H b=some (.row true 4 (.view (u.res.map kF))))(hc:H c=some (.row true 5 (.view (u.gas.map vh)))):
  bX cx fid 35 [dyn (true,bE p),(true,cU u a b c)] H (Fw.bm (.own fid)) [(fid,some (.row true 1 (.view (ab M))))] [a,b,c]:=by
 subst hM;exact iP (bd (ig _) (bd (CB ha hb hc) gz)) (Fi p u hp hl) (EB _) ⟨rfl,rfl,rfl⟩
end
def WS (E:uj)(p:Pl)(log:List En)(s:bP)(u:Un)(w0 x y q:aj)(n:List Int)(hp:p.aa.length<=1000)(AV: ∀t∈p.aa,t.bz.length<=1000)(hu:u.res.length<=1000)(ahv:log.length<=1000)
  (o9: ∀t∈p.aa,i6 u.res t=true->ac 280 [(false,[.view (log.map be)]),(true,ky u),(true,fD t),SS q] (.aI [I (E.ev log u t q).1,I (E.ev log u t q).2])):
  GU 243 [dyn (true,bE p),nU log,dyn (Ld s),(true,cU u 11 13 15),dyn (V1 [w0,x,y,q])] u (aU E p log s u 12 [x,y] n q):=by
 have ct:=pY p y hp;have hn1:(p.aa.map fD).length =p.aa.length:=by simp
 have bG:(log.map be).length =log.length:=by simp
 have hrl:(u.res.map kF).length =u.res.length:=by simp
 have hr:u.res.length<=1000000:=by omega
 by_cases hy:y∈cS p.aa
 ·obtain⟨j,hj,e⟩:=ld hy;have hjl:j<p.aa.length:=by simpa [cS]using hj
  have htm:p.aa.getD j dz∈p.aa:=zk hjl;have he:=aV (f:=fD) hjl dz
  have hq:aU E p log s u 12 [x,y] n q=if s.hall=u.name/\u.failed=false then(if bL u.res (p.aa.getD j dz).name then(u,23)else if i6 u.res (p.aa.getD j dz)=false then(u,14)else if decide ((p.aa.getD j dz).kind =0)=s.volt then(u,24)else
     if(E.ev log u (p.aa.getD j dz) q).2=0 then({u with res:=u.res++[⟨(p.aa.getD j dz).name,(E.ev log u (p.aa.getD j dz) q).1,log.length,false⟩],failed:=decide ((E.ev log u (p.aa.getD j dz) q).1=0)},0)else(u,(E.ev log u (p.aa.getD j dz) q).2))else(u,20):=by
   have h0:0<=bg (cS p.aa) y:=by omega
   show(if 0<=bg (cS p.aa) y then _ else _)=_;rw[if_pos h0];simp only[SD,LF];rw[e,sP]
  rw[hq];rw[e]at ct;have o9:=o9 _ htm;have AV:=AV _ htm;clear hq;generalize p.aa.getD j dz=t at*;obtain⟨V,hV⟩: ∃V,bL u.res t.name=V:=⟨_,rfl⟩;obtain⟨D,hD⟩: ∃D,i6 u.res t=D:=⟨_,rfl⟩;rw[hV,hD];rw[hD]at o9;have Xq:=λhs=> @Ro (u:=u) (t:=t) (r:=q) (y:=E.ev log u t q) (log:=log) (hs:=hs);generalize E.ev log u t q=z at*;obtain⟨z1,z2⟩:=z;have cv:=λH fid a b c=> @OB H fid u a b c t.name V hV hr;have cr:=λH fid a b c=> @OC H fid u a b c t D hD AV hr;clear hV hD;obtain⟨nm,kd,nd,ru,lo,hi⟩:=t;have he:(p.aa.map fD)[j]? =some [T nm,J kd,.view (ab nd),T ru,J lo,J hi]:=he;dsimp only at Xq o9;dsimp only;by_cases hh:s.hall=u.name
  ·by_cases hf:u.failed=false
   ·rw[if_pos ⟨hh,hf⟩];cases V
    ·rw[if_neg xP];cases D
     ·rw[if_pos rfl];exact K69
     ·rw[if_neg K9];have Xq:=λH fid a b c=> @Xq (o9 rfl) H fid a b c;by_cases hk:decide (kd=0)=s.volt
      ·rw[if_pos hk];have XD:((kd==0)==s.volt)=true:=by rw[show(kd==0)=decide (kd=0)from rfl,hk];simp
       exact K69
      ·rw[if_neg hk];have XD: ¬((kd==0)==s.volt)=true:=λh=>hk (by rw[show(kd==0)=decide (kd=0)from rfl]at h;simpa using h);by_cases hz:z2=0
       ·subst hz;rw[if_pos rfl];refine gH f243 ?_;repeat' ((first|(refine kO 7 rfl ?_;first|refine im (λ_ z=>⟨_,_,_,(cv _ _ _ _ _ rfl rfl rfl),z⟩) ?_|refine im (λ_ z=>⟨_,_,_,(cr _ _ _ _ _ rfl rfl rfl),z⟩) ?_|refine im (λ_ z=>⟨_,_,_,(Xq _ _ _ _ _ rfl rfl rfl),z⟩) ?_)|refine tX 0 ?_|exact Zt|refine bR ?_ ?_<;>intro h)<;>(try conv=>whnf))
        all_goals first|exact Zs|exact⟨[(11,11),(134,13),(15,15)],nR rfl ⟨⟨11,_,by simp,rfl,rfl⟩,⟨134,_,by simp,rfl,by rw[zZ,<- bG];kernel_rfl⟩,⟨15,_,by simp,rfl,rfl⟩,trivial⟩,_,rfl,rfl⟩
       ·rw[if_neg hz];refine gH f243 ?_;repeat' ((first|(refine kO 7 rfl ?_;first|refine im (λ_ z=>⟨_,_,_,(cv _ _ _ _ _ rfl rfl rfl),z⟩) ?_|refine im (λ_ z=>⟨_,_,_,(cr _ _ _ _ _ rfl rfl rfl),z⟩) ?_|refine im (λ_ z=>⟨_,_,_,(Xq _ _ _ _ _ rfl rfl rfl),z⟩) ?_)|refine tX 0 ?_|exact Zt|refine bR ?_ ?_<;>intro h)<;>(try conv=>whnf))
        all_goals first|exact Zs|exact⟨m3,dY rfl rfl,_,rfl,rfl⟩
    ·rw[if_pos rfl];refine gH f243 ?_;repeat' ((first|(refine kO 7 rfl ?_;first|refine im (λ_ z=>⟨_,_,_,(cv _ _ _ _ _ rfl rfl rfl),z⟩) ?_)|refine tX 0 ?_|exact Zt|refine bR ?_ ?_<;>intro h)<;>(try conv=>whnf))
     all_goals first|exact Zs|exact⟨m3,dY rfl rfl,_,rfl,rfl⟩
   ·rw[if_neg (λh=>hf h.2)];refine gH f243 ?_;exact K8
  ·rw[if_neg (λh=>hh h.1)];refine gH f243 ?_;exact K8
 ·rw[fq hy]at ct
  have hq:aU E p log s u 12 [x,y] n q=(u,6):=by
   show(if 0<=bg (cS p.aa) y then _ else _)=_;rw[fq hy,if_neg K9]
  rw[hq];refine gH f243 ?_;exact UT
def Ui (u:Un):MH (lC u 11 13 15):=by
 refine⟨by simp[lC],λk hk=>?_,λk b e=>?_⟩
 ·exact aiG
 ·exact aiB
theorem uM (u:Un):eh (· ∈ah (lC u 11 13 15)) (true,cU u 11 13 15):=by
 intro d hd;exact ahY
def CC {H:HF}{fid:Nat}{f:FuncId}{xs:List DX}{u:Un}{y:Un × Int}(h:GU f xs u y)(hH: ∀k∈ah (lC u 11 13 15),(lC u 11 13 15).get k=H k)(Cd: ∀x∈xs,eh (· ∈ah (lC u 11 13 15)) x):
  bX cx fid f xs H (La (aq (tag fid) 0) (.aI [(true,cU y.1 11 13 15),dyn (I y.2)])) (cB (lC u 11 13 15) (cP (aq (tag fid) 0) (lC y.1 11 13 15))) (ah (lC u 11 13 15)):=by
 refine If h (Ui u) (Ui y.1) (dE _) hH Cd (λx hx=>?_);simp only[dl,nE,nF]at hx
 grind[uM,bD]
def uH {u:Un}{H:HF}(h1:H 11=some (.row true 1 (.view (ab u.lots))))(h2:H 13=some (.row true 4 (.view (u.res.map kF))))(h3:H 15=some (.row true 5 (.view (u.gas.map vh)))): ∀k∈ah (lC u 11 13 15),(lC u 11 13 15).get k=H k:=λk hk=>by
 have:k=11\/k=13\/k=15:=by simpa [lC,ah]using hk
 exact ajz
section
variable (E:uj)(p:Pl)(log:List En)(s:bP)(u:Un)(q:aj)(n:List Int)
theorem WT {w0:aj}(hw:w0= [117,115,101])(x y:aj)(hs:s.lots.length<=1000)(hu:u.lots.length<=1000):
  GU 199 [dyn (true,bE p),nU log,dyn (Ld s),(true,cU u 11 13 15),dyn (V1 [w0,x,y])] u (aU E p log s u 3 [x,y] n q):=by
 have c1:=df s.lots y K0;have c2:=df u.lots y K0;have vV:(ab u.lots).length =u.lots.length:=by simp
 have hq:aU E p log s u 3 [x,y] n q=if y∈s.lots then(if u.rel then(u,20)else if y∈u.lots then(u,23)else({u with lots:=u.lots++[y]},0))else(u,6):=rfl
 rw[hq];clear hq;by_cases h1:y∈s.lots
 ·rw[if_pos h1];rw[fL h1]at c1;by_cases h2:u.rel=true
  ·rw[if_pos h2];refine gH f199 ?_;exact K8
  ·rw[if_neg h2];by_cases h3:y∈u.lots
   ·rw[if_pos h3];rw[fL h3]at c2;refine gH f199 ?_;exact K8
   ·rw[if_neg h3];rw[fj h3]at c2;refine gH f199 ?_;repeat' ((first|refine tX 0 ?_|exact Zt|refine bR ?_ ?_<;>intro h)<;>(try conv=>whnf))
    all_goals first|exact Zs|exact⟨[(74,11),(13,13),(15,15)],nR rfl ⟨⟨74,_,by simp,rfl,by rw[qG];kernel_rfl⟩,⟨13,_,by simp,rfl,rfl⟩,⟨15,_,by simp,rfl,rfl⟩,trivial⟩,_,rfl,rfl⟩
 ·rw[if_neg h1];rw[fj h1]at c1;refine gH f199 ?_;exact K8
theorem OD {w0:aj}(hw:w0= [101,110,116,101,114])(x:aj):
  GU 199 [dyn (true,bE p),nU log,dyn (Ld s),(true,cU u 11 13 15),dyn (V1 [w0,x])] u (aU E p log s u 10 [x] n q):=by
 have IJ: ¬w0= [117,115,101]:=by grind
 have hq:aU E p log s u 10 [x] n q=if u.rel then(u,20)else if s.hall= []then(if s.opens= []then(u,24)else(u,0))else(u,17):=rfl
 rw[hq];clear hq;have ho:s.opens= []↔((ab s.opens).length :Int)=0:=by simp[ab]
 by_cases h1:u.rel=true
 ·rw[if_pos h1];refine gH f199 ?_;exact K8
 ·rw[if_neg h1];by_cases h2:s.hall= []
  ·rw[if_pos h2];by_cases h3:s.opens= []
   ·rw[if_pos h3];have h4:=ho.1 h3;refine gH f199 ?_;exact K8
   ·rw[if_neg h3];have h4:=λh=>h3 (ho.2 h);clear h3 ho;refine gH f199 ?_;exact K8
  ·rw[if_neg h2];refine gH f199 ?_;exact K8
theorem OE {w0:aj}(hw:w0= [108,101,97,118,101])(x:aj):
  GU 199 [dyn (true,bE p),nU log,dyn (Ld s),(true,cU u 11 13 15),dyn (V1 [w0,x])] u (aU E p log s u 11 [x] n q):=by
 have IJ: ¬w0= [117,115,101]:=by grind
 have zP: ¬w0= [101,110,116,101,114]:=by grind
 have hq:aU E p log s u 11 [x] n q=if s.hall=u.name then(if s.opens= []then(u,24)else(u,0))else(u,20):=rfl
 rw[hq];clear hq;have ho:s.opens= []↔((ab s.opens).length :Int)=0:=by simp[ab]
 by_cases h2:s.hall=u.name
 ·rw[if_pos h2];by_cases h3:s.opens= []
  ·rw[if_pos h3];have h4:=ho.1 h3;refine gH f199 ?_;exact K8
  ·rw[if_neg h3];have h4:=λh=>h3 (ho.2 h);clear h3 ho;refine gH f199 ?_;exact K8
 ·rw[if_neg h2];refine gH f199 ?_;exact K8
theorem Rt {w0:aj}(hw:w0= [116,101,115,116])(x y:aj)(hg:GU 243 [dyn (true,bE p),nU log,dyn (Ld s),(true,cU u 11 13 15),dyn (V1 [w0,x,y,q])] u (aU E p log s u 12 [x,y] n q)):
  GU 199 [dyn (true,bE p),nU log,dyn (Ld s),(true,cU u 11 13 15),dyn (V1 [w0,x,y,q])] u (aU E p log s u 12 [x,y] n q):=by
 have IJ: ¬w0= [117,115,101]:=by grind
 have zP: ¬w0= [101,110,116,101,114]:=by grind
 have CI: ¬w0= [108,101,97,118,101]:=by grind
 have hm: ∀x'∈[dyn (true,bE p),nU log,dyn (Ld s),(true,cU u 11 13 15),dyn (V1 [w0,x,y,q])],eh (· ∈ah (lC u 11 13 15)) x':=λx' AW=>by
  simp only[dl,nE,nF]at AW;rcases AW with rfl|rfl|rfl|rfl|rfl
  grind[bD]
  ·exact afV
  grind[bD]
  ·exact uM u
  grind[bD]
 generalize aU E p log s u 12 [x,y] n q=y at*;obtain⟨u',e⟩:=y;refine gH f199 ?_;repeat' ((first|refine tX 0 ?_|exact Zt|refine bR ?_ ?_<;>intro h)<;>(try conv=>whnf))
 all_goals try exact Ze
 repeat((first|(refine kO 7 rfl ?_;first|refine qU (λ_ z=>⟨_,_,_,(CC hg (uH rfl rfl rfl) hm),z⟩) ?_)|refine tX 2 ?_|exact Zt);(try conv=>whnf))
 repeat' ((first|refine tX 0 ?_|exact Zt|refine bR ?_ ?_<;>intro h)<;>(try conv=>whnf))
 all_goals exact⟨[(fz 27 11,11),(fz 27 13,13),(fz 27 15,15)],dY rfl rfl,_,rfl,rfl⟩
theorem GK {w0:aj}(hw:w0= [114,101,108,101,97,115,101])(x:aj)(hp:p.aa.length<=1000)(hu:u.res.length<=1000):
  GU 199 [dyn (true,bE p),nU log,dyn (Ld s),(true,cU u 11 13 15),dyn (V1 [w0,x])] u (aU E p log s u 14 [x] n q):=by
 have IJ: ¬w0= [117,115,101]:=by grind
 have zP: ¬w0= [101,110,116,101,114]:=by grind
 have CI: ¬w0= [108,101,97,118,101]:=by grind
 have R5: ¬w0= [116,101,115,116]:=by grind
 have Pj: ¬w0= [114,101,112,97,105,114]:=by grind
 have hr:u.res.length<=1000000:=by omega
 obtain⟨M,hM⟩: ∃M,ui p u.res=M:=⟨_,rfl⟩;have hq:aU E p log s u 14 [x] n q=if u.rel then(u,20)else if s.hall=u.name then(u,17)else if ui p u.res= []then({u with rel:=true},0)else(u,14):=rfl
 rw[hq,hM];clear hq;have cm:=λH fid a b c=> @Rp H fid u a b c p M hM hp hr;have ho:M= []↔((ab M).length :Int)=0:=by simp[ab]
 by_cases h1:u.rel=true
 ·rw[if_pos h1];refine gH f199 ?_;exact K8
 ·rw[if_neg h1];by_cases h2:s.hall=u.name
  ·rw[if_pos h2];refine gH f199 ?_;exact K8
  ·rw[if_neg h2];by_cases h3:M= []
   ·rw[if_pos h3];have h4:=ho.1 h3;exact K86
   ·rw[if_neg h3];have h4: ¬((ab M).length :Int)=0:=λh=>h3 (ho.2 h);exact K86
theorem GL {w0:aj}(hw:w0= [105,110,115,112,101,99,116])(x:aj):
  GU 199 [dyn (true,bE p),nU log,dyn (Ld s),(true,cU u 11 13 15),dyn (V1 [w0,x])] u (aU E p log s u 16 [x] n q):=by
 have IJ: ¬w0= [117,115,101]:=by grind
 have zP: ¬w0= [101,110,116,101,114]:=by grind
 have CI: ¬w0= [108,101,97,118,101]:=by grind
 have R5: ¬w0= [116,101,115,116]:=by grind
 have Pj: ¬w0= [114,101,112,97,105,114]:=by grind
 have Xp: ¬w0= [114,101,108,101,97,115,101]:=by grind
 have hq:aU E p log s u 16 [x] n q=if u.shaken then({u with shaken:=false},0)else(u,20):=rfl
 rw[hq];clear hq;by_cases h1:u.shaken=true
 ·rw[if_pos h1];refine gH f199 ?_;exact K8
 ·rw[if_neg h1];refine gH f199 ?_;exact K8
theorem uN {w0:aj}(w:List aj)(y:Un × Int)(IJ: ¬w0= [117,115,101])(zP: ¬w0= [101,110,116,101,114])(CI: ¬w0= [108,101,97,118,101])(R5: ¬w0= [116,101,115,116])(Pj: ¬w0= [114,101,112,97,105,114])(Xp: ¬w0= [114,101,108,101,97,115,101])(ahW: ¬w0= [105,110,115,112,101,99,116])
  (hg:GU 244 [dyn (true,bE p),(true,cU u 11 13 15),dyn (V1 (w0::w))] u y):
  GU 199 [dyn (true,bE p),nU log,dyn (Ld s),(true,cU u 11 13 15),dyn (V1 (w0::w))] u y:=by
 have hm: ∀x'∈[dyn (true,bE p),(true,cU u 11 13 15),dyn (V1 (w0::w))],eh (· ∈ah (lC u 11 13 15)) x':=λx' AW=>by
  simp only[dl,nE,nF]at AW;rcases AW with rfl|rfl|rfl
  ·exact bD _
  grind[uM]
  ·exact bD _
 obtain⟨u',e⟩:=y;refine gH f199 ?_;repeat' ((first|refine tX 0 ?_|exact Zt|refine bR ?_ ?_<;>intro h)<;>(try conv=>whnf))
 all_goals try exact Ze
 repeat((first|(refine kO 7 rfl ?_;first|refine qU (λ_ z=>⟨_,_,_,(CC hg (uH rfl rfl rfl) hm),z⟩) ?_)|refine tX 2 ?_|exact Zt);(try conv=>whnf))
 repeat' ((first|refine tX 0 ?_|exact Zt|refine bR ?_ ?_<;>intro h)<;>(try conv=>whnf))
 all_goals exact⟨[(fz 31 11,11),(fz 31 13,13),(fz 31 15,15)],dY rfl rfl,_,rfl,rfl⟩
end
abbrev amb:List DC:=[.st (T []),.st (J 0),.st (J 0),.st (J 0),.st (K false),.st (J 0),.st (J 0),.st (J 0),.st (K false),.st (J 0),.nil,.nil,.st (K false),.st (K false),.st (K false),.st (J 0),.nil]
def KD (E:uj)(p:Pl)(log:List En)(s:bP)(u:Un)(q:aj)(n:List Int){w0:aj}(hw:w0= [114,101,112,97,105,114])(x y:aj)(hp:ii p)(hu:u.res.length<=1000):
  GU 199 [dyn (true,bE p),nU log,dyn (Ld s),(true,cU u 11 13 15),dyn (V1 [w0,x,y])] u (aU E p log s u 13 [x,y] n q):=by
 have IJ: ¬w0= [117,115,101]:=by rw[hw];decide
 have zP: ¬w0= [101,110,116,101,114]:=by rw[hw];decide
 have CI: ¬w0= [108,101,97,118,101]:=by rw[hw];decide
 have R5: ¬w0= [116,101,115,116]:=by rw[hw];decide
 have ct:=GF p y hp.pa;have hrl:(u.res.map kF).length =u.res.length:=by simp
 have ho:s.opens= []↔((ab s.opens).length :Int)=0:=by simp[ab]
 by_cases hy:y∈p.bf
 ·obtain⟨j,hj,e⟩:=ld hy;have hjl:j<p.parts.length:=by simpa [Pl.bf]using hj
  have cv:=GH hp j hjl;have Xl:(jo p.aa (p.parts.getD j ([],[])).2).length <=p.aa.length:=rL _ _;have hte:=hp.te
  have hq:aU E p log s u 13 [x,y] n q=if u.rel then(u,20)else if s.hall=u.name/\s.opens= []then(u,24)else({u with res:=u.res.map (voR (jo p.aa (p.parts.getD j ([],[])).2)),failed:=false},0):=by
   have h0:0<=bg p.bf y:=by omega
   show(if 0<=bg p.bf y then _ else _)=_;rw[if_pos h0];simp only[SD,LF];rw[e,sP];rfl
  rw[hq];rw[e]at ct;clear hq;generalize jo p.aa (p.parts.getD j ([],[])).2=vd at*;by_cases h1:u.rel=true
  ·rw[if_pos h1];refine gH f199 ?_;exact UT
  ·rw[if_neg h1];by_cases hh:s.hall=u.name/\s.opens= []
   ·obtain⟨h2,h3⟩:=hh;rw[if_pos ⟨h2,h3⟩];have h4:=ho.1 h3;refine gH f199 ?_;exact K8
   ·rw[if_neg hh];have h5:s.hall=u.name->¬((ab s.opens).length :Int)=0:=λa b=>hh ⟨a,ho.2 b⟩;refine gH f199 ?_;repeat' ((first|refine tX 0 ?_|exact Zt|refine bR ?_ ?_<;>intro h)<;>(try conv=>whnf))
    all_goals try exact Zs
    all_goals
     refine af (ι:=Nat) (λk=>k<=u.res.length) (λk=>u.res.length -k) (λk=>⟨[(8,pP 0),(10,pP 1),(14,pO 2),(15,vI k)],[(0,some (.box 44 (cU u 3 4 5))),(1,some (.box 44 amb)),(2,some (.row true 1 (.view (ab vd)))),(3,some (.row true 1 (.view (ab u.lots)))),(4,some (.row true 4 (.view ((je u.res vd k).map kF)))),(5,some (.row true 5 (.view (u.gas.map vh))))],6⟩) 0 Zc (dD _) ?_;intro k hk;by_cases ak:k<u.res.length
     ·have he:=Ko (vd:=vd) ak;have nq:=E1 (vd:=vd) ak;have xw:((je u.res vd k).map kF).length =u.res.length:=by exact acb
      generalize u.res.getD k B5=rr at*;obtain⟨rt,ra,re,rv⟩:=rr;have he:((je u.res vd k).map kF)[k]? =some [T rt,J ra,J re,K rv]:=he;have cc:=df vd rt K0;by_cases hm:rt∈vd
      ·rw[fL hm]at cc
       have nq:((je u.res vd k).map kF).set k [T rt,J ra,J re,K true]=(je u.res vd (k+1)).map kF:=by
        rw[<- nq];show _=List.set _ k [T rt,J ra,J re,K (rv || decide (rt∈vd))];rw[fL hm,Bool.or_true]
       repeat' ((first|refine tX 0 ?_|exact Zt|refine bR ?_ ?_<;>intro h)<;>(try conv=>whnf))
       all_goals first|exact Zo|exact⟨k+1,ak,by omega,ai ajZ⟩
      ·rw[fj hm]at cc
       have nq:(je u.res vd (k+1)).map kF=(je u.res vd k).map kF:=by
        rw[<- nq];have h:=(kJ.1 he).2;show List.set _ k [T rt,J ra,J re,K (rv || decide (rt∈vd))]=_;rw[fj hm,LQ,<- h,US]
       repeat' ((first|refine tX 0 ?_|exact Zt|refine bR ?_ ?_<;>intro h)<;>(try conv=>whnf))
       all_goals first|exact Zo|exact⟨k+1,ak,by omega,ai (by(conv=>rhs;rw[nq]);kernel_rfl)⟩
     ·obtain rfl:k=u.res.length:=by omega
      have xw:((je u.res vd u.res.length).map kF).length =u.res.length:=by exact acb
      rw[Od]at xw ⊢;repeat' ((first|refine tX 0 ?_|exact Zt|refine bR ?_ ?_<;>intro h)<;>(try conv=>whnf))
      all_goals first|exact Zo|exact⟨[(3,11),(4,13),(5,15)],dY rfl rfl,_,rfl,rfl⟩
 ·rw[fq hy]at ct
  have hq:aU E p log s u 13 [x,y] n q=(u,6):=by
   show(if 0<=bg p.bf y then _ else _)=_;rw[fq hy,if_neg K9]
  rw[hq];refine gH f199 ?_;exact UT
abbrev GS (f:FuncId)(xs:List DX)(s:bP)(y:bP × Int):Prop:=bx cx f 1 xs (F0 s) [] (.aI [(true,sD y.1),dyn (I y.2)]) (F0 y.1)
abbrev m0:List (Nat × Nat):=[(5,5),(7,7),(9,9)]
abbrev lL:aj:=[111,112,101,110]
abbrev nA:aj:=[115,104,117,116]
abbrev lu:aj:=[101,97,114,116,104]
abbrev sE:aj:=[108,105,102,116]
abbrev wD:aj:=[118,111,108,116,97,103,101]
abbrev OF:aj:=[111,102,102]
section
variable (E:uj)(p:Pl)(log:List En)(s:bP)(n:List Int)(q:aj)
theorem WU {w0:aj}(hw:w0=lL)(x:aj)(hg:p.ap.length<=1000)(hs:s.opens.length<=1000):
  GS 198 [dyn (true,bE p),(true,sD s),dyn (V1 [w0,x])] s (bs E p log s 4 [x] n q):=by
 have c1:=df p.ap x K0;have c2:=df s.opens x K0;have hol:(ab s.opens).length =s.opens.length:=by simp
 have hq:bs E p log s 4 [x] n q=if x∈p.ap then(if x∈s.opens then(s,20)else if s.volt=false/\s.earth=true then({s with opens:=s.opens++[x]},0)else(s,24))else(s,6):=rfl
 rw[hq];clear hq;by_cases h1:x∈p.ap
 ·rw[if_pos h1];rw[fL h1]at c1;by_cases h2:x∈s.opens
  ·rw[if_pos h2];rw[fL h2]at c2;refine gH f198 ?_;exact K4
  ·rw[if_neg h2];rw[fj h2]at c2;by_cases h3:s.volt=false/\s.earth=true
   ·rw[if_pos h3];obtain⟨h4,h5⟩:=h3;refine gH f198 ?_;repeat' ((first|refine tX 0 ?_|exact Zt|refine bR ?_ ?_<;>intro h)<;>(try conv=>whnf))
    all_goals first|exact Zs|exact⟨[(90,5),(7,7),(9,9)],nR rfl ⟨⟨90,_,by simp,rfl,by rw[qG];kernel_rfl⟩,⟨7,_,by simp,rfl,rfl⟩,⟨9,_,by simp,rfl,rfl⟩,trivial⟩,_,rfl,rfl⟩
   ·rw[if_neg h3];refine gH f198 ?_;exact K4
 ·rw[if_neg h1];rw[fj h1]at c1;refine gH f198 ?_;exact K4
theorem OG {l:List aj}{x:aj}{i:Nat}(h:i<l.length):(l.take (i+1)).filter (λy=> !(y==x))=(l.take i).filter (λy=> !(y==x))++(if l.getD i []=x then []else [l.getD i []]):=by
 rw[take_succ h,SG];congr 1;generalize l.getD i []=v;by_cases e:v=x
 ·rw[if_pos e];simp[e]
 ·rw[if_neg e];simp[e]
theorem WV {w0:aj}(hw:w0=nA)(x:aj)(hg:p.ap.length<=1000)(hs:s.opens.length<=1000)(hn:s.opens.Nodup):
  GS 198 [dyn (true,bE p),(true,sD s),dyn (V1 [w0,x])] s (bs E p log s 5 [x] n q):=by
 have no: ¬w0=lL:=by rw[hw];decide
 have c1:=df p.ap x K0;have c2:=df s.opens x K0;have hol:(ab s.opens).length =s.opens.length:=by simp
 have hq:bs E p log s 5 [x] n q=if x∈p.ap then(if x∈s.opens then({s with opens:=s.opens.erase x},0)else(s,20))else(s,6):=rfl
 rw[hq];clear hq;by_cases h1:x∈p.ap
 ·rw[if_pos h1];rw[fL h1]at c1;by_cases h2:x∈s.opens
  ·rw[if_pos h2];rw[fL h2]at c2;have her:s.opens.erase x=s.opens.filter (λy=> !(y==x)):=hn.erase_eq_filter x;rw[her];refine gH f198 ?_;repeat' ((first|refine tX 0 ?_|exact Zt|refine bR ?_ ?_<;>intro h)<;>(try conv=>whnf))
   all_goals try exact Zs
   all_goals
    refine af (ι:=Nat) (λi=>i<=s.opens.length) (λi=>s.opens.length -i) (λi=>⟨[(2,some (.val (false,[.st (.view (ab [w0,x]))]))),(4,pP 0),(6,pP 1),(8,pO 2),(9,vI i)],[(0,some (.box 58 [.st (K s.volt),.st (K s.earth),.own 3,.st (T s.hall),.own 4,.own 5])),(1,some (.box 58 [.st (K false),.st (K false),.nil,.st (T []),.nil,.nil])),(2,some (.row true 1 (.view (ab ((s.opens.take i).filter λy=> !(y==x)))))),(3,some (.row true 1 (.view (ab s.opens)))),(4,some (.row true 1 (.view (ab s.lots)))),(5,some (.row true 17 (.view (s.units.map ky))))],6⟩) 0 (bp.trans (iG 8 1 (.view []) K9 rfl rfl rfl) Zc) (dD _) ?_;intro i hi;by_cases ak:i<s.opens.length
    ·have he:=sA ak;have hft:=OG (x:=x) ak;have ox:((s.opens.take i).filter λy=> !(y==x)).length <=i:=pd (LC _ _) wa;generalize (s.opens.take i).filter (λy=> !(y==x))=out at*;generalize s.opens.getD i []=y at*;have hou:(ab out).length =out.length:=by simp
     by_cases hyx:y=x
     ·rw[if_pos hyx,xS]at hft;repeat' ((first|refine tX 0 ?_|exact Zt|refine bR ?_ ?_<;>intro h)<;>(try conv=>whnf))
      all_goals first|exact Ze|exact⟨i+1,ak,by omega,ai (by rw[hft];kernel_rfl)⟩
     ·rw[if_neg hyx]at hft;repeat' ((first|refine tX 0 ?_|exact Zt|refine bR ?_ ?_<;>intro h)<;>(try conv=>whnf))
      all_goals first|exact Ze|exact⟨i+1,ak,by omega,ai (by rw[hft,qG];kernel_rfl)⟩
    ·obtain rfl:i=s.opens.length:=by omega
     rw[mA];repeat' ((first|refine tX 0 ?_|exact Zt|refine bR ?_ ?_<;>intro h)<;>(try conv=>whnf))
     all_goals first|exact Ze|exact⟨[(2,5),(4,7),(5,9)],dY rfl rfl,_,rfl,rfl⟩
  ·rw[if_neg h2];rw[fj h2]at c2;refine gH f198 ?_;exact K4
 ·rw[if_neg h1];rw[fj h1]at c1;refine gH f198 ?_;exact K4
theorem Rv {w0:aj}(hw:w0=lu)(a:List aj)(w:List aj):
  GS 198 [dyn (true,bE p),(true,sD s),dyn (V1 (w0::w))] s (bs E p log s 6 a n q):=by
 have n0: ¬w0=lL:=by rw[hw];decide
 have n1: ¬w0=nA:=by rw[hw];decide
 have ho:s.opens= []↔((ab s.opens).length :Int)=0:=by simp[ab]
 have hq:bs E p log s 6 a n q=if s.earth then(s,20)else if s.volt then(s,24)else({s with earth:=true},0):=rfl
 rw[hq];clear hq;by_cases h1:s.earth=true
 ·rw[if_pos h1];refine gH f198 ?_;exact K4
 ·rw[if_neg h1];by_cases h2:s.volt=true
  ·rw[if_pos h2];refine gH f198 ?_;exact K4
  ·rw[if_neg h2];refine gH f198 ?_;exact K4
theorem WW {w0:aj}(hw:w0=sE)(a:List aj)(w:List aj):
  GS 198 [dyn (true,bE p),(true,sD s),dyn (V1 (w0::w))] s (bs E p log s 7 a n q):=by
 have n0: ¬w0=lL:=by rw[hw];decide
 have n1: ¬w0=nA:=by rw[hw];decide
 have n2: ¬w0=lu:=by rw[hw];decide
 have ho:s.opens= []↔((ab s.opens).length :Int)=0:=by simp[ab]
 have hq:bs E p log s 7 a n q=if s.earth then(if s.opens= []then({s with earth:=false},0)else(s,24))else(s,20):=rfl
 rw[hq];clear hq;by_cases h1:s.earth=true
 ·rw[if_pos h1];by_cases h2:s.opens= []
  ·rw[if_pos h2];have h4:=ho.1 h2;refine gH f198 ?_;exact K4
  ·rw[if_neg h2];have h4: ¬((ab s.opens).length :Int)=0:=λh=>h2 (ho.2 h);refine gH f198 ?_;exact K4
 ·rw[if_neg h1];refine gH f198 ?_;exact K4
theorem KE {w0:aj}(hw:w0=wD)(a:List aj)(w:List aj):
  GS 198 [dyn (true,bE p),(true,sD s),dyn (V1 (w0::w))] s (bs E p log s 8 a n q):=by
 have n0: ¬w0=lL:=by rw[hw];decide
 have n1: ¬w0=nA:=by rw[hw];decide
 have n2: ¬w0=lu:=by rw[hw];decide
 have n3: ¬w0=sE:=by rw[hw];decide
 have ho:s.opens= []↔((ab s.opens).length :Int)=0:=by simp[ab]
 have hq:bs E p log s 8 a n q=if s.volt then(s,20)else if s.opens= []/\s.earth=false then({s with volt:=true},0)else(s,24):=rfl
 rw[hq];clear hq;by_cases h1:s.volt=true
 ·rw[if_pos h1];refine gH f198 ?_;exact K4
 ·rw[if_neg h1];by_cases h2:s.opens= []/\s.earth=false
  ·rw[if_pos h2];obtain⟨h3,h5⟩:=h2;have h4:=ho.1 h3;refine gH f198 ?_;exact K4
  ·rw[if_neg h2];by_cases h3:s.opens= []
   ·have h4:=ho.1 h3;have h5:s.earth=true:=by cases h:s.earth with|true=>rfl|false=>exact absurd ⟨h3,h⟩ h2
    refine gH f198 ?_;exact K4
   ·have h4: ¬((ab s.opens).length :Int)=0:=λh=>h3 (ho.2 h);refine gH f198 ?_;exact K4
theorem abd {w0:aj}(hw:w0=OF)(a:List aj)(w:List aj):
  GS 198 [dyn (true,bE p),(true,sD s),dyn (V1 (w0::w))] s (bs E p log s 9 a n q):=by
 have n0: ¬w0=lL:=by rw[hw];decide
 have n1: ¬w0=nA:=by rw[hw];decide
 have n2: ¬w0=lu:=by rw[hw];decide
 have n3: ¬w0=sE:=by rw[hw];decide
 have n4: ¬w0=wD:=by rw[hw];decide
 have ho:s.opens= []↔((ab s.opens).length :Int)=0:=by simp[ab]
 have hq:bs E p log s 9 a n q=if s.volt then({s with volt:=false},0)else(s,20):=rfl
 rw[hq];clear hq;by_cases h1:s.volt=true
 ·rw[if_pos h1];refine gH f198 ?_;exact K4
 ·rw[if_neg h1];refine gH f198 ?_;exact K4
end
end Go.Proofs.Tryz
