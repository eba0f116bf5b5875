import Derived.Test.YtolnfpljgjpbpaaGreatDoorPk16
import Derived.Test.YtolnfpljgjpbpaaGreatDoorPk23
import Derived.Test.YtolnfpljgjpbpaaGreatDoorPk25
set_option linter.all false
set_option maxRecDepth 100000
set_option maxHeartbeats 8000000
namespace Go.Proofs.Tryz
open Go.Fw Go.IntWalk Go.Plain
def Cp (s:aj)(hl:s.length<=10000): ∃a b ok,ac 254 [SS s] (.aI [F2 a b,Bo ok])/\OD s=if ok=true then some (a,b)else none:=by
 have c1:ac 131 [SS s,(false,[.lit (.int .u8 32)])] (.own 1 (.view (ab (aH 32 s)))):=by
  have:=j0 s 32 K0
  grind[iM]
 have hm:OD s=Ep (wN true 16) (wN true 16) (aH 32 s):=rfl;have h1:=(cj 32 s).2;rw[hm];generalize aH 32 s=ws at*;have hn:(ab ws).length =ws.length:=by simp
 by_cases h2:ws.length=2
 ·obtain⟨x,y,rfl⟩:=Fv h2;have hx:=h1 x (by simp);have hy:=h1 y (by simp);have cx':=iC x 16 bX K0;have cy':=iC y 16 bX K0;show ∃a b ok,_/\((wN true 16 x).bind λu=>(wN true 16 y).map λv=>(u,v))=_;rw[CG,CG];have aeh:ac 158 [SS x,I 16] (.aI (Np (fN 16 x))):=cx';have aei:ac 158 [SS y,I 16] (.aI (Np (fN 16 y))):=cy'
  cases e1:fN 16 x with
  |none=>
   cases e2:fN 16 y with
   |none=>
    rw[e1]at aeh;rw[e2]at aei;refine⟨0,0,false,?_,rfl⟩;exact Yt
   |some b=>
    rw[e1]at aeh;rw[e2]at aei;refine⟨0,b,false,?_,rfl⟩;exact Yt
  |some a=>
   cases e2:fN 16 y with
   |none=>
    rw[e1]at aeh;rw[e2]at aei;refine⟨a,0,false,?_,rfl⟩;exact Yt
   |some b=>
    rw[e1]at aeh;rw[e2]at aei;refine⟨a,b,true,?_,rfl⟩;exact Yt
 ·refine⟨0,0,false,?_,?_⟩
  ·exact Yt
  ·match ws,h2 with
   | [],_=>rfl
   | [_],_=>rfl
   |_::_::_::_,_=>rfl
def FL (log:List En)(u:Un)(t:aj)(hl:u.res.length<=1000000){rt:aj}{ra:Int}{k:Nat}{rv:Bool}(hr:iO u.res t=some ⟨rt,ra,(k:Nat),rv⟩)(hk:k<log.length){a:List aj}{i:Int}(ha:a.length=3)(hs:Kd (log.getD k iX).text =(a++[ci 3 (log.getD k iX).text],i,true))(ht:(log.getD k iX).text.length <=9000):
  ac 259 [(false,[.view (log.map cd)]),(true,jB u),SS t] (.aI (PR (dT (cI (aH 32 (ci 3 (log.getD k iX).text)))))):=by
 have hn:(u.res.map kg).length =u.res.length:=by simp
 have Bf:(log.map cd).length =log.length:=by simp
 have iG:=aZ (f:=cd) hk iX;generalize log.getD k iX=en at*;obtain⟨et,ew,tx⟩:=en;dsimp only at hs ht ⊢;have iG:(log.map cd)[k]? =some [J et,T ew,T tx]:=iG;have c1:=lk tx K0;rw[hs]at c1;have hdl:=oh 3 tx;have c2:=ki (ci 3 tx) K0;generalize ci 3 tx=dr at*;generalize dT (cI (aH 32 dr))=y at*;obtain⟨⟨st,rl⟩,ye⟩:=y;have hw3:(ab (a++[dr]))[3]? =some [T dr]:=by grind
 have UQ:(ab (a++[dr])).length =4:=by grind
 refine sF f259 ?_
 (try(refine tX 0 ?_;try exact Zt))
 refine af (ι:=Nat) (λn=>n<=u.res.length/\iO u.res t=iO (u.res.take n) t) (λn=>n) (λn=>⟨[(0,some (.val (false,[.st (.view (log.map cd))]))),(2,lS t),(4,pP 0),(6,pP 1),(8,vI ((n:Nat) -1:Int))],[(0,some (bxU u)),(1,some (.box 249 [.st (J 0),.nil]))],2⟩) u.res.length (ai P3) ⟨dG _,by grind⟩ ?_;rintro n ⟨hi,hg⟩
 cases n with
 |zero=>
  rw[hr]at hg;exact absurd hg (by simp[iO])
 |succ n=>
  have al:n<u.res.length:=by omega
  have he:=aZ (f:=kg) al AC;have z6:u.res.take (n+1)=u.res.take n++[u.res.getD n AC]:=by simp_all
  rw[z6,FF]at hg;generalize u.res.getD n AC=x at*;obtain⟨xt,xa,xe,xv⟩:=x;have he:(u.res.map kg)[n]? =some [T xt,J xa,J xe,K xv]:=he;unfold sY at hg;dsimp only at hg;by_cases hx:xt=t
  ·subst hx;cases xv
   ·rw[if_pos (by simp),hr]at hg;simp only[lM,Rs.mk.injEq]at hg;obtain⟨-,-,rfl,-⟩:=hg;exact tL
   ·rw[if_neg (by simp)]at hg;exact K24
  ·rw[if_neg bw]at hg;exact K24
def o4 (a b lo hi:Int):ac 255 [F2 a b,F2 lo hi] (.aI [I (sf a b lo hi).1,I (sf a b lo hi).2]):=by
 have h:=AR a b lo hi;unfold sf
 grind
def Cq (e:Int)(q:Sp)(ch:List Sp)(hq:qE q)(wl: ∀s∈ch,qE s)(l:List Int):ac 262 [Ru e q ch,FG l e] (.aI [F2 (zE e q ch l).1.1 (zE e q ch l).1.2,I (zE e q ch l).2]):=by
 have h:=AS e q ch hq wl (pk l:Nat) (pI l -e) (pI l+e) (Re l e) (Fg l e) (Rf l e) (Fh l e) (ov l e) (hfh l e);unfold zE
 grind
def aa2 (log:List En)(u:Un)(nm:aj)(nd:List aj)(ru:aj)(lo hi:Int)(rest:aj)(hl:rest.length<=10000):
  ac 208 [(false,[.view (log.map cd)]),(true,jB u),(true,fB ⟨nm,0,nd,ru,lo,hi⟩),SS rest] (.aI [I (uR lo hi rest).1,I (uR lo hi rest).2]):=by
 obtain⟨a,b,ok,c1,e⟩:=Cp rest hl;unfold uR;rw[e];cases ok
 ·rw[if_neg xZ];exact Te
 ·rw[if_pos rfl];have c3:=o4 a b lo hi;show nR _ _ _ _ (.aI [I (sf a b lo hi).1,I (sf a b lo hi).2]);generalize sf a b lo hi=z at*;exact Te
def aa3 (log:List En)(u:Un)(nm:aj)(nd:List aj)(ru:aj)(lo hi:Int)(rest:aj)(hl:rest.length<=10000):
  ac 208 [(false,[.view (log.map cd)]),(true,jB u),(true,fB ⟨nm,3,nd,ru,lo,hi⟩),SS rest] (.aI [I (Fq lo hi rest).1,I (Fq lo hi rest).2]):=by
 have c1:=A4 rest hl;obtain⟨⟨b1,b2⟩,b3⟩:=aaf rest;have c2:=Hj (CO rest).1 K0 K0 b3;unfold Fq;generalize CO rest=y at*;obtain⟨x,ye⟩:=y;by_cases h1:ye=0
 ·subst h1;rw[if_pos rfl];dsimp only at c1 c2 ⊢;generalize T7 x=w at*;obtain⟨⟨w1,w2⟩,we⟩:=w;by_cases h2:we=0
  ·subst h2;rw[if_pos rfl];have c3:=o4 w1 w2 lo hi;generalize sf w1 w2 lo hi=z at*;exact Te
  ·rw[if_neg h2];exact Te
 ·rw[if_neg h1];exact Te
def aa4 (log:List En)(u:Un)(nm:aj)(nd:List aj)(ru:aj)(lo hi:Int)(rest:aj)(hl:rest.length<=10000)(hr:ru.length<=10000):
  ac 208 [(false,[.view (log.map cd)]),(true,jB u),(true,fB ⟨nm,1,nd,ru,lo,hi⟩),SS rest] (.aI [I (KM log u ⟨nm,1,nd,ru,lo,hi⟩ rest).1,I (KM log u ⟨nm,1,nd,ru,lo,hi⟩ rest).2]):=by
 have c1:=k8 ru hr;have c2:=ki rest hl;obtain⟨b1,b2,b3⟩:=CU ru;have b4:=vN rest;unfold KM;dsimp only;rw[if_neg bX,if_neg bX];generalize iE (eD (aH 59 ru))=y at*;obtain⟨⟨e,q,ch⟩,ye⟩:=y;generalize dT (cI (aH 32 rest))=x at*;obtain⟨⟨st,l⟩,xe⟩:=x;dsimp only at*;by_cases h1:xe=0
 ·subst h1;rw[if_pos rfl,if_neg bX];have c3:=AQ e q ch st l b1 b2 acg;unfold aaA;by_cases h2:s8 e q ch st l=0
  ·rw[if_pos h2]at c3 ⊢;have c4:=Cq e q ch b1 b2 l;generalize zE e q ch l=w at*;obtain⟨⟨w1,w2⟩,we⟩:=w;by_cases h3:we=0
   ·subst h3;rw[if_pos rfl];have c5:=o4 w1 w2 lo hi;generalize sf w1 w2 lo hi=z at*;exact Te
   ·rw[if_neg h3];exact Te
  ·rw[if_neg h2]at c3 ⊢;generalize s8 e q ch st l=z at*;exact Te
 ·rw[if_neg h1];exact Te
def adU (log:List En)(u:Un)(t:Ts):Prop:=∃n0 nd rt ra,∃k:Nat,∃rv a i,t.bv=n0::nd/\iO u.res n0=some ⟨rt,ra,(k:Nat),rv⟩/\k<log.length/\a.length=3/\Kd (log.getD k iX).text =(a++[ci 3 (log.getD k iX).text],i,true)/\(log.getD k iX).text.length <=9000/\(dT (cI (aH 32 (ci 3 (log.getD k iX).text)))).2=0
def aa5 (log:List En)(u:Un)(nm:aj)(nd:List aj)(ru:aj)(lo hi:Int)(rest:aj)(lE:u.res.length<=1000000)(hl:rest.length<=10000)(hr:ru.length<=10000)(hc:adU log u ⟨nm,2,nd,ru,lo,hi⟩):
  ac 208 [(false,[.view (log.map cd)]),(true,jB u),(true,fB ⟨nm,2,nd,ru,lo,hi⟩),SS rest] (.aI [I (KM log u ⟨nm,2,nd,ru,lo,hi⟩ rest).1,I (KM log u ⟨nm,2,nd,ru,lo,hi⟩ rest).2]):=by
 obtain⟨n0,nd',rt,ra,k,rv,a,i,rfl,h1,h2,h3,h4,h5,h6⟩:=hc;have c1:=k8 ru hr;have c2:=ki rest hl;obtain⟨b1,b2,b3⟩:=CU ru;have b4:=vN rest;have c3:=FL log u n0 lE h1 h2 h3 h4 h5;have hdl:=oh 3 (log.getD k iX).text;have b5:=vN (ci 3 (log.getD k iX).text);unfold KM;dsimp only;rw[if_neg bX,if_neg bX,L6,h1];simp only[vX,tK];generalize log.getD k iX=en at*;generalize iE (eD (aH 59 ru))=y at*;obtain⟨⟨e,q,ch⟩,ye⟩:=y;generalize dT (cI (aH 32 rest))=x at*;obtain⟨⟨st,l⟩,xe⟩:=x;generalize dT (cI (aH 32 (ci 3 en.text)))=v at*;obtain⟨⟨sa,la⟩,va⟩:=v;dsimp only at*;subst h6;by_cases h1:xe=0
 ·subst h1;rw[if_pos rfl,if_pos trivial];have c4:=wh e q ch sa la st l b1 b2 acg acg;unfold WC at c4;unfold WE;by_cases h1:dx e q ch sa la st l=0
  ·rw[h1]at c4 ⊢;rw[if_neg K0]at c4 ⊢;by_cases h2:km (Ui e q la l)
   ·rw[if_pos h2]at c4 ⊢;exact Te
   ·rw[if_neg h2]at c4 ⊢;by_cases h3:e=0
    ·rw[if_pos h3]at c4;exact Te
    ·rw[if_neg h3]at c4;exact Te
  ·rw[if_pos h1]at c4 ⊢;generalize dx e q ch sa la st l=z at*;exact Te
 ·rw[if_neg h1];exact Te
def Cr (log:List En)(u:Un)(t:Ts)(rest:aj)(lE:u.res.length<=1000000)(hl:rest.length<=10000)(hr:t.rules.length<=10000)(hk:0<=t.kind/\t.kind<=3)(hc:t.kind=2->adU log u t):
  ac 208 [(false,[.view (log.map cd)]),(true,jB u),(true,fB t),SS rest] (.aI [I (KM log u t rest).1,I (KM log u t rest).2]):=by
 obtain⟨nm,kd,nd,ru,lo,hi⟩:=t;dsimp only at hr hk hc;obtain rfl|rfl|rfl|rfl:kd=0\/kd=1\/kd=2\/kd=3:=by omega
 ·exact aa2 log u nm nd ru lo hi rest hl
 ·exact aa4 log u nm nd ru lo hi rest hl hr
 ·exact aa5 log u nm nd ru lo hi rest lE hl hr (hc rfl)
 ·exact aa3 log u nm nd ru lo hi rest hl
def bq {m:List (Nat × Nat)}{H:HF}{Y:Hp}(h:(Go.Fw.eM (m.map Prod.fst)&&Go.Fw.eM (m.map Prod.snd))=true)(hY:jY m H m=some Y):cZ m H Y.get:=by
 simp only[sU]at h;exact⟨bY h.1,bY h.2,λn b' e=>pt hY e⟩
def sq (u:Un)(h1:u.lots.length<=1000)(h2:u.res.length<=1000)(h3:u.gas.length<=1000):ac 137 [(true,jB u)] (.one (true,jB u)):=by
 have c1:=dD u.lots K0;have n2:(u.res.map kg).length =u.res.length:=by simp
 have n3:(u.gas.map tp).length =u.gas.length:=by simp
 refine sW (fn:=f137) ?_;repeat' ((first|refine tX 0 ?_|exact Zt|refine bR ?_ ?_<;>intro h)<;>(try conv=>whnf))
 exact⟨[(true,jB u)],[8,20,32],bp ⟨rfl,rfl,uU (a:=8) (b:=20) (c:=32) (by simp) rfl rfl rfl⟩ gZ,rfl,rfl⟩
def KY (u:Un)(h1:u.lots.length<=1000)(h2:u.res.length<=1000)(h3:u.gas.length<=1000):bA cx 137 1 [dyn (true,jB u)] [] [] (.val (true,cV u 11 13 15)) (lC u 11 13 15):=by
 have c1:=dD u.lots K0;have n2:(u.res.map kg).length =u.res.length:=by simp
 have n3:(u.gas.map tp).length =u.gas.length:=by simp
 refine gR f137 ?_;repeat' ((first|refine tX 0 ?_|exact Zt|refine bR ?_ ?_<;>intro h)<;>(try conv=>whnf))
 exact⟨[(10,11),(22,13),(34,15)],bq rfl rfl,_,rfl,rfl⟩
abbrev stE (s:bV):List DC:=so s
def F0 (s:bV):Hp:=[(5,some (.row true 1 (.view (ab s.opens)))),(7,some (.row true 1 (.view (ab s.lots)))),(9,some (.row true 17 (.view (s.units.map jB))))]
def RH (s:bV)(h1:s.opens.length<=1000)(h2:s.lots.length<=1000)(h3:s.units.length<=1000)(hu: ∀u∈s.units,(u.lots.length<=1000/\u.res.length<=1000)/\u.gas.length<=1000):bA cx 99 1 [dyn (true,tq s)] [] [] (.val (true,so s)) (F0 s):=by
 have c1:=dD s.opens K0;have c2:=dD s.lots K0;have n1:(s.units.map jB).length =s.units.length:=by simp
 refine gR f99 ?_;repeat' ((first|refine tX 0 ?_|exact Zt|refine bR ?_ ?_<;>intro h)<;>(try conv=>whnf))
 refine af (ι:=Nat) (λi=>i<=s.units.length) (λi=>s.units.length -i) (λi=>⟨[(1,pP 0),(2,pP 1),(3,vI i)],[(0,some (.box 35 [.st (K s.volt),.st (K s.earth),.own 2,.st (T s.hall),.own 3,.own 4])),(1,some (.box 35 [.st (K false),.st (K false),.nil,.st (T []),.nil,.nil])),(2,some (.row true 1 (.view (ab s.opens)))),(3,some (.row true 1 (.view (ab s.lots)))),(4,some (.row true 17 (.view (s.units.map jB))))],5⟩) 0 Zc (dz _) ?_;intro i hi;by_cases al:i<s.units.length
 ·have he:=aZ (f:=jB) al pA;have LI:s.units.getD i pA∈s.units:=zl al;have c3:=sq (s.units.getD i pA) (hu _ LI).1.1 (hu _ LI).1.2 (hu _ LI).2
  have nq:(s.units.map jB).set i (jB (s.units.getD i pA))=s.units.map jB:=by
   rw[<- Tb];congr 1;rw[jX,o8 al,vX,L4]
  generalize s.units.getD i pA=u at*;repeat' ((first|refine tX 0 ?_|exact Zt|refine bR ?_ ?_<;>intro h)<;>(try conv=>whnf))
  all_goals first|exact Zo|exact⟨i+1,al,by omega,ai ajs⟩
 ·obtain rfl:i=s.units.length:=by omega
  repeat' ((first|refine tX 0 ?_|exact Zt|refine bR ?_ ?_<;>intro h)<;>(try conv=>whnf))
  all_goals first|exact Zo|exact⟨[(2,5),(3,7),(4,9)],bq rfl rfl,_,rfl,rfl⟩
abbrev fz (n k:Nat):Nat:=2*(n*4294967296+k)+1
theorem o5 {m:List (Nat × Nat)}{z:Nat}{l l':List (List DC)}(h:fC m l=some l'):fq m (.az z l)=some (.az z l'):=by
 show(match fC m l with|some l'=>some (cC.az z l')|none=>none)=_;rw[h]
abbrev unS (u:Un):List DC:=(jB u).map .st
abbrev qa (us:List Un):List (List DC):=stL (us.map jB)
abbrev Ab (s:bV):List DC:=[.st (K s.volt),.st (K s.earth),.st (.view (ab s.opens)),.st (T s.hall),.st (.view (ab s.lots)),.own 9]
def F1 (us:List Un)(i:Nat)(u:Un):Hp:=[(9,some (.az 17 ((qa us).set i (cV u 11 13 15)))),(11,some (.row true 1 (.view (ab u.lots)))),(13,some (.row true 4 (.view (u.res.map kg)))),(15,some (.row true 5 (.view (u.gas.map tp))))]
def Hk (H:HF)(fid:Nat)(u:Un)(h1:u.lots.length<=1000)(h2:u.res.length<=1000)(h3:u.gas.length<=1000):
  bI cx fid 137 [dyn (true,jB u)] H (LA (aq (tag fid) 0) (.val (true,cV u 11 13 15))) (cH [] (cT (aq (tag fid) 0) (lC u 11 13 15))) []:=by
 refine Go.Fw.mw (KY u h1 h2 h3) ⟨by simp[lC],λk hk=>?_,λk b e=>?_⟩ (λx hx=>?_) (λd hd=>?_)
 ·exact aie
 ·exact aia
 ·have:x=dyn (true,jB u):=by simpa using hx
  subst this;exact bd _
 ·exact K93
def RJ (s:bV){i:Nat}{u:Un}(hi:s.units[i]? =some u)(h1:s.opens.length<=1000)(h2:s.lots.length<=1000)(h3:s.units.length<=1000)(hu: ∀u∈s.units,(u.lots.length<=1000/\u.res.length<=1000)/\u.gas.length<=1000):bA cx 99 1 [dyn (true,tq s)] [] [] (.val (true,Ab s)) (F1 s.units i u):=by
 have c1:=(dD s.opens K0).xV;have c2:=(dD s.lots K0).xV;have n1:(s.units.map jB).length =s.units.length:=by simp
 have R8:=(kF.1 hi).1;refine gR f99 ?_;repeat' ((first|refine tX 0 ?_|exact Zt|refine bR ?_ ?_<;>intro h)<;>(try conv=>whnf))
 have n2:(qa s.units).length =s.units.length:=by simp[stL]
 have hA: ∀m,fC m (qa s.units)=some (qa s.units):=λm=>KZ m _
 refine af (ι:=Nat) (λj=>j<=s.units.length) (λj=>s.units.length -j)
  (λj=>if j<=i then⟨[(1,pP 2),(2,pP 4),(3,vI j)],[(9,some (.az 17 (qa s.units))),(2,some (.box 35 (Ab s))),(4,some (.box 35 [.st (K false),.st (K false),.nil,.st (T []),.nil,.nil]))],1000⟩
   else⟨[(1,pP 2),(2,pP 4),(3,vI j)],[(9,some (.az 17 ((qa s.units).set i (cV u 11 13 15)))),(2,some (.box 35 (Ab s))),(4,some (.box 35 [.st (K false),.st (K false),.nil,.st (T []),.nil,.nil])),(11,some (.row true 1 (.view (ab u.lots)))),(13,some (.row true 4 (.view (u.res.map kg)))),(15,some (.row true 5 (.view (u.gas.map tp))))],1000⟩) 0
  (by
   rw[if_pos (dz _)]
   refine bu.trans (Of 32 (V:=s.units.map jB) rfl) (pM (ks:=[1,2,3]) (m:=[(32,9),(2,2),(4,4)]) rfl ⟨⟨32,_,by simp,rfl,o5 (hA _)⟩,⟨2,_,by simp,rfl,rfl⟩,⟨4,_,by simp,rfl,rfl⟩,trivial⟩ rfl dy)) (dz _) ?_
 intro j hj;by_cases al:j<s.units.length
 ·have he:(qa s.units)[j]? =some (unS (s.units.getD j pA)):=by
   have:=aZ (f:=jB) al pA;show((s.units.map jB).map _)[j]? =_;rw[gA,this];rfl
  have LI:s.units.getD j pA∈s.units:=zl al
  have nq:(qa s.units).set j (unS (s.units.getD j pA))=qa s.units:=by
   have h:=(kF.1 he).2;rw[<- h,L4]
  rcases S4 j i with hji|hji|hji
  ·rw[if_pos K0];have c3:=sq (s.units.getD j pA) (hu _ LI).1.1 (hu _ LI).1.2 (hu _ LI).2;generalize s.units.getD j pA=v at*;repeat' ((first|refine tX 0 ?_|exact Zt|refine bR ?_ ?_<;>intro h)<;>(try conv=>whnf))
   all_goals first|exact Zo|skip
   refine⟨j+1,al,by omega,?_⟩;rw[if_pos K0];exact pM (ks:=[1,2,3]) (m:=[(9,9),(2,2),(4,4)]) rfl ⟨⟨9,_,by simp,rfl,o5 (show fC _ ((qa s.units).set j (unS v))=_ by rw[nq];exact hA _)⟩,⟨2,_,by simp,rfl,rfl⟩,⟨4,_,by simp,rfl,rfl⟩,trivial⟩ rfl dy
  ·subst hji;rw[if_pos (dG _)];have hgu:s.units.getD j pA=u:=by rw[jX,hi];rfl
   rw[hgu]at he LI nq;have c3:=λH fid=>Hk H fid u (hu _ LI).1.1 (hu _ LI).1.2 (hu _ LI).2;repeat' ((first|(refine kO 7 rfl ?_;first|refine Rw (c3 _ _) ?_)|refine tX 0 ?_|exact Zt|refine bR ?_ ?_<;>intro h)<;>(try conv=>whnf))
   all_goals first|exact Zo|skip
   refine⟨j+1,al,by omega,?_⟩;rw[if_neg K0];exact pM (ks:=[1,2,3]) (m:=[(9,9),(2,2),(4,4),(fz 1013 11,11),(fz 1013 13,13),(fz 1013 15,15)]) rfl ⟨⟨9,_,by simp,rfl,o5 (show fC _ ((qa s.units).set j (cV u (fz 1013 11) (fz 1013 13) (fz 1013 15)))=_ from iF rfl)⟩,⟨2,_,by simp,rfl,rfl⟩,⟨4,_,by simp,rfl,rfl⟩,⟨fz 1013 11,_,by simp,rfl,rfl⟩,⟨fz 1013 13,_,by simp,rfl,rfl⟩,⟨fz 1013 15,_,by simp,rfl,rfl⟩,trivial⟩ rfl dy
  ·rw[if_neg K0];have c3:=sq (s.units.getD j pA) (hu _ LI).1.1 (hu _ LI).1.2 (hu _ LI).2;have he2:((qa s.units).set i (cV u 11 13 15))[j]? =some (unS (s.units.getD j pA)):=by rw[P1 K0];exact he
   have alT:((qa s.units).set i (cV u 11 13 15)).set j (unS (s.units.getD j pA))=(qa s.units).set i (cV u 11 13 15):=by
    have h:=(kF.1 he2).2;rw[<- h,L4]
   have n3:((qa s.units).set i (cV u 11 13 15)).length =s.units.length:=by rw[GD];exact n2
   generalize s.units.getD j pA=v at*;clear he nq;repeat' ((first|refine tX 0 ?_|exact Zt|refine bR ?_ ?_<;>intro h)<;>(try conv=>whnf))
   all_goals first|exact Zo|skip
   refine⟨j+1,al,by omega,?_⟩;rw[if_neg K0];exact pM (ks:=[1,2,3]) (m:=[(9,9),(2,2),(4,4),(11,11),(13,13),(15,15)]) rfl ⟨⟨9,_,by simp,rfl,o5 (show fC _ (((qa s.units).set i (cV u 11 13 15)).set j (unS v))=_ by rw[alT];exact iF rfl)⟩,⟨2,_,by simp,rfl,rfl⟩,⟨4,_,by simp,rfl,rfl⟩,⟨11,_,by simp,rfl,rfl⟩,⟨13,_,by simp,rfl,rfl⟩,⟨15,_,by simp,rfl,rfl⟩,trivial⟩ rfl dy
 ·obtain rfl:j=s.units.length:=by omega
  rw[if_neg K0];have n3:((qa s.units).set i (cV u 11 13 15)).length =s.units.length:=by rw[GD];exact n2
  repeat' ((first|refine tX 0 ?_|exact Zt|refine bR ?_ ?_<;>intro h)<;>(try conv=>whnf))
  all_goals first|exact Zo|exact⟨[(9,9),(11,11),(13,13),(15,15)],ln rfl ⟨⟨9,_,by simp,rfl,o5 (iF rfl)⟩,⟨11,_,by simp,rfl,rfl⟩,⟨13,_,by simp,rfl,rfl⟩,⟨15,_,by simp,rfl,rfl⟩,trivial⟩,_,rfl,rfl⟩
abbrev GU (f:FuncId)(xs:List DX)(u:Un)(y:Un × Int):Prop:=bA cx f 1 xs (lC u 11 13 15) [] (.aI [(true,cV y.1 11 13 15),dyn (I y.2)]) (lC y.1 11 13 15)
def gH {f:FuncId}{c:Code}{xs:List DX}{r:DV}{T T':Hp}(fn:Func)(h:m9 cx c ⟨iz 0 xs,T,1⟩ (adj fn r T') (λ_ _=>False) (adj fn r T'))
  (h1:iI cx.P f=true:=by kernel_rfl)(h2:cx.P.funcs[f]? =some fn:=by kernel_rfl)(h3:fn.body=some c:=by rfl)(h4:bQ fn.ntmps c=true:=by kernel_rfl)(h5:xs.length<=fn.ntmps:=by exact fM rfl)(h6:aJ [] c=true:=by kernel_rfl):
  bA cx f 1 xs T [] r T':=
 fw kz h1 h2 h3 h4 h5 [] (λ_ h=>by cases h) h6 (λS hS=>by
  obtain⟨m,g1,g2⟩:=hS
  exact⟨m,g1,(λ_ h=>by cases h),g2⟩) h
abbrev m3:List (Nat × Nat):=[(11,11),(13,13),(15,15)]
abbrev RL:aj:=[115,104,111,99,107]
abbrev afe:aj:=[108,111,97,100]
abbrev amX:aj:=[103,97,115]
def FW (p:Pl)(u:Un)(w:List aj)(hr:u.rel=false):GU 166 [dyn (true,bL p),(true,cV u 11 13 15),dyn (V1 w)] u (u,20):=by
 obtain⟨name,win,ul,res,failed,rel,shaken,used,gas⟩:=u;have hr:rel=false:=hr;subst hr;refine gH f166 ?_;exact K7
def OT (p:Pl)(u:Un)(x s:aj)(k:Int){w0:aj}(hw:w0=RL)(hr:u.rel=true)(hl: ∀y∈[w0,x,s],y.length<=100000)(hn:jT [s]=some [k]):
  GU 166 [dyn (true,bL p),(true,cV u 11 13 15),dyn (V1 [w0,x,s])] u (if k<=1000 then({u with shaken:=u.shaken || decide (k>p.dY)},0)else(u,2)):=by
 have c1:=lj [w0,x,s] 2 (by simp) (by simp) hl;rw[show [w0,x,s].drop 2= [s]from rfl,hn]at c1;have c2:ac 132 [V1 [w0,x,s],I 2] (.aI [(false,[.ints [k]]),Bo true]):=c1;obtain⟨name,win,ul,res,failed,rel,shaken,used,gas⟩:=u;have hr:rel=true:=hr;have e0:([k]:List Int).getD 0 0=k:=rfl;subst hr;by_cases hk:k<=1000
 ·rw[if_pos hk];cases shaken
  ·refine gH f166 ?_;exact K7
  ·refine gH f166 ?_;exact K7
 ·rw[if_neg hk];refine gH f166 ?_;exact K7
def RM (p:Pl)(u:Un)(x s1 s2:aj)(d t:Int){w0:aj}(hw:w0=afe)(hr:u.rel=true)(hl: ∀y∈[w0,x,s1,s2],y.length<=100000)(hn:jT [s1,s2]=some [d,t])(hp:0<=p.eH/\p.eH<=1000000000000)(hu:0<=u.used/\u.used<=1000000000000):
  GU 166 [dyn (true,bL p),(true,cV u 11 13 15),dyn (V1 [w0,x,s1,s2])] u (if u.shaken then(u,24)else if B5 d t then(if u.used+xy d t<=p.eH then({u with used:=u.used+xy d t},0)else(u,22))else(u,2)):=by
 have n0: ¬w0=RL:=by rw[hw];decide
 have c1:=lj [w0,x,s1,s2] 2 (by simp) (by simp) hl;rw[show [w0,x,s1,s2].drop 2= [s1,s2]from rfl,hn]at c1;have c2:ac 132 [V1 [w0,x,s1,s2],I 2] (.aI [(false,[.ints [d,t]]),Bo true]):=c1;have c3:=Ry d t;have hA:=Um d t;unfold WH at c3;generalize xy d t=A at*;have e0:([d,t]:List Int).getD 0 0=d:=rfl;have e1:([d,t]:List Int).getD 1 0=t:=rfl;by_cases hs:u.shaken=true;rotate_left
 ·rw[if_neg hs];by_cases ha:B5 d t
  ·rw[if_pos ha]at c3 ⊢;by_cases hb:u.used+A<=p.eH
   ·rw[if_pos hb];refine gH f166 ?_;exact K7
   ·rw[if_neg hb];refine gH f166 ?_;exact K7
  ·rw[if_neg ha]at c3 ⊢;refine gH f166 ?_;exact K7
 ·rw[if_pos hs];refine gH f166 ?_;exact K7
def WV (p:Pl)(u:Un)(x s1 s2 s3 s4 s5:aj)(h m e y a:Int){w0:aj}(hw:w0=amX)(hr:u.rel=true)(hl: ∀y∈[w0,x,s1,s2,s3,s4,s5],y.length<=100000)(hn:jT [s1,s2,s3,s4,s5]=some [h,m,e,y,a])(hg:u.gas.length<=1000):
  GU 166 [dyn (true,bL p),(true,cV u 11 13 15),dyn (V1 [w0,x,s1,s2,s3,s4,s5])] u (if gok h m e y a then(if u.gas.length<10 then({u with gas:=u.gas++[⟨h,m,e,y,a⟩]},0)else(u,16))else(u,2)):=by
 have n0: ¬w0=RL:=by rw[hw];decide
 have n1: ¬w0=afe:=by rw[hw];decide
 have c1:=lj [w0,x,s1,s2,s3,s4,s5] 2 (by simp) (by simp) hl;rw[show [w0,x,s1,s2,s3,s4,s5].drop 2= [s1,s2,s3,s4,s5]from rfl,hn]at c1;have c2:ac 132 [V1 [w0,x,s1,s2,s3,s4,s5],I 2] (.aI [(false,[.ints [h,m,e,y,a]]),Bo true]):=c1;have c3:=Hc (h:=h) (m:=m) (e:=e) (y:=y) (a:=a);unfold WG at c3;have hgl:(u.gas.map tp).length =u.gas.length:=by simp
 by_cases ho:gok h m e y a
 ·rw[if_pos ho]at c3 ⊢;by_cases hb:u.gas.length<10
  ·rw[if_pos hb];refine gH f166 ?_;repeat' ((first|refine tX 0 ?_|exact Zt|refine bR ?_ ?_<;>intro h)<;>(try conv=>whnf))
   all_goals first|exact Ze|exact⟨[(11,11),(13,13),(110,15)],ln rfl ⟨⟨11,_,by simp,rfl,rfl⟩,⟨13,_,by simp,rfl,rfl⟩,⟨110,_,by simp,rfl,by rw[Aj];kernel_rfl⟩,trivial⟩,_,rfl,rfl⟩
  ·rw[if_neg hb];refine gH f166 ?_;exact K7
 ·rw[if_neg ho]at c3 ⊢;refine gH f166 ?_;exact K7
end Go.Proofs.Tryz
