import Derived.Test.YtolnfpljgjpbpaaGreatDoorPk27
import Derived.Test.YtolnfpljgjpbpaaGreatDoorPk33
set_option linter.all false
set_option maxRecDepth 100000
set_option maxHeartbeats 8000000
namespace Go.Proofs.Tryz
open Go.Fw Go.IntWalk Go.Plain
def abh (x:ByteArray):(x==x)=true:=by
 cases x with
 |mk a=>exact beq_self_eq_true a
abbrev ad6 (u:Un):Option cC:=some (.box 94 ((jB u).map .st))
def Lg (u:Un)(h1:u.lots.length<=1000)(h2:u.res.length<=1000)(h3:u.gas.length<=1000):ac 34 [(true,jB u),(true,jB u)] (.one (Bo true)):=by
 have c1:=qO u.lots u.lots (by omega) (by omega);rw[fh rfl]at c1;have n1:(u.res.map kg).length =u.res.length:=by simp
 have n2:(u.gas.map tp).length =u.gas.length:=by simp
 refine sF f34 ?_;repeat' ((first|refine tX 0 ?_|exact Zt|refine bR ?_ ?_<;>intro h)<;>(try conv=>whnf))
 all_goals try exact Zg
 refine af (ι:=Nat) (λi=>i<=u.res.length) (λi=>u.res.length -i) (λi=>⟨[(2,pP 0),(3,pP 2),(5,vI i)],[(0,ad6 u),(2,ad6 u)],1000⟩) 0 Zc (dz _) ?_;intro i hi;by_cases al:i<u.res.length
 ·have tm:=aZ (f:=kg) al AC;generalize u.res.getD i AC=r at*;repeat' ((first|refine tX 0 ?_|exact Zt|refine bR ?_ ?_<;>intro h)<;>(try conv=>whnf))
  all_goals first|exact Zo|exact⟨i+1,al,by omega,Zc⟩|(exfalso;simp_all[abh];done)
 ·obtain rfl:i=u.res.length:=by omega
  repeat' ((first|refine tX 0 ?_|exact Zt|refine bR ?_ ?_<;>intro h)<;>(try conv=>whnf))
  all_goals try(exfalso;omega)
  refine af (ι:=Nat) (λi=>i<=u.gas.length) (λi=>u.gas.length -i) (λi=>⟨[(2,pP 0),(3,pP 2),(6,vI i)],[(0,ad6 u),(2,ad6 u)],1000⟩) 0 Zc (dz _) ?_;intro i hi;by_cases al:i<u.gas.length
  ·have tm:=aZ (f:=tp) al (⟨0,0,0,0,0⟩:Gs);generalize u.gas.getD i (⟨0,0,0,0,0⟩:Gs)=r at*;repeat' ((first|refine tX 0 ?_|exact Zt|refine bR ?_ ?_<;>intro h)<;>(try conv=>whnf))
   all_goals first|exact Zo|exact⟨i+1,al,by omega,Zc⟩|(exfalso;simp_all[abh];done)
  ·obtain rfl:i=u.gas.length:=by omega
   exact tA
abbrev alx (s:bV):Option cC:=some (.box 35 ((tq s).map .st))
def wS (s:bV)(h1:s.opens.length<=1000)(h2:s.lots.length<=1000)(h3:s.units.length<=1000)(hu: ∀u∈s.units,(u.lots.length<=1000/\u.res.length<=1000)/\u.gas.length<=1000):
  ac 17 [(true,tq s),(true,tq s)] (.one (Bo true)):=by
 have c1:=qO s.opens s.opens (by omega) (by omega);have c2:=qO s.lots s.lots (by omega) (by omega);rw[fh rfl]at c1 c2;have n1:(s.units.map jB).length =s.units.length:=by simp
 refine sF f17 ?_;repeat' ((first|refine tX 0 ?_|exact Zt|refine bR ?_ ?_<;>intro h)<;>(try conv=>whnf))
 all_goals try first|exact Zo|(exfalso;simp_all[abh];done)
 refine af (ι:=Nat) (λi=>i<=s.units.length) (λi=>s.units.length -i) (λi=>⟨[(2,pP 0),(3,pP 2),(5,vI i)],[(0,alx s),(2,alx s)],1000⟩) 0 Zc (dz _) ?_;intro i hi;by_cases al:i<s.units.length
 ·have tm:=aZ (f:=jB) al pA;have hm:s.units.getD i pA∈s.units:=by rw[jX,o8 al];exact pd _
  have c3:=Lg (s.units.getD i pA) (hu _ hm).1.1 (hu _ hm).1.2 (hu _ hm).2;generalize s.units.getD i pA=u at*;repeat' ((first|refine tX 0 ?_|exact Zt|refine bR ?_ ?_<;>intro h)<;>(try conv=>whnf))
  all_goals first|exact Zo|exact⟨i+1,al,by omega,Zc⟩|(exfalso;simp_all[abh];done)
 ·obtain rfl:i=s.units.length:=by omega
  exact tA
def RY {l:List En}(h:shP l):l.length<=62:=h.1.2
def CX {l:List En}(h:shP l): ∀e∈l,e.text.length<=410:=λe he=>by
 obtain⟨i,hi,e'⟩:=sv (d:=abi) he;have:=(h.2 i hi).1;rw[e']at this;exact this
def Gc {p:Pl}{l:List En}(hs:gz p)(hl:l.length<=1000)(Sf: ∀e∈l,e.text.length<=100000):ac 9 [(true,bL p),(false,[.view (l.map cd)])] (.one (I (dh p l).2.2)):=by
 have hP:=λh=>Ga hs h;have c5:=sM hs;by_cases he:(p.err jb).2=0
 ·have c6:=sO hs he (hP he) (Lh he) (l:=l) (by omega) Sf;rw[he]at c5;generalize dh p l=y at*;obtain⟨s,i,e⟩:=y;refine sF f9 ?_;exact tA
 ·have hr:dh p l=(Go.Plain.fQ,0,(p.err jb).2):=if_pos he;rw[hr];generalize (p.err jb).2=e at*;refine sF f9 ?_;exact tA
def abj (ha:ac 6 [] (.one (Bo true)))(p:Pl)(l:List En)(h1:p.ae.length<=9223372036854775807)(h2:p.ap.length<=9223372036854775807)(h3:p.aa.length<=9223372036854775807)(h4:p.parts.length<=9223372036854775807)
  (h5: ∀i<p.aa.length,(p.aa.getD i dl).bv.length <=9223372036854775807)(h6: ∀i<p.parts.length,(p.parts.getD i ([],[])).2.length <=9223372036854775807)(h7:l.length<=9223372036854775807):ac 4 [(true,bL p),(false,[.view (l.map cd)])] (.one (Bo true)):=by
 have hf:=Li p h1 h2 h3 h4 h5 h6;have Sj:=vU l h7;by_cases q:Hi p;rotate_left
 ·rw[eJ q]at hf;refine sF f4 ?_;exact tA
 rw[fh q]at hf;by_cases hq:shP l;rotate_left
 ·rw[eJ hq]at Sj;refine sF f4 ?_;exact tA
 rw[fh hq]at Sj;have hs:=A0 q;have amg:=RY hq;have Sf: ∀e∈l,e.text.length<=100000:=λe he=>by have:=CX hq e he;omega
 have hP:=λh=>Ga hs h;have c1:=qc hs;have c2:=mV l (by omega);have c3:=sn hs hP (by omega) Sf uY;have c4:=B7 hs hP (by omega) Sf;have c5:=sM hs;have cz:=wS st0 (by decide) (by decide) (by decide) (λu hu=>by cases hu);by_cases he:(p.err jb).2=0
 ·have hPB:=hP he;have c6:=sO hs he hPB (Lh he) (l:=l) (by omega) Sf;have c7:=Lf hs he hPB (Lh he) (l:=l) (by omega) Sf;have B9:=λh=>(CV (l:=l) hP h).1;rw[he]at c5;generalize dh p l=y at*;obtain⟨s,i,e⟩:=y;dsimp only at c3 c4 c6 c7 B9;by_cases hz:e=0
  ·have B9:=B9 hz;have hu:=B9.units;have Xv:=B9.lots;have hop:=B9.opens
   have c8:=wS s (by omega) (by omega) (by omega) (λu hu=>by
    have g1:=(B9.unit u hu).lots;have g2:=(B9.unit u hu).len;have g3:=(B9.unit u hu).gas
    exact⟨⟨by omega,by omega⟩,by omega⟩)
   clear hu Xv hop B9;subst hz;rw[if_pos rfl]at c4;refine sF f4 ?_;exact tA
  ·rw[if_neg hz]at c4;clear B9;refine sF f4 ?_;exact tA
 ·have hr:dh p l=(Go.Plain.fQ,0,(p.err jb).2):=if_pos he;rw[hr]at c3 c4;dsimp only at c3 c4;rw[if_neg he]at c4;generalize (p.err jb).2=e at*;refine sF f4 ?_;exact tA
set_option maxRecDepth 1000000
set_option maxHeartbeats 80000000
def oq:gz plQ:=by constructor<;>exact Jm (by kernel_rfl)
def Ge: ∀e∈UC,e.text.length<=100000:=Jm (by kernel_rfl)
def RZ:(dh plQ UC).2.2=0:=by kernel_rfl
abbrev nT:aj:=[116,49]
abbrev nW:aj:=[119,105,114,101]
def agY:ac 21 [(true,bL plQ),(false,[.view (UC.map cd)]),SS nT] (.aI [(false,[.view (ab [])]),I 0]):=
 wT (x:=nT) (k:=0) (u:=(wj plQ UC).units.getD 0 pA) oq (λh=>Ga oq h) (fM rfl) Ge (by decide) (sw RZ).1 (Jm (by kernel_rfl)) (by kernel_rfl) (by kernel_rfl)
def agZ:ac 21 [(true,bL plQ),(false,[.view ((UC.map cd).take 7)]),SS nT] (.aI [(false,[.view (ab [[108,111,119],[102,117,108,108]])]),I 0]):=
 wT (x:=nT) (l:=UC.take 7) (k:=0) (u:=(wj plQ (UC.take 7)).units.getD 0 pA) oq (λh=>Ga oq h) (fM rfl) (λe he=>Ge e (Ca he)) (by decide) (sw (o6 RZ 7)).1 (Jm (by kernel_rfl)) (by kernel_rfl) (by kernel_rfl)
def alz:ac 27 [(true,bL plQ),(false,[.view (UC.map cd)]),SS nW] (.aI [(false,[.view (ab [nT])]),I 0]):=
 Lk (x:=nW) oq (λh=>Ga oq h) (fM rfl) Ge (by decide) (sw RZ).1 (Jm (by kernel_rfl)) (Jm (by kernel_rfl))
def Ba:ac 6 [] (.one (Bo true)):=by
 have hu: ∀x∈UC.map cd,x.length=3:=λx hx=>by obtain⟨_,_,rfl⟩:=dC.1 hx;rfl
 have c1:=Xc;have c2:=abo;have c3:=agY;have c4:=agZ;have c5:=alz;have c6:ac 24 [I 98,I 10] (.aI [I 80,I 0]):=IU 98 10;have c7:=agX;have c8:ac 26 [SS [97,98],I 0] (.aI [I 12937,I 0]):=Xb 0 [97,98] (by decide) (by decide);have t1:=qO [[108,111,119],[102,117,108,108]] [[108,111,119],[102,117,108,108]] (by decide) (by decide);have t2:=qO [nT] [nT] (by decide) (by decide);have hn:(UC.map cd).length =11:=rfl;rw[fh rfl]at t1 t2;generalize UC.map cd=L at*;refine sF f6 ?_;repeat' ((first|refine tX 0 ?_|exact Zt|refine bR ?_ ?_<;>intro h)<;>(try conv=>whnf))
 haveI:dJ (7:Int) 7:=⟨rfl⟩;refine Ck hu rfl rfl rfl rfl rfl rfl (by omega) ?_;conv=>whnf
 exact tA
def abv {p:Pl}(h:(p.err jb).2=0):wj p []=Go.Plain.fQ:=by
 unfold wj dh;rw[if_neg (Df h),if_neg (by decide)];rfl
def aff {p:Pl}{l:List En}(h:(dh p l).2.2=0): ∀i,i<=l.length->LK p (wj p (l.take i)):=by
 intro i
 induction i with
 |zero=>intro _;rw[Dl,abv (sw h).2.1];exact LK.begin p
 |succ i ih=>
  intro hi;obtain⟨g1,g2⟩:=Pb h (i:=i) (by omega);rw[g2];unfold ib at g1 ⊢;split at g1
  ·rename_i g;rw[if_pos g];exact ih (by omega)
  ·rename_i g;rw[if_neg g];exact(UE (ih (by omega))).1
noncomputable def hlF (p:Pl)(l:List En):Nat->aj
 |0=>[]
 |i+1=>(wj p (l.take i)).hall
def aeb {p:Pl}{l:List En}(h:(dh p l).2.2=0): ∀i,i<=l.length->(wj p (l.take i)).hall ≠hlF p l i->(wj p (l.take i)).opens ≠[]:=by
 intro i hi hn
 cases i with
 |zero=>
  rw[Dl,abv (sw h).2.1]at hn;exact absurd rfl hn
 |succ i=>
  obtain⟨g1,g2⟩:=Pb h (i:=i) (by omega);have hn:(wj p (l.take (i+1))).hall ≠(wj p (l.take i)).hall :=hn;rw[g2]at hn ⊢;unfold ib at g1 hn ⊢;split at g1
  ·rename_i g;rw[if_pos g]at hn;exact absurd rfl hn
  ·rename_i g;rw[if_neg g]at hn ⊢;exact(UE (aff h i (by omega))).2 hn
def R2 (ha:ac 6 [] (.one (Bo true)))(p:Pl)(l:List En)(h1:p.ae.length<=9223372036854775807)(h2:p.ap.length<=9223372036854775807)(h3:p.aa.length<=9223372036854775807)(h4:p.parts.length<=9223372036854775807)
  (h5: ∀i<p.aa.length,(p.aa.getD i dl).bv.length <=9223372036854775807)(h6: ∀i<p.parts.length,(p.parts.getD i ([],[])).2.length <=9223372036854775807)(h7:l.length<=9223372036854775807):ac 3 [(true,bL p),(false,[.view (l.map cd)])] (.one (Bo true)):=by
 have hf:=Li p h1 h2 h3 h4 h5 h6;have Sj:=vU l h7;have hn:(l.map cd).length =l.length:=by simp
 by_cases q:Hi p;rotate_left
 ·rw[eJ q]at hf;refine sF f3 ?_;exact tA
 rw[fh q]at hf;by_cases hq:shP l;rotate_left
 ·rw[eJ hq]at Sj;refine sF f3 ?_;exact tA
 rw[fh hq]at Sj;have hs:=A0 q;have amg:=RY hq;have Sf: ∀e∈l,e.text.length<=100000:=λe he=>by have:=CX hq e he;omega
 have hP:=λh=>Ga hs h;have c0:=Gc (l:=l) hs (by omega) Sf;by_cases hz:(dh p l).2.2=0;rotate_left
 ·generalize (dh p l).2.2=z at*;refine sF f3 ?_;exact tA
 rw[hz]at c0;by_cases h20:20<l.length
 ·refine sF f3 ?_;exact tA
 have hu: ∀x∈l.map cd,x.length=3:=λx hx=>by obtain⟨_,_,rfl⟩:=dC.1 hx;rfl
 have c1:=qc hs;have cc: ∀i,i<=l.length->ac 12 [(false,[.view ((l.map cd).take i)])] (.own 3 (.view ((l.take i).map cd))):=λi hi=>by rw[<- HG];exact mV _ (by rw[Dc];omega)
 have ck: ∀i,ac 10 [(true,bL p),(false,[.view ((l.take i).map cd)])] (.aI [(true,tq (wj p (l.take i))),I 0]):=λi=>by
  have h:=B7 (l:=l.take i) hs hP (by rw[Dc];omega) (λe he=>Sf e (Ca he));rw[if_pos (o6 hz i),o6 hz i]at h;exact h
 have hLK:=aff hz;have hHL:=aeb hz;refine sF f3 ?_;repeat' ((first|refine tX 0 ?_|exact Zt|refine bR ?_ ?_<;>intro h)<;>(try conv=>whnf))
 all_goals try(exfalso;omega)
 refine af (ι:=Nat) (λi=>i<=l.length+1) (λi=>l.length+1 -i) (λi=>⟨[(1,some (.val (false,[.st (.view (l.map cd))]))),(2,pP 0),(5,lS (hlF p l i)),(6,vI i)],[(0,some (.box 27 ((bL p).map .st)))],1000⟩) 0 Zc (dz _) ?_;intro i hi;by_cases al:i<=l.length
 ·have c2:=cc i al;have c3:=ck i;have hLK:=hLK i al;have hHL:=hHL i al;have io:hlF p l (i+1)=(wj p (l.take i)).hall :=rfl;have hln:=hLK.len;generalize wj p (l.take i)=s at*;generalize hlF p l i=hy at*;obtain⟨volt,earth,opens,hall,lots,units⟩:=s;obtain⟨g1,g2,g3,g4⟩:=hLK;dsimp only at g1 g2 g3 g4 hHL io hln;have c3:ac 10 [(true,bL p),(false,[.view ((l.take i).map cd)])] (.aI [(true,[K volt,K earth,.view (ab opens),T hall,.view (ab lots),.view (units.map jB)]),I 0]):=c3;have hol:(ab opens).length =opens.length:=by simp
  have hgl:(ab p.ap).length =p.ap.length:=by simp
  have ho:opens= []↔(ab opens).length =0:=by simp[ab]
  have Ad: ∀k,k<opens.length->ac 13 [V1 p.ap,SS (opens.getD k [])] (.one (Bo true))/\ac 13 [V1 (opens.take k),SS (opens.getD k [])] (.one (Bo false)):=λk hk=>by
   have hm:opens.getD k []∈opens:=by rw[jX,o8 hk];exact pd _
   have b1:=cD p.ap (opens.getD k []) (by have:=hs.ga;omega);have b2:=cD (opens.take k) (opens.getD k []) (by rw[Dc];have:=hs.ga;omega);rw[fh (g3 _ hm)]at b1
   rw[eJ (λh=>by
    obtain⟨j,hj,e⟩:=SO h;rw[Dc]at hj;rw[List.getElem_take,jX,o8 hk,vX]at e
    exact XU.1 g4 j k _ hk (by omega) e)]at b2
   exact⟨b1,b2⟩
  have hga:=hs.ga;have hnh:hall≠hy->¬(ab opens).length =0:=λh e=>hHL h (ho.2 e)
  have key:(volt=false/\earth=true)\/(volt=false/\earth=false/\(ab opens).length =0)\/(volt=true/\earth=false/\(ab opens).length =0):=by
   cases volt<;>cases earth
   ·refine .inr (.inl ⟨rfl,rfl,ho.1 ?_⟩);apply aev;intro h;exact absurd (g2 h) (by decide)
   ·exact .inl ⟨rfl,rfl⟩
   ·exact .inr (.inr ⟨rfl,rfl,ho.1 (g1 rfl).1⟩)
   ·exact absurd (g1 rfl).2 (by decide)
  clear g1 g2 g3 g4 hHL ho;obtain⟨bx,hbx⟩: ∃x,some (cC.box 35 [.st (K volt),.st (K earth),.st (.view (ab opens)),.st (T hall),.st (.view (ab lots)),.st (.view (units.map jB))])=x:=⟨_,rfl⟩;by_cases hh:hall=hy
  ·subst hh;clear hnh
   rcases key with⟨rfl,rfl⟩|⟨rfl,rfl,qe⟩|⟨rfl,rfl,qe⟩
   all_goals
    repeat' ((first|refine tX 0 ?_|exact Zt|refine bR ?_ ?_<;>intro h)<;>(try conv=>whnf))
    all_goals try exact Ze
    refine Ck hu rfl rfl rfl rfl rfl rfl (by omega) ?_;conv=>whnf
    repeat' ((first|refine tX 0 ?_|exact Zt|refine bR ?_ ?_<;>intro h)<;>(try conv=>whnf))
    all_goals try exact Ze
    all_goals
     refine af (ι:=Nat) (λk=>k<=opens.length) (λk=>opens.length -k) (λk=>⟨[(1,some (.val (false,[.st (.view (l.map cd))]))),(2,pP 0),(6,vI i),(7,pP 4),(9,vI k)],[(0,some (.box 27 ((bL p).map .st))),(4,bx)],1000⟩) 0 (ai (by rw[<- hbx];kernel_rfl)) (dz _) ?_;intro k hk;subst hbx;by_cases sC:k<opens.length
     ·obtain⟨b1,b2⟩:=Ad k sC;have hg:=EA sC;generalize opens.getD k []=x at*;repeat' ((first|refine tX 0 ?_|exact Zt|refine bR ?_ ?_<;>intro h)<;>(try conv=>whnf))
      all_goals first|exact Ze|exact⟨k+1,sC,by omega,Zc⟩
     ·obtain rfl:k=opens.length:=by omega
      repeat' ((first|refine tX 0 ?_|exact Zt|refine bR ?_ ?_<;>intro h)<;>(try conv=>whnf))
      all_goals first|exact Zo|exact⟨i+1,by omega,by omega,ai (by rw[io];kernel_rfl)⟩
  ·have hnh:=hnh hh
   rcases key with⟨rfl,rfl⟩|⟨rfl,rfl,qe⟩|⟨rfl,rfl,qe⟩;rotate_left
   ·omega
   ·omega
   repeat' ((first|refine tX 0 ?_|exact Zt|refine bR ?_ ?_<;>intro h)<;>(try conv=>whnf))
   all_goals try exact Ze
   refine Ck hu rfl rfl rfl rfl rfl rfl (by omega) ?_;conv=>whnf
   repeat' ((first|refine tX 0 ?_|exact Zt|refine bR ?_ ?_<;>intro h)<;>(try conv=>whnf))
   all_goals try exact Ze
   all_goals
    refine af (ι:=Nat) (λk=>k<=opens.length) (λk=>opens.length -k) (λk=>⟨[(1,some (.val (false,[.st (.view (l.map cd))]))),(2,pP 0),(6,vI i),(7,pP 4),(9,vI k)],[(0,some (.box 27 ((bL p).map .st))),(4,bx)],1000⟩) 0 (ai (by rw[<- hbx];kernel_rfl)) (dz _) ?_;intro k hk;subst hbx;by_cases sC:k<opens.length
    ·obtain⟨b1,b2⟩:=Ad k sC;have hg:=EA sC;generalize opens.getD k []=x at*;repeat' ((first|refine tX 0 ?_|exact Zt|refine bR ?_ ?_<;>intro h)<;>(try conv=>whnf))
     all_goals first|exact Ze|exact⟨k+1,sC,by omega,Zc⟩
    ·obtain rfl:k=opens.length:=by omega
     repeat' ((first|refine tX 0 ?_|exact Zt|refine bR ?_ ?_<;>intro h)<;>(try conv=>whnf))
     all_goals first|exact Zo|exact⟨i+1,by omega,by omega,ai (by rw[io];kernel_rfl)⟩
 ·exact tA
section
variable {p:Pl}{l:List En}(hs:gz p)(hP:(p.err jb).2=0->PB p)(hl:l.length<=1000)(ht: ∀e∈l,e.text.length<=100000)
include hs hP hl ht
theorem Lq (hz:(dh p l).2.2=0)(e:En)(he:e.text.length<=100000):
  ac 19 [(true,bL p),(false,[.view (l.map cd)]),(true,cd e)] (.aI [(false,[.view (if(ib p l (wj p l) e).2=0 then(l++[e]).map cd else [])]),I (ib p l (wj p l) e).2]):=by
 obtain⟨hr,h1,_,_⟩:=sw hz;obtain⟨hS,hu⟩:=qR hP hr;have hPB:=hP h1;have c2:=Gd hs hP hl ht hr;have ha:=FA p l (wj p l) hPB hS e he;have XA:(ib p l (wj p l) e).1.units.length <=1000:=FM hS _;unfold WM at ha;have hT:=cN p l hu;generalize wj p l=s at*;generalize ib p l s e=y at*;obtain⟨s',z⟩:=y;obtain⟨et,ew,tx⟩:=e;dsimp only at ha XA ⊢;by_cases hz:z=0
 ·subst hz;rw[if_pos rfl]at ha ⊢;have eP:=cN p (l++[⟨et,ew,tx⟩]) XA;have ce:=λfid H hO hf=>ol (fid:=fid) (H:=H) ha hu XA hf hO;clear ha;refine sW (fn:=f19) ?_;refine aS ?_;(refine aR ?_;conv=>whnf);(try(refine tX 2 ?_;try exact Zt));refine aM ?_;(refine aR ?_;conv=>whnf);repeat((first|(refine kO 7 rfl ?_;first|refine Rw (c2 _ _) ?_)|refine tX 2 ?_|exact Zt);(try conv=>whnf))
  refine⟨_,vR (R:=[(2,some (.box 51 [.st (J et),.st (T ew),.st (T tx)]))]) (E':=[(5,pP 2),(8,pP 1),(10,vI 0)]) (ks:=[5,8,10]) (n':=1000) hu rfl (by kernel_rfl) (λid b e=>by
   obtain⟨rfl,rfl⟩:=fJ e;refine⟨rfl,λd hd=>?_⟩;simp only[cF,jN,jO]at hd
   rcases hd with rfl|rfl|rfl<;>trivial) rfl (by kernel_rfl),?_⟩
  repeat' ((first|refine tX 0 ?_|exact Zt|refine bR ?_ ?_<;>intro h)<;>(try conv=>whnf))
  all_goals try(exfalso;omega)
  repeat((first|(refine kO 7 rfl ?_;first|refine oa (λ_ z=>⟨_,_,_,(ce _ _ (by repeat first|refine sL.step rfl ?_|exact sL.base _) (fj rfl)),z⟩) ?_)|refine tX 2 ?_|exact Zt);(try conv=>whnf))
  refine aM ?_;(refine aR ?_;conv=>whnf);(try(refine tX 2 ?_;try exact Zt));refine⟨_,vQ (E':=[(8,pP 1),(11,vI 0),(26,some (lit (.bool (0 != 0))))]) (ks:=[8,11,26]) (n':=1000) hT eP (fj rfl) rfl (by kernel_rfl),?_⟩;repeat' ((first|refine tX 0 ?_|exact Zt|refine bR ?_ ?_<;>intro h)<;>(try conv=>whnf))
  all_goals first|exact Zo|exact⟨[(false,[.view ((l++[(⟨et,ew,tx⟩:En)]).map cd)]),I 0],[3],bp ⟨rfl,rfl,ak (.row je rfl) jl⟩ (bp (ia _) gZ),rfl,rfl⟩
 ·rw[if_neg hz]at ha ⊢;have eP:=cN p l XA;have ce:=λfid H hO hf=>ol (fid:=fid) (H:=H) ha hu XA hf hO;clear ha;refine sW (fn:=f19) ?_;refine aS ?_;(refine aR ?_;conv=>whnf);(try(refine tX 2 ?_;try exact Zt));refine aM ?_;(refine aR ?_;conv=>whnf);repeat((first|(refine kO 7 rfl ?_;first|refine Rw (c2 _ _) ?_)|refine tX 2 ?_|exact Zt);(try conv=>whnf))
  refine⟨_,vR (R:=[(2,some (.box 51 [.st (J et),.st (T ew),.st (T tx)]))]) (E':=[(5,pP 2),(8,pP 1),(10,vI 0)]) (ks:=[5,8,10]) (n':=1000) hu rfl (by kernel_rfl) (λid b e=>by
   obtain⟨rfl,rfl⟩:=fJ e;refine⟨rfl,λd hd=>?_⟩;simp only[cF,jN,jO]at hd
   rcases hd with rfl|rfl|rfl<;>trivial) rfl (by kernel_rfl),?_⟩
  repeat' ((first|refine tX 0 ?_|exact Zt|refine bR ?_ ?_<;>intro h)<;>(try conv=>whnf))
  all_goals try(exfalso;omega)
  repeat((first|(refine kO 7 rfl ?_;first|refine oa (λ_ z=>⟨_,_,_,(ce _ _ (by repeat first|refine sL.step rfl ?_|exact sL.base _) (fj rfl)),z⟩) ?_)|refine tX 2 ?_|exact Zt);(try conv=>whnf))
  refine aM ?_;(refine aR ?_;conv=>whnf);(try(refine tX 2 ?_;try exact Zt));refine⟨_,vQ (E':=[(8,pP 1),(11,vI z),(26,some (lit (.bool (z != 0))))]) (ks:=[8,11,26]) (n':=1000) hT eP (fj rfl) rfl (by kernel_rfl),?_⟩;repeat' ((first|refine tX 0 ?_|exact Zt|refine bR ?_ ?_<;>intro h)<;>(try conv=>whnf))
  all_goals first|exact Zo|exact⟨[(false,[.view []]),I z],[],bp ⟨rfl,rfl,ak (.nil false) jl⟩ (bp (ia _) gZ),rfl,rfl⟩
end
def abw (l:List En)(hl:l.length<=1000):ac 20 [(false,[.view (l.map cd)]),(false,[.view (l.map cd)])] (.one (Bo true)):=by
 have n1:(l.map cd).length =l.length:=by simp
 refine sF f20 ?_;repeat' ((first|refine tX 0 ?_|exact Zt|refine bR ?_ ?_<;>intro h)<;>(try conv=>whnf))
 all_goals try exact Ze
 refine af (ι:=Nat) (λi=>i<=l.length) (λi=>l.length -i) (λi=>⟨[(0,some (.val (false,[.st (.view (l.map cd))]))),(1,some (.val (false,[.st (.view (l.map cd))]))),(5,vI i)],[],1000⟩) 0 Zc (dz _) ?_;intro i hi;by_cases al:i<l.length
 ·have tm:=aZ (f:=cd) al iX;generalize l.getD i iX=r at*;repeat' ((first|refine tX 0 ?_|exact Zt|refine bR ?_ ?_<;>intro h)<;>(try conv=>whnf))
  all_goals first|exact Zo|exact⟨i+1,al,by omega,Zc⟩|(exfalso;simp_all[abh];done)
 ·obtain rfl:i=l.length:=by omega
  exact tA
def Pk (ha:ac 6 [] (.one (Bo true)))(p:Pl)(l:List En)(e:En)(h1:p.ae.length<=9223372036854775807)(h2:p.ap.length<=9223372036854775807)(h3:p.aa.length<=9223372036854775807)(h4:p.parts.length<=9223372036854775807)
  (h5: ∀i<p.aa.length,(p.aa.getD i dl).bv.length <=9223372036854775807)(h6: ∀i<p.parts.length,(p.parts.getD i ([],[])).2.length <=9223372036854775807)(h7:l.length<=9223372036854775807):ac 5 [(true,bL p),(false,[.view (l.map cd)]),(true,cd e)] (.one (Bo true)):=by
 have hf:=Li p h1 h2 h3 h4 h5 h6;have Sj:=vU l h7;have Xs:=vU [e] (by simp);by_cases q:Hi p;rotate_left
 ·rw[eJ q]at hf;refine sF f5 ?_;exact tA
 rw[fh q]at hf;by_cases hq:shP l;rotate_left
 ·rw[eJ hq]at Sj;refine sF f5 ?_;exact tA
 rw[fh hq]at Sj;by_cases hqe:shP [e];rotate_left
 ·rw[eJ hqe]at Xs;refine sF f5 ?_;exact tA
 rw[fh hqe]at Xs;have hs:=A0 q;have amg:=RY hq;have Sf: ∀e∈l,e.text.length<=100000:=λe he=>by have:=CX hq e he;omega
 have hte:e.text.length<=100000:=by have:=CX hqe e (by simp);omega
 have hP:=λh=>Ga hs h;have c0:=Gc (l:=l) hs (by omega) Sf;by_cases hz:(dh p l).2.2=0;rotate_left
 ·generalize (dh p l).2.2=z at*;refine sF f5 ?_;exact tA
 rw[hz]at c0;obtain⟨hr,PW,anN,_⟩:=sw hz;have hn:(l.map cd).length =l.length:=by simp
 have hu: ∀x∈l.map cd,x.length=3:=λx hx=>by obtain⟨_,_,rfl⟩:=dC.1 hx;rfl
 have c1:=qc hs;have cc: ∀i,i<=l.length->ac 12 [(false,[.view ((l.map cd).take i)])] (.own 3 (.view ((l.take i).map cd))):=λi hi=>by rw[<- HG];exact mV _ (by rw[Dc];omega)
 have ck: ∀i,ac 14 [(true,bL p),(false,[.view ((l.take i).map cd)])] (.aI [I 0,I 0]):=λi=>by
  have h:=sn (l:=l.take i) hs hP (by rw[Dc];omega) (λe he=>Sf e (Ca he)) uY;rw[o6 hz i,uY (o6 hz i)]at h;exact h
 have d1:=mV l (by omega);have d2:=mV (l++[e]) (by rw[tH,P0];omega);have d3:=Lq hs hP (by omega) Sf hz e hte
 have d4:=sn (l:=l++[e]) hs hP (by rw[tH,P0];omega) (λx hx=>by
  rcases ig.1 hx with h|h
  ·exact Sf x h
  ·rw[mA]at h;subst h;exact hte) uY
 have d5:=abw (l++[e]) (by rw[tH,P0];omega);rw[Pa hz e]at d4;rw[show(l++[e]).map cd=l.map cd++[cd e]by simp]at d2 d3 d4 d5;have hn2:(l.map cd++[cd e]).length =l.length+1:=by simp
 have h8:60<=l.length->(ib p l (wj p l) e).2=8:=λh=>by unfold ib;rw[if_pos h]
 generalize ib p l (wj p l) e=y at*;obtain⟨s',z⟩:=y;dsimp only at d3 d4 h8;obtain⟨et,ew,tx⟩:=e;have hn3:(l.map cd++[[J et,T ew,T tx]]).length =l.length+1:=by simp
 refine sF f5 ?_;repeat' ((first|refine tX 0 ?_|exact Zt|refine bR ?_ ?_<;>intro h)<;>(try conv=>whnf))
 all_goals try(exfalso;omega)
 refine af (ι:=Nat) (λ_=>True) (λi=>l.length+1 -i) (λi=>⟨[(1,some (.val (false,[.st (.view (l.map cd))]))),(3,pP 0),(5,pP 2),(7,vI i)],[(0,some (.box 27 ((bL p).map .st))),(2,some (.box 51 [.st (J et),.st (T ew),.st (T tx)]))],1000⟩) 0 Zc trivial ?_;intro i _;by_cases al:i<=l.length
 ·have c2:=cc i al;have c3:=ck i;have e1:((i+1+l.length/4:Nat):Int)=(i:Int)+1+((l.map cd).length :Int)/4:=by rw[hn];omega
  repeat' ((first|refine tX 0 ?_|exact Zt|refine bR ?_ ?_<;>intro h)<;>(try conv=>whnf))
  all_goals try(exfalso;omega)
  refine Ck hu rfl rfl rfl rfl rfl rfl (by omega) ?_;conv=>whnf
  repeat' ((first|refine tX 0 ?_|exact Zt|refine bR ?_ ?_<;>intro h)<;>(try conv=>whnf))
  all_goals first|exact Zo|exact⟨i+1+l.length/4,trivial,by omega,ai (by rw[e1];kernel_rfl)⟩
 ·by_cases hz0:z=0
  ·subst hz0;rw[if_pos rfl]at d3 d4;exact tA
  ·rw[if_neg hz0]at d3 d4;by_cases C0:60<=l.length
   ·rw[if_pos C0]at d4;obtain rfl:=h8 C0;dsimp only at d4;exact tA
   ·rw[if_neg C0]at d4;dsimp only at d4;exact tA
end Go.Proofs.Tryz
