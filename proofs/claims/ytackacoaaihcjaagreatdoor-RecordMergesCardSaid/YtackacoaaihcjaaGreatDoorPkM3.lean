import Derived.Test.YtackacoaaihcjaaGreatDoorPkM2
import Derived.Shelf.Sort.Plain
import Derived.JoinedOf
import GoSem.ClaimGoes
import Derived.Test.YtackacoaaihcjaaGreatDoorRows
import Derived.LaidMore
import Derived.LaidSub
import Derived.LaidLaws
import Derived.Stop.Joined
import Derived.Lay
import Derived.Lib.ItoaNum
import Derived.Shelf.Vars
set_option linter.all false
set_option maxRecDepth 100000
set_option maxHeartbeats 8000000
namespace Go.Proofs.Tryz
open Go.Fw Go.IntWalk Go.Plain
def pF (n lo hi:Int):ac 103 [I n,I lo,I hi] (.one (Bo (decide (lo<=n)&&decide (n<=hi)))):=by
 refine sF f103 ?_;repeat' ((first|refine tX 0 ?_|exact Zt|refine bR ?_ ?_<;>intro h)<;>(try conv=>whnf))
 all_goals exact gX wa
def Wb (b:Bool)(e:Int):ac 102 [Bo b,I e] (.one (I (if b=true then 0 else e))):=by
 refine sF f102 ?_
 (try(refine tX 0 ?_;try exact Zt))
 cases b
 ·exact K1
 ·exact K1
def Ay {b:Bool}{p:Prop} [BP b p] [Decidable p](e:Int):ac 102 [Bo b,I e] (.one (I (if p then 0 else e))):=by
 have h:=Wb b e;exact afN
def EG (l:List Int)(hl:l.length<=1000000):ac 100 [(false,[.ints l])] (.one (I (fs l))):=by
 have hd: ∀i,i<l.length->fs (l.drop i)=if l.getD i 0≠0 then l.getD i 0 else fs (l.drop (i+1)):=λi hi=>by exact ais
 refine sF f100 ?_
 (try(refine tX 0 ?_;try exact Zt))
 refine af (ι:=Nat) (λi=>i<=l.length/\fs (l.drop i)=fs l) (λi=>l.length -i) (λi=>⟨[(5,some (.val (false,[.st (.ints l)]))),(6,vI l.length),(7,vI i)],[],0⟩) 0 Zc ⟨dD _,rfl⟩ ?_;rintro i ⟨hi,he⟩;by_cases ak:i<l.length
 ·have h1:=hd i ak;by_cases hz:l.getD i 0=0
  ·rw[if_neg K0]at h1;exact K66
  ·rw[if_pos hz]at h1;repeat' ((first|refine tX 0 ?_|exact Zt|refine bR ?_ ?_<;>intro h)<;>(try conv=>whnf))
   all_goals first
    |(exfalso;omega)
    |exact mH K0
 ·exact K56
abbrev wdC (w:Py):List SC:=[J w.k,J w.t,J w.s,K w.r]
abbrev Wc (w:Win):List SC:=[J w.k1,J w.t1,J w.s1,K w.r1,J w.k2,J w.t2,J w.s2,K w.r2,J w.st]
def NH (s:aj)(c:UInt8):ac 191 [SS s,SS [c]] (.one (Bo (decide (s.head?=some c)))):=by
 cases s with
 |nil=>
  refine sF f191 ?_;exact tL
 |cons a r=>
  refine sF f191 ?_;repeat' ((first|refine tX 0 ?_|exact Zt|refine bR ?_ ?_<;>intro h)<;>(try conv=>whnf))
  all_goals first|(exfalso;simp only[jP,xT]at h;omega)|(exact gX (by simp))
def QI (s:aj)(c:UInt8):ac 97 [SS s,SS [c]] (.one (Bo (decide (s.head?=some c)))):=by
 have h:=NH s c;refine sF f97 ?_;exact tL
def Az (s:aj)(l:UInt8)(a b c:Int):ac 96 [(true,[T [l],J a,J b,J c]),(false,[.ref [T s]])] (.one (Bo (decide (s.head?=some l)))):=by
 have h:=QI s l;refine sF f96 ?_;exact tL
def adp (s:aj):Int:=if s.head?=some 121 then 0 else if s.head?=some 100 then 1 else if s.head?=some 122 then 2 else -1
def We (s:aj):adp s=if lK (s.getD 0 0).toNat =3 then(-1:Int)else((lK (s.getD 0 0).toNat :Nat):Int):=by
 cases s with
 |nil=>rfl
 |cons a r=>
  have h1:(a=121)↔a.toNat=121:=⟨λh=>by rw[h];rfl,λh=>G7.1 h⟩;have h2:(a=100)↔a.toNat=100:=⟨λh=>by rw[h];rfl,λh=>G7.1 h⟩;have h3:(a=122)↔a.toNat=122:=⟨λh=>by rw[h];rfl,λh=>G7.1 h⟩;show(if some a=some 121 then(0:Int)else if some a=some 100 then 1 else if some a=some 122 then 2 else -1)=if lK a.toNat=3 then(-1:Int)else((lK a.toNat:Nat):Int)
  grind[lK]
def alR:List (List SC):=[[T [121],J 1,J (-1),J 0],[T [100],J 1,J 0,J 0],[T [122],J 1,J (-2),J 1]]
def QJ (s:aj):ac 95 [(false,[.view alR]),(false,[.fn 96 [] [[T s]]])] (.one (I (adp s))):=by
 have c0:=Az s 121 1 (-1) 0;have c1:=Az s 100 1 0 0;have c2:=Az s 122 1 (-2) 1;unfold adp;by_cases h0:s.head?=some 121
 ·rw[fL h0]at c0;rw[if_pos h0];refine sF f95 ?_
  (try(refine tX 0 ?_;try exact Zt))
  refine aA ?_;exact tL
 rw[fj h0]at c0;rw[if_neg h0];by_cases h1:s.head?=some 100
 ·rw[fL h1]at c1;rw[if_pos h1];refine sF f95 ?_;exact afE
 rw[fj h1]at c1;rw[if_neg h1];by_cases h2:s.head?=some 122
 ·rw[fL h2]at c2;rw[if_pos h2];refine sF f95 ?_
  (try(refine tX 0 ?_;try exact Zt))
  refine aA ?_;exact afE
 ·rw[fj h2]at c2;rw[if_neg h2];refine sF f95 ?_
  (try(refine tX 0 ?_;try exact Zt))
  refine aA ?_
  (try(refine tX 0 ?_;try exact Zt))
  refine aA ?_;exact afE
def Z8 {s:aj}{d:Nat}(hd:d<=18){n:Int}(h:wN false d s=some n):s.length<=d:=by
 obtain⟨h0,h9⟩:=iH h;have h3:=(fW hd h0).2.2.1;have hs:=qw h0
 cases s with
 |nil=>simp
 |cons a r=>
  grind[DS]
def mQ (s:aj)(hl:s.length<=1000000): ∃v,ac 59 [SS s] (.aI [I v,Bo (wN false 4 s).isSome])/\∀n,wN false 4 s=some n->n=v:=by
 by_cases fC: ∀v,Lib.atoiAll s≠ .ok v
 ·obtain⟨v,c1⟩:=pB s hl fC
  have e:wN false 4 s=none:=by
   cases h:wN false 4 s with
   |none=>rfl
   |some n=>exact absurd (fW K9 (iH h).1).1 (fC n)
  rw[e];refine⟨v,?_,λn h=>by cases h⟩;refine sF f59 ?_;exact tL
 ·simp only[ne_eq,Sy,LG]at fC;obtain⟨v,hv⟩:=fC;have h4:=Sq hv;have c1:=ur s hl hv;have c2:=uq v h4
  have hn: ∀n,wN false 4 s=some n->n=v:=λn h=>by
   have:=(fW K9 (iH h).1).1
   grind
  have key:(wN false 4 s).isSome =decide ((0<=v/\Lib.itoa v=s)/\s.length<=4):=by
   rw[vN,vJ];constructor
   ·intro h;obtain⟨n,e⟩:=qW.1 h;obtain rfl:=hn n e;have h9:=(iH e).2;exact⟨⟨by grind,(fW K9 (iH e).1).2.1⟩,Z8 K9 e⟩
   ·rintro⟨⟨h1,h2⟩,h3⟩;have h5:=u5 (d:=4) (n:=v) (by grind[Zw]);rw[h2]at h5;unfold wN;simp_all
  refine⟨v,?_,hn⟩;rw[key];by_cases hp:Lib.itoa v=s
  ·rw[hp]at c2;have e2:decide ((0<=v/\Lib.itoa v=s)/\s.length<=4)=decide (0<=v/\s.length<=4):=by grind
   rw[e2];refine sF f59 ?_;repeat' ((first|refine tX 0 ?_|exact Zt|refine bR ?_ ?_<;>intro h)<;>(try conv=>whnf))
   all_goals first|exact Zo|(exact mJ afX)|(exact mJ (fj K0).symm)|(exact absurd rfl h)
  ·have e2:decide ((0<=v/\Lib.itoa v=s)/\s.length<=4)=false:=by grind
   rw[e2];generalize Lib.itoa v=y at*;refine sF f59 ?_;exact tL
def Z9 (s:aj):ac 95 [(false,[.raw (.slice (some ⟨0,0,none⟩) 3 3)]),(false,[.fn 96 [] [[T s]]])] (.one (I (adp s))):=
 acS (es:=alR) (g:=0) (z:=4) (cap:=3) (cs:=[.lit (.string ⟨#[121]⟩),.lit (.int .i64 1),.lit (.int .i64 (-1)),.lit (.int .i64 0),.lit (.string ⟨#[100]⟩),.lit (.int .i64 1),.lit (.int .i64 0),.lit (.int .i64 0),.lit (.string ⟨#[122]⟩),.lit (.int .i64 1),.lit (.int .i64 (-2)),.lit (.int .i64 1)])
  (QJ s) rfl (jI (i:=0) cT) K9 K9 K9 K9 (λi e j x he hx=>by
   have hi:=(kJ.1 he).1
   match i,hi with
   |0,_=>cases he;have hj:=(kJ.1 hx).1;match j,hj with|0,_=>exact hx|1,_=>exact hx|2,_=>exact hx|3,_=>exact hx
   |1,_=>cases he;have hj:=(kJ.1 hx).1;match j,hj with|0,_=>exact hx|1,_=>exact hx|2,_=>exact hx|3,_=>exact hx
   |2,_=>cases he;have hj:=(kJ.1 hx).1;match j,hj with|0,_=>exact hx|1,_=>exact hx|2,_=>exact hx|3,_=>exact hx)
def agR {a b c:Int}{x y p q:Bool}(h:x=y)(k:p=q):lO.aI [(true,[J a,J b,J c,K x]),Bo p]= .aI [(true,[J a,J b,J c,K y]),Bo q]:=by grind
def b45 (c:Nat):(((c:Nat):Int)==45)=decide (c=45):=by grind
def zh (s:aj)(hl:s.length<=1000000): ∃w:Py,ac 58 [SS s] (.aI [(true,wdC w),Bo (Ax s).isSome])/\∀v,Ax s=some v->v=w:=by
 have cp:=Z9 s;rw[We]at cp;by_cases hb:BF s
 ·have e:Ax s=none:=if_pos hb;rw[e];refine⟨⟨0,0,0,false⟩,?_,λv h=>by cases h⟩;unfold BF at hb;by_cases h3:lK (s.getD 0 0).toNat =3
  ·rw[if_pos h3]at cp;refine sF f58 ?_;exact tL
  ·rw[if_neg h3]at cp;generalize lK (s.getD 0 0).toNat =k at*;by_cases h2:s.length<2
   ·refine sF f58 ?_;exact tL
   ·refine sF f58 ?_;exact ajq
 ·have e:Ax s=(u9 (s.drop 2)).map λp=>⟨(lK (s.getD 0 0).toNat :Nat),p.2,p.1,decide ((s.getD 1 0).toNat =45)⟩:=if_neg hb;rw[e];unfold BF at hb;have h3:lK (s.getD 0 0).toNat ≠3:=by omega
  rw[if_neg h3]at cp;have hdl:(s.drop 2).length <=s.length:=by simp
  generalize lK (s.getD 0 0).toNat =k at*;have c1:=gZ (s.drop 2) 47 K0
  rcases u6 (s.drop 2) 47 with⟨h1,h2⟩|⟨a,b,h1,h2,h4,h5⟩
  ·rw[h1]at c1;obtain⟨v,c2,_⟩:=mQ (s.drop 2) K0;obtain⟨u,c3,_⟩:=mQ [] (by simp);have e2:u9 (s.drop 2)=none:=yP h2;rw[e2];have e3:(wN false 4 []).isSome =false:=rfl;rw[e3]at c3;refine⟨⟨k,u,v,decide ((s.getD 1 0).toNat =45)⟩,?_,λp hp=>by cases hp⟩;generalize (wN false 4 (s.drop 2)).isSome =x at*;refine sF f58 ?_;repeat' ((first|refine tX 0 ?_|exact Zt|refine bR ?_ ?_<;>intro h)<;>(try conv=>whnf))
   all_goals first|exact Zo|(revert h;cases x<;>first|(intro _;exact agR (b45 _) rfl)|(intro h;exact absurd h (by decide)))
  ·rw[h1]at c1;obtain⟨v,c2,k2⟩:=mQ a K0;obtain⟨u,c3,k3⟩:=mQ b K0;have e2:u9 (s.drop 2)=(wN false 4 a).bind λx=>(wN false 4 b).map λy=>(x,y):=yQ (c:=47) (λs=>JM (.inl rfl)) h2;rw[e2];refine⟨⟨k,u,v,decide ((s.getD 1 0).toNat =45)⟩,?_,λp hp=>?_⟩
   ·rw[SL,oQ.1];clear e2 k2 k3;generalize (wN false 4 a).isSome =x at*;generalize (wN false 4 b).isSome =y at*;refine sF f58 ?_;repeat' ((first|refine tX 0 ?_|exact Zt|refine bR ?_ ?_<;>intro h)<;>(try conv=>whnf))
    all_goals first|exact Zo|(revert h;cases x<;>cases y<;>first|(intro _;exact agR (b45 _) rfl)|(intro h;exact absurd h K9))
   ·obtain⟨z,hz,rfl⟩:=mZ.1 hp;obtain⟨h5,h6⟩:=oQ.2 z hz
    grind
def mR (b:Bool)(d:Nat)(hd:d<=18)(s:aj)(hl:s.length<=1000000): ∃v,ac 134 [SS s,I d,Bo b] (.aI [I v,Bo (wN b d s).isSome])/\∀n,wN b d s=some n->n=v:=by
 by_cases fC: ∀v,Lib.atoiAll s≠ .ok v
 ·obtain⟨v,c1⟩:=pB s hl fC
  have e:wN b d s=none:=by
   cases h:wN b d s with
   |none=>rfl
   |some n=>exact absurd (fW hd (iH h).1).1 (fC n)
  rw[e];refine⟨v,?_,λn h=>by cases h⟩;cases b
  all_goals
   refine sF f134 ?_;exact K40
 ·simp only[ne_eq,Sy,LG]at fC;obtain⟨v,hv⟩:=fC;have h4:=Sq hv;have c1:=ur s hl hv;have c2:=uq v h4;have c3:=kZ s [45]
  have hn: ∀n,wN b d s=some n->n=v:=λn h=>by
   have:=(fW hd (iH h).1).1;rw[hv]at this;cases this;rfl
  have key:(wN b d s).isSome =decide ((Lib.itoa v=s/\(b=true\/0<=v))/\(Lib.trimPrefix s [45]).length <=d):=by
   rw[vN,vJ];constructor
   ·intro h;obtain⟨n,e⟩:=qW.1 h;obtain rfl:=hn n e;obtain⟨h5,h6⟩:=iH e;have h7:=fW hd h5;exact⟨⟨h7.2.1,h6⟩,h7.2.2.1⟩
   ·rintro⟨⟨h2,h1⟩,h3⟩;have h5:=u5 (d:=d) (n:=v) (by rw[h2];exact h3);exact aiU
  refine⟨v,?_,hn⟩;rw[key];clear key hn;generalize Lib.trimPrefix s [45]=u at*;by_cases hp:Lib.itoa v=s
  ·rw[hp]at c2;have e2:decide ((Lib.itoa v=s/\(b=true\/0<=v))/\u.length<=d)=decide ((b=true\/0<=v)/\u.length<=d):=by simp[hp]
   rw[e2];cases b
   all_goals
    refine sF f134 ?_;repeat' ((first|refine tX 0 ?_|exact Zt|refine bR ?_ ?_<;>intro h)<;>(try conv=>whnf))
    all_goals first|exact Zo|(exact absurd rfl h)|(exact mJ afX)|(exact mJ wa)|(exact mJ (by simp<;>fail ""))|(exact mJ (by rw[vN];simp only[vJ,to,false_or,true_or,C1];omega))|(exact absurd rfl h)
  ·have e2:decide ((Lib.itoa v=s/\(b=true\/0<=v))/\u.length<=d)=false:=by simp[hp]
   rw[e2];clear e2;generalize Lib.itoa v=y at*;cases b
   all_goals
    refine sF f134 ?_;exact aij
def sU (s:aj)(i:Nat):Prop:=∀j<i,32<=(s.getD j 0).toNat /\(s.getD j 0).toNat <=126
def kA (s:aj)(hl:s.length<=1000000):ac 106 [SS s] (.one (Bo (decide (aW s)))):=by
 have hb:=vg s;refine sF f106 ?_
 (try(refine tX 0 ?_;try exact Zt))
 refine af (ι:=Nat) (λi=>i<=s.length/\sU s i) (λi=>s.length -i) (λi=>⟨[(6,some (.val (false,[.st (.view (kQ (B s)))]))),(7,vI s.length),(8,vI i)],[],0⟩) 0 (ai ab5) ⟨dD _,λj hj=>by omega⟩ ?_;rintro i ⟨hi,hp⟩;by_cases ak:i<s.length
 ·have hg:=JP ak;have dp: ¬(32<=(s.getD i 0).toNat /\(s.getD i 0).toNat <=126)->¬aW s:=λh hh=>h (hh i ak);have l8:32<=(s.getD i 0).toNat /\(s.getD i 0).toNat <=126->sU s (i+1):=λh j hj=>by exact afW
  have FJ:((s.getD i 0).toNat :Int)<=255:=by exact UX
  generalize (s.getD i 0).toNat =c at*;repeat' ((first|refine tX 0 ?_|exact Zt|refine bR ?_ ?_<;>intro h)<;>(try conv=>whnf))
  all_goals first
   |(exfalso;omega)
   |exact gX (fj (dp K0)).symm
   |exact⟨i+1,⟨ak,l8 K0⟩,by omega,Zc⟩
 ·obtain rfl:i=s.length:=by omega
  repeat' ((first|refine tX 0 ?_|exact Zt|refine bR ?_ ?_<;>intro h)<;>(try conv=>whnf))
  all_goals first
   |(exfalso;omega)
   |exact gX (fL (show aW s from hp)).symm
def rW (s:aj)(n:Nat)(hl:s.length<=1000000)(h1:1<=n)(hn:n<=1000000):ac 133 [SS s,SS [32],I n] (.own 1 (.view (ab (IN n s 32)))):=QH abR cT cT Qr s 32 n hl h1 hn
end Go.Proofs.Tryz
namespace Go.Fw
open Go.RowKit (Below)
def EJ {E:dG}{Hh:Hp}{nx:Nat}(id i k z:Nat)(c:SC){zr:Nat}{l:List (List DC)}{el:List DC}(hz:0<z)(hv:c.ao=true)(h0:c.len=0)(hB:Hh.get id=some (.aD zr l))(hi:l[i]? =some el)(hk:el[k]? =some .nil):
  bp ⟨E,Hh,nx⟩ ⟨E,(id,some (.aD zr (l.set i (el.set k (.own (2*nx))))))::((2*nx),some (.row true z c))::Hh,nx+1⟩:=by
 rintro F nt a w ⟨N,⟨q1,q2,q0,β,q3,q4⟩,q5⟩;have hf: ¬N (2*nx):=λh=>by have:=q5 _ h;rw[jQ]at this;exact Nat.lt_irrefl _ this
 have hu: ∀i e,c.elem i=some e->e.length=z:=λi e he=>by exact ace
 have t2:=Tr.new q4 (Below.refl _ w) hf none (by simp) (.row true z c);have hN:=ad.new q4 (Below.refl _ w) hf none (by simp) (.row true z c) ⟨⟨hz,hv,hu⟩,.inl ⟨by simp[cV],h0⟩⟩;rw[<- Hp.av]at t2 hN;have hid:N id:=(q4.rel id _ hB).1;have eU:id≠(2*nx):=λe=>hf (e▸hid);have KT:Hp.get (((2*nx),some (.row true z c))::Hh) id=some (.aD zr l):=by rw[Hp.av,aG _ _ _ eU];exact hB
 generalize xI:Hp.get (((2*nx),some (.row true z c))::Hh)=H1 at*;have it:H1 (2*nx)=some (.row true z c):=by rw[<- xI,Hp.av,an]
 have t3:Tr F (cV β (2*nx) none) (Fw.bk N (2*nx)) H1 w (cV β (2*nx) none) (Fw.bk N (2*nx)) (bt H1 id (some (.aD zr (l.set i (el.set k (.own (2*nx))))))) w:={
  below:=jy.refl _ _
  aw:=λ_ _ h=>h
  mem:=λb o v _ hs e=>⟨λiW bC e' hb=>by
   by_cases h:iW=id
   ·subst h;exact(hs iW _ KT hb).elim
   ·rw[aG _ _ _ h]at e'
    exact hs iW bC e' hb,e⟩
  used:=λ_ h=>h
  kH:=λ_ _=>rfl
  keep:=λiW blk' _ e=>by
   by_cases h:iW=id
   ·subst h;rw[an]at e;cases e;exact⟨_,KT,by simp[cD.zX]⟩
   ·exact aj0
  size:=λ_ _ _ _ arr _ _ _ _ _ _ h=>⟨arr,h,rfl⟩}
 have h3:ad F (cV β (2*nx) none) (Fw.bk N (2*nx)) (bt H1 id (some (.aD zr (l.set i (el.set k (.own (2*nx))))))) w:=by
  refine hN.step t3 (λi=>i=id) (λi b0 hi e=>?_) (λi' b0 lA e=>?_) (λp q b x y hi hj bi bj=>?_)
  ·exact ajD
  ·subst lA;rw[an]at e;cases e;obtain⟨hn,⟨fN,hall⟩,sK⟩:=hN.rel i' _ KT;have ak:i<l.length:=(kJ.1 hi).1;refine⟨hn,⟨fN,λj e' CJ=>?_⟩,?_⟩
   ·by_cases hj:i=j
    ·subst hj;rw[IT ak]at CJ;cases CJ;rw[FX];exact hall i el hi
    ·rw[PC hj]at CJ;exact hall j e' CJ
   ·rcases sK with⟨h1,h2⟩|⟨b,cap,arr,T,h1,h2,h3,h4,h5,h6⟩
    ·omega
    ·refine .inr ⟨b,cap,arr,T,h1,h2,h3,h4,by rw[FX];exact h5,λj e' j' x CJ hx=>?_⟩;by_cases hj:i=j
     ·subst hj;rw[IT ak]at CJ;cases CJ;by_cases qR:k=j'
      ·subst qR;rw[IT (kJ.1 hk).1]at hx;cases hx;have Cg:arr.getD (i*zr+k) undef= .slice none 0 0:=h6 i el k _ hi hk;exact aii
      ·rw[PC qR]at hx;exact t3.jw hN (h6 i el j' x hi hx)
     ·rw[PC hj]at CJ;exact t3.jw hN (h6 j e' j' x CJ hx)
  ·have live: ∀ {k':Nat} {b0:cD},bt H1 id (some (.aD zr (l.set i (el.set k (.own (2*nx)))))) k'=some b0->∃b1,H1 k'=some b1:=by
    intro k' b0 h;by_cases qR:k'=id
    ·subst qR;exact⟨_,KT⟩
    ·rw[aG _ _ _ qR]at h;exact⟨b0,h⟩
   obtain⟨b1,h1⟩:=live hi;obtain⟨b2,h2⟩:=live hj;exact hN.inj p q b b1 b2 h1 h2 bi bj
 refine⟨Fw.bk N (2*nx),⟨q1,q2,q0,cV β (2*nx) none,?_,?_⟩,λiW h=>?_⟩
 ·exact akt
 ·rw[Hp.av,xI];exact h3
 ·rcases h with h|h
  ·exact Nat.lt_succ_of_lt (q5 _ h)
  ·rw[h,jQ];exact Nat.lt_succ_self _
def rY {E E':dG}{hp Le:Hp}{nx n':Nat}{m:List (Nat × Nat)}{ks:List Nat}(fC:cZ m hp.get Le.get)(hn: ∀q∈m,tag q.2<n')(hE:dm m E.get ks=some E'):bp ⟨E,hp,nx⟩ ⟨E',Le,n'⟩:=by
 rintro F nt a w ⟨N,⟨q1,q2,q0,β,q3,q4⟩,q5⟩;refine⟨yC m,⟨q1,q2,q0,pN m β,λs d' e=>?_,fC.nD q4⟩,?_⟩
 ·exact abW
 ·rintro n ⟨o,ho⟩;exact hn _ ho
def cZ.aey {un:Nat}{m:List (Nat × Nat)}{H:HF}{Y R:Hp}{z:Nat}{l l':List (List DC)}(hT:BY R)(hm:IL ((un,9)::m)=true)(h9:H un=some (.aD z l))(hl:fG ((un,9)::m++mW R) l=some l')
  (hY:jX ((un,9)::m++mW R) H m=some Y)(hYk:(ah Y).all JE=true)(hR: ∀k∈ah R,H k=R.get k):cZ ((un,9)::m++mW R) H (Hp.get ((9,some (.aD z l'))::Y++R)):=by
 have:=cZ.tail (Y:=(9,some (.aD z l'))::Y) (H:=H) hT hm (λn b' e=>?_) (λn hn=>?_) hR
 ·exact this
 ·rw[Hp.av]at e;by_cases hn:n=9
  ·subst hn;rw[an]at e;cases e;refine⟨un,_,jx,h9,?_⟩;show(match fG ((un,9)::m++mW R) l with|some l'=>some (cD.aD z l')|none=>none)=_;rw[hl]
  ·rw[aG _ _ _ hn]at e;obtain⟨o,b,g1,g2,g3⟩:=pt hY e;exact⟨o,b,ji _ g1,g2,g3⟩
 ·rcases dl.1 hn with rfl|hn
  ·rfl
  ·exact wL.1 hYk n hn
end Go.Fw
namespace Go.Fw
section
variable {F:gN}{β:Nat->Option Nat}{N:Nat->Prop}{H H':HF}{w:World}
structure mS (β:Nat->Option Nat)(H H':HF):Prop where
 st: ∀b o,fS β H b o->fS β H' b o
 sz: ∀id blk' z n,H' id=some blk'->blk'.sz=some (z,n)->∃bC,H id=some bC/\bC.sz=some (z,n)
def mS.mv (h:mS β H H'):(MV F β H w).le (MV F β H' w):=by
 intro b o v e;unfold MV at e ⊢;split at e
 ·rename_i hm;rw[if_pos hm];split at e
  ·rename_i hs;rw[if_pos (h.st b o hs)];exact e
  grind
 grind
def mS.mr (h:mS β H H'):(MR F β H w).le (MR F β H' w):=by
 intro b o v e;unfold MR at e ⊢;split at e
 ·rename_i hm;rw[if_pos hm];exact h.mv b o v e
 grind
theorem mS.jw (h:mS β H H'){v:Value}{d:DC}(hr:cw F β N H w v d):cw F β N H' w v d:=by
 cases d with
 |st c=>exact dy.mono h.mv h.mr hr
 |nil=>exact hr
 |ptr=>exact hr
 |own id=>
  obtain⟨a,b,c⟩:=hr;exact⟨a,b,λbC z n e hz=>by obtain⟨nV,e0,z0⟩:=h.sz id bC z n e hz;grind⟩
 |cI=>exact hr
 |mp=>exact hr
 |sL=>exact hr
def mS.su (h:mS β H H'){v:Value}{x:DX}(hr:au F β N H w v x):au F β N H' w v x:=by
 unfold au at hr ⊢;split at hr
 ·rename_i hx;rw[if_pos hx];obtain⟨arr,h1,h2,h3⟩:=hr;exact⟨arr,h1,h2,λk c hc=>h.jw (h3 k c hc)⟩
 ·rename_i hx;rw[if_neg hx];obtain⟨c,h1,h2⟩:=hr;exact⟨c,h1,h.jw h2⟩
theorem mS.vY (h:mS β H H'){v:Value}{d:DV}(hr:co F β N H w v d):co F β N H' w v d:=by
 cases d with
 |val x=>exact h.su hr
 |aI l=>
  obtain⟨arr,h1,h2,h3⟩:=hr;exact⟨arr,h1,h2,λk c hc=>h.su (h3 k c hc)⟩
theorem mS.heap (hR:ad F β N H w){id:Nat}{b b':cD}(hB:H id=some b)(hs:mS β H (bt H id (some b')))(hb:iB F β N (bt H id (some b')) w id b'):ad F β N (bt H id (some b')) w:=by
 refine⟨λi bC e=>?_,λp q b1 x y hi hj bi bj=>?_,hR.below,λb o v e=>?_⟩
 ·by_cases hi:i=id
  ·subst hi;rw[an]at e;cases e;exact⟨(hR.rel i b hB).1,hb⟩
  ·rw[aG _ _ _ hi]at e;obtain⟨hn,hb⟩:=hR.rel i bC e;refine⟨hn,?_⟩
   cases bC with
   |box ty cs=>
    obtain⟨b,arr,T',h1,h2,h3,h4,h5⟩:=hb;exact⟨b,arr,T',h1,h2,h3,h4,λk x hx=>hs.jw (h5 k x hx)⟩
   |ec cs=>
    obtain⟨b,arr,T',h1,h2,h3,h4,h5⟩:=hb;exact⟨b,arr,T',h1,h2,h3,h4,λk x hx=>(h5 k x hx).mono hs.mv hs.mr⟩
   |row m z c=>
    obtain⟨h0,h1|⟨b,cap,h1,h2,arr,T',q1,q2,q3,q4,q5,q6,q7⟩⟩:=hb
    ·exact⟨h0,.inl h1⟩
    ·exact⟨h0,.inr ⟨b,cap,h1,h2,arr,T',q1,q2,q3,q4,q5,q6,λi e j x he hx=>(q7 i e j x he hx).mono hs.mv (Mem.le_refl _)⟩⟩
   |aD z l=>
    obtain⟨h0,h1|⟨b,cap,arr,T',h1,h2,q1,q2,q3,q4⟩⟩:=hb
    ·exact⟨h0,.inl h1⟩
    ·exact⟨h0,.inr ⟨b,cap,arr,T',h1,h2,q1,q2,q3,λi e j x he hx=>hs.jw (q4 i e j x he hx)⟩⟩
   |map es=>
    obtain⟨b,arr,ck,h1,h2,h3,h4,h5⟩:=hb;exact⟨b,arr,ck,h1,h2,h3,h4,λi k x e hi he=>let⟨a1,a2⟩:=h5 i k x e hi he;⟨a1,a2.mono hs.mv hs.mr⟩⟩
 ·have live: ∀ {k':Nat} {b0:cD},bt H id (some b') k'=some b0->∃b1,H k'=some b1:=by
   grind[aG]
  obtain⟨b2,h1⟩:=live hi;obtain⟨b3,h2⟩:=live hj;exact hR.inj p q b1 b2 b3 h1 h2 bi bj
 ·obtain⟨e1,e2⟩:=hR.tg b o v e;exact⟨e1,λhm=>hs.st b o (e2 hm)⟩
end
def NL {β:Nat->Option Nat}{H:HF}{id:Nat}{b b':cD}(hB:H id=some b)(h1: ∀o,¬b.tm o)(h2:b'.sz=b.sz):mS β H (bt H id (some b')):=by
 refine⟨λc o hs i bC e hb=>?_,λi bC z n e hz=>?_⟩
 ·by_cases hi:i=id
  ·subst hi;exact(h1 o (hs i b hB hb)).elim
  ·rw[aG _ _ _ hi]at e;exact hs i bC e hb
 grind[an,aG]
def NM {E:dG}{Hh:Hp}{nx:Nat}(id:Nat){z:Nat}{V:List (List SC)}(hB:Hh.get id=some (.row true z (.view V))):bp ⟨E,Hh,nx⟩ ⟨E,(id,some (.aD z (V.map λe=>e.map .st)))::Hh,nx⟩:=by
 rintro F nt a w ⟨N,⟨q1,q2,q0,β,q3,q4⟩,q5⟩;have hs:mS β Hh.get (bt Hh.get id (some (.aD z (V.map λe=>e.map .st)))):=NL hB (λo h=>by cases h.1) (by simp[cD.sz,SC.len]);refine⟨N,⟨q1,q2,q0,β,?_,?_⟩,q5⟩
 ·exact ai5
 ·rw[Hp.av];refine mS.heap q4 hB hs ?_;obtain⟨_,⟨h1,h2,h3⟩,hc⟩:=q4.rel id _ hB;refine⟨⟨h1,λi e he=>?_⟩,?_⟩
  ·rw[gK,mZ]at he;obtain⟨e0,R2,rfl⟩:=he;rw[jj];exact h3 i e0 R2
  ·rcases hc with⟨a1,a2⟩|⟨b,cap,a1,a2,arr,T,b1,b2,b3,b4,b5,b6,b7⟩
   ·exact .inl ⟨a1,by rw[jj];exact a2⟩
   ·refine .inr ⟨b,cap,arr,T,a1,a2,b1,b2,by rw[jj];exact b5,λi e k x he hx=>?_⟩;rw[gK,mZ]at he;obtain⟨e0,R2,rfl⟩:=he;rw[gK,mZ]at hx;obtain⟨x0,Sd,rfl⟩:=hx;exact(b7 i e0 k x0 R2 Sd).mono hs.mv (ee _)
section
variable {C:bU}{f:FuncId}{fid nx:Nat}{xs:List DX}{T T':Hp}{r:DV}{H:HF}
def If (h:bx C f nx xs T [] r T')(hT:MH T)(eJ:MH T')(it:1<=nx)(hs: ∀id∈ah T,T.get id=H id)(Cd: ∀x∈xs,eh (· ∈ah T) x)(hr:lH (· ∈ah T') r):
  bX C fid f xs H (La (aq (Fw.tag fid) 0) r) (cB T (cP (aq (Fw.tag fid) 0) T')) (ah T):=by
 have hi:=eJ.inj (Fw.tag fid);have hg:=h.out (nf.new eJ hi) hr λid hid=>by grind
 have mb: ∀k∈ah T',aq (Fw.tag fid) 0 k∈([]:List Nat)\/Fw.tag (aq (Fw.tag fid) 0 k)=Fw.tag fid:=λk hk=>.inr (eJ.tag hk);refine gr hg (λid hid=>by rw[(hT.lt id hid).2.2];omega) hs hT.dJ Cd (λid hid=>by grind) (λid hid=>?_) (λid b e=>?_) (yI (rJ mb hr))
 ·exact ajy
 ·exact afF
end
end Go.Fw
namespace Go.Plain
open Go.Lib
variable {α β γ δ ε:Type}
def Wj {x:Option α}{y:Option β}{z:Option γ}:(x.bind λa=>y.bind λb=>z.map λc=>(a,b,c)).isSome =((x.isSome&&y.isSome)&&z.isSome):=by cases x<;>cases y<;>cases z<;>rfl
def ads {x:Option α}{y:Option β}{z:Option γ}{a:α}{b:β}{c:γ}(h:(x.bind λa=>y.bind λb=>z.map λc=>(a,b,c))=some (a,b,c)):x=some a/\y=some b/\z=some c:=by
 cases x<;>cases y<;>cases z<;>simp at h
 grind
def Ig {x:Option α}{y:Option β}{z:Option γ}{w:Option δ}:(x.bind λa=>y.bind λb=>z.bind λc=>w.map λd=>(a,b,c,d)).isSome =(((x.isSome&&y.isSome)&&z.isSome)&&w.isSome):=by cases x<;>cases y<;>cases z<;>cases w<;>rfl
def J2 {x:Option α}{y:Option β}{z:Option γ}{w:Option δ}{a:α}{b:β}{c:γ}{d:δ}(h:(x.bind λa=>y.bind λb=>z.bind λc=>w.map λd=>(a,b,c,d))=some (a,b,c,d)):x=some a/\y=some b/\z=some c/\w=some d:=by
 cases x<;>cases y<;>cases z<;>cases w<;>simp at h
 grind
def Ih {s x y z:aj}(h:aJ 32 s= [x,y,z]):Lc s=(wN false 13 x).bind λa=>(wN true 13 y).bind λb=>(wN false 13 z).map λc=>(a,b,c):=by grind[Lc]
def TU {s:aj}(h:(aJ 32 s).length ≠3):Lc s=none:=by unfold Lc;grind
def Wl {f:aj->Option α}{l:List aj}{i:Nat}(h:i<l.length):(fQ f (l.take (i+1))).isSome =((fQ f (l.take i)).isSome &&(f (l.getD i [])).isSome):=by
 rw[wU h [],yR,D0];cases fQ f (l.take i)<;>cases f (l.getD i [])<;>rfl
theorem aac {f:aj->Option α}{l:List aj}{i:Nat}(h:i<l.length){xs:List α}{n:α}(hx: ∀x,fQ f (l.take i)=some x->x=xs)(hn: ∀x,f (l.getD i [])=some x->x=n): ∀x,fQ f (l.take (i+1))=some x->x=xs++[n]:=by
 intro x e;rw[wU h [],yR,D0]at e
 cases h1:fQ f (l.take i)with
 |none=>grind
 |some y=>
  rw[h1]at e
  cases h2:f (l.getD i [])with
  |none=>grind
  |some z=>
   grind
def TV {s:aj}{p:aj}{ps:List aj}(h:aJ 59 s=p::ps)(h5:(aJ 32 p).length =5):ED s=ado ((aJ 32 p).getD 0 []) (sB (aJ 32 p)) (fQ Lc ps):=by unfold ED;grind
def TW {s:aj}{p:aj}{ps:List aj}(h:aJ 59 s=p::ps)(h5:(aJ 32 p).length ≠5):ED s=none:=by unfold ED;grind
theorem zi {nm:aj}{x:Option (Int × Int × (Int × Int) × (Int × Int))}{y:Option (List Pu)}(h:(x.isSome&&y.isSome)=false):ado nm x y=none:=by
 cases x with
 |none=>rfl
 |some a=>cases y with
  |none=>rfl
  |some b=>cases h
theorem jV {s:aj}(h:ED s=none):Cu s=(Gu,7):=by grind[Cu]
def EK {s:aj}{x:Gt}(h:ED s=some x):Cu s=if(mP x).2=0 then(x,0)else(Gu,(mP x).2):=by grind[Cu]
end Go.Plain
namespace Go.Plain
open Go.Lib
def Wm {nm:aj}{o:Option (Int × Int × (Int × Int) × (Int × Int))}{q:Option (List Pu)}{x:Gt}(h:ado nm o q=some x): ∃a b c d l,o=some (a,b,c,d)/\q=some l/\x=⟨nm,a,b,c,d,l⟩:=by
 cases o with
 |none=>cases q<;>cases h
 |some v=>
  obtain⟨a,b,c,d⟩:=v
  cases q with
  |none=>cases h
  |some l=>cases h;grind
theorem zj {s:aj}{p:Int × Int}(h:pW s=some p):DT p.1/\DT p.2:=by
 obtain⟨⟨a,ha⟩,b,hb⟩:=Am h;exact⟨HQ K9 ha,HQ K9 hb⟩
theorem aad {w:List aj}{a b:Int}{c d:Int × Int}(h:sB w=some (a,b,c,d)):(DT c.1/\DT c.2)/\DT d.1/\DT d.2:=by grind[sB,Option.bind_eq_some_iff,Option.map_eq_some_iff,zj]
def zk {α:Type}{l:List α}{i:Nat}{d:α}(h:i<l.length):l.getD i d∈l:=by grind
def aae (s:aj):((Cu s).1.name.length <=s.length/\(Cu s).1.ps.length <=s.length+1)/\(DT (Cu s).1.lo.1 /\DT (Cu s).1.lo.2)/\DT (Cu s).1.hi.1 /\DT (Cu s).1.hi.2 :=by
 have z:DT 0:=by grind[DT]
 have h0:(Gu.name.length<=s.length/\Gu.ps.length<=s.length+1)/\(DT Gu.lo.1/\DT Gu.lo.2)/\DT Gu.hi.1/\DT Gu.hi.2:=⟨⟨dD _,dD _⟩,⟨z,z⟩,z,z⟩
 cases e:ED s with
 |none=>grind[jV]
 |some x=>
  rw[EK e];by_cases h:(mP x).2=0
  ·rw[if_pos h];unfold ED at e;dsimp only at e;by_cases h5:(aJ 32 ((aJ 59 s).getD 0 [])).length =5
   ·rw[if_pos h5]at e;obtain⟨a,b,c,d,l,h1,h2,rfl⟩:=Wm e
    grind[aad,yS,cj,List.length_drop]
   grind
  grind
end Go.Plain
namespace Go.Plain
def fF (p:Int->Bool)(l:List Int)(a:Nat):Int:=if(l.drop a).any p then(a:Int)+((l.drop a).findIdx p:Nat)else -1
def vr {p:Int->Bool}{l:List Int}{j:Nat}(h:j<l.length):fF p l j=if p (l.getD j 0)then(j:Int)else fF p l (j+1):=by
 unfold fF;rw[UM h]
 grind
theorem J5 (p:Int->Bool)(l:List Int):fF p l l.length= -1:=by grind[fF]
def adt {p:Int->Bool}{l:List Int}: ∀ {n a:Nat},l.length -a=n->a<=l.length->(fF p l a= -1/\∀j,a<=j->j<l.length->p (l.getD j 0)=false)\/(∃k:Nat,fF p l a=k/\a<=k/\k<l.length/\p (l.getD k 0)=true/\∀j,a<=j->j<k->p (l.getD j 0)=false):=by
 intro n
 induction n with
 |zero=>
  intro a hn ha;have:a=l.length:=by omega
  grind[J5]
 |succ n ih=>
  intro a hn ha;have ak:a<l.length:=by omega
  rw[vr ak];by_cases hp:p (l.getD a 0)=true
  grind
  ·rw[if_neg hp];have hp:p (l.getD a 0)=false:=by grind
   rcases ih (a:=a+1) K0 K0 with⟨h1,h2⟩|⟨k,h1,h2,h3,h4,h5⟩
   grind
   grind
def aag (p:Int->Bool)(l:List Int){a:Nat}(ha:a<=l.length): -1<=fF p l a/\fF p l a<l.length:=by rcases adt (p:=p) rfl ha with⟨h,_⟩|⟨k,h,_,h2,_⟩<;>omega
def Cv (l:List Int):Nat->Nat
 |0=>0
 |i+1=>if l.getD i 0>l.getD (Cv l i) 0 then i else Cv l i
def AA {l:List Int}: ∀ {i:Nat},0<i->Cv l i<i
 |1,_=>by grind[Cv]
 |i+2,_=>by
  have:=AA (l:=l) (i:=i+1) K0
  grind[Cv]
def TX {l:List Int}: ∀ {i:Nat} {j:Nat},j<i->l.getD j 0<=l.getD (Cv l i) 0
 |i+1,j,hj=>by
  unfold Cv;by_cases e:j=i
  grind
  ·have:=TX (l:=l) (i:=i) (j:=j) K0
   grind
def Ii {l:List Int}: ∀ {i:Nat} {j:Nat},j<Cv l i->l.getD j 0<l.getD (Cv l i) 0
 |0,j,hj=>by grind[Cv]
 |i+1,j,hj=>by
  unfold Cv at hj ⊢;split
  ·rename_i h;rw[if_pos h]at hj;have:=TX (l:=l) (i:=i) (j:=j) hj;omega
  ·rename_i h;rw[if_neg h]at hj;exact Ii hj
def pk (l:List Int):Nat:=Cv l l.length
def pG (l:List Int):Int:=l.getD (pk l) 0
end Go.Plain
namespace Go.Proofs.Tryz
open Go.Fw Go.IntWalk Go.Plain
abbrev Rr (l:List Int)(e:Int):SV:=(true,[.ints l,J e])
def jC {l:List Int}{lo hi:Int}(h:jb l lo hi){i:Nat}(lA:i<l.length):lo<=l.getD i 0/\l.getD i 0<=hi:=h _ (qB lA)
def aah {l:List Int}(h0:0<l.length)(hl:l.length<=maxLen):ac 216 [L l] (.one (I (pG l))):=by
 unfold maxLen at hl;have p1:Cv l 1=0:=by grind[Cv]
 refine sF f216 ?_
 (try(refine tX 0 ?_;try exact Zt))
 refine af (ι:=Nat) (λi=>1<=i/\i<=l.length) (λi=>l.length -i) (λi=>⟨[(0,vL l),(3,vI (l.getD (Cv l i) 0)),(4,vI i)],[],0⟩) 1 (ai (by rw[p1];kernel_rfl)) ⟨dE _,h0⟩ ?_;rintro i ⟨zO,hi⟩;have hs:(if l.getD i 0>l.getD (Cv l i) 0 then l.getD i 0 else l.getD (Cv l i) 0)=l.getD (Cv l (i+1)) 0:=by grind[Cv]
 (try(refine tX 0 ?_;try exact Zt))
 (refine bR ?_ ?_<;>intro h<;>(try conv=>whnf))
 ·have ak:i<l.length:=by omega
  (try(refine tX 0 ?_;try exact Zt))
  exact⟨i+1,⟨by omega,ak⟩,by omega,ai (by rw[<- hs];kernel_rfl)⟩
 ·obtain rfl:i=l.length:=by omega
  exact tL
def J6 {l:List Int}(h0:0<l.length)(hl:l.length<=maxLen):ac 217 [L l,I (pG l)] (.one (I (pk l:Nat))):=by
 unfold maxLen at hl;have hp:pk l<l.length:=AA h0;refine sF f217 ?_
 (try(refine tX 0 ?_;try exact Zt))
 refine af (ι:=Nat) (λi=>i<=pk l) (λi=>l.length -i) (λi=>⟨[(0,vL l),(1,vI (pG l)),(7,vI l.length),(8,vI i)],[],0⟩) 0 Zc (dD _) ?_;intro i hi;by_cases he:i=pk l
 ·subst he;have:l.getD (pk l) 0=pG l:=rfl;exact tL
 ·have ak:i<pk l:=by omega
  have:l.getD i 0<pG l:=Ii ak;exact tL
def QO {l:List Int}(h0:0<l.length)(h:jb l (-4096) 4096): -4096<=pG l/\pG l<=4096:=jC h (AA h0)
def Wr {l:List Int}{e:Int}(h0:0<l.length)(hl:l.length<=maxLen)(h:jb l (-4096) 4096)(he:0<=e/\e<=1000):ac 142 [Rr l e] (.aI [I (pk l:Nat),F2 (pG l -e) (pG l+e)]):=by
 have hv:=QO h0 h;have g1:=aah h0 hl;have g2:=J6 h0 hl;refine sF f142 ?_;exact tL
def EM (l:List Int)(g:FuncId)(first:List (Bool × List SC))(bM:List (List SC))(p:Int->Bool)(hp: ∀n∈l,ac g (first++[I n]++bM.map λcs=>(false,[.ref cs])) (.one (Bo (p n))))(hl:l.length<=maxLen):
  ac 267 [L l,(false,[.fn g first bM])] (.one (I (fF p l 0))):=by
 unfold maxLen at hl;refine sF f267 ?_
 (try(refine tX 0 ?_;try exact Zt))
 refine af (ι:=Nat) (λi=>i<=l.length/\fF p l 0=fF p l i) (λi=>l.length -i) (λi=>⟨[(0,vL l),(1,some (.val (false,[.st (.fn g first bM)]))),(7,vI l.length),(8,vI i)],[],0⟩) 0 Zc ⟨dD _,rfl⟩ ?_;rintro i ⟨hi,hf⟩
 (try(refine tX 0 ?_;try exact Zt))
 (refine bR ?_ ?_<;>intro h<;>(try conv=>whnf))<;>((try(refine tX 0 ?_;try exact Zt)))
 ·have ak:i<l.length:=by omega
  have hc:=hp _ (qB (d:=0) ak);rw[vr ak]at hf
  (try(refine tX 0 ?_;try exact Zt))
  (refine bR ?_ ?_<;>intro h<;>(try conv=>whnf))<;>((try(refine tX 0 ?_;try exact Zt)))
  ·rw[hf,if_pos h];(first|done|rfl|exact True.intro)
  ·rw[if_neg h]at hf;exact⟨i+1,⟨ak,hf⟩,by omega,Zc⟩
 ·obtain rfl:i=l.length:=by omega
  rw[hf,J5];(first|done|rfl|exact True.intro)
def adu (p:Int->Bool)(l:List Int)(a:Nat):fF p l a=if fF p (l.drop a) 0>=0 then(a:Int)+fF p (l.drop a) 0 else -1:=by
 unfold fF
 grind
def zl (l:List Int)(e:Int)(a:Nat)(g:FuncId)(first:List (Bool × List SC))(bM:List (List SC))(p:Int->Bool)(ha:a<=l.length)(hp: ∀n∈l,ac g (first++[I n]++bM.map λcs=>(false,[.ref cs])) (.one (Bo (p n))))(hl:l.length<=maxLen):
  ac 218 [Rr l e,I (a:Nat),(false,[.fn g first bM])] (.one (I (fF p l a))):=by
 have hld:(l.drop a).length <=maxLen:=by grind
 have c:=EM (l.drop a) g first bM p (λn hn=>hp n (PD hn)) hld
 have c':ac 267 [L (l.drop (a:Int).toNat),(false,[.fn g first bM])] (.one (I (fF p (l.drop a) 0))):=c;rw[adu];have hb:=aag p (l.drop a) (dD _);rw[LJ]at hb;unfold maxLen at hl;refine sF f218 ?_
 (try(refine tX 0 ?_;try exact Zt))
 (refine bR ?_ ?_<;>intro h<;>(try conv=>whnf))
 ·(try(refine tX 0 ?_;try exact Zt))
  grind;(first|done|rfl|exact True.intro)
 ·exact afS
def EN (e t x:Int):Int->Bool:=λn=>decide (10*(n+e)>=t*x)
def EP (e t x:Int):Int->Bool:=λn=>decide (10*(n -e)>=t*x)
def J7 (e x:Int):Int->Bool:=λn=>decide (2*(n -e)<=x)
def J8 (e x:Int):Int->Bool:=λn=>decide (2*(n+e)<=x)
abbrev smp (n:Int):Prop:= -10000<=n/\n<=10000
def J9 {t x:Int}(ht:0<=t/\t<=10)(hx:smp x): -100000<=t*x/\t*x<=100000:=alQ (A:=10) (B:=10000) K0 hx K0
def QP (n:Int)(l:List Int)(e t x y:Int)(hn:smp n)(he:0<=e/\e<=1000)(ht:0<=t/\t<=10)(hx:smp x):ac 219 [I n,(false,[.ref [.ints l,J e]]),(false,[.ref [J t]]),(false,[.ref [J x,J y]])] (.one (Bo (EN e t x n))):=by
 have:=J9 ht hx;refine sF f219 ?_;exact tL
def QQ (n:Int)(l:List Int)(e t x y:Int)(hn:smp n)(he:0<=e/\e<=1000)(ht:0<=t/\t<=10)(hy:smp y):ac 220 [I n,(false,[.ref [.ints l,J e]]),(false,[.ref [J t]]),(false,[.ref [J x,J y]])] (.one (Bo (EP e t y n))):=by
 have:=J9 ht hy;refine sF f220 ?_;exact tL
def Ws (n:Int)(l:List Int)(e x y:Int)(hn:smp n)(he:0<=e/\e<=1000):ac 221 [I n,(false,[.ref [.ints l,J e]]),(false,[.ref [J x,J y]])] (.one (Bo (J7 e y n))):=by
 refine sF f221 ?_;exact tL
def Wt (n:Int)(l:List Int)(e x y:Int)(hn:smp n)(he:0<=e/\e<=1000):ac 222 [I n,(false,[.ref [.ints l,J e]]),(false,[.ref [J x,J y]])] (.one (Bo (J8 e x n))):=by
 refine sF f222 ?_;exact tL
def Ij {l:List Int}{e t x y:Int}(hl:l.length<=maxLen)(h:jb l (-4096) 4096)(he:0<=e/\e<=1000)(ht:0<=t/\t<=10)(hx:smp x)(hy:smp y):ac 143 [Rr l e,I t,F2 x y] (.one (F2 (fF (EN e t x) l 0) (fF (EP e t y) l 0))):=by
 have c1:=zl l e 0 219 [] [[.ints l,J e],[J t],[J x,J y]] (EN e t x) (dD _) (λn hn=>QP n l e t x y ab6 he ht hx) hl;have c2:=zl l e 0 220 [] [[.ints l,J e],[J t],[J x,J y]] (EP e t y) (dD _) (λn hn=>QQ n l e t x y ab6 he ht hy) hl;have c1':ac 218 [Rr l e,I 0,(false,[.fn 219 [] [[.ints l,J e],[J t],[J x,J y]]])] (.one (I (fF (EN e t x) l 0))):=c1;have c2':ac 218 [Rr l e,I 0,(false,[.fn 220 [] [[.ints l,J e],[J t],[J x,J y]]])] (.one (I (fF (EP e t y) l 0))):=c2;refine sF f143 ?_
 (try(refine tX 1 ?_;try exact Zt))
 exact K7
def aai {l:List Int}{e x y:Int}{a:Nat}(ha:a<l.length)(hl:l.length<=maxLen)(h:jb l (-4096) 4096)(he:0<=e/\e<=1000):ac 144 [Rr l e,I (a:Nat),F2 x y] (.one (F2 (fF (J7 e y) l (a+1)) (fF (J8 e x) l (a+1)))):=by
 have c1:=zl l e (a+1) 221 [] [[.ints l,J e],[J x,J y]] (J7 e y) ha (λn hn=>Ws n l e x y ab6 he) hl;have c2:=zl l e (a+1) 222 [] [[.ints l,J e],[J x,J y]] (J8 e x) ha (λn hn=>Wt n l e x y ab6 he) hl;unfold maxLen at hl;rw[Int.natCast_add,Int.natCast_one]at c1 c2;refine sF f144 ?_
 (try(refine tX 1 ?_;try exact Zt))
 exact K7
abbrev F9 (a b c d e f g h i:Int):SV:=(true,[J a,J b,J c,J d,J e,J f,J g,J h,J i])
abbrev vB (b:Bool):Option DV:=some (.val (false,[.st (.lit (.bool b))]))
abbrev zq (n:Int):Prop:=0<=n/\n<=63
abbrev adv (n:Int):Prop:=1<=n/\n<=4196
abbrev TY (t p q a b c d e f:Int):Prop:=(zq t/\adv p/\adv q)/\(zq a/\zq b)/\(zq c/\zq d)/\zq e/\zq f
abbrev Kb (p q a b c d e f:Int):Prop:=p<=q/\a<=b/\c<=d/\e<=f
def eT (t p q a b c d e f:Int):Int:=if TY t p q a b c d e f then(if Kb p q a b c d e f then 0 else 9)else 2
def ib (b0 b1 b2 b3:Bool):Nat->Bool
 |0=>b0
 |1=>b0&&b1
 |2=>(b0&&b1)&&b2
 |_=>((b0&&b1)&&b2)&&b3
def zu (t p q a b c d e f:Int)(x1 x2 x3 x4 x5 x6 x7 x8 x9:Bool)(h1:ac 212 [I t,I 0,I 63] (.one (Bo x1)))(h2:ac 212 [I p,I 1,I 4196] (.one (Bo x2)))(h3:ac 212 [I q,I 1,I 4196] (.one (Bo x3)))
  (h4:ac 212 [I a,I 0,I 63] (.one (Bo x4)))(h5:ac 212 [I b,I 0,I 63] (.one (Bo x5)))(h6:ac 212 [I c,I 0,I 63] (.one (Bo x6)))(h7:ac 212 [I d,I 0,I 63] (.one (Bo x7)))(h8:ac 212 [I e,I 0,I 63] (.one (Bo x8)))(h9:ac 212 [I f,I 0,I 63] (.one (Bo x9))):
  ac 293 [F9 t p q a b c d e f] (.one (I (fs [if ib (x1&&x2&&x3) (x4&&x5) (x6&&x7) (x8&&x9) 3=true then 0 else 2,if ib (decide (p<=q)) (decide (a<=b)) (decide (c<=d)) (decide (e<=f)) 3=true then 0 else 9]))):=by
 refine sF f293 ?_;refine aS ?_;(refine aR ?_;conv=>whnf);(try(refine tX 2 ?_;try exact Zt));refine acG (ι:=Unit) (λ_=>True) (λ_=>⟨[(1,pP 0),(3,vB (x1&&x2&&x3))],[(0,some (.box 78 [.st (J t),.st (J p),.st (J q),.st (J a),.st (J b),.st (J c),.st (J d),.st (J e),.st (J f)]))],1⟩) ?_ ?_
 ·refine aR ?_
  (conv=>whnf)
  repeat' ((first|refine tX 0 ?_|exact Zt|refine bR ?_ ?_<;>intro h)<;>(try conv=>whnf))
  all_goals((try simp only[LK]at*);subst_vars;exact⟨(),trivial,Zc⟩)
 ·generalize (x1&&x2&&x3)=z0;intro _ _
  (try(refine tX 0 ?_;try exact Zt))
  refine af (ι:=Nat) (λi=>i<=3) (λi=>3 -i) (λi=>⟨[(3,vB (ib z0 (x4&&x5) (x6&&x7) (x8&&x9) i)),(4,vB (ib (decide (p<=q)) (decide (a<=b)) (decide (c<=d)) (decide (e<=f)) i)),(35,some (.val (true,[.st (J a),.st (J b),.st (J c),.st (J d),.st (J e),.st (J f)]))),(36,vI i)],[],1⟩) 0 Zc (dD _) ?_;intro i hi;rcases(show i=0\/i=1\/i=2\/i=3 by omega)with rfl|rfl|rfl|rfl
  ·have e1:ib z0 (x4&&x5) (x6&&x7) (x8&&x9) (0+1)=(ib z0 (x4&&x5) (x6&&x7) (x8&&x9) 0&&(x4&&x5)):=rfl;have e2:ib (decide (p<=q)) (decide (a<=b)) (decide (c<=d)) (decide (e<=f)) (0+1)=(ib (decide (p<=q)) (decide (a<=b)) (decide (c<=d)) (decide (e<=f)) 0&&decide (a<=b)):=rfl;generalize ib z0 (x4&&x5) (x6&&x7) (x8&&x9) 0=z at e1 ⊢;generalize ib (decide (p<=q)) (decide (a<=b)) (decide (c<=d)) (decide (e<=f)) 0=v at e2 ⊢;repeat' ((first|refine tX 0 ?_|exact Zt|refine bR ?_ ?_<;>intro h)<;>(try conv=>whnf))
   all_goals((try simp only[LK]at*);subst_vars;exact⟨0+1,by omega,by omega,ai agb⟩)
  ·have e1:ib z0 (x4&&x5) (x6&&x7) (x8&&x9) (1+1)=(ib z0 (x4&&x5) (x6&&x7) (x8&&x9) 1&&(x6&&x7)):=rfl;have e2:ib (decide (p<=q)) (decide (a<=b)) (decide (c<=d)) (decide (e<=f)) (1+1)=(ib (decide (p<=q)) (decide (a<=b)) (decide (c<=d)) (decide (e<=f)) 1&&decide (c<=d)):=rfl;generalize ib z0 (x4&&x5) (x6&&x7) (x8&&x9) 1=z at e1 ⊢;generalize ib (decide (p<=q)) (decide (a<=b)) (decide (c<=d)) (decide (e<=f)) 1=v at e2 ⊢;repeat' ((first|refine tX 0 ?_|exact Zt|refine bR ?_ ?_<;>intro h)<;>(try conv=>whnf))
   all_goals((try simp only[LK]at*);subst_vars;exact⟨1+1,by omega,by omega,ai agb⟩)
  ·have e1:ib z0 (x4&&x5) (x6&&x7) (x8&&x9) (2+1)=(ib z0 (x4&&x5) (x6&&x7) (x8&&x9) 2&&(x8&&x9)):=rfl;have e2:ib (decide (p<=q)) (decide (a<=b)) (decide (c<=d)) (decide (e<=f)) (2+1)=(ib (decide (p<=q)) (decide (a<=b)) (decide (c<=d)) (decide (e<=f)) 2&&decide (e<=f)):=rfl;generalize ib z0 (x4&&x5) (x6&&x7) (x8&&x9) 2=z at e1 ⊢;generalize ib (decide (p<=q)) (decide (a<=b)) (decide (c<=d)) (decide (e<=f)) 2=v at e2 ⊢;repeat' ((first|refine tX 0 ?_|exact Zt|refine bR ?_ ?_<;>intro h)<;>(try conv=>whnf))
   all_goals((try simp only[LK]at*);subst_vars;exact⟨2+1,by omega,by omega,ai agb⟩)
  ·generalize ib z0 (x4&&x5) (x6&&x7) (x8&&x9) 3=z;generalize ib (decide (p<=q)) (decide (a<=b)) (decide (c<=d)) (decide (e<=f)) 3=v;repeat((first|(refine kO 7 rfl ?_;first|refine Rq (mK _ _) ?_|refine rG (λ_ z=>⟨_,g9 _ (fO rfl),z⟩) ?_)|refine tX 0 ?_|exact Zt);(try conv=>whnf))
   exact K7
def Wv (t p q a b c d e f:Int):fs [if ib (decide (zq t)&&decide (adv p)&&decide (adv q)) (decide (zq a)&&decide (zq b)) (decide (zq c)&&decide (zq d)) (decide (zq e)&&decide (zq f)) 3=true then 0 else 2,if ib (decide (p<=q)) (decide (a<=b)) (decide (c<=d)) (decide (e<=f)) 3=true then 0 else 9]=eT t p q a b c d e f:=by
 unfold eT ib;simp only[<- Yf,SK];by_cases h:TY t p q a b c d e f
 ·rw[if_pos h,if_pos (by obtain⟨⟨h1,h2,h3⟩,h4,h5,h6⟩:=h;exact⟨⟨⟨⟨⟨h1,h2⟩,h3⟩,h4⟩,h5⟩,h6⟩)];by_cases h':Kb p q a b c d e f
  ·rw[if_pos h',if_pos (by obtain⟨k1,k2,k3,k4⟩:=h';exact⟨⟨⟨k1,k2⟩,k3⟩,k4⟩)];rfl
  ·rw[if_neg h',if_neg (by intro k;exact h' ⟨k.1.1.1,k.1.1.2,k.1.2,k.2⟩)];rfl
 ·rw[if_neg h,if_neg (by intro k;exact h ⟨⟨k.1.1.1.1.1,k.1.1.1.1.2,k.1.1.1.2⟩,k.1.1.2,k.1.2,k.2⟩)];simp[fs]
def AB (t p q a b c d e f:Int):ac 293 [F9 t p q a b c d e f] (.one (I (eT t p q a b c d e f))):=by
 rw[<- Wv];exact zu _ _ _ _ _ _ _ _ _ _ _ _ _ _ _ _ _ _ (eP _ _ _) (eP _ _ _) (eP _ _ _) (eP _ _ _) (eP _ _ _) (eP _ _ _) (eP _ _ _) (eP _ _ _) (eP _ _ _)
def BH {t p q a b c d e f:Int}(h:eT t p q a b c d e f=0):TY t p q a b c d e f/\Kb p q a b c d e f:=by
 unfold eT at h;split at h
 ·rename_i h1;split at h
  ·rename_i h2;exact⟨h1,h2⟩
  ·omega
 ·omega
def Gw (t p q a b c d e f:Int):ac 343 [F9 t p q a b c d e f] (.one (I (eT t p q a b c d e f))):=by
 unfold eT;by_cases h:TY t p q a b c d e f
 ·rw[if_pos h];obtain⟨⟨h1,h2,h3⟩,⟨h4,h5⟩,⟨h6,h7⟩,h8,h9⟩:=h;by_cases h':Kb p q a b c d e f
  ·rw[if_pos h'];obtain⟨k1,k2,k3,k4⟩:=h';refine sF f343 ?_;repeat((first|(refine kO 7 rfl ?_;first|refine Rq (du _ _ _) ?_)|refine tX 0 ?_|exact Zt);(try conv=>whnf))
   refine aA ?_;repeat((first|(refine kO 7 rfl ?_;first|refine Rq (du _ _ _) ?_)|refine tX 0 ?_|exact Zt);(try conv=>whnf))
   refine aA ?_;repeat((first|(refine kO 7 rfl ?_;first|refine Rq (du _ _ _) ?_)|refine tX 0 ?_|exact Zt);(try conv=>whnf))
   refine aA ?_;repeat((first|(refine kO 7 rfl ?_;first|refine Rq (du _ _ _) ?_)|refine tX 0 ?_|exact Zt);(try conv=>whnf))
   refine aA ?_
   (try(refine tX 0 ?_;try exact Zt))
   refine aA ?_
   (try(refine tX 0 ?_;try exact Zt))
   refine aA ?_
   (try(refine tX 0 ?_;try exact Zt))
   refine aA ?_
   (try(refine tX 0 ?_;try exact Zt))
   refine aA ?_;exact K1
  ·rw[if_neg h'];refine sF f343 ?_;repeat((first|(refine kO 7 rfl ?_;first|refine Rq (du _ _ _) ?_)|refine tX 0 ?_|exact Zt);(try conv=>whnf))
   refine aA ?_;repeat((first|(refine kO 7 rfl ?_;first|refine Rq (du _ _ _) ?_)|refine tX 0 ?_|exact Zt);(try conv=>whnf))
   refine aA ?_;repeat((first|(refine kO 7 rfl ?_;first|refine Rq (du _ _ _) ?_)|refine tX 0 ?_|exact Zt);(try conv=>whnf))
   refine aA ?_;repeat((first|(refine kO 7 rfl ?_;first|refine Rq (du _ _ _) ?_)|refine tX 0 ?_|exact Zt);(try conv=>whnf))
   refine aA ?_
   (try(refine tX 0 ?_;try exact Zt))
   by_cases k1:p<=q
   ·(try(refine tX 0 ?_;try exact Zt))
    refine aA ?_;by_cases k2:a<=b
    ·(try(refine tX 0 ?_;try exact Zt))
     refine aA ?_;by_cases k3:c<=d
     ·(try(refine tX 0 ?_;try exact Zt))
      refine aA ?_;exact K1
     ·exact K1
    ·exact K1
   ·exact K1
 ·rw[if_neg h];refine sF f343 ?_;repeat' ((first|(refine kO 7 rfl ?_;first|refine Rq (du _ _ _) ?_)|refine tX 0 ?_|exact Zt|refine bR ?_ ?_<;>intro h)<;>(try conv=>whnf))
  all_goals first|(exact rfl)|(refine aA ?_)
  repeat' ((first|(refine kO 7 rfl ?_;first|refine Rq (du _ _ _) ?_)|refine tX 0 ?_|exact Zt|refine bR ?_ ?_<;>intro h)<;>(try conv=>whnf))
  all_goals first|(exact rfl)|(refine aA ?_)
  repeat' ((first|(refine kO 7 rfl ?_;first|refine Rq (du _ _ _) ?_)|refine tX 0 ?_|exact Zt|refine bR ?_ ?_<;>intro h)<;>(try conv=>whnf))
  all_goals first|(exact rfl)|(refine aA ?_)
  repeat' ((first|(refine kO 7 rfl ?_;first|refine Rq (du _ _ _) ?_)|refine tX 0 ?_|exact Zt|refine bR ?_ ?_<;>intro h)<;>(try conv=>whnf))
  all_goals first|exact Zo|(exact rfl)|(refine aA ?_)
  repeat' ((first|(refine kO 7 rfl ?_;first|refine Rq (du _ _ _) ?_)|refine tX 0 ?_|exact Zt|refine bR ?_ ?_<;>intro h)<;>(try conv=>whnf))
  all_goals first|exact Zo|(exact rfl)
end Go.Proofs.Tryz
namespace Go.Plain
abbrev Qn:Type:=Int × Int
def pX (x y:Qn):Prop:=x.1*y.2<y.1*x.2
instance (x y:Qn):Decidable (pX x y):=by unfold pX;infer_instance
def zw (x y:Qn):Qn:=if pX x y then y else x
def zx (x y:Qn):Qn:=if pX y x then y else x
abbrev Iv:Type:=Qn × Qn
def s6 (s o:Iv):Iv:=(zw s.1 o.1,zx s.2 o.2)
def ki (s:Iv):Prop:=pX s.2 s.1
instance (s:Iv):Decidable (ki s):=by unfold ki;infer_instance
def lD (n d:Int):Qn:=(fu n d,eG n d)
def agT:Iv:=((1,1),(0,1))
def oX (s:Iv)(n m:Int):Iv:=if n>0 then(s.1,zx s.2 (lD m n))else if n<0 then(zw s.1 (lD (-m) (-n)),s.2)else if m<0 then agT else s
def atS (F:Iv)(e x y:Int):Iv:=oX (oX F (x -e) (y+e)) (-x -e) (e -y)
def QT (s:Iv)(n m:Int):Option Iv:=if n=0/\m<0 then none else if ki (oX s n m)then none else some (oX s n m)
def Ik (s:Iv)(e x y:Int):Option Iv:=(QT s (x -e) (y+e)).bind λs=>QT s (-x -e) (e -y)
abbrev nk (x:Qn):Prop:=0<x.2
abbrev nQ (s:Iv):Prop:=nk s.1/\nk s.2
def uB {x y z:Qn}(hx:nk x)(hy:nk y)(hz:nk z)(h1: ¬pX y x)(h2:pX y z):pX x z:=by
 unfold pX at*;obtain⟨a,b⟩:=x;obtain⟨c,d⟩:=y;obtain⟨p,q⟩:=z;simp only at*;refine aeC (a:=d) ?_ K0;have e1:a*d*q<=c*b*q:=XM K0 K0;have e2:c*q*b<p*d*b:=Sg h2 hx
 grind
def pI {x y z:Qn}(hx:nk x)(hy:nk y)(hz:nk z)(h1:pX x y)(h2: ¬pX z y):pX x z:=by
 unfold pX at*;obtain⟨a,b⟩:=x;obtain⟨c,d⟩:=y;obtain⟨p,q⟩:=z;simp only at*;refine aeC (a:=d) ?_ K0;have e1:a*d*q<c*b*q:=Sg h1 hz;have e2:c*q*b<=p*d*b:=XM K0 K0
 grind
theorem AF (x:Qn): ¬pX x x:=by grind[pX]
theorem Cw {x y:Qn}(h:pX x y): ¬pX y x:=by grind[pX]
def le_trans' {x y z:Qn}(hx:nk x)(hy:nk y)(hz:nk z)(h1: ¬pX y x)(h2: ¬pX z y): ¬pX z x:=λh=>h2 (pI hz hx hy h h1)
def aal {x y:Qn}(hx:nk x)(hy:nk y):nk (zw x y):=by grind[zw]
def aam {x y:Qn}(hx:nk x)(hy:nk y):nk (zx x y):=by grind[zx]
def alT {x y:Qn}: ¬pX (zw x y) x:=by grind[zw,Cw]
def anG {x y:Qn}: ¬pX (zw x y) y:=by grind[zw,AF]
def alU {x y:Qn}: ¬pX x (zx x y):=by grind[zx,Cw]
def anH {x y:Qn}: ¬pX y (zx x y):=by grind[zx,AF]
theorem aan {x y z:Qn}(hx:nk x)(hy:nk y)(hz:nk z):zw (zw x y) z=zw x (zw y z):=by
 by_cases h1:pX x y
 ·rw[show zw x y=y from if_pos h1];by_cases h2:pX y z
  ·rw[show zw y z=z from if_pos h2,show zw x z=z from if_pos (uB hx hy hz (Cw h1) h2)]
  ·rw[show zw y z=y from if_neg h2,show zw x y=y from if_pos h1]
 ·rw[show zw x y=x from if_neg h1];by_cases h2:pX y z
  ·rw[show zw y z=z from if_pos h2]
  ·rw[show zw y z=y from if_neg h2,show zw x y=x from if_neg h1];exact if_neg (λh=>h2 (uB hy hx hz h1 h))
theorem aao {x y z:Qn}(hx:nk x)(hy:nk y)(hz:nk z):zx (zx x y) z=zx x (zx y z):=by
 by_cases h1:pX y x
 ·rw[show zx x y=y from if_pos h1];by_cases h2:pX z y
  ·rw[show zx y z=z from if_pos h2,show zx x z=z from if_pos (pI hz hy hx h2 (Cw h1))]
  ·rw[show zx y z=y from if_neg h2,show zx x y=y from if_pos h1]
 ·rw[show zx x y=x from if_neg h1];by_cases h2:pX z y
  ·rw[show zx y z=z from if_pos h2]
  ·rw[show zx y z=y from if_neg h2,show zx x y=x from if_neg h1];exact if_neg (λh=>h2 (pI hz hx hy h h1))
theorem zy {n d:Int}(h:0<d):nk (lD n d):=wX h
theorem adw:nQ agT:=⟨by decide,by decide⟩
theorem o0 {s:Iv}{n m:Int}(h:nQ s):nQ (oX s n m):=by
 unfold oX;split
 ·exact⟨h.1,aam h.2 (zy K0)⟩
 ·split
  ·exact⟨aal h.1 (zy K0),h.2⟩
  grind[adw]
def Cx {s o:Iv}(h:nQ s)(k:nQ o):nQ (s6 s o):=⟨aal h.1 k.1,aam h.2 k.2⟩
def aap {F:Iv}{e x y:Int}(h:nQ F):nQ (atS F e x y):=o0 (o0 h)
def kj (o s:Iv):Prop:=¬pX o.1 s.1/\¬pX s.2 o.2
theorem r8 {o s:Iv}(ho:nQ o)(hs:nQ s)(h:kj o s)(he:ki s):ki o:=by
 unfold ki at*;exact pI ho.2 hs.1 ho.1 (uB ho.2 hs.2 hs.1 h.2 he) h.1
def uC (s:Iv):kj s s:=⟨AF _,AF _⟩
theorem r9 {a b c:Iv}(ha:nQ a)(hb:nQ b)(hc:nQ c)(h:kj a b)(k:kj b c):kj a c:=
 ⟨le_trans' hc.1 hb.1 ha.1 k.1 h.1,le_trans' ha.2 hb.2 hc.2 h.2 k.2⟩
def Kd (s o:Iv):kj (s6 s o) s:=⟨alT,alU⟩
def zA (s o:Iv):kj (s6 s o) o:=⟨anG,anH⟩
theorem AG {s:Iv}{n m:Int}(h: ¬(n=0/\m<0)):kj (oX s n m) s:=by
 unfold oX;split
 ·exact⟨AF _,alU⟩
 ·split
  ·exact⟨alT,AF _⟩
  ·rw[if_neg K0];exact uC s
theorem aaq {s:Iv}{n m:Int}(hp:nQ s)(h:ki s):ki (oX s n m):=by
 by_cases k:n=0/\m<0
 ·unfold oX;rw[if_neg K0,if_neg K0,if_pos k.2];decide
 grind[r8,o0,AG]
def NV {s F:Iv}(h:kj s F):s6 s F=s:=by
 unfold s6 zw zx;rw[if_neg h.1,if_neg h.2]
theorem aar {s F:Iv}{n m:Int}(hs:nQ s)(hF:nQ F)(h: ¬(n=0/\m<0)):oX (s6 s F) n m=s6 s (oX F n m):=by
 unfold oX;by_cases h1:n>0
 ·rw[if_pos h1,if_pos h1]
  grind[s6,aao,zy]
 ·rw[if_neg h1,if_neg h1];by_cases h2:n<0
  ·rw[if_pos h2,if_pos h2]
   grind[s6,aan,zy]
  grind
def adx {s F:Iv}{e x y:Int}(hs:nQ s)(hF:nQ F)(hw:kj s F)(aoE: ¬ki s):
  (∃o,Ik s e x y=some o/\s6 s (atS F e x y)=o/\¬ki o/\kj o s)\/(Ik s e x y=none/\ki (s6 s (atS F e x y))):=by
 unfold Ik atS;by_cases k1:x -e=0/\y+e<0
 ·right;have hn:ki (oX F (x -e) (y+e)):=by unfold oX;rw[if_neg K0,if_neg K0,if_pos k1.2];decide
  have hp:=o0 (n:=x -e) (m:=y+e) hF;refine⟨by unfold QT;grind,r8 (Cx hs (o0 hp)) (o0 hp) (zA _ _) (aaq hp hn)⟩
 ·have e1:s6 s (oX F (x -e) (y+e))=oX s (x -e) (y+e):=by rw[<- aar hs hF k1,NV hw]
  have hp1:=o0 (n:=x -e) (m:=y+e) hs;have hpF:=o0 (n:=x -e) (m:=y+e) hF;have w1:kj (oX s (x -e) (y+e)) s:=AG k1;by_cases k2: -x -e=0/\e -y<0
  ·right
   have hn:ki (oX (oX F (x -e) (y+e)) (-x -e) (e -y)):=by
    generalize oX F (x -e) (y+e)=G;unfold oX;rw[if_neg K0,if_neg K0,if_pos k2.2];decide
   refine⟨?_,r8 (Cx hs (o0 hpF)) (o0 hpF) (zA _ _) hn⟩;unfold QT
   grind
  ·have e2:s6 s (oX (oX F (x -e) (y+e)) (-x -e) (e -y))=oX (oX s (x -e) (y+e)) (-x -e) (e -y):=by grind[aar]
   rw[e2];have hp2:=o0 (n:= -x -e) (m:=e -y) hp1;have w2:kj (oX (oX s (x -e) (y+e)) (-x -e) (e -y)) (oX s (x -e) (y+e)):=AG k2;unfold QT;rw[if_neg k1];by_cases h1:ki (oX s (x -e) (y+e))
   ·right;rw[if_pos h1]
    grind[aaq]
   ·rw[if_neg h1];simp only[LI];rw[if_neg k2];by_cases h2:ki (oX (oX s (x -e) (y+e)) (-x -e) (e -y))
    grind
    ·left;rw[if_neg h2]
     grind[r9]
def uD (F:Iv)(e:Int):List (Int × Int)->Iv->Iv
 | [],s=>s
 |p::l,s=>uD F e l (s6 s (atS F e p.1 p.2))
def sc (e:Int):List (Int × Int)->Option Iv->Option Iv
 | [],s=>s
 |p::l,s=>sc e l (s.bind λs=>Ik s e p.1 p.2)
theorem zB (e:Int): ∀l,sc e l none=none
 | []=>rfl
 |_::l=>zB e l
theorem ET {F:Iv}{e:Int}(hF:nQ F): ∀(l:List (Int × Int)) {s:Iv},nQ s->kj (uD F e l s) s/\nQ (uD F e l s)
 | [],_,hs=>⟨uC _,hs⟩
 |p::l,s,hs=>by
  have hp:=Cx hs (aap (e:=e) (x:=p.1) (y:=p.2) hF);obtain⟨h1,h2⟩:=ET hF l hp;exact⟨r9 h2 hp hs h1 (Kd _ _),h2⟩
def TZ {F:Iv}{e:Int}(hF:nQ F): ∀(l:List (Int × Int)) {s:Iv},nQ s->kj s F->¬ki s->(∃o,sc e l (some s)=some o/\uD F e l s=o/\¬ki o)\/(sc e l (some s)=none/\ki (uD F e l s))
 | [],s,_,_,eU=>.inl ⟨s,rfl,rfl,eU⟩
 |p::l,s,hs,hw,eU=>by
  have hp:=Cx hs (aap (e:=e) (x:=p.1) (y:=p.2) hF)
  rcases adx (e:=e) (x:=p.1) (y:=p.2) hs hF hw eU with⟨o,h1,h2,h3,h4⟩|⟨h1,h2⟩
  ·rw[h2]at hp;have:=TZ (e:=e) hF l hp (r9 hp hs hF h4 hw) h3
   grind[sc,uD]
  grind[sc,uD,ET,zB,r8]
end Go.Plain
namespace Go.Proofs.Tryz
open Go.Fw Go.IntWalk Go.Plain
def gB {f:FuncId}{c:Code}{T:TypeId}{cs xz:List SC}{ys:List SV}{y:SV}(fn:Func)(h:m8 cx c ⟨iF 0 ((false,[.ptr 1 0])::ys.map dyn),[(1,some (.box T (cs.map .st)))],1⟩ (acY cx fn T xz y) (λ_ _=>False) (acY cx fn T xz y))
  (h1:iN cx.P f=true:=by kernel_rfl)(h2:cx.P.funcs[f]? =some fn:=by kernel_rfl)(h3:fn.body=some c:=by rfl)(h4:bS fn.ntmps c=true:=by kernel_rfl)(h5:ys.length+1<=fn.ntmps:=by exact fO rfl)(h6:aN [0] c=true:=by kernel_rfl):
  bx cx f 1 ((false,[.ptr 1 0])::ys.map dyn) [(1,some (.box T (cs.map .st)))] [1] (.val (dyn y)) [(1,some (.box T (xz.map .st)))]:=alk lJ h1 h2 h3 h4 h5 h6 h
def N5 (b:Bool)(s:aj)(hl:s.length<=1000000): ∃v,ac 311 [SS s,Bo b] (.aI [I v,Bo (wN b 13 s).isSome])/\∀n,wN b 13 s=some n->n=v:=by
 by_cases fC: ∀v,Lib.atoiAll s≠ .ok v
 ·obtain⟨v,c1⟩:=pB s hl fC
  have e:wN b 13 s=none:=by
   cases h:wN b 13 s with
   |none=>rfl
   |some n=>exact absurd (fW K9 (iH h).1).1 (fC n)
  rw[e];refine⟨v,?_,λn h=>by cases h⟩;cases b
  all_goals
   refine sF f311 ?_;exact K40
 ·simp only[ne_eq,Sy,LG]at fC;obtain⟨v,hv⟩:=fC;have h4:=Sq hv;have c1:=ur s hl hv;have c2:=uq v h4;have c3:=kZ s [45]
  have hn: ∀n,wN b 13 s=some n->n=v:=λn h=>by
   have:=(fW K9 (iH h).1).1;rw[hv]at this;cases this;rfl
  have key:(wN b 13 s).isSome =decide ((Lib.itoa v=s/\(b=true\/0<=v))/\(Lib.trimPrefix s [45]).length <=13):=by
   rw[vN,vJ];constructor
   ·intro h;obtain⟨n,e⟩:=qW.1 h;obtain rfl:=hn n e;obtain⟨h5,h6⟩:=iH e;have h7:=fW K9 h5;exact⟨⟨h7.2.1,h6⟩,h7.2.2.1⟩
   ·rintro⟨⟨h2,h1⟩,h3⟩;have h5:=u5 (d:=13) (n:=v) (by rw[h2];exact h3);exact aiU
  refine⟨v,?_,hn⟩;rw[key];clear key hn;generalize Lib.trimPrefix s [45]=u at*;by_cases hp:Lib.itoa v=s
  ·rw[hp]at c2;have e2:decide ((Lib.itoa v=s/\(b=true\/0<=v))/\u.length<=13)=decide ((b=true\/0<=v)/\u.length<=13):=by simp[hp]
   rw[e2];cases b
   all_goals
    refine sF f311 ?_;repeat' ((first|refine tX 0 ?_|exact Zt|refine bR ?_ ?_<;>intro h)<;>(try conv=>whnf))
    all_goals first|exact Zo|(exact mJ afX)|(exact mJ wa)|(exact absurd rfl h)
  ·have e2:decide ((Lib.itoa v=s/\(b=true\/0<=v))/\u.length<=13)=false:=by simp[hp]
   rw[e2];clear e2;generalize Lib.itoa v=y at*;cases b
   all_goals
    refine sF f311 ?_;exact aij
def gk (b:Bool)(s:aj)(hl:s.length<=1000000): ∃v,(∀fl:Bool,bx cx 286 1 ((false,[.ptr 1 0])::[SS s,Bo b].map dyn) [(1,some (.box 351 ([K fl].map .st)))] [1] (.val (dyn (I v))) [(1,some (.box 351 ([K (fl || !(wN b 13 s).isSome)].map .st)))])/\∀n,wN b 13 s=some n->n=v:=by
 obtain⟨v,c1,k1⟩:=N5 b s hl;refine⟨v,λfl=>?_,k1⟩;generalize (wN b 13 s).isSome =x at*;cases fl<;>cases x
 all_goals
  refine gB f286 ?_;repeat' ((first|refine tX 0 ?_|exact Zt|refine bR ?_ ?_<;>intro h)<;>(try conv=>whnf))
  all_goals exact⟨rfl,rfl,_,rfl,rfl⟩
end Go.Proofs.Tryz
namespace Go.Plain
def QX (l:List Pu)(q:Nat):rV l q=(l.map λp=>(p.2.1.natAbs:Int)).countP λx=>decide ((q:Int)<=x):=by
 unfold rV;rw[List.countP_map,List.countP_eq_length_filter];rfl
def T5 {l:List Pu}{n:Int}{v:Nat}(h0:0<v)(h:n<=rV l v): ∀ {Q:Nat},v<=Q->(∀q,v<q->q<=Q->¬n<=rV l q)->qI l n Q=v
 |0,hv,_=>by omega
 |Q+1,hv,h'=>by
  unfold qI;by_cases e:v=Q+1
  grind
  ·rw[if_neg (h' (Q+1) K0 (dE _))];exact T5 h0 h K0 λq h1 h2=>h' q h1 K0
def srt (l:List Int):List Int:=l.mergeSort λx y=>decide (x<=y)
def Oa (l:List Int):(srt l).Perm l:=List.mergeSort_perm l _
def ag0 (l:List Int):(srt l).Pairwise λx y=>x<=y:=by
 have:=List.pairwise_mergeSort (le:=λx y:Int=>decide (x<=y)) (λa b c h1 h2=>by grind) (λa b=>by grind) l;exact this.imp λh=>by grind
def QY {l:List Pu}{n:Nat}(h1:1<=n)(h2:n<=l.length)(hb: ∀p∈l,1<=p.2.1.natAbs/\p.2.1.natAbs<=4096):
  (srt (l.map λp=>(p.2.1.natAbs:Int))).getD (l.length -n) 0=(qI l n 4096:Nat):=by
 have hc:=QX l;have hp:=Oa (l.map λp=>(p.2.1.natAbs:Int));have hs:=ag0 (l.map λp=>(p.2.1.natAbs:Int));have hm: ∀x∈srt (l.map λp=>(p.2.1.natAbs:Int)),1<=x/\x<=4096:=λx hx=>by grind
 have hl:=hp.length_eq;rw[jj]at hl;have abD: ∀q:Nat,rV l q=(srt (l.map λp=>(p.2.1.natAbs:Int))).countP λx=>decide ((q:Int)<=x):=λq=>by rw[hc,hp.countP_eq]
 generalize srt (l.map λp=>(p.2.1.natAbs:Int))=ss at*;have hk:l.length -n<ss.length:=by omega
 obtain⟨k,hke⟩: ∃k,k=l.length -n:=⟨_,rfl⟩;rw[<- hke]at hk ⊢;have hg:ss.getD k 0=ss[k]:=by grind
 have hv:=hm _ (qd hk);rw[hg];obtain⟨v,hve⟩: ∃v:Nat,ss[k]=v:=⟨ss[k].toNat,by omega⟩;rw[hve]at hv ⊢
 have hge: ∀j (hj:j<ss.length),k<=j->(v:Int)<=ss[j]:=λj hj hkj=>by
  rw[<- hve];rcases Nat.lt_or_eq_of_le hkj with h|rfl
  ·exact aeF.1 hs k j hk hj h
  omega
 have eC: ∀j (hj:j<ss.length),j<=k->ss[j]<=(v:Int):=λj hj hkj=>by
  rw[<- hve];rcases Nat.lt_or_eq_of_le hkj with h|rfl
  ·exact aeF.1 hs j k hj hk h
  omega
 congr 1;symm;refine T5 K0 ?_ K0 λq hq1 hq2=>?_
 ·rw[abD];have e:ss=ss.take k++ss.drop k:=(LB k ss).symm
  have hd:(ss.drop k).countP (λx=>decide ((v:Int)<=x))=(ss.drop k).length :=by
   rw[List.countP_eq_length];intro a ha;obtain⟨j,hj,rfl⟩:=X0 ha;rw[List.getElem_drop];simp only[LJ]at hj;simpa using hge (k+j) K0 K0
  grind
 ·rw[abD];have e:ss=ss.take (k+1)++ss.drop (k+1):=(LB (k+1) ss).symm
  have hd:(ss.take (k+1)).countP (λx=>decide ((q:Int)<=x))=0:=by
   rw[List.countP_eq_zero];intro a ha;obtain⟨j,hj,rfl⟩:=X0 ha
   grind
  grind
def aaw {a b:Int × Int}(h:(o8 a b).2=0):a.2=0/\b.2=0:=by
 unfold o8 at h
 grind
def Cy {x:Gt}(h:(mP x).2=0):(1<=x.least/\x.least<=60)/\x.ps.length<=60/\(∀p∈x.ps,1<=p.2.1.natAbs/\p.2.1.natAbs<=4096)/\
  ((1<=x.lo.1/\x.lo.1<=1000000000)/\1<=x.lo.2/\x.lo.2<=1000000000)/\(1<=x.hi.1/\x.hi.1<=1000000000)/\1<=x.hi.2/\x.hi.2<=1000000000:=by
 obtain⟨h1,h2⟩:=aaw h;obtain⟨_,h3⟩:=wt.1 h1;obtain⟨a1,h4⟩:=wt.1 h3;obtain⟨a2,a3⟩:=wt.1 h4;have b1:(1<=x.per/\x.per<=1000000)/\1<=x.least/\x.least<=60:=by omega
 have b3:x.ps.length<=60:=by omega
 refine⟨b1.2,b3,λp hp=>?_,?_⟩
 grind[List.getElem_of_mem,oR,zg]
 grind[NG]
noncomputable def adA (x:Gt):Int × Int:=if(mP x).2=0 then(if x.least<=x.ps.length then((qI x.ps x.least 4096:Nat),0)else(0,12))else(0,(mP x).2)
def Kj (l:List Pu)(n:Int): ∀Q:Nat,qI l n Q<=Q
 |0=>dE _
 |Q+1=>by
  unfold qI;split;omega
  ·exact Nat.le_succ_of_le (Kj l n Q)
end Go.Plain
namespace Go.Fw
open Go.RowKit (Below)
open Go.Shelf
variable {P:Program}{gl:tu}
theorem aax {ρ:Ren}(L:Proofs.Lays.n189 P ρ)(fC:iN P (ρ.f 189)=true)(xs:List Int)(h0:0<xs.length)(hl:xs.length<4611686018427387904):nY P gl (ρ.f 189) [(false,[.ints xs])] (.uV 1 (.ints (xs.mergeSort λx y=>decide (x<=y)))):=by
 have bG:(xs.mergeSort λx y=>decide (x<=y)).length =xs.length:=List.length_mergeSort _;refine .inr ⟨.ints xs,rfl,fC,rfl,by simp[SC.len],?_,?_,?_⟩
 ·intro i e he;simp[SC.elem]at he;obtain⟨a,_,rfl⟩:=he;rfl
 ·intro h;exact absurd h (by show xs.length≠0;omega)
 ·intro mv w b cap arr T hb nC fZ hr;have fZ:xs.length<=cap:=fZ;have nC:arr.size=cap:=by omega
  have iV: ∀j,j<xs.length->arr[j]? =some (.int .i64 (xs.getD j 0)):=by
   intro j hj;have h2:=hr j [.lit (.int .i64 (xs.getD j 0))] 0 (.lit (.int .i64 (xs.getD j 0))) (by simp[SC.elem,pj hj,jN]) rfl;simp only[A0,CU]at h2;have hj':j<arr.size:=by omega
   have e:arr.getD j undef=arr[j]:=by simp[sN,hj']
   rw[e]at h2;rw[aeG hj',ge h2]
  have hH:Sort.Holds (Value.int .i64) w b 0 xs.toArray:=by
   intro j hj;have hj:j<xs.length:=by simpa using hj
   constructor
   ·simp only[World.cell?,hb,j7];rw[iV j hj];simp[jN,hj]
   ·simp[World.frozen?,hb]
  have hbl:b<w.heap.size:=(FV.1 hb).1;refine(Proofs.Any.slices_Sort_int L b 0 cap xs w hH hbl hl).mono λe w' he=>?_;generalize (xs.mergeSort λx y=>decide (x<=y))=ys at*;obtain⟨rfl,n,os,rfl⟩:=he;have xH:(Sort.ahead w n).heap[b]? =some (.cells arr T):=hb
  have hb2:(Sort.grow (Sort.ahead w n) os).heap[b]? =some (.cells arr T):=by
   show(w.heap++os)[b]? =_;rw[XO hbl];exact hb
  refine⟨rfl,Sort.grow (Sort.ahead w n) os,Sort.putCells (Value.int .i64) 0 ys.toArray arr,?_,?_,by simp[Sort.putCells],?_⟩
  ·refine⟨rfl,rfl,rfl,?_,λc hc=>?_⟩
   ·show w.heap.size<=(w.heap++os).size;simp
   ·show(w.heap++os)[c]? =w.heap[c]?;rw[XO hc]
  ·rw[pQ xH,<- pQ hb2];rw[<- pQ xH];unfold Sort.putRow Sort.mapBlock Sort.grow;congr 1;show(w.heap.modify b _)++os=(w.heap++os).modify b _;apply A1
   ·simp
   ·intro i h1 h2;by_cases hi:i<w.heap.size
    ·rw[aeH ab7,Sx,Sx,aeH hi]
    ·rw[aeD ab7,Sx,if_neg K0,aeD K0];simp
  intro i e j x he hx;simp only[SC.elem,mZ]at he;obtain⟨a,ha,rfl⟩:=he;have hi:i<xs.length:=by have:=(kJ.1 ha).1;omega
  cases j with
  |zero=>
   simp at hx;subst hx;have lA:i<arr.size:=by omega
   have hg:(Sort.putCells (Value.int .i64) 0 ys.toArray arr)[i]? =some (.int .i64 a):=by
    simp only[Sort.putCells,Array.getElem?_mapIdx,aeG lA,xR,dD,C1,j7,G8];rw[if_pos (by simpa [bG]using hi)]
    have:ys.toArray[i]! =a:=by
     have:=(kJ.1 ha);obtain⟨q1,q2⟩:=this;simp[q1,q2]
    rw[this]
   exact anf
  |succ j=>simp at hx
end Go.Fw
namespace Go.Proofs.Tryz
open Go.Fw Go.IntWalk Go.Plain
abbrev G5 (h m e y a:Int):SV:=(true,[J h,J m,J e,J y,J a])
abbrev A3 (a b c:Int):SV:=(true,[J a,J b,J c])
abbrev A2 (a b:Int):SV:=(true,[J a,J b])
def gok (h m e y a:Int):Prop:=((0<=h/\h<=1000000)/\(0<=m/\m<=1000000))/\(0<=e/\e<=1000000)/\(0<=y/\y<=1000000)/\0<=a/\a<=1000000
instance (h m e y a:Int):Decidable (gok h m e y a):=by unfold gok;infer_instance
def WB (h m e y a:Int):Int:=if gok h m e y a then 0 else 2
def T7 {h m e y a:Int}(n: ¬gok h m e y a):WB h m e y a=2:=if_neg n
def Kp {h m e y a:Int}(n:gok h m e y a):WB h m e y a=0:=if_pos n
def mT (n lo hi:Int):ac 50 [I n,I lo,I hi] (.one (Bo (decide (lo<=n)&&decide (n<=hi)))):=by
 refine sF f50 ?_;repeat' ((first|refine tX 0 ?_|exact Zt|refine bR ?_ ?_<;>intro h)<;>(try conv=>whnf))
 all_goals exact gX wa
section
variable (h m e y a:Int)
def vR (i:Nat):Prop:=(0<i->0<=h/\h<=1000000)/\(1<i->0<=m/\m<=1000000)/\(2<i->0<=e/\e<=1000000)/\(3<i->0<=y/\y<=1000000)/\(4<i->0<=a/\a<=1000000)
theorem E4:ac 85 [G5 h m e y a] (.one (I (WB h m e y a))):=by
 refine sF f85 ?_
 (try(refine tX 0 ?_;try exact Zt))
 refine af (ι:=Nat) (λi=>i<=5/\vR h m e y a i) (λi=>5 -i) (λi=>⟨[(15,some (.val (true,[.st (J h),.st (J m),.st (J e),.st (J y),.st (J a)]))),(16,vI i)],[],0⟩) 0 Zc ⟨by omega,by unfold vR;omega⟩ ?_;rintro i ⟨hi,hp⟩;unfold vR at hp;rcases(show i=0\/i=1\/i=2\/i=3\/i=4\/i=5 by omega)with rfl|rfl|rfl|rfl|rfl|rfl;all_goals repeat' ((first|refine tX 0 ?_|exact Zt|refine bR ?_ ?_<;>intro h)<;>(try conv=>whnf))
 all_goals first
  |exact mH (T7 Yo).symm
  |exact mH (Kp Yo).symm
  |exact⟨0+1,⟨by omega,by unfold vR;omega⟩,by omega,Zc⟩
  |exact⟨1+1,⟨by omega,by unfold vR;omega⟩,by omega,Zc⟩
  |exact⟨2+1,⟨by omega,by unfold vR;omega⟩,by omega,Zc⟩
  |exact⟨3+1,⟨by omega,by unfold vR;omega⟩,by omega,Zc⟩
  |exact⟨4+1,⟨by omega,by unfold vR;omega⟩,by omega,Zc⟩
theorem GD:ac 282 [G5 h m e y a] (.one (I (WB h m e y a))):=by
 refine sF f282 ?_;repeat((first|(refine kO 7 rfl ?_;first|refine Rq (mT _ _ _) ?_)|refine tX 0 ?_|exact Zt);(try conv=>whnf))
 refine af (ι:=Nat) (λi=>i<=5/\vR h m e y a i) (λi=>5 -i) (λi=>⟨[(3,pO 0),(4,vI i)],[(0,some (.row true 1 (.ints [h,m,e,y,a])))],1⟩) 0 Zc ⟨by omega,by unfold vR;omega⟩ ?_;rintro i ⟨hi,hp⟩;unfold vR at hp;rcases(show i=0\/i=1\/i=2\/i=3\/i=4\/i=5 by omega)with rfl|rfl|rfl|rfl|rfl|rfl;all_goals repeat' ((first|(refine kO 7 rfl ?_;first|refine Rq (mT _ _ _) ?_)|refine tX 0 ?_|exact Zt|refine bR ?_ ?_<;>intro h)<;>(try conv=>whnf))
 all_goals try simp only[LF,SD]at*
 all_goals first
  |exact mH (T7 Yo).symm
  |exact mH (Kp Yo).symm
  |exact⟨0+1,⟨by omega,by unfold vR;omega⟩,by omega,Zc⟩
  |exact⟨1+1,⟨by omega,by unfold vR;omega⟩,by omega,Zc⟩
  |exact⟨2+1,⟨by omega,by unfold vR;omega⟩,by omega,Zc⟩
  |exact⟨3+1,⟨by omega,by unfold vR;omega⟩,by omega,Zc⟩
  |exact⟨4+1,⟨by omega,by unfold vR;omega⟩,by omega,Zc⟩
end
def BL (d t:Int):Prop:=(0<=d/\d<=200)/\0<=t/\t<=100000
instance (d t:Int):Decidable (BL d t):=by unfold BL;infer_instance
def xd (d t:Int):Int:=if BL d t then(if d<80 then 0 else 2^((d -80)/6).toNat *t)else 0
def WC (d t:Int):Int:=if BL d t then 0 else 2
def aaI {k:Nat}(hk:k<=20):(1:Int)<=2^k/\(2:Int)^k<=1048576:=by
 have h1:(2:Nat)^k<=2^20:=XY K0 hk;have h2:0< (2:Nat)^k:=Nat.pow_pos K0;have e:((2^k:Nat):Int)=(2:Int)^k:=by simp
 omega
def xf {k:Nat}{t:Int}(hk:k<=20)(ht:0<=t/\t<=100000):0<=2^k*t/\2^k*t<=104857600000:=by
 obtain⟨h1,h2⟩:=aaI hk;refine⟨CS K0 ht.1,?_⟩
 calc 2^k*t<=1048576*t:=XM h2 ht.1
  _<=104857600000:=by omega
def aaJ (d t:Int)(hn: ¬BL d t):ac 39 [I d,I t] (.aI [I 0,I 2]):=by
 unfold BL at hn;refine sF f39 ?_;exact tA
def WD (d t:Int)(hg:BL d t)(hd:d<80):ac 39 [I d,I t] (.aI [I 0,I 0]):=by
 unfold BL at hg;refine sF f39 ?_;exact tA
def Q3 (d t:Int)(hg:BL d t)(hd: ¬d<80):ac 39 [I d,I t] (.aI [I (2^((d -80)/6).toNat *t),I 0]):=by
 unfold BL at hg;obtain⟨b1,b2⟩:=xf (k:=((d -80)/6).toNat) (t:=t) K0 hg.2
 have e:IntKind.i64.wrap (t*2^min ((d -80)/6).toNat IntKind.i64.bits)=2^((d -80)/6).toNat *t:=by
  rw[show min ((d -80)/6).toNat IntKind.i64.bits=((d -80)/6).toNat by show min _ 64=_;omega,Int.mul_comm];exact i64_in _ K0
 have hq:0<=(d -80)/6:=by omega
 refine sF f39 ?_;repeat' ((first|refine tX 0 ?_|exact Zt|refine bR ?_ ?_<;>intro h)<;>(try conv=>whnf))
 all_goals first|exact Zo|skip
 rw[e]
def WE (d t:Int)(hn: ¬BL d t):ac 281 [I d,I t] (.aI [I 0,I 2]):=by
 unfold BL at hn;exact ah5
def Q4 (d t:Int)(hg:BL d t)(hd:d<80):ac 281 [I d,I t] (.aI [I 0,I 0]):=by
 unfold BL at hg;exact ah5
def Og (d t:Int)(hg:BL d t)(hd: ¬d<80):ac 281 [I d,I t] (.aI [I (2^((d -80)/6).toNat *t),I 0]):=by
 unfold BL at hg;obtain⟨b1,b2⟩:=xf (k:=((d -80)/6).toNat) (t:=t) K0 hg.2;refine sF f281 ?_;repeat((first|(refine kO 7 rfl ?_;first|refine Rq (mT _ _ _) ?_)|refine tX 0 ?_|exact Zt);(try conv=>whnf))
 refine af (ι:=Nat) (λi=>(i:Int)<=(d -80)/6) (λi=>((d -80)/6).toNat -i) (λi=>⟨[(0,vI d),(1,vI t),(6,vI (2^i)),(7,vI i)],[],0⟩) 0 Zc (by simp only[Int.natCast_zero];omega) ?_;intro i hi;have hp:=aaI (k:=i) K0;by_cases ak:(i:Int)< (d -80)/6
 ·have e:(2:Int)^(i+1)=2*2^i:=by rw[Int.pow_succ];omega
  repeat' ((first|refine tX 0 ?_|exact Zt|refine bR ?_ ?_<;>intro h)<;>(try conv=>whnf))
  all_goals first|exact Zo|exact⟨i+1,by omega,by omega,ai (by rw[e];kernel_rfl)⟩
 ·obtain rfl:i=((d -80)/6).toNat :=by omega
  exact tA
def Ip (d t:Int):ac 39 [I d,I t] (.aI [I (xd d t),I (WC d t)]):=by
 unfold xd WC;by_cases h:BL d t
 ·rw[if_pos h,if_pos h];by_cases hd:d<80
  ·rw[if_pos hd];exact WD d t h hd
  ·rw[if_neg hd];exact Q3 d t h hd
 ·rw[if_neg h,if_neg h];exact aaJ d t h
def Q5 (d t:Int):ac 281 [I d,I t] (.aI [I (xd d t),I (WC d t)]):=by
 unfold xd WC;by_cases h:BL d t
 ·rw[if_pos h,if_pos h];by_cases hd:d<80
  ·rw[if_pos hd];exact Q4 d t h hd
  ·rw[if_neg hd];exact Og d t h hd
 ·rw[if_neg h,if_neg h];exact WE d t h
end Go.Proofs.Tryz
namespace Go.Plain
open Go.Lib
def AM:List aj->Nat->Nat
 |_,0=>0
 | [],_=>0
 |w::r,k+1=>w.length+1+AM r k
def Ix: ∀ {l:List aj} {k:Nat},k<l.length->AM l (k+1)=AM l k+(l.getD k []).length +1
 | [],k,h=>by grind
 |w::r,0,h=>by simp[AM]
 |w::r,k+1,h=>by
  have:=Ix (l:=r) (k:=k) bv
  grind[AM]
def Iy: ∀(k:Nat) (s:aj),k< (aJ 32 s).length ->AM (aJ 32 s) k<=s.length/\s.drop (AM (aJ 32 s) k)=cd k s
 |0,s,_=>⟨by simp[AM],by simp[AM,cd]⟩
 |k+1,s,h=>by
  rcases kv 32 s with⟨h1,h2⟩|⟨i,h1,h2,h3⟩
  grind
  ·have h3:aJ 32 s=s.take i::aJ 32 (s.drop (i+1)):=h3;have hi:(s.take i).length =i:=by grind
   have hd:cd (k+1) s=cd k (s.drop (i+1)):=by grind[cd]
   rw[h3]at h ⊢;obtain⟨a,b⟩:=Iy k (s.drop (i+1)) bv;rw[hd,<- b];show(s.take i).length +1+AM _ k<=_/\s.drop ((s.take i).length +1+AM _ k)=_;rw[hi,Yi]
   grind
end Go.Plain
namespace Go.Fw
def Oz (d d':DC):Prop:=d'=d\/d'= .st .any
def AQ {F:gN}{β:Nat->Option Nat}{N:Nat->Prop}{H:HF}{w:World}{v:Value}{d d':DC}(h:Oz d d')(hr:cw F β N H w v d):cw F β N H w v d':=by
 rcases h with rfl|rfl
 ·exact hr
 ·exact dy.any hr.one_cell
def Fq {E:dG}{Hh:Hp}{nx:Nat}(id i:Nat){z:Nat}{l:List (List DC)}{e e':List DC}(hB:Hh.get id=some (.aD z l))(hi:l[i]? =some e)(hl:e'.length=e.length)(hc: ∀(k:Nat) (d d':DC),e[k]? =some d->e'[k]? =some d'->Oz d d'):
  bp ⟨E,Hh,nx⟩ ⟨E,(id,some (.aD z (l.set i e')))::Hh,nx⟩:=by
 rintro F nt a w ⟨N,⟨q1,q2,q0,β,q3,q4⟩,q5⟩;have ak:i<l.length:=(kJ.1 hi).1;have hs:mS β Hh.get (bt Hh.get id (some (.aD z (l.set i e')))):=NL hB (λo h=>h.elim) (by simp[cD.sz]);refine⟨N,⟨q1,q2,q0,β,?_,?_⟩,q5⟩
 ·exact ai5
 ·rw[Hp.av];refine mS.heap q4 hB hs ?_;obtain⟨_,⟨h1,h3⟩,sK⟩:=q4.rel id _ hB;refine⟨⟨h1,λj x hx=>?_⟩,?_⟩
  ·by_cases hj:i=j
   ·subst hj;rw[IT ak]at hx;cases hx;rw[hl];exact h3 i e hi
   ·rw[PC hj]at hx;exact h3 j x hx
  ·rcases sK with⟨a1,a2⟩|⟨b,cap,arr,T,a1,a2,b1,b2,b3,b4⟩
   ·exact .inl ⟨a1,by rw[FX];exact a2⟩
   ·refine .inr ⟨b,cap,arr,T,a1,a2,b1,b2,by rw[FX];exact b3,λj x k d hx hd=>?_⟩;by_cases hj:i=j
    ·subst hj;rw[IT ak]at hx;cases hx;have hk:k<e.length:=by rw[<- hl];exact(kJ.1 hd).1
     have hd0:e[k]? =some e[k]:=pj hk;exact AQ (hc k e[k] d hd0 hd) (hs.jw (b4 i e k e[k] hi hd0))
    ·rw[PC hj]at hx;exact hs.jw (b4 j x k d hx hd)
theorem bX.Px {C:bU}{fid:Nat}{f:FuncId}{xs xs':List DX}{H:HF}{r:DV}{u:Hp}{R:List Nat}(h:bX C fid f xs H r u R)(hl:xs'.length=xs.length)
  (hx: ∀(k:Nat) (x x':DX),xs[k]? =some x->xs'[k]? =some x'->x.1=x'.1/\x.2.length=x'.2.length/\∀(j:Nat) (d d':DC),x'.2[j]? =some d->x.2[j]? =some d'->Oz d d'):bX C fid f xs' H r u R:=by
 refine⟨h.1,λF β N H' w vs hR hG hH hf nC hv=>h.2 F β N H' w vs hR hG hH hf (by rw[nC,hl]) λk x hk=>?_⟩;have ak:=(kJ.1 hk).1;have hd:xs'[k]? =some (xs'[k]'K0):=pj _;obtain⟨h1,h2,h3⟩:=hx k x _ hk hd;have hr:=hv k _ hd;generalize xs'[k]'K0=x' at*;obtain⟨g,ds⟩:=x;obtain⟨g',ds'⟩:=x';simp only at h1 h2 h3;subst h1;unfold au at hr ⊢;cases g
 ·obtain⟨c,R6,hr⟩:=hr;simp only at R6;subst R6;obtain⟨c',rfl⟩:=xO.1 (by simpa using h2);exact⟨c',rfl,AQ (h3 0 c c' rfl rfl) hr⟩
 ·obtain⟨arr,g1,g2,g3⟩:=hr;refine⟨arr,g1,by simp only at g2 ⊢;omega,λk c hk=>?_⟩;simp only at hk;have ak:=(kJ.1 hk).1;have hd:ds'[k]? =some (ds'[k]'K0):=pj _;exact AQ (h3 k _ c hd hk) (g3 k _ hd)
def ad1 (m:List (Nat × Nat))(H:HF):Hp->Prop
 | []=>True
 |(n,b)::r=>(∃o b0,(o,n)∈m/\H o=some b0/\fp m b0=b)/\ad1 m H r
def Fr {m:List (Nat × Nat)}{H:HF}: ∀ {X:Hp},ad1 m H X->∀n b',X.get n=some b'->∃o b,(o,n)∈m/\H o=some b/\fp m b=some b'
 | [],_,n,b',e=>by simp[Hp.get]at e
 |(j,b)::X,⟨⟨o,b0,h1,h2,h3⟩,h4⟩,n,b',e=>by
  rw[Hp.av]at e;by_cases hn:n=j
  ·subst hn;rw[an]at e;subst e;exact⟨o,b0,h1,h2,h3⟩
  ·rw[aG _ _ _ hn]at e;exact Fr h4 n b' e
def vC {E E':dG}{Hh X:Hp}{nx n':Nat}{m:List (Nat × Nat)}{ks:List Nat}(hd:(eN (m.map Prod.fst)&&eN (m.map Prod.snd))=true)(hX:ad1 m Hh.get X)(hn:(m.all λq=>Nat.blt (tag q.2) n')=true)(hE:dm m E.get ks=some E'):bp ⟨E,Hh,nx⟩ ⟨E',X,n'⟩:=by
 simp only[sQ]at hd;refine rY (m:=m) ⟨bY hd.1,bY hd.2,Fr hX⟩ (λq hq=>?_) hE;have:=wL.1 hn q hq;rwa [vZ]at this
def nR {m:List (Nat × Nat)}{H:HF}{X:Hp}(hd:(eN (m.map Prod.fst)&&eN (m.map Prod.snd))=true)(hX:ad1 m H X):cZ m H X.get:=by
 simp only[sQ]at hd;exact⟨bY hd.1,bY hd.2,Fr hX⟩
abbrev stL (V:List (List SC)):List (List DC):=V.map λ(e:List SC)=>e.map DC.st
def Fs (m:List (Nat × Nat)): ∀(e:List SC),e8 m (e.map .st)=some (e.map .st)
 | []=>rfl
 |c::e=>by
  show(match m9 m (.st c)with|some c'=>(match e8 m (e.map .st)with|some xz=>some (c'::xz)|none=>none)|none=>none)=_;rw[Fs m e];rfl
def KC (m:List (Nat × Nat)): ∀(V:List (List SC)),fG m (stL V)=some (stL V)
 | []=>rfl
 |e::V=>by
  show(match e8 m (e.map .st)with|some e'=>(match fG m (stL V)with|some l'=>some (e'::l')|none=>none)|none=>none)=_;rw[Fs m e,KC m V];rfl
theorem kl {m:List (Nat × Nat)}{V:List (List SC)}{i:Nat}{e e':List DC}(he:e8 m e=some e'):fG m ((stL V).set i e)=some ((stL V).set i e'):=by
 by_cases hi:i<V.length
 ·refine Zk ab7 he λj x _ hx=>?_;rw[gK,mZ]at hx;obtain⟨x0,_,rfl⟩:=hx;exact Fs m x0
 ·have h: ∀x:List DC,(stL V).set i x=stL V:=λx=>List.set_eq_of_length_le ab7;rw[h,h];exact KC m V
def unz (n id:Nat):Nat:=id/2 -n*4294967296
def W5 {n k:Nat}(h:0<k):unz n (aq n 0 k)=k:=by rw[qr K0];unfold unz;omega
def DC.Lp {ρ σ:Nat->Nat}{ok:Nat->Prop}(h: ∀k,ok k->σ (ρ k)=k){d:DC}(hd:d.dJ ok):(d.rn ρ).rn σ=d:=by cases d<;>first|rfl|(have hd:ok _:=hd;simp only[DC.rn,h _ hd])
def ad2 {ρ σ:Nat->Nat}{ok:Nat->Prop}(h: ∀k,ok k->σ (ρ k)=k){x:DX}(hx:eh ok x):Gk σ (Gk ρ x)=x:=by
 obtain⟨g,ds⟩:=x;unfold Gk;simp only[z6,ij,C1];conv=>rhs;rw[<- LU ds]
 exact Lt λd hd=>DC.Lp h (hx d hd)
def cD.Lp {ρ σ:Nat->Nat}{ok:Nat->Prop}(h: ∀k,ok k->σ (ρ k)=k){b:cD}(hb:b.dJ ok):(b.rn ρ).rn σ=b:=by
 have hd: ∀ds:List DC,(∀d∈ds,d.dJ ok)->(ds.map (DC.rn ρ)).map (DC.rn σ)=ds:=λds h'=>by
  rw[z6];conv=>rhs;rw[<- LU ds]
  exact Lt λd hm=>DC.Lp h (h' d hm)
 cases b with
 |box t cs=>simp only[cD.rn];rw[hd cs hb]
 |aD z l=>
  simp only[cD.rn];congr 1;rw[z6];conv=>rhs;rw[<- LU l]
  exact Lt λe he=>hd e (hb e he)
 |_=>rfl
section
variable {C:bU}{f:FuncId}{fid nx n:Nat}{xs:List DX}{T T':Hp}{r:DV}{H:HF}
def xj (h:bx C f 1 xs T [] r T')(hT:MH T)(eJ:MH T')(hs: ∀id∈ah T,(T.get id).map (cD.rn (aq n 0))=H (aq n 0 id))(Cd: ∀x∈xs,eh (· ∈ah T) x)(hr:lH (· ∈ah T') r):
  bX C fid f (xs.map (Gk (aq n 0))) H (La (aq (Fw.tag fid) 0) r) (cB (cP (aq n 0) T) (cP (aq (Fw.tag fid) 0) T')) (ah (cP (aq n 0) T)):=by
 have hi:=eJ.inj (Fw.tag fid);have zO:=hT.inj n;have fN: ∀k∈ah T,unz n (aq n 0 k)=k:=λk hk=>W5 (hT.lt k hk).1;have Ce: ∀o b,(cP (aq n 0) T).get o=some b->∃k b0,k∈ah T/\o=aq n 0 k/\T.get k=some b0/\b=b0.rn (aq n 0):=(nf.new hT zO).heap
 have hR:nf (ah (cP (aq n 0) T)) (unz n) (cP (aq n 0) T).get T.get:=by
  refine⟨?_,λi h1 j h2 e=>?_,λk b e=>?_,λk b e=>?_⟩
  ·rw[di];have AV:=(nf.new hT zO).ok.news;have:(nL (ah T) (aq n 0)).map Prod.snd=(ah T).map (aq n 0):=by exact Ym
   rwa [this]at AV
  ·rw[di]at h1 h2;obtain⟨a,ha,rfl⟩:=dT.1 h1;obtain⟨c,hc,rfl⟩:=dT.1 h2;rw[fN a ha,fN c hc]at e;rw[e]
  ·obtain⟨o,b0,h1,rfl,h3,rfl⟩:=Ce k b e;exact JC (cD.dS (λx hx=>by rw[di];exact dT.2 ⟨x,hx,rfl⟩) (hT.dJ o b0 h3))
  ·have hk:=Hp.dK e;refine⟨aq n 0 k,b.rn (aq n 0),by rw[di];exact dT.2 ⟨k,hk,rfl⟩,(fN k hk).symm,?_,(cD.Lp fN (hT.dJ k b e)).symm⟩;rw[jR zO k hk,e];rfl
 have h':bx C f 1 ((xs.map (Gk (aq n 0))).map (Gk (unz n))) T [] r T':=by
  rw[z6]
  have:xs.map (Gk (unz n) ∘ Gk (aq n 0))=xs:=by
   conv=>rhs;rw[<- LU xs]
   exact Lt λx hx=>ad2 fN (Cd x hx)
  rw[this];exact h
 have Sd: ∀x∈xs.map (Gk (aq n 0)),eh (· ∈ah (cP (aq n 0) T)) x:=λx hx=>by
  obtain⟨x0,h0,rfl⟩:=dT.1 hx;exact DI (λd hd=>DC.dS (λk hk=>by rw[di];exact dT.2 ⟨k,hk,rfl⟩) (Cd x0 h0 d hd))
 have h2:bx C f (n+1) (xs.map (Gk (aq n 0))) (cP (aq n 0) T) [] r T':=by
  refine h'.inn hR (λo b e=>?_) (λk hk=>?_) Sd λid hid=>by cases hid
  ·obtain⟨k,b0,h1,rfl,h3,rfl⟩:=Ce o b e;exact⟨Hp.dK e,by rw[fN k h1,h3,cD.Lp fN (hT.dJ k b0 h3)]⟩
  ·rw[di]at hk;obtain⟨a,ha,rfl⟩:=dT.1 hk;rw[fN a ha,(hT.lt a ha).2.2];omega
 have hg:=h2.out (nf.new eJ hi) hr λid hid=>by cases hid
 have mb: ∀k∈ah T',aq (Fw.tag fid) 0 k∈([]:List Nat)\/Fw.tag (aq (Fw.tag fid) 0 k)=Fw.tag fid:=λk hk=>.inr (eJ.tag hk);refine gr hg (λid hid=>?_) (λid hid=>?_) hR.dJ Sd (λid hid=>by cases hid) (λid hid=>?_) (λid b e=>?_) (yI (rJ mb hr))
 ·have hid:id∈ah (cP (aq n 0) T):=hid;rw[di]at hid;obtain⟨k,hk,rfl⟩:=dT.1 hid;rw[hT.tag hk];omega
 ·have hid:id∈ah (cP (aq n 0) T):=hid;rw[di]at hid;obtain⟨k,hk,rfl⟩:=dT.1 hid;rw[<- hs k hk,jR zO k hk]
 ·have hid:id∈ah (cP (aq (Fw.tag fid) 0) T'):=hid;exact aju
 ·exact afF
end
end Go.Fw
namespace Go.Proofs.Tryz
open Go.Fw Go.Plain
def vG {α:Type}{C:bU}{d:Nat}{t:TypeId}{f:α->List SC}{q:α->Prop}(hf: ∀e,sR C d t e->∃a,e=f a/\q a): ∀ {es:List (List SC)},(∀e∈es,sR C d t e)->∃l:List α,es=l.map f/\∀a∈l,q a
 | [],_=>⟨[],rfl,by simp⟩
 |e::es,h=>by
  obtain⟨a,rfl,ha⟩:=hf e (h e jx);obtain⟨l,rfl,hl⟩:=vG hf λe he=>h e (ji _ he);refine⟨a::l,rfl,λb hb=>?_⟩;rcases dl.1 hb with rfl|hb
  ·exact ha
  ·exact hl b hb
def xk {d:Nat}{xs:List SC}(h:sR cx (d+1) 9 xs): ∃s:aj,xs= [T s]/\s.length<=maxLen:=by
 obtain⟨s,e1,h1⟩:=acP (by rfl) (by rfl) h;exact⟨s.data.toList,by rw[e1,T,acU],by simpa using h1⟩
def uQ {d:Nat}{xs:List SC}(h:sR cx (d+1) 3 xs): ∃n:Int,xs= [J n]/\p9 n:=by
 obtain⟨n,e1,h1⟩:=acO (by rfl) (by rfl) h;exact⟨n,e1,h1⟩
def KP {d:Nat}{xs:List SC}(h:sR cx (d+2) 23 xs): ∃l:List aj,xs= [.view (ab l)]/\l.length<=maxLen:=by
 obtain⟨es,rfl,hl,hes⟩:=tU (by rfl) (by rfl) (by rfl) h;obtain⟨l,rfl,_⟩:=vG (f:=λs:aj=>[T s]) (λe he=>xk he) hes;exact⟨l,rfl,by simpa using hl⟩
def RR {d:Nat}{xs:List SC}(h:sR cx (d+2) 103 xs): ∃q:aj × Int,xs=nh q/\p9 q.2:=by
 obtain⟨p1,q1,e1,h1,p2,q2,e2,h2,e3⟩:=lU (by rfl) (by rfl) h;obtain⟨s,rfl,_⟩:=xk h1;obtain⟨n,rfl,hn⟩:=uQ h2;exact⟨(s,n),by rw[e1,e2,e3];rfl,hn⟩
def Xe {d:Nat}{xs:List SC}(h:sR cx (d+2) 52 xs): ∃a b:Int,xs= [J a,J b]:=by
 obtain⟨p1,q1,e1,h1,p2,q2,e2,h2,e3⟩:=lU (by rfl) (by rfl) h;obtain⟨a,rfl,_⟩:=uQ h1;obtain⟨b,rfl,_⟩:=uQ h2;exact⟨a,b,by rw[e1,e2,e3];rfl⟩
def abr {d:Nat}{xs:List SC}(h:sR cx (d+3) 54 xs): ∃t:Ts,xs=fD t/\t.bz.length<=maxLen:=by
 obtain⟨p1,q1,e1,h1,p2,q2,e2,h2,p3,q3,e3,h3,p4,q4,e4,h4,p5,q5,e5,h5,e6⟩:=lU (by rfl) (by rfl) h;obtain⟨nm,rfl,_⟩:=xk h1;obtain⟨k,rfl,_⟩:=uQ h2;obtain⟨nd,rfl,hl⟩:=KP h3;obtain⟨ru,rfl,_⟩:=xk h4;obtain⟨a,b,rfl⟩:=Xe h5;exact⟨⟨nm,k,nd,ru,a,b⟩,by rw[e1,e2,e3,e4,e5,e6];rfl,hl⟩
def abs {d:Nat}{xs:List SC}(h:sR cx (d+3) 106 xs): ∃q:aj × List aj,xs=mj q/\q.2.length<=maxLen:=by
 obtain⟨p1,q1,e1,h1,p2,q2,e2,h2,e3⟩:=lU (by rfl) (by rfl) h;obtain⟨s,rfl,_⟩:=xk h1;obtain⟨l,rfl,hl⟩:=KP h2;exact⟨(s,l),by rw[e1,e2,e3];rfl,hl⟩
def Xf {d:Nat}{xs:List SC}(h:sR cx (d+2) 36 xs): ∃e:En,xs=be e/\p9 e.t:=by
 obtain⟨p1,q1,e1,h1,p2,q2,e2,h2,p3,q3,e3,h3,e4⟩:=lU (by rfl) (by rfl) h;obtain⟨n,rfl,hn⟩:=uQ h1;obtain⟨a,rfl,_⟩:=xk h2;obtain⟨b,rfl,_⟩:=xk h3;exact⟨⟨n,a,b⟩,by rw[e1,e2,e3,e4];rfl,hn⟩
def anQ (p:Pl):Prop:=(p.ae.length<=9223372036854775807/\p.ap.length<=9223372036854775807/\p.aa.length<=9223372036854775807/\p.parts.length<=9223372036854775807)/\(∀t∈p.aa,t.bz.length<=9223372036854775807)/\∀q∈p.parts,q.2.length<=9223372036854775807
def Xg {d:Nat}{x:SV}(h:yE cx (d+5) 27 x): ∃p:Pl,x=(true,bE p)/\anQ p:=by
 obtain⟨e,h1⟩:=Y3 rfl rfl h;obtain⟨p1,q1,e1,h1,p2,q2,e2,h2,p3,q3,e3,h3,p4,q4,e4,h4,p5,q5,e5,h5,p6,q6,e6,h6,e7⟩:=lU (by rfl) (by rfl) h1;obtain⟨es1,rfl,hl1,aon⟩:=tU (by rfl) (by rfl) (by rfl) h1;obtain⟨pe,rfl,_⟩:=vG (f:=nh) (λe he=>RR he) aon;obtain⟨ga,rfl,Xt⟩:=KP h2;obtain⟨es3,rfl,hl3,an0⟩:=tU (by rfl) (by rfl) (by rfl) h3;obtain⟨te,rfl,ht⟩:=vG (f:=fD) (λe he=>abr he) an0;obtain⟨es4,rfl,hl4,aoe⟩:=tU (by rfl) (by rfl) (by rfl) h4;obtain⟨pa,rfl,hp⟩:=vG (f:=mj) (λe he=>abs he) aoe;obtain⟨sh,rfl,_⟩:=uQ h5;obtain⟨li,rfl,_⟩:=uQ h6;refine⟨⟨pe,ga,te,pa,sh,li⟩,by rw[e,e1,e2,e3,e4,e5,e6,e7];rfl,⟨by rw[jj]at hl1;exact hl1,Xt,by rw[jj]at hl3;exact hl3,by rw[jj]at hl4;exact hl4⟩,ht,hp⟩
def Us {d:Nat}{x:SV}(h:yE cx (d+3) 28 x): ∃l:List En,x=(false,[.view (l.map be)])/\l.length<=maxLen/\∀e∈l,p9 e.t:=by
 obtain⟨e,h1⟩:=MC rfl rfl h;obtain⟨es,e1,hl,hes⟩:=tU (by rfl) (by rfl) (by rfl) h1;obtain⟨l,rfl,hq⟩:=vG (f:=be) (λe he=>Xf he) hes;exact⟨l,by rw[e,e1],by simpa using hl,hq⟩
def Tp {d:Nat}{x:SV}(h:yE cx (d+1) 3 x): ∃n,x=I n:=by
 obtain⟨e,h1⟩:=MC rfl rfl h;obtain⟨n,e1,_⟩:=uQ h1;exact⟨n,by rw[e,e1]⟩
def abt {α:Type}{l:List α}{i:Nat}(h:i<l.length)(d:α):l.getD i d∈l:=by rw[jN,pj h];exact qd h
end Go.Proofs.Tryz
namespace Go.Proofs.Tryz
open Go.Fw
def xl (P:Program)(fn:Func)(s:ChangeSpec)(c:OpenClaim):Bool:=
 (c.kinds==(if c.domain.isEmpty then []else fn.params.toList.map λt=>match P.underlying t with|some (.int k)=>some k|_=>none))&&(c.pinned==c.pinnedBy)&&(c.veiled==(fn.params.toList++s.plain.varTypes P++fn.resultTypes.toList).any (P.veiledRec ·))&&c.veiledFits P fn.params.toList (fn.params.toList++s.plain.varTypes P++fn.resultTypes.toList)
def Xh {P:Program}{f:FuncId}{fn:Func}{s:ChangeSpec}{c:OpenClaim}
  (a:(c.wf (OpenSpec.ofChange s)&&laidOutB P&&mapsRowed P&&fn.params.all (P.readableRec ·)&&namedTie P c.named s.vars&&(c.stops==[])&&(P.stops==[])&&(c.knobs==[])&&(P.stopKnobs==[]))=true)
  (b:(c.inPlace==P.inPlace f)=true)(d:(c.unfollowed==P.unfollowed f)=true)(e:(c.recurses==P.recurses f)=true)(g:(c.named==P.varsNamed f)=true)
  (h:((c.maps==(fn.params.toList++s.plain.varTypes P).any (P.mapsRec ·))&&(c.ifaces==(fn.params.toList++s.plain.varTypes P).any (P.ifacesRec ·))&&(c.mapsOut==P.mapsAmong fn.resultTypes.toList)&&(c.loops==(fn.params.toList++s.plain.varTypes P).any (P.loopsFrom ·))&&(c.wideKeys==(fn.params.toList++s.plain.varTypes P++fn.resultTypes.toList).any (P.wideKeysFrom ·))&&s.vars.all (P.varReadable ·)&&fn.resultTypes.all (λt=>P.readableRec t&&decide (t<P.types.size))&&(c.ifacesOut==fn.resultTypes.toList.any (P.ifacesRec ·))&&(c.loopsOut==fn.resultTypes.toList.any (P.loopsFrom ·)))=true)
  (i:(c.plainKeys==P.plainKeys)=true)
  (j:(c.shortTexts.isNone&&P.stopsHeard&&P.mayEnter&&(c.lifted==P.liftsFinal)&&(P.make==some c.make))=true)
  (k:xl P fn s c=true):
  joinedFacts P f fn s c=true:=by
 unfold joinedFacts;simp only[xl,sQ]at a h j k ⊢;obtain⟨⟨⟨⟨⟨⟨⟨⟨a1,a2⟩,a3⟩,a4⟩,a5⟩,a6⟩,a7⟩,a8⟩,a9⟩:=a;obtain⟨⟨⟨⟨⟨⟨⟨⟨h1,h2⟩,h3⟩,h4⟩,h5⟩,h6⟩,h7⟩,h8⟩,h9⟩:=h;obtain⟨⟨⟨⟨j1,j2⟩,j3⟩,j4⟩,j5⟩:=j;obtain⟨⟨⟨k1,k2⟩,k3⟩,k4⟩:=k;exact⟨⟨⟨⟨⟨⟨⟨⟨⟨⟨⟨⟨⟨⟨⟨⟨⟨⟨⟨⟨⟨⟨⟨⟨⟨⟨⟨⟨⟨⟨⟨a1,a2⟩,a3⟩,a4⟩,a5⟩,a6⟩,a7⟩,a8⟩,a9⟩,b⟩,d⟩,e⟩,g⟩,h1⟩,h2⟩,h3⟩,h4⟩,h5⟩,h6⟩,h7⟩,h8⟩,h9⟩,i⟩,j1⟩,j2⟩,j3⟩,j4⟩,j5⟩,k1⟩,k2⟩,k3⟩,k4⟩
def Xi {P:Program}(h:P.funcs.toList.any Func.goes=false)(f:FuncId):P.goes f=false:=by
 have h1:P.funcs.any Func.goes=false:=by rw[<- Array.any_toList];exact h
 unfold Program.goes;rw[h1,Bool.and_false,LQ];rw[Ya];intro g _
 cases hg:P.funcs[g]? with
 |none=>simp
 |some fn=>
  have hm:fn∈P.funcs.toList:=by simpa using XW hg
  simpa using Ya.1 h fn hm
def OW {P:Program}(h:P.funcs.toList.any Func.goes=false)(c:OpenClaim):false=c.goesBy P:=by
 unfold OpenClaim.goesBy Program.goesAt Program.goesFrom;have hf:=Xi h;have h2:P.inits.toList.any P.goes=false:=Ya.2 λf _=>by rw[hf];decide
 rw[h2];cases P.funcNamed c.func<;>cases c.start<;>simp[hf]
def ad8:prog.funcs.toList.any Func.goes=false:=by kernel_rfl
open Go.ChangeShapes Go.WideShapes Go.ChangeAt Go.RowKit
abbrev o6:List (String × DataW Unit):=[("math/bits.deBruijn32tab",Go.Proofs.YtackacoaaihcjaaGreatDoor.Rows.laid_math_bits_deBruijn32tab),("math/bits.deBruijn64tab",Go.Proofs.YtackacoaaihcjaaGreatDoor.Rows.laid_math_bits_deBruijn64tab),("internal/strconv.uint64pow10",Go.Proofs.YtackacoaaihcjaaGreatDoor.Rows.laid_internal_strconv_uint64pow10),("unicode/utf8.acceptRanges",Go.Proofs.YtackacoaaihcjaaGreatDoor.Rows.laid_unicode_utf8_acceptRanges),("strconv.ErrRange",Go.Proofs.YtackacoaaihcjaaGreatDoor.Rows.laid_strconv_ErrRange),("strconv.ErrSyntax",Go.Proofs.YtackacoaaihcjaaGreatDoor.Rows.laid_strconv_ErrSyntax),("buchholz/group.patterns",Go.Proofs.YtackacoaaihcjaaGreatDoor.Rows.laid_buchholz_group_patterns),("buchholz/wave.never",Go.Proofs.YtackacoaaihcjaaGreatDoor.Rows.laid_buchholz_wave_never),("unicode/utf8.first",Go.Proofs.YtackacoaaihcjaaGreatDoor.Rows.laid_unicode_utf8_first)]
def own:ownKnob prog.godebug=none:=by kernel_rfl
def ad9:laidOutB prog=true:=by kernel_rfl
def ahn {W:World}(h:laidMet prog o6 W):laidMetH prog o6 W:=by
 unfold laidMetH;rw[show(o6.filter λx=>x.2.handleName?.isSome)= []by kernel_rfl];exact h
def abu (os:Os)(args:Array Value):laidMetH prog o6 ((World.laidAll prog os o6).forCall (λ_ _=>0) ⟨#[],args,[]⟩).memory :=
 ahn (laidMet_laidAll _ (by kernel_rfl) (by kernel_rfl))
def RS {W:World}(h:laidMetH prog o6 W):laidMet prog o6 W:=(laidMetH_iff.1 h).1
def Ut {w:World}{m:Nat}{l:List Value}{i j:Int}{x:DataW Unit × List MemPlace}
  (hd:DataW.trod (λ_=>()) prog w 0 (λ_=>true) false m 159 l=some x)(hx:x.1= .agg [.lit (.int .i64 i),.lit (.int .i64 j)]):l= [.int .i64 i,.int .i64 j]:=by
 obtain⟨xs,n,rfl,rfl,bG,hxl,iL⟩:=Sw underlying159 hd;have c2:prog.cellsOf 159=2:=by kernel_rfl
 have c3:prog.cellsOf 3=1:=by kernel_rfl
 rw[c2]at bG;simp only[G2]at hx
 match l,bG,xs,hx with
 | [v0,v1],_,[x0,x1],hx=>
  simp only[jd,CT,BR,sv]at hx;have h0:=iL 0 _ rfl;have h1:=iL 1 _ rfl;change DataW.trod (λ_=>()) prog w 0 (λ_=>true) false n 3 (List.take (prog.cellsOf 3) (List.drop 0 [v0,v1]))=some x0 at h0;change DataW.trod (λ_=>()) prog w 0 (λ_=>true) false n 3 (List.take (prog.cellsOf 3) (List.drop 1 [v0,v1]))=some x1 at h1;rw[c3]at h0 h1;simp only[xW,X3,LO,XZ]at h0 h1;obtain⟨d0,q0⟩:=x0;obtain⟨d1,q1⟩:=x1;obtain⟨rfl,rfl⟩:=hx;obtain⟨k0,e0,f0,_⟩:=CV underlying3 h0;obtain⟨k1,e1,f1,_⟩:=CV underlying3 h1;simp only[BR,sv]at e0 e1;simp only[ij,SH,Lit.int.injEq,C1]at f0 f1;rw[e0,e1,<- f0.1,<- f1.1]
def abv {W:World}(h:laidMet prog o6 W):rd W 9 0=some (.int .i64 1)/\rd W 9 1=some (.int .i64 1)/\rd W 9 2=some (.int .i64 0)/\rd W 9 3=some (.int .i64 1)/\rd W 9 4=none:=by
 have h1:laidMet prog [("buchholz/wave.never",Go.Proofs.YtackacoaaihcjaaGreatDoor.Rows.laid_buchholz_wave_never)] W:=(h.filter λx=>x.1=="buchholz/wave.never");obtain⟨ps,⟨g,t,cs,AY,p,q,hg,ht,hv,hd,_,_⟩,_,_⟩:=h1;obtain rfl:=xU ((show prog.globalNamed "buchholz/wave.never" =some 9 by kernel_rfl).symm.trans hg);obtain rfl:=xU ((show(prog.globals[9]?).map (·.type)=some 394 by kernel_rfl).symm.trans ht);obtain⟨xs,m,rfl,hx,bG,hxl,iL⟩:=Sw underlying394 hd;have c4:prog.cellsOf 394=4:=by kernel_rfl
 have c2:prog.cellsOf 159=2:=by kernel_rfl
 rw[c4]at bG;have GY:DataW.agg (xs.map (·.1))=DataW.agg [_,_]:=(aQ Prod.fst hx).symm;simp only[G2]at GY;obtain⟨l⟩:=cs
 match xs,GY,l,bG with
 | [x0,x1],GY,[v0,v1,v2,v3],_=>
  simp only[jd,CT,BR,sv]at GY;obtain⟨y0,y1⟩:=GY;have h0:=iL 0 _ rfl;have h1:=iL 1 _ rfl;change DataW.trod (λ_=>()) prog W 0 (λ_=>true) false m 159 (List.take (prog.cellsOf 159) (List.drop 0 [v0,v1,v2,v3]))=some x0 at h0;change DataW.trod (λ_=>()) prog W 0 (λ_=>true) false m 159 (List.take (prog.cellsOf 159) (List.drop 2 [v0,v1,v2,v3]))=some x1 at h1;rw[c2]at h0 h1;have k0:=Ut h0 y0;have k1:=Ut h1 y1;simp at k0 k1;obtain⟨rfl,rfl⟩:=k0;obtain⟨rfl,rfl⟩:=k1;exact⟨CP hg hv 0,CP hg hv 1,CP hg hv 2,CP hg hv 3,CP hg hv 4⟩
def aho {W:World}(h:laidMet prog o6 W):(∀k z,Lib.pow10Tab[k]? =some z->rd W 6 k=some (.int .u64 z))/\rd W 6 20=none:=by
 have h1:laidMet prog [("internal/strconv.uint64pow10",Go.Proofs.YtackacoaaihcjaaGreatDoor.Rows.laid_internal_strconv_uint64pow10)] W:=(h.filter λx=>x.1=="internal/strconv.uint64pow10");obtain⟨ps,⟨g,t,cs,AY,p,q,hg,ht,hv,hd,_,_⟩,_,_⟩:=h1;obtain rfl:=xU ((show prog.globalNamed "internal/strconv.uint64pow10" =some 6 by kernel_rfl).symm.trans hg);obtain rfl:=xU ((show(prog.globals[6]?).map (·.type)=some 375 by kernel_rfl).symm.trans ht);obtain⟨xs,m,rfl,hx,bG,hxl,iL⟩:=SA underlying375 hd;have c1:prog.cellsOf 330=1:=by kernel_rfl
 have c20:prog.cellsOf 375=20:=by kernel_rfl
 rw[c20]at bG;simp only[c1]at iL;have GY:DataW.agg (xs.map (·.1))=DataW.agg (Lib.pow10Tab.map λz=>DataW.lit (.int .u64 z)):=(aQ Prod.fst hx).symm;simp only[G2]at GY
 have key: ∀(k:Nat) (z:Int),Lib.pow10Tab[k]? =some z->cs.toList[k]? =some (Value.int .u64 z):=by
  intro k z hz
  have hk:k<20:=by
   have:=(kJ.1 hz).1;rwa [Lib.pow10Tab_length]at this
  have hy:(xs[k]?).map (·.1)=some (DataW.lit (.int .u64 z)):=by rw[<- gK,GY,gK,hz];rfl
  cases hxk:xs[k]? with
  |none=>rw[hxk]at hy;cases hy
  |some y=>
   rw[hxk]at hy;have e:=iL k hk;obtain⟨d,r⟩:=y;simp only[xR,lM]at hy;subst hy;rw[hxk]at e;obtain⟨n,e1,e2,_⟩:=CV underlying330 e;simp only[ij,SH,Lit.int.injEq,C1]at e2;have e3:(List.take 1 (List.drop (k*1) cs.toList))[0]? =cs.toList[k]? :=by simp
   rw[<- e3,e1,<- e2.1];rfl
 refine⟨λk z hz=>?_,?_⟩
 ·show W.cell? ⟨6,k,none⟩=_;rw[CP hg hv k,<- UQ];exact key k z hz
 ·show W.cell? ⟨6,20,none⟩=_;rw[CP hg hv 20,<- UQ,List.getElem?_eq_none (by omega)]
def abw {w:World}{m:Nat}{l:List Value}{i j k:Int}{x:DataW Unit × List MemPlace}
  (hd:DataW.trod (λ_=>()) prog w 0 (λ_=>true) false m 96 l=some x)(hx:x.1= .agg [.lit (.int .i64 i),.lit (.int .i64 j),.lit (.int .i64 k)]):l= [.int .i64 i,.int .i64 j,.int .i64 k]:=by
 obtain⟨xs,n,rfl,rfl,bG,hxl,iL⟩:=SA underlying96 hd;have c3:prog.cellsOf 96=3:=by kernel_rfl
 have c1:prog.cellsOf 3=1:=by kernel_rfl
 rw[c3]at bG;simp only[c1]at iL;simp only[G2]at hx
 match l,bG,xs,hx with
 | [v0,v1,v2],_,[x0,x1,x2],hx=>
  simp only[jd,CT,BR,sv]at hx;have h0:=iL 0 (by decide);have h1:=iL 1 (by decide);have h2:=iL 2 (by decide);obtain⟨d0,q0⟩:=x0;obtain⟨d1,q1⟩:=x1;obtain⟨d2,q2⟩:=x2;obtain⟨rfl,rfl,rfl⟩:=hx;change DataW.trod (λ_=>()) prog w 0 (λ_=>true) false n 3 [v0]=some _ at h0;change DataW.trod (λ_=>()) prog w 0 (λ_=>true) false n 3 [v1]=some _ at h1;change DataW.trod (λ_=>()) prog w 0 (λ_=>true) false n 3 [v2]=some _ at h2;obtain⟨k0,e0,f0,_⟩:=CV underlying3 h0;obtain⟨k1,e1,f1,_⟩:=CV underlying3 h1;obtain⟨k2,e2,f2,_⟩:=CV underlying3 h2;simp only[BR,sv]at e0 e1 e2;simp only[ij,SH,Lit.int.injEq,C1]at f0 f1 f2;rw[e0,e1,e2,<- f0.1,<- f1.1,<- f2.1]
def xm {w:World}{m:Nat}{l:List Value}{c:UInt8}{i j k:Int}{x:DataW Unit × List MemPlace}
  (hd:DataW.trod (λ_=>()) prog w 0 (λ_=>true) false m 196 l=some x)(hx:x.1= .agg [.lit (.string [c]),.agg [.lit (.int .i64 i),.lit (.int .i64 j),.lit (.int .i64 k)]]):
  l= [.string ⟨#[c]⟩,.int .i64 i,.int .i64 j,.int .i64 k]:=by
 obtain⟨xs,n,rfl,rfl,bG,hxl,iL⟩:=Sw underlying196 hd;have c4:prog.cellsOf 196=4:=by kernel_rfl
 have c1:prog.cellsOf 9=1:=by kernel_rfl
 have c3:prog.cellsOf 96=3:=by kernel_rfl
 rw[c4]at bG;simp only[G2]at hx
 match l,bG,xs,hx with
 | [v0,v1,v2,v3],_,[x0,x1],hx=>
  simp only[jd,CT,BR,sv]at hx;have h0:=iL 0 _ rfl;have h1:=iL 1 _ rfl;change DataW.trod (λ_=>()) prog w 0 (λ_=>true) false n 9 (List.take (prog.cellsOf 9) (List.drop 0 [v0,v1,v2,v3]))=some x0 at h0;change DataW.trod (λ_=>()) prog w 0 (λ_=>true) false n 96 (List.take (prog.cellsOf 96) (List.drop 1 [v0,v1,v2,v3]))=some x1 at h1;rw[c1]at h0;rw[c3]at h1;simp only[xW,X3,LO,XZ]at h0 h1;have e1:=abw h1 hx.2;obtain⟨s,e0,f0,_⟩:=DataW.trod_string underlying9 h0;simp only[BR,sv]at e0 e1;have f1:=hx.1;rw[f0]at f1;simp only[SH,Lit.string.injEq]at f1
  have es:s=⟨#[c]⟩:=by
   obtain⟨s⟩:=s;have:s= #[c]:=Ha f1;rw[this]
  rw[e0,es,e1.1,e1.2.1,e1.2.2]
def aea {W:World}(h:laidMet prog o6 W):(∀(k:Nat) (v:Value),[Value.string ⟨#[121]⟩,.int .i64 1,.int .i64 (-1),.int .i64 0,.string ⟨#[100]⟩,.int .i64 1,.int .i64 0,.int .i64 0,.string ⟨#[122]⟩,.int .i64 1,.int .i64 (-2),.int .i64 1][k]? =some v->rd W 0 k=some v)/\rd W 0 12=none:=by
 have h1:laidMet prog [("buchholz/group.patterns",Go.Proofs.YtackacoaaihcjaaGreatDoor.Rows.laid_buchholz_group_patterns)] W:=(h.filter λx=>x.1=="buchholz/group.patterns");obtain⟨ps,⟨g,t,cs,AY,p,q,hg,ht,hv,hd,_,_⟩,_,_⟩:=h1;obtain rfl:=xU ((show prog.globalNamed "buchholz/group.patterns" =some 0 by kernel_rfl).symm.trans hg);obtain rfl:=xU ((show(prog.globals[0]?).map (·.type)=some 197 by kernel_rfl).symm.trans ht);obtain⟨xs,m,rfl,hx,bG,hxl,iL⟩:=SA underlying197 hd;have c4:prog.cellsOf 196=4:=by kernel_rfl
 have c12:prog.cellsOf 197=12:=by kernel_rfl
 rw[c12]at bG;simp only[c4]at iL;have GY:DataW.agg (xs.map (·.1))=DataW.agg [_,_,_]:=(aQ Prod.fst hx).symm;simp only[G2]at GY;obtain⟨l⟩:=cs
 match xs,GY,l,bG with
 | [x0,x1,x2],GY,[v0,v1,v2,v3,v4,v5,v6,v7,v8,v9,v10,v11],_=>
  simp only[jd,CT,BR,sv]at GY;obtain⟨y0,y1,y2⟩:=GY;have h0:=iL 0 (by decide);have h1:=iL 1 (by decide);have h2:=iL 2 (by decide);change DataW.trod (λ_=>()) prog W 0 (λ_=>true) false m 196 [v0,v1,v2,v3]=some x0 at h0;change DataW.trod (λ_=>()) prog W 0 (λ_=>true) false m 196 [v4,v5,v6,v7]=some x1 at h1;change DataW.trod (λ_=>()) prog W 0 (λ_=>true) false m 196 [v8,v9,v10,v11]=some x2 at h2;have k0:=xm h0 y0;have k1:=xm h1 y1;have k2:=xm h2 y2;simp only[BR,sv]at k0 k1 k2;obtain⟨rfl,rfl,rfl,rfl⟩:=k0;obtain⟨rfl,rfl,rfl,rfl⟩:=k1;obtain⟨rfl,rfl,rfl,rfl⟩:=k2;refine⟨λk v hk=>?_,CP hg hv 12⟩;show W.cell? ⟨0,k,none⟩=_;rw[CP hg hv k,<- UQ];exact hk
def abx {W:World}{n:String}{b:DataW Unit}{g0:Nat}(h1:laidMet prog [(n,.iface "*errors.errorString" b)] W)(hg0:prog.globalNamed n=some g0)(ht0:(prog.globals[g0]?).map (·.type)=some 201):
  (∃u v,rd W g0 0=some (.iface u v))/\rd W g0 1=none:=by
 obtain⟨ps,⟨g,t,cs,AY,p,q,hg,ht,hv,hd,_,_⟩,_,_⟩:=h1;obtain rfl:=xU (hg0.symm.trans hg);obtain rfl:=xU (ht0.symm.trans ht);obtain⟨ms,hu⟩: ∃ms,prog.underlying 201=some (.interface ms):=⟨_,underlying201⟩;obtain⟨_,u,v,e,_,_⟩:=iface_of_trod hu hd;refine⟨⟨u,v,?_⟩,?_⟩
 ·show W.cell? ⟨g0,0,none⟩=_;rw[CP hg hv 0,<- UQ,e];rfl
 ·show W.cell? ⟨g0,1,none⟩=_;rw[CP hg hv 1,<- UQ,e];rfl
def max_zero:((Go.begin prog (λ_ _=>0) default).world.heap[1]?).bind Obj.row?=some (#[.int .i64 0],3):=by kernel_rfl
def ahp {W:World}(h:W.ShapedOpen prog):(∃m,rd W 1 0=some (.int .i64 m))/\rd W 1 1=none:=by
 refine⟨cell_of_shapedOpen_int h (by decide) max_zero rfl (by kernel_rfl) (by kernel_rfl) (by kernel_rfl),?_⟩;obtain⟨cs,hh,hs,_⟩:=h.1 1 _ _ (by decide) max_zero;have h1:cs.size=1:=hs;show W.cell? ⟨1,1,none⟩=none;simp[World.cell?,hh,h1]
def aeb {W:World}(h:laidMetH prog o6 W)(hs:W.ShapedOpen prog):eQ cx.gl (rd W):=by
 have h':=RS h;have hp:=aho h';have hq:=aea h';have hm:=ahp hs;have hy:=abx (W:=W) (h'.filter λx=>x.1=="strconv.ErrSyntax") (g0:=2) (by kernel_rfl) (by kernel_rfl);have hz:=abx (W:=W) (h'.filter λx=>x.1=="strconv.ErrRange") (g0:=3) (by kernel_rfl) (by kernel_rfl);intro g cs hm0
 have hm1:(g,cs)=(0,[SC.lit (.string ⟨#[121]⟩),SC.lit (.int .i64 1),SC.lit (.int .i64 (-1)),SC.lit (.int .i64 0),SC.lit (.string ⟨#[100]⟩),SC.lit (.int .i64 1),SC.lit (.int .i64 0),SC.lit (.int .i64 0),SC.lit (.string ⟨#[122]⟩),SC.lit (.int .i64 1),SC.lit (.int .i64 (-2)),SC.lit (.int .i64 1)])\/(g,cs)=(1,[SC.num .i64])\/(g,cs)=(2,[SC.err])\/(g,cs)=(3,[SC.err])\/(g,cs)=(6,Lib.pow10Tab.map λz=>SC.lit (.int .u64 z))\/(g,cs)=(9,[SC.lit (.int .i64 1),SC.lit (.int .i64 1),SC.lit (.int .i64 0),SC.lit (.int .i64 1)]):=by
  rw[show cx.gl= [(0,[SC.lit (.string ⟨#[121]⟩),SC.lit (.int .i64 1),SC.lit (.int .i64 (-1)),SC.lit (.int .i64 0),SC.lit (.string ⟨#[100]⟩),SC.lit (.int .i64 1),SC.lit (.int .i64 0),SC.lit (.int .i64 0),SC.lit (.string ⟨#[122]⟩),SC.lit (.int .i64 1),SC.lit (.int .i64 (-2)),SC.lit (.int .i64 1)]),(1,[SC.num .i64]),(2,[SC.err]),(3,[SC.err]),(6,Lib.pow10Tab.map λz=>SC.lit (.int .u64 z)),(9,[SC.lit (.int .i64 1),SC.lit (.int .i64 1),SC.lit (.int .i64 0),SC.lit (.int .i64 1)])]by kernel_rfl]at hm0;simpa only[dl,nE,nF]using hm0
 rcases hm1 with e|e|e|e|e|e;all_goals simp only[ij]at e
 all_goals obtain⟨rfl,rfl⟩:=e
 ·refine⟨λk x hk=>?_,λ_=>hq.2⟩
  match k,hk with
  |0,hk=>cases hk;exact⟨_,hq.1 0 _ rfl,.lit rfl⟩
  |1,hk=>cases hk;exact⟨_,hq.1 1 _ rfl,.lit rfl⟩
  |2,hk=>cases hk;exact⟨_,hq.1 2 _ rfl,.lit rfl⟩
  |3,hk=>cases hk;exact⟨_,hq.1 3 _ rfl,.lit rfl⟩
  |4,hk=>cases hk;exact⟨_,hq.1 4 _ rfl,.lit rfl⟩
  |5,hk=>cases hk;exact⟨_,hq.1 5 _ rfl,.lit rfl⟩
  |6,hk=>cases hk;exact⟨_,hq.1 6 _ rfl,.lit rfl⟩
  |7,hk=>cases hk;exact⟨_,hq.1 7 _ rfl,.lit rfl⟩
  |8,hk=>cases hk;exact⟨_,hq.1 8 _ rfl,.lit rfl⟩
  |9,hk=>cases hk;exact⟨_,hq.1 9 _ rfl,.lit rfl⟩
  |10,hk=>cases hk;exact⟨_,hq.1 10 _ rfl,.lit rfl⟩
  |11,hk=>cases hk;exact⟨_,hq.1 11 _ rfl,.lit rfl⟩
  |k+12,hk=>cases hk
 ·obtain⟨⟨m,e⟩,e2⟩:=hm;refine⟨λk x hk=>?_,λ_=>e2⟩
  match k,hk with
  |0,hk=>cases hk;exact⟨_,e,.num ⟨m,rfl⟩⟩
  |k+1,hk=>cases hk
 ·obtain⟨⟨u,v,e⟩,e2⟩:=hy;refine⟨λk x hk=>?_,λ_=>e2⟩
  match k,hk with
  |0,hk=>cases hk;exact⟨_,e,.err ⟨u,v,rfl⟩⟩
  |k+1,hk=>cases hk
 ·obtain⟨⟨u,v,e⟩,e2⟩:=hz;refine⟨λk x hk=>?_,λ_=>e2⟩
  match k,hk with
  |0,hk=>cases hk;exact⟨_,e,.err ⟨u,v,rfl⟩⟩
  |k+1,hk=>cases hk
 ·refine⟨λk x hk=>?_,λ_=>by rw[jj,Lib.pow10Tab_length];exact hp.2⟩;rw[gK]at hk
  cases hz:Lib.pow10Tab[k]? with
  |none=>rw[hz]at hk;cases hk
  |some z=>
   rw[hz]at hk;cases hk;exact⟨_,hp.1 k z hz,.lit rfl⟩
 ·obtain⟨e0,e1,e2,e3,e4⟩:=abv h';refine⟨λk x hk=>?_,λ_=>e4⟩
  match k,hk with
  |0,hk=>cases hk;exact⟨_,e0,.lit rfl⟩
  |1,hk=>cases hk;exact⟨_,e1,.lit rfl⟩
  |2,hk=>cases hk;exact⟨_,e2,.lit rfl⟩
  |3,hk=>cases hk;exact⟨_,e3,.lit rfl⟩
  |k+4,hk=>cases hk
end Go.Proofs.Tryz
