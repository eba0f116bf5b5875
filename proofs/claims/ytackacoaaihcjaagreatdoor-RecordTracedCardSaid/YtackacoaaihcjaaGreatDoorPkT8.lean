import Derived.Test.YtackacoaaihcjaaGreatDoorPkT4
import Derived.Test.YtackacoaaihcjaaGreatDoorPkT5
set_option linter.all false
set_option maxRecDepth 100000
set_option maxHeartbeats 8000000
namespace Go.Proofs.Tryz
open Go.Fw Go.IntWalk Go.Plain
def py (n lo hi:Int):ad 103 [I n,I lo,I hi] (.one (Bo (decide (lo<=n)&&decide (n<=hi)))):=by
 refine sF f103 ?_;repeat' ((first|refine tX 0 ?_|exact Zt|refine bR ?_ ?_<;>intro h)<;>(try conv=>whnf))
 all_goals exact gX wG
def VT (b:Bool)(e:Int):ad 102 [Bo b,I e] (.one (I (if b=true then 0 else e))):=by
 refine sF f102 ?_
 (try(refine tX 0 ?_;try exact Zt))
 cases b
 ·exact K1
 ·exact K1
def Ar {b:Bool}{p:Prop} [BP b p] [Decidable p](e:Int):ad 102 [Bo b,I e] (.one (I (if p then 0 else e))):=by
 have h:=VT b e;exact afB
def EC (l:List Int)(hl:l.length<=1000000):ad 100 [(false,[.ints l])] (.one (I (fs l))):=by
 have hd: ∀i,i<l.length->fs (l.drop i)=if l.getD i 0≠0 then l.getD i 0 else fs (l.drop (i+1)):=λi hi=>by exact aii
 refine sF f100 ?_
 (try(refine tX 0 ?_;try exact Zt))
 refine af (ι:=Nat) (λi=>i<=l.length/\fs (l.drop i)=fs l) (λi=>l.length -i) (λi=>⟨[(5,some (.val (false,[.st (.ints l)]))),(6,vI l.length),(7,vI i)],[],0⟩) 0 Zc ⟨dC _,rfl⟩ ?_;rintro i ⟨hi,he⟩;by_cases ak:i<l.length
 ·have h1:=hd i ak;by_cases hz:l.getD i 0=0
  ·rw[if_neg K0]at h1;exact K66
  ·rw[if_pos hz]at h1;repeat' ((first|refine tX 0 ?_|exact Zt|refine bR ?_ ?_<;>intro h)<;>(try conv=>whnf))
   all_goals first
    |(exfalso;omega)
    |exact mH K0
 ·exact K57
abbrev wdC (w:Pm):List SC:=[J w.k,J w.t,J w.s,K w.r]
abbrev QA (w:Win):List SC:=[J w.k1,J w.t1,J w.s1,K w.r1,J w.k2,J w.t2,J w.s2,K w.r2,J w.st]
def Nz (s:aj)(c:UInt8):ad 191 [SS s,SS [c]] (.one (Bo (decide (s.head?=some c)))):=by
 cases s with
 |nil=>
  refine sF f191 ?_;exact tL
 |cons a r=>
  refine sF f191 ?_;repeat' ((first|refine tX 0 ?_|exact Zt|refine bR ?_ ?_<;>intro h)<;>(try conv=>whnf))
  all_goals first|(exfalso;simp only[kD,zQ]at h;omega)|(exact gX (by simp))
def QB (s:aj)(c:UInt8):ad 97 [SS s,SS [c]] (.one (Bo (decide (s.head?=some c)))):=by
 have h:=Nz s c;refine sF f97 ?_;exact tL
def As (s:aj)(l:UInt8)(a b c:Int):ad 96 [(true,[T [l],J a,J b,J c]),(false,[.ref [T s]])] (.one (Bo (decide (s.head?=some l)))):=by
 have h:=QB s l;refine sF f96 ?_;exact tL
def ac5 (s:aj):Int:=if s.head?=some 121 then 0 else if s.head?=some 100 then 1 else if s.head?=some 122 then 2 else -1
def VU (s:aj):ac5 s=if lH (s.getD 0 0).toNat =3 then(-1:Int)else((lH (s.getD 0 0).toNat :Nat):Int):=by
 cases s with
 |nil=>rfl
 |cons a r=>
  have h1:(a=121)↔a.toNat=121:=⟨λh=>by rw[h];rfl,λh=>CU.1 h⟩;have h2:(a=100)↔a.toNat=100:=⟨λh=>by rw[h];rfl,λh=>CU.1 h⟩;have h3:(a=122)↔a.toNat=122:=⟨λh=>by rw[h];rfl,λh=>CU.1 h⟩;show(if some a=some 121 then(0:Int)else if some a=some 100 then 1 else if some a=some 122 then 2 else -1)=if lH a.toNat=3 then(-1:Int)else((lH a.toNat:Nat):Int)
  grind[lH]
def alE:List (List SC):=[[T [121],J 1,J (-1),J 0],[T [100],J 1,J 0,J 0],[T [122],J 1,J (-2),J 1]]
def QC (s:aj):ad 95 [(false,[.view alE]),(false,[.fn 96 [] [[T s]]])] (.one (I (ac5 s))):=by
 have c0:=As s 121 1 (-1) 0;have c1:=As s 100 1 0 0;have c2:=As s 122 1 (-2) 1;unfold ac5;by_cases h0:s.head?=some 121
 ·rw[fH h0]at c0;rw[if_pos h0];refine sF f95 ?_
  (try(refine tX 0 ?_;try exact Zt))
  refine aD ?_;exact tL
 rw[eT h0]at c0;rw[if_neg h0];by_cases h1:s.head?=some 100
 ·rw[fH h1]at c1;rw[if_pos h1];refine sF f95 ?_;exact K99
 rw[eT h1]at c1;rw[if_neg h1];by_cases h2:s.head?=some 122
 ·rw[fH h2]at c2;rw[if_pos h2];refine sF f95 ?_
  (try(refine tX 0 ?_;try exact Zt))
  refine aD ?_;exact K99
 ·rw[eT h2]at c2;rw[if_neg h2];refine sF f95 ?_
  (try(refine tX 0 ?_;try exact Zt))
  refine aD ?_
  (try(refine tX 0 ?_;try exact Zt))
  refine aD ?_;exact K99
def ZL {s:aj}{d:Nat}(hd:d<=18){n:Int}(h:wN false d s=some n):s.length<=d:=by
 obtain⟨h0,h9⟩:=iA h;have h3:=(fW hd h0).2.2.1;have hs:=qi h0
 cases s with
 |nil=>simp
 |cons a r=>
  grind[DR]
def mP (s:aj)(hl:s.length<=1000000): ∃v,ad 59 [SS s] (.aJ [I v,Bo (wN false 4 s).isSome])/\∀n,wN false 4 s=some n->n=v:=by
 by_cases fB: ∀v,Lib.atoiAll s≠ .ok v
 ·obtain⟨v,c1⟩:=pq s hl fB
  have e:wN false 4 s=none:=by
   cases h:wN false 4 s with
   |none=>rfl
   |some n=>exact absurd (fW K9 (iA h).1).1 (fB n)
  rw[e];refine⟨v,?_,λn h=>by cases h⟩;refine sF f59 ?_;exact tL
 ·simp only[ne_eq,Sn,Lz]at fB;obtain⟨v,hv⟩:=fB;have h4:=Sg hv;have c1:=tU s hl hv;have c2:=tT v h4
  have hn: ∀n,wN false 4 s=some n->n=v:=λn h=>by
   have:=(fW K9 (iA h).1).1
   grind
  have key:(wN false 4 s).isSome =decide ((0<=v/\Lib.itoa v=s)/\s.length<=4):=by
   rw[sD,wB];constructor
   ·intro h;obtain⟨n,e⟩:=qJ.1 h;obtain rfl:=hn n e;have h9:=(iA e).2;exact⟨⟨by grind,(fW K9 (iA e).1).2.1⟩,ZL K9 e⟩
   ·rintro⟨⟨h1,h2⟩,h3⟩;have h5:=uQ (d:=4) (n:=v) (by grind[Y1]);rw[h2]at h5;unfold wN;simp_all
  refine⟨v,?_,hn⟩;rw[key];by_cases hp:Lib.itoa v=s
  ·rw[hp]at c2;have e2:decide ((0<=v/\Lib.itoa v=s)/\s.length<=4)=decide (0<=v/\s.length<=4):=by grind
   rw[e2];refine sF f59 ?_;repeat' ((first|refine tX 0 ?_|exact Zt|refine bR ?_ ?_<;>intro h)<;>(try conv=>whnf))
   all_goals first|exact Zo|(exact mI afL)|(exact mI (eT K0).symm)|(exact absurd rfl h)
  ·have e2:decide ((0<=v/\Lib.itoa v=s)/\s.length<=4)=false:=by grind
   rw[e2];generalize Lib.itoa v=y at*;refine sF f59 ?_;exact tL
def ZM (s:aj):ad 95 [(false,[.raw (.slice (some ⟨0,0,none⟩) 3 3)]),(false,[.fn 96 [] [[T s]]])] (.one (I (ac5 s))):=
 acA (es:=alE) (g:=0) (z:=4) (cap:=3) (cs:=[.lit (.string ⟨#[121]⟩),.lit (.int .i64 1),.lit (.int .i64 (-1)),.lit (.int .i64 0),.lit (.string ⟨#[100]⟩),.lit (.int .i64 1),.lit (.int .i64 0),.lit (.int .i64 0),.lit (.string ⟨#[122]⟩),.lit (.int .i64 1),.lit (.int .i64 (-2)),.lit (.int .i64 1)])
  (QC s) rfl (jt (i:=0) dp) K9 K9 K9 K9 (λi e j x he hx=>by
   have hi:=(kl.1 he).1
   match i,hi with
   |0,_=>cases he;have hj:=(kl.1 hx).1;match j,hj with|0,_=>exact hx|1,_=>exact hx|2,_=>exact hx|3,_=>exact hx
   |1,_=>cases he;have hj:=(kl.1 hx).1;match j,hj with|0,_=>exact hx|1,_=>exact hx|2,_=>exact hx|3,_=>exact hx
   |2,_=>cases he;have hj:=(kl.1 hx).1;match j,hj with|0,_=>exact hx|1,_=>exact hx|2,_=>exact hx|3,_=>exact hx)
def agD {a b c:Int}{x y p q:Bool}(h:x=y)(k:p=q):mb.aJ [(true,[J a,J b,J c,K x]),Bo p]= .aJ [(true,[J a,J b,J c,K y]),Bo q]:=by grind
def b45 (c:Nat):(((c:Nat):Int)==45)=decide (c=45):=by grind
def yW (s:aj)(hl:s.length<=1000000): ∃w:Pm,ad 58 [SS s] (.aJ [(true,wdC w),Bo (Aq s).isSome])/\∀v,Aq s=some v->v=w:=by
 have cp:=ZM s;rw[VU]at cp;by_cases hb:Bv s
 ·have e:Aq s=none:=if_pos hb;rw[e];refine⟨⟨0,0,0,false⟩,?_,λv h=>by cases h⟩;unfold Bv at hb;by_cases h3:lH (s.getD 0 0).toNat =3
  ·rw[if_pos h3]at cp;refine sF f58 ?_;exact tL
  ·rw[if_neg h3]at cp;generalize lH (s.getD 0 0).toNat =k at*;by_cases h2:s.length<2
   ·refine sF f58 ?_;exact tL
   ·refine sF f58 ?_;exact ajf
 ·have e:Aq s=(uS (s.drop 2)).map λp=>⟨(lH (s.getD 0 0).toNat :Nat),p.2,p.1,decide ((s.getD 1 0).toNat =45)⟩:=if_neg hb;rw[e];unfold Bv at hb;have h3:lH (s.getD 0 0).toNat ≠3:=by omega
  rw[if_neg h3]at cp;have hdl:(s.drop 2).length <=s.length:=by simp
  generalize lH (s.getD 0 0).toNat =k at*;have c1:=gZ (s.drop 2) 47 K0
  rcases uR (s.drop 2) 47 with⟨h1,h2⟩|⟨a,b,h1,h2,h4,h5⟩
  ·rw[h1]at c1;obtain⟨v,c2,_⟩:=mP (s.drop 2) K0;obtain⟨u,c3,_⟩:=mP [] (by simp);have e2:uS (s.drop 2)=none:=yD h2;rw[e2];have e3:(wN false 4 []).isSome =false:=rfl;rw[e3]at c3;refine⟨⟨k,u,v,decide ((s.getD 1 0).toNat =45)⟩,?_,λp hp=>by cases hp⟩;generalize (wN false 4 (s.drop 2)).isSome =x at*;refine sF f58 ?_;repeat' ((first|refine tX 0 ?_|exact Zt|refine bR ?_ ?_<;>intro h)<;>(try conv=>whnf))
   all_goals first|exact Zo|(revert h;cases x<;>first|(intro _;exact agD (b45 _) rfl)|(intro h;exact absurd h (by decide)))
  ·rw[h1]at c1;obtain⟨v,c2,k2⟩:=mP a K0;obtain⟨u,c3,k3⟩:=mP b K0;have e2:uS (s.drop 2)=(wN false 4 a).bind λx=>(wN false 4 b).map λy=>(x,y):=yE (c:=47) (λs=>JO (.inl rfl)) h2;rw[e2];refine⟨⟨k,u,v,decide ((s.getD 1 0).toNat =45)⟩,?_,λp hp=>?_⟩
   ·rw[SA,oF.1];clear e2 k2 k3;generalize (wN false 4 a).isSome =x at*;generalize (wN false 4 b).isSome =y at*;refine sF f58 ?_;repeat' ((first|refine tX 0 ?_|exact Zt|refine bR ?_ ?_<;>intro h)<;>(try conv=>whnf))
    all_goals first|exact Zo|(revert h;cases x<;>cases y<;>first|(intro _;exact agD (b45 _) rfl)|(intro h;exact absurd h K9))
   ·obtain⟨z,hz,rfl⟩:=my.1 hp;obtain⟨h5,h6⟩:=oF.2 z hz
    grind
def mQ (b:Bool)(d:Nat)(hd:d<=18)(s:aj)(hl:s.length<=1000000): ∃v,ad 134 [SS s,I d,Bo b] (.aJ [I v,Bo (wN b d s).isSome])/\∀n,wN b d s=some n->n=v:=by
 by_cases fB: ∀v,Lib.atoiAll s≠ .ok v
 ·obtain⟨v,c1⟩:=pq s hl fB
  have e:wN b d s=none:=by
   cases h:wN b d s with
   |none=>rfl
   |some n=>exact absurd (fW hd (iA h).1).1 (fB n)
  rw[e];refine⟨v,?_,λn h=>by cases h⟩;cases b
  all_goals
   refine sF f134 ?_;exact K41
 ·simp only[ne_eq,Sn,Lz]at fB;obtain⟨v,hv⟩:=fB;have h4:=Sg hv;have c1:=tU s hl hv;have c2:=tT v h4;have c3:=kX s [45]
  have hn: ∀n,wN b d s=some n->n=v:=λn h=>by
   have:=(fW hd (iA h).1).1;rw[hv]at this;cases this;rfl
  have key:(wN b d s).isSome =decide ((Lib.itoa v=s/\(b=true\/0<=v))/\(Lib.trimPrefix s [45]).length <=d):=by
   rw[sD,wB];constructor
   ·intro h;obtain⟨n,e⟩:=qJ.1 h;obtain rfl:=hn n e;obtain⟨h5,h6⟩:=iA e;have h7:=fW hd h5;exact⟨⟨h7.2.1,h6⟩,h7.2.2.1⟩
   ·rintro⟨⟨h2,h1⟩,h3⟩;have h5:=uQ (d:=d) (n:=v) (by rw[h2];exact h3);exact aiI
  refine⟨v,?_,hn⟩;rw[key];clear key hn;generalize Lib.trimPrefix s [45]=u at*;by_cases hp:Lib.itoa v=s
  ·rw[hp]at c2;have e2:decide ((Lib.itoa v=s/\(b=true\/0<=v))/\u.length<=d)=decide ((b=true\/0<=v)/\u.length<=d):=by simp[hp]
   rw[e2];cases b
   all_goals
    refine sF f134 ?_;repeat' ((first|refine tX 0 ?_|exact Zt|refine bR ?_ ?_<;>intro h)<;>(try conv=>whnf))
    all_goals first|exact Zo|(exact absurd rfl h)|(exact mI afL)|(exact mI wG)|(exact mI (by simp<;>fail ""))|(exact mI (by rw[sD];simp only[wB,sU,false_or,true_or,CY];omega))|(exact absurd rfl h)
  ·have e2:decide ((Lib.itoa v=s/\(b=true\/0<=v))/\u.length<=d)=false:=by simp[hp]
   rw[e2];clear e2;generalize Lib.itoa v=y at*;cases b
   all_goals
    refine sF f134 ?_;exact ah9
def sJ (s:aj)(i:Nat):Prop:=∀j<i,32<=(s.getD j 0).toNat /\(s.getD j 0).toNat <=126
def ky (s:aj)(hl:s.length<=1000000):ad 106 [SS s] (.one (Bo (decide (aU s)))):=by
 have hb:=uU s;refine sF f106 ?_
 (try(refine tX 0 ?_;try exact Zt))
 refine af (ι:=Nat) (λi=>i<=s.length/\sJ s i) (λi=>s.length -i) (λi=>⟨[(6,some (.val (false,[.st (.view (kP (B s)))]))),(7,vI s.length),(8,vI i)],[],0⟩) 0 (ai abO) ⟨dC _,λj hj=>by omega⟩ ?_;rintro i ⟨hi,hp⟩;by_cases ak:i<s.length
 ·have hg:=JQ ak;have dx: ¬(32<=(s.getD i 0).toNat /\(s.getD i 0).toNat <=126)->¬aU s:=λh hh=>h (hh i ak);have ma:32<=(s.getD i 0).toNat /\(s.getD i 0).toNat <=126->sJ s (i+1):=λh j hj=>by exact afK
  have FL:((s.getD i 0).toNat :Int)<=255:=by exact UG
  generalize (s.getD i 0).toNat =c at*;repeat' ((first|refine tX 0 ?_|exact Zt|refine bR ?_ ?_<;>intro h)<;>(try conv=>whnf))
  all_goals first
   |(exfalso;omega)
   |exact gX (eT (dx K0)).symm
   |exact⟨i+1,⟨ak,ma K0⟩,by omega,Zc⟩
 ·obtain rfl:i=s.length:=by omega
  repeat' ((first|refine tX 0 ?_|exact Zt|refine bR ?_ ?_<;>intro h)<;>(try conv=>whnf))
  all_goals first
   |(exfalso;omega)
   |exact gX (fH (show aU s from hp)).symm
def rI (s:aj)(n:Nat)(hl:s.length<=1000000)(h1:1<=n)(hn:n<=1000000):ad 133 [SS s,SS [32],I n] (.own 1 (.view (ab (IL n s 32)))):=Qz abx dp dp Qi s 32 n hl h1 hn
def gB {f:FuncId}{c:Code}{T:TypeId}{cs xn:List SC}{ys:List SV}{y:SV}(fn:Func)(h:m6 cx c ⟨iz 0 ((false,[.ptr 1 0])::ys.map dyn),[(1,some (.box T (cs.map .st)))],1⟩ (acG cx fn T xn y) (λ_ _=>False) (acG cx fn T xn y))
  (h1:iG cx.P f=true:=by kernel_rfl)(h2:cx.P.funcs[f]? =some fn:=by kernel_rfl)(h3:fn.body=some c:=by rfl)(h4:bM fn.ntmps c=true:=by kernel_rfl)(h5:ys.length+1<=fn.ntmps:=by exact fP rfl)(h6:aM [0] c=true:=by kernel_rfl):
  bt cx f 1 ((false,[.ptr 1 0])::ys.map dyn) [(1,some (.box T (cs.map .st)))] [1] (.val (dyn y)) [(1,some (.box T (xn.map .st)))]:=ak7 lG h1 h2 h3 h4 h5 h6 h
def NS (b:Bool)(s:aj)(hl:s.length<=1000000): ∃v,ad 311 [SS s,Bo b] (.aJ [I v,Bo (wN b 13 s).isSome])/\∀n,wN b 13 s=some n->n=v:=by
 by_cases fB: ∀v,Lib.atoiAll s≠ .ok v
 ·obtain⟨v,c1⟩:=pq s hl fB
  have e:wN b 13 s=none:=by
   cases h:wN b 13 s with
   |none=>rfl
   |some n=>exact absurd (fW K9 (iA h).1).1 (fB n)
  rw[e];refine⟨v,?_,λn h=>by cases h⟩;cases b
  all_goals
   refine sF f311 ?_;exact K41
 ·simp only[ne_eq,Sn,Lz]at fB;obtain⟨v,hv⟩:=fB;have h4:=Sg hv;have c1:=tU s hl hv;have c2:=tT v h4;have c3:=kX s [45]
  have hn: ∀n,wN b 13 s=some n->n=v:=λn h=>by
   have:=(fW K9 (iA h).1).1;rw[hv]at this;cases this;rfl
  have key:(wN b 13 s).isSome =decide ((Lib.itoa v=s/\(b=true\/0<=v))/\(Lib.trimPrefix s [45]).length <=13):=by
   rw[sD,wB];constructor
   ·intro h;obtain⟨n,e⟩:=qJ.1 h;obtain rfl:=hn n e;obtain⟨h5,h6⟩:=iA e;have h7:=fW K9 h5;exact⟨⟨h7.2.1,h6⟩,h7.2.2.1⟩
   ·rintro⟨⟨h2,h1⟩,h3⟩;have h5:=uQ (d:=13) (n:=v) (by rw[h2];exact h3);exact aiI
  refine⟨v,?_,hn⟩;rw[key];clear key hn;generalize Lib.trimPrefix s [45]=u at*;by_cases hp:Lib.itoa v=s
  ·rw[hp]at c2;have e2:decide ((Lib.itoa v=s/\(b=true\/0<=v))/\u.length<=13)=decide ((b=true\/0<=v)/\u.length<=13):=by simp[hp]
   rw[e2];cases b
   all_goals
    refine sF f311 ?_;repeat' ((first|refine tX 0 ?_|exact Zt|refine bR ?_ ?_<;>intro h)<;>(try conv=>whnf))
    all_goals first|exact Zo|(exact mI afL)|(exact mI wG)|(exact absurd rfl h)
  ·have e2:decide ((Lib.itoa v=s/\(b=true\/0<=v))/\u.length<=13)=false:=by simp[hp]
   rw[e2];clear e2;generalize Lib.itoa v=y at*;cases b
   all_goals
    refine sF f311 ?_;exact ah9
def gk (b:Bool)(s:aj)(hl:s.length<=1000000): ∃v,(∀fl:Bool,bt cx 286 1 ((false,[.ptr 1 0])::[SS s,Bo b].map dyn) [(1,some (.box 351 ([K fl].map .st)))] [1] (.val (dyn (I v))) [(1,some (.box 351 ([K (fl || !(wN b 13 s).isSome)].map .st)))])/\∀n,wN b 13 s=some n->n=v:=by
 obtain⟨v,c1,k1⟩:=NS b s hl;refine⟨v,λfl=>?_,k1⟩;generalize (wN b 13 s).isSome =x at*;cases fl<;>cases x
 all_goals
  refine gB f286 ?_;repeat' ((first|refine tX 0 ?_|exact Zt|refine bR ?_ ?_<;>intro h)<;>(try conv=>whnf))
  all_goals exact⟨rfl,rfl,_,rfl,rfl⟩
def agL {s:aj}(hs: ∃y∈s,y=(47:UInt8)):wN false 13 s=none:=by
 obtain⟨y,hy,rfl⟩:=hs
 cases hw:wN false 13 s with
 |none=>rfl
 |some n=>
  have:=DU hw 47 hy;unfold dk at this;exfalso
  revert this;decide
def Ii (s:aj)(hl:s.length<=100000): ∃a b,(∀fl:Bool,bt cx 287 1 ((false,[.ptr 1 0])::[SS s].map dyn) [(1,some (.box 351 ([K fl].map .st)))] [1] (.val (dyn (true,[J a,J b]))) [(1,some (.box 351 ([K (fl || !(pN s).isSome)].map .st)))])/\∀x,pN s=some x->x=(a,b):=by
 have c1:=gZ s 47 K0
 rcases uR s 47 with⟨h1,h2⟩|⟨a,b,h1,h2,h3,h4⟩
 ·rw[h1]at c1;have e:pN s=none:=yD h2;rw[e];obtain⟨v,c2,_⟩:=gk false s K0;obtain⟨u,c3,_⟩:=gk false [] (by simp);refine⟨v,u,λfl=>?_,λx h=>by cases h⟩;cases fl
  all_goals
   exact K80
 ·rw[h1]at c1;have e:pN s=(wN false 13 a).bind λx=>(wN false 13 b).map λy=>(x,y):=yE (c:=47) (λs=>agL) h2;rw[e];obtain⟨v,c2,k1⟩:=gk false a K0;obtain⟨u,c3,k2⟩:=gk false b K0;refine⟨v,u,λfl=>?_,λp hp=>?_⟩
  ·rw[oF.1];clear e k1 k2;generalize (wN false 13 a).isSome =x at*;generalize (wN false 13 b).isSome =y at*;cases fl<;>cases x<;>cases y
   all_goals
    exact K80
  ·obtain⟨h5,h6⟩:=oF.2 p hp;exact Prod.ext (k1 _ h5) (k2 _ h6)
def eF (n lo hi:Int):ad 315 [I n,I lo,I hi] (.one (Bo (decide (lo<=n)&&decide (n<=hi)))):=by
 refine sF f315 ?_;repeat' ((first|refine tX 0 ?_|exact Zt|refine bR ?_ ?_<;>intro h)<;>(try conv=>whnf))
 all_goals exact gX wG
def qA (b:Bool)(e:Int):ad 313 [Bo b,I e] (.one (I (if b=true then 0 else e))):=by
 refine sF f313 ?_
 (try(refine tX 0 ?_;try exact Zt))
 cases b
 ·exact K1
 ·exact K1
def jB {b:Bool}{p:Prop} [BP b p] [Decidable p](e:Int):ad 313 [Bo b,I e] (.one (I (if p then 0 else e))):=by
 have h:=qA b e;exact afB
def QO {b:Bool}{p:Prop} [BP b p](hp: ¬p)(e:Int):ad 313 [Bo b,I e] (.one (I e)):=by
 have h:=qA b e;exact afI
def NT {b:Bool}{p:Prop} [BP b p](hp:p)(e:Int):ad 313 [Bo b,I e] (.one (I 0)):=by
 have h:=qA b e;exact afS
def EU (l:List Int)(hl:l.length<=1000000):ad 312 [(false,[.ints l])] (.one (I (fs l))):=by
 have hd: ∀i,i<l.length->fs (l.drop i)=if l.getD i 0≠0 then l.getD i 0 else fs (l.drop (i+1)):=λi hi=>by exact aii
 refine sF f312 ?_
 (try(refine tX 0 ?_;try exact Zt))
 refine af (ι:=Nat) (λi=>i<=l.length/\fs (l.drop i)=fs l) (λi=>l.length -i) (λi=>⟨[(5,some (.val (false,[.st (.ints l)]))),(6,vI l.length),(7,vI i)],[],0⟩) 0 Zc ⟨dC _,rfl⟩ ?_;rintro i ⟨hi,he⟩;by_cases ak:i<l.length
 ·have h1:=hd i ak;by_cases hz:l.getD i 0=0
  ·rw[if_neg K0]at h1;exact K66
  ·rw[if_pos hz]at h1;repeat' ((first|refine tX 0 ?_|exact Zt|refine bR ?_ ?_<;>intro h)<;>(try conv=>whnf))
   all_goals first
    |(exfalso;omega)
    |exact mH K0
 ·exact K57
def Ij (n:Int)(h0: -9223372036854775807<=n)(h1:n<=9223372036854775807):ad 319 [I n] (.one (I (n.natAbs:Nat))):=by
 refine sF f319 ?_
 (try(refine tX 0 ?_;try exact Zt))
 refine mH ?_;show(if -n>n then -n else n)=_;split<;>omega
def Kj (a b:Int)(ha:pU a)(hb:Tt b)(RR:a= -9223372036854775808->b≠0):ad 357 [I a,I b] (.one (I (Int.gcd a b))):=by
 refine sF f357 ?_
 (try(refine tX 0 ?_;try exact Zt))
 refine af (ι:=Int × Int) (λp=>Int.gcd p.1 p.2=Int.gcd a b/\pU p.1/\Tt p.2/\(p.1= -9223372036854775808->p.2≠0)) (λp=>p.2.natAbs) (λp=>⟨[(0,vI p.1),(1,vI p.2)],[],0⟩) (a,b) Zc ⟨rfl,ha,hb,RR⟩ ?_;rintro⟨x,y⟩ ⟨hg,hx,hy,hxy⟩;dsimp only at hg hx hy hxy;have GQ:=hx.1;have hx2:=hx.2;have hy1:=hy.1;have hy2:=hy.2;by_cases e8:y=0
 ·subst e8;have hx3:x≠ -9223372036854775808:=λe=>hxy e rfl;repeat((first|(refine kO 7 rfl ?_;first|refine rG (λ_ z=>⟨_,Ij x K0 hx2,z⟩) ?_)|refine tX 0 ?_|exact Zt);(try conv=>whnf))
  exact mH (by rw[<- hg];simp)
 ·have h1:(x.tmod y).natAbs =x.natAbs%y.natAbs:=GZ _ _;have h2:x.natAbs%y.natAbs<y.natAbs:=sZ _ K0
  (try(refine tX 0 ?_;try exact Zt))
  refine⟨(y,x.tmod y),⟨?_,⟨by dsimp only;omega,hy2⟩,⟨by dsimp only;omega,by dsimp only;omega⟩,λe=>absurd e abS⟩,by dsimp only;omega,Zc⟩;exact K61
def NU (n d:Int)(hn:pU n)(hd:pU d):ad 344 [F2 n d] (.one (Bo (decide (0<d/\Int.gcd n d=1)))):=by
 have:=hd.2;refine sF f344 ?_;repeat' ((first|(refine kO 7 rfl ?_;first|refine rG (λ_ z=>⟨_,Kj n d hn ⟨by omega,by omega⟩ (λ_=>by omega),z⟩) ?_)|refine tX 0 ?_|exact Zt|refine bR ?_ ?_<;>intro h)<;>(try conv=>whnf))
 all_goals first|(exact gX (eT K0).symm)|(exact gX (by rw[sD,beq_iff_eq,wB];omega))
def Gy (n d m:Int):ad 345 [F2 n d,I m] (.one (Bo (decide ((1<=n/\n<=m)/\1<=d/\d<=m)))):=by
 refine sF f345 ?_;repeat' ((first|(refine kO 7 rfl ?_;first|refine Rq (eF _ _ _) ?_)|refine tX 0 ?_|exact Zt|refine bR ?_ ?_<;>intro h)<;>(try conv=>whnf))
 all_goals exact gX (by rw[sD];simp only[sC,wB,sU,false_iff];omega)
def oR (n m:Int)(hm:0<=m/\m<=1000000000):ad 317 [I n,I m] (.one (Bo (decide (-m<=n)&&decide (n<=m)))):=by
 refine sF f317 ?_;repeat((first|(refine kO 7 rfl ?_;first|refine Rq (eF _ _ _) ?_)|refine tX 0 ?_|exact Zt);(try conv=>whnf))
 exact K7
def NV (s:aj)(hl:s.length<=1000000):ad 314 [SS s] (.one (Bo (decide (eK s)))):=by
 have hb:=uU s;refine sF f314 ?_
 (try(refine tX 0 ?_;try exact Zt))
 refine af (ι:=Nat) (λi=>i<=s.length/\P9 s i) (λi=>s.length -i) (λi=>⟨[(0,lS s),(7,some (.val (false,[.st (.view (kP (B s)))]))),(8,vI s.length),(9,vI i)],[],0⟩) 0 (ai abO) ⟨dC _,λj hj=>by omega⟩ ?_;rintro i ⟨hi,hp⟩;by_cases ak:i<s.length
 ·have hg:=JQ ak;have dx:=λh=>Qa (s:=s) (i:=i) ak h;have ma:=λh=>Ag (s:=s) (i:=i) hp h;have FL:((s.getD i 0).toNat :Int)<=255:=by exact UG
  unfold okc at dx ma;generalize (s.getD i 0).toNat =c at*;repeat' ((first|(refine kO 7 rfl ?_;first|refine Rq (eF _ _ _) ?_)|refine tX 0 ?_|exact Zt|refine bR ?_ ?_<;>intro h)<;>(try conv=>whnf))
  all_goals first
   |(exfalso;omega)
   |exact gX (eT (dx K0)).symm
   |exact⟨i+1,⟨ak,ma K0⟩,by omega,Zc⟩
 ·obtain rfl:i=s.length:=by omega
  repeat' ((first|(refine kO 7 rfl ?_;first|refine Rq (eF _ _ _) ?_)|refine tX 0 ?_|exact Zt|refine bR ?_ ?_<;>intro h)<;>(try conv=>whnf))
  all_goals first
   |(exfalso;omega)
   |exact gX ah3
def anz (a b:Int):fs [a,b]=jp a b:=by unfold jp;simp only[fs];split<;>(try rfl);split<;>omega
def anA (a b c:Int):fs [a,b,c]=jp a (jp b c):=by unfold jp;simp only[fs];split<;>(try rfl);split<;>(try rfl);split<;>omega
def gF2 (a b:Int):ad 100 [(false,[.ints [a,b]])] (.one (I (jp a b))):=by
 have h:=EC [a,b] (fP rfl);rwa [anz]at h
def gF3 (a b c:Int):ad 100 [(false,[.ints [a,b,c]])] (.one (I (jp a (jp b c)))):=by
 have h:=EC [a,b,c] (fP rfl);rwa [anA]at h
def N6 (n:Int):ad 195 [I n] (.one (Bo (decide (0<=n)&&decide (n<=2)))):=by
 refine sF f195 ?_;repeat((first|(refine kO 7 rfl ?_;first|refine Rq (py _ _ _) ?_)|refine tX 0 ?_|exact Zt);(try conv=>whnf))
 exact K7
def pD (w:Pm):ad 101 [(true,wdC w)] (.one (I (wdE w))):=by
 obtain⟨k,t,s,r⟩:=w;refine sF f101 ?_;repeat' ((first|(refine kO 7 rfl ?_;first|refine Rq (N6 _) ?_|refine Rq (py _ _ _) ?_|refine Rq (Ar _) ?_|refine Rq (gF2 _ _) ?_)|refine tX 0 ?_|exact Zt|refine bR ?_ ?_<;>intro h)<;>(try conv=>whnf))
 all_goals exact mH (by dsimp only at*;unfold wdE jp;dsimp only;(repeat' split)<;>first|rfl|omega|(exfalso;simp_all;done)|(exfalso;simp_all;omega))
def EZ (a b:Pm)(c:Int):ad 60 [(true,wdC a++wdC b++[J c])] (.one (I (Gn a b c))):=by
 obtain⟨k,t,s,r⟩:=a;obtain⟨k',t',s',r'⟩:=b;have h1:=pD ⟨k,t,s,r⟩;have h2:=pD ⟨k',t',s',r'⟩;unfold Gn;generalize wdE ⟨k,t,s,r⟩=x at*;generalize wdE ⟨k',t',s',r'⟩=y at*;refine sF f60 ?_;repeat((first|(refine kO 7 rfl ?_;first|refine Rq (py _ _ _) ?_|refine Rq (Ar _) ?_|refine Rq (gF3 _ _ _) ?_)|refine tX 0 ?_|exact Zt);(try conv=>whnf))
 exact mH (by unfold stE;(repeat' split)<;>first|rfl|omega)
def aam {x:Option Pm}{y:Option Pm}{z:Option Int}(h: ¬((x.isSome=true/\y.isSome=true)/\z.isSome=true)):puO x y z=(wi0,7):=by cases x<;>cases y<;>cases z<;>first|rfl|exact absurd ⟨⟨rfl,rfl⟩,rfl⟩ h
def ur (s:aj)(hl:s.length<=100000):ad 20 [SS s] (.aJ [(true,QA (H7 s).1),I (H7 s).2]):=by
 obtain⟨l1,l2⟩:=bZ 32 s;have c0:=rp s 32 K0;rw[show(32:UInt8).toNat =32 from rfl]at c0;unfold H7;generalize av 32 s=ws at*;have hn:=dZ ws;by_cases h3:ws.length=3
 ·rw[if_pos h3]
  match ws,h3,l2,c0 with
  | [a,b,c],_,l2,c0=>
   have la:=l2 a (by simp);have lb:=l2 b (by simp);have lc:=l2 c (by simp);obtain⟨w1,c1,k1⟩:=yW a K0;obtain⟨w2,c2,k2⟩:=yW b K0;obtain⟨n,c3,k3⟩:=mP c K0;show nN _ _ _ _ (.aJ [(true,QA (puO (Aq a) (Aq b) (wN false 4 c)).1),I (puO (Aq a) (Aq b) (wN false 4 c)).2]);by_cases hall:((Aq a).isSome =true/\(Aq b).isSome =true)/\(wN false 4 c).isSome =true
   ·obtain⟨⟨ha,hb⟩,hc⟩:=hall;rw[ha]at c1;rw[hb]at c2;rw[hc]at c3;obtain⟨x,hx⟩:=qJ.1 ha;obtain⟨y,hy⟩:=qJ.1 hb;obtain⟨z,hz⟩:=qJ.1 hc;rw[hx,hy,hz];obtain rfl:=k1 x hx;obtain rfl:=k2 y hy;obtain rfl:=k3 z hz;show nN _ _ _ _ (.aJ [(true,QA (puE x y z).1),I (puE x y z).2]);have c4:=EZ x y z;unfold puE;generalize Gn x y z=e at*;clear k1 k2 k3 ha hb hc hx hy hz;by_cases he:e=0
    ·rw[if_pos he];refine sF f20 ?_;exact tA
    ·rw[if_neg he];refine sF f20 ?_;exact tA
   ·rw[aam hall];generalize (Aq a).isSome =x at*;generalize (Aq b).isSome =y at*;generalize (wN false 4 c).isSome =z at*;refine sF f20 ?_;exact aiL
 ·rw[if_neg h3];refine sF f20 ?_;exact tA
end Go.Proofs.Tryz
