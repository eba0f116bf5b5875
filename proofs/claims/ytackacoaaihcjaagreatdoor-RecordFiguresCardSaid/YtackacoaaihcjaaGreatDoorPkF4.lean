import Derived.Test.YtackacoaaihcjaaGreatDoorPkF2
set_option linter.all false
set_option maxRecDepth 100000
set_option maxHeartbeats 8000000
namespace Go.Proofs.Tryz
open Go.Fw Go.IntWalk Go.Plain
def MX (o:Option Int):List SV:=match o with
 |some n=>[I n,Bo true]
 |none=>[I 0,Bo false]
def iC (s:List UInt8)(d:Nat)(hd:d<=18)(hl:s.length<=1000000):ac 148 [SS s,I d] (.aJ (MX (fP d s))):=by
 have eB:=agv s;by_cases Lb:(s.getD 0 0).toNat =45
 ·have ea:BU s=1:=by unfold BU;rw[if_pos Lb]
  rw[ea]at eB;unfold fP;by_cases hb0:BV d s
  ·have hb:s.length=1\/d<s.length -1\/((s.getD 1 0).toNat =48/\1<s.length):=by exact abR
   rw[if_pos hb0];unfold MX;refine sF f148 ?_;exact K5
  ·have hb: ¬(s.length=1\/d<s.length -1\/((s.getD 1 0).toNat =48/\1<s.length)):=by exact abR
   rw[if_neg hb0,ea];have hz: ¬(s.getD 1 0).toNat =48:=by omega
   all_goals
    refine sF f148 ?_
    (try(refine tX 0 ?_;try exact Zt))
    refine af (ι:=Nat) (λi=>(1<=i/\i<=s.length)/\∀b∈(s.take i).drop 1,dp b) (λi=>s.length -i) (λi=>⟨[(0,lS s),(6,vI 1),(7,vI (fI 0 ((s.take i).drop 1):Nat)),(8,vI i)],[],0⟩) 1 (ai (by rw[show(s.take 1).drop 1= []by simp];kernel_rfl)) ⟨⟨dz _,eB⟩,by rw[show(s.take 1).drop 1= []by simp];simp⟩ ?_;rintro i ⟨⟨zG,hi⟩,xj⟩;have hsm:=oD xj wA;have hby:(s.getD i 0).toNat <=255:=by exact UT
    by_cases ak:i<s.length
    ·by_cases hx:dp (s.getD i 0)
     ·have anY:=Bj xj wA;have hv:=MN zG ak hx;have amu: ∀b∈(s.take (i+1)).drop 1,dp b:=ait;unfold dp at hx;generalize fI 0 ((s.take i).drop 1)=v at*;exact aiD
     ·have dy: ¬ ∀b∈s.drop 1,dp b:=λh=>hx (h _ (by
       have e:s.getD i 0=(s.drop 1).getD (i -1) 0:=aja;rw[e];have:i -1< (s.drop 1).length :=by simp;omega
       rw[jP,oX this]
       exact pH this))
      rw[if_neg dy];unfold dp at hx;generalize fI 0 ((s.take i).drop 1)=v at*;exact K5
    ·obtain rfl:i=s.length:=by omega
     rw[mW]at xj hsm ⊢;rw[if_pos xj];generalize fI 0 (s.drop 1)=v at*;exact K1
 ·have ea:BU s=0:=by unfold BU;rw[if_neg Lb]
  rw[ea]at eB;unfold fP;by_cases hb0:BV d s
  ·have hb:s.length=0\/d<s.length -0\/((s.getD 0 0).toNat =48/\1<s.length):=by exact abR
   rw[if_pos hb0];unfold MX;refine sF f148 ?_;exact K5
  ·have hb: ¬(s.length=0\/d<s.length -0\/((s.getD 0 0).toNat =48/\1<s.length)):=by exact abR
   rw[if_neg hb0,ea];rcases Classical.em ((s.getD 0 0).toNat =48)with hz|hz
   all_goals
    refine sF f148 ?_
    (try(refine tX 0 ?_;try exact Zt))
    refine af (ι:=Nat) (λi=>(0<=i/\i<=s.length)/\∀b∈(s.take i).drop 0,dp b) (λi=>s.length -i) (λi=>⟨[(0,lS s),(6,vI 0),(7,vI (fI 0 ((s.take i).drop 0):Nat)),(8,vI i)],[],0⟩) 0 (ai (by rw[show(s.take 0).drop 0= []by simp];kernel_rfl)) ⟨⟨dz _,eB⟩,by rw[show(s.take 0).drop 0= []by simp];simp⟩ ?_;rintro i ⟨⟨zG,hi⟩,xj⟩;have hsm:=oD xj wA;have hby:(s.getD i 0).toNat <=255:=by exact UT
    by_cases ak:i<s.length
    ·by_cases hx:dp (s.getD i 0)
     ·have anY:=Bj xj wA;have hv:=MN zG ak hx;have amu: ∀b∈(s.take (i+1)).drop 0,dp b:=ait;unfold dp at hx;generalize fI 0 ((s.take i).drop 0)=v at*;exact aiD
     ·have dy: ¬ ∀b∈s.drop 0,dp b:=λh=>hx (h _ (by
       have e:s.getD i 0=(s.drop 0).getD (i -0) 0:=by
        simp only[jP,PC];rw[show 0+(i -0)=i by omega]
       rw[e];have:i -0< (s.drop 0).length :=by simp;omega
       rw[jP,oX this]
       exact pH this))
      rw[if_neg dy];unfold dp at hx;generalize fI 0 ((s.take i).drop 0)=v at*;exact K5
    ·obtain rfl:i=s.length:=by omega
     rw[mW]at xj hsm ⊢;rw[if_pos xj];generalize fI 0 (s.drop 0)=v at*;exact K1
def HV (l:List (List UInt8))(x:List UInt8):ab (l++[x])=ab l++[[.lit (.string (B x))]]:=by simp
def eh (l:List (List UInt8)):(ab l).length =l.length:=by simp
def MY (l:List (List UInt8))(x:List UInt8):(SC.view (ab l++[[.lit (.string (B x))]])).zN 1:=ais
def jY (s:List UInt8)(c:UInt8)(hl:s.length<=1000000):ac 44 [SS s,(false,[.lit (.int .u8 (c.toNat:Nat))])] (.own 1 (.view (ab (agw s c.toNat)))):=by
 refine sF f44 ?_
 (try(refine tX 0 ?_;try exact Zt))
 refine af (ι:=Nat) (λi=>i<=s.length) (λi=>s.length -i) (λi=>⟨[(0,lS s),(1,some (lit (.int .u8 (c.toNat:Nat)))),(5,pO 0),(6,vI (jc s c.toNat i).2),(7,vI i)],[(0,some (.row true 1 (.view (ab (jc s c.toNat i).1))))],1⟩) 0 (bs.trans (jB 5 1 (.view []) K9 rfl rfl rfl) Zc) (dM _) ?_;intro i hi;obtain⟨h1,h2⟩:=JO s c.toNat i;have h3:=eh (jc s c.toNat i).1;by_cases ak:i<s.length
 ·by_cases hx:(s.getD i 0).toNat =c.toNat
  ·have e:jc s c.toNat (i+1)=((jc s c.toNat i).1++[(s.take i).drop (jc s c.toNat i).2],i+1):=by
    show(if(s.getD i 0).toNat =c.toNat then _ else _)=_;rw[if_pos hx]
   have e2:=HV (jc s c.toNat i).1 ((s.take i).drop (jc s c.toNat i).2);have u:=MY (jc s c.toNat i).1 ((s.take i).drop (jc s c.toNat i).2);generalize jc s c.toNat i=P at*
   (try(refine tX 0 ?_;try exact Zt))
   exact⟨i+1,ak,by omega,ai (by rw[e];dsimp only;rw[e2];kernel_rfl)⟩
  ·have e:jc s c.toNat (i+1)=jc s c.toNat i:=by
    show(if(s.getD i 0).toNat =c.toNat then _ else _)=_;rw[if_neg hx]
   generalize jc s c.toNat i=P at*
   (try(refine tX 0 ?_;try exact Zt))
   exact⟨i+1,ak,by omega,ai (by rw[e];kernel_rfl)⟩
 ·obtain rfl:i=s.length:=by omega
  unfold agw;have e2:=HV (jc s c.toNat s.length).1 (s.drop (jc s c.toNat s.length).2);have u:=MY (jc s c.toNat s.length).1 (s.drop (jc s c.toNat s.length).2);rw[e2];generalize jc s c.toNat s.length=P at*;exact K1
def mG {x:SV}{b c:Bool}(h:b=c):ma.aJ [x,Bo b]=ma.aJ [x,Bo c]:=by rw[h]
def rI {sg:Bool}{s:List UInt8}{d:Nat}(hd:d<=18)(hl:s.length<=1000000){n:Int}(h:wN sg d s=some n):ac 137 [SS s,I d,Bo sg] (.aJ [I n,Bo true]):=by
 obtain⟨h0,h9⟩:=iB h;obtain⟨h1,h2,h3,h4⟩:=fV hd h0;have c1:=tV s hl h1;have c2:=tU n h4;rw[h2]at c2;have c3:=kZ s [45];generalize Lib.trimPrefix s [45]=u at*
 cases sg with
 |true=>
  refine sF f137 ?_;repeat' ((first|refine tX 0 ?_|exact Zt|refine bR ?_ ?_<;>intro h)<;>(try conv=>whnf))
  all_goals first|exact Zo|(exact rfl)|(exact absurd rfl (by assumption))|(exact mG (fG K0))|(exact mG (eU (by omega)))
 |false=>
  have h8:0<=n:=by simpa using h9
  refine sF f137 ?_;repeat' ((first|refine tX 0 ?_|exact Zt|refine bR ?_ ?_<;>intro h)<;>(try conv=>whnf))
  all_goals first|exact Zo|(exact rfl)|(exact absurd rfl (by assumption))|(exact mG (fG K0))|(exact mG (eU (by omega)))
def rJ {sg:Bool}{s:List UInt8}{d:Nat}(hl:s.length<=1000000)(hn:wN sg d s=none): ∃v,ac 137 [SS s,I d,Bo sg] (.aJ [I v,Bo false]):=by
 by_cases fC: ∀v,Lib.atoiAll s≠ .ok v
 ·obtain⟨v,c1⟩:=pp s hl fC;refine⟨v,?_⟩;cases sg
  ·refine sF f137 ?_;exact K41
  ·refine sF f137 ?_;exact K41
 ·simp only[ne_eq,SA,LH]at fC;obtain⟨v,hv⟩:=fC;refine⟨v,?_⟩;have h4:=Sr hv;have c1:=tV s hl hv;have c2:=tU v h4;have c3:=kZ s [45]
  have key: ¬(Lib.itoa v=s/\(sg=true\/0<=v)/\(Lib.trimPrefix s [45]).length <=d):=by
   rintro⟨h5,h6,h7⟩;have:=uQ (d:=d) (n:=v) (by rw[h5];exact h7);rw[h5]at this;unfold wN at hn;rw[this]at hn;have Lk:(if sg=true\/0<=v then some v else none)=none:=hn;rw[if_pos h6]at Lk;cases Lk
  generalize Lib.trimPrefix s [45]=u at*;by_cases hp:Lib.itoa v=s
  ·rw[hp]at c2;have amv: ¬((sg=true\/0<=v)/\u.length<=d):=λh=>key ⟨hp,h⟩;clear key
   cases sg with
   |true=>
    have k3: ¬u.length<=d:=λh=>amv ⟨.inl rfl,h⟩;refine sF f137 ?_;repeat' ((first|refine tX 0 ?_|exact Zt|refine bR ?_ ?_<;>intro h)<;>(try conv=>whnf))
    all_goals first|exact Zo|(exact rfl)|(exact absurd rfl (by assumption))|(exact mG (fG K0))|(exact mG (eU K0))
   |false=>
    have k3: ¬(0<=v/\u.length<=d):=λh=>amv ⟨.inr h.1,h.2⟩;refine sF f137 ?_;repeat' ((first|refine tX 0 ?_|exact Zt|refine bR ?_ ?_<;>intro h)<;>(try conv=>whnf))
    all_goals first|exact Zo|(exact rfl)|(exact absurd rfl (by assumption))|(exact mG (fG K0))|(exact mG (eU K0))
  ·clear key;generalize Lib.itoa v=y at*;cases sg
   ·exact K83
   ·exact K83
abbrev Qv (n:Int):Prop:= -4611686018427387903<=n/\n<=4611686018427387903
def eP (n lo hi:Int):ac 212 [I n,I lo,I hi] (.one (Bo (decide (lo<=n/\n<=hi)))):=by
 refine sF f212 ?_;repeat' ((first|refine tX 0 ?_|exact Zt|refine bR ?_ ?_<;>intro h)<;>(try conv=>whnf))
 ·exact m9 U0
 ·exact m9 U0
def nX {b:Bool}{p:Prop} [BP b p] [Decidable p](e:Int):ac 211 [Bo b,I e] (.one (I (if p then 0 else e))):=by
 have h:=mH b e;exact afE
def g9 (l:List Int)(hl:l.length<=1000000):ac 210 [(false,[.ints l])] (.one (I (fs l))):=by rw[<- acE];exact Qr l hl
def D6 {b:Bool}{p:Prop} [BP b p](hp: ¬p)(e:Int):ac 211 [Bo b,I e] (.one (I e)):=by
 have h:=mH b e;exact afL
def M5 {b:Bool}{p:Prop} [BP b p](hp:p)(e:Int):ac 211 [Bo b,I e] (.one (I 0)):=by
 have h:=mH b e;exact afV
def VL {x y:Int}(h:x≠0):ac 210 [(false,[.ints [x,y]])] (.one (I x)):=by
 have:=g9 [x,y] (fO rfl);rwa [show fs [x,y]=x by simp[fs,h]]at this
def VM {y:Int}:ac 210 [(false,[.ints [0,y]])] (.one (I y)):=by
 have:=g9 [0,y] (fO rfl);rwa [show fs [0,y]=y by by_cases h:y=0<;>simp[fs,h]]at this
def HW (n m:Int)(hm:Qv m):ac 266 [I n,I m] (.one (Bo (decide (-m<=n/\n<=m)))):=by
 refine sF f266 ?_;repeat((first|(refine kO 7 rfl ?_;first|refine Rq (eP _ _ _) ?_)|refine tX 0 ?_|exact Zt);(try conv=>whnf))
 exact K7
def nF (p q:Int):ac 325 [F2 p q] (.one (Bo (decide ((-1000000000<=p/\p<=1000000000)/\q<=1000000000)))):=by
 refine sF f325 ?_;repeat' ((first|(refine kO 7 rfl ?_;first|refine rG (λ_ z=>⟨_,HW _ _ K0,z⟩) ?_)|refine tX 0 ?_|exact Zt|refine bR ?_ ?_<;>intro h)<;>(try conv=>whnf))
 ·exact m9 U0
 ·exact m9 U0
def D7 (n d:Int)(hn:Qv n)(hd:0<d/\d<=9223372036854775807):ac 326 [F2 n d] (.one (I (n/d))):=by
 have b1:=D4 n hd.1;have e1:IntKind.i64.wrap (n.tdiv d)=n.tdiv d:=i64_in _ K0;have f:=M4 n hd.1;by_cases h0:0<=n
 ·have h1:n.tmod d=n%d:=Int.tmod_eq_emod_of_nonneg h0;have h2:=CN n (show d≠0 by omega);refine sF f326 ?_;exact K1
 ·refine sF f326 ?_;exact ahS
def VN (n d:Int)(hn:Qv n)(hd:0<d/\d<=9223372036854775807):ac 327 [F2 n d] (.one (I (-(-n/d)))):=by
 have b1:=D5 (-n) hd.1;have g:=D7 (-n) d K0 hd;refine sF f327 ?_;exact K1
def M6 (n d m k:Int)(hn:Qv n)(hd:0<d/\d<=9223372036854775807)(hm:Qv m)(hk:0<k/\k<=9223372036854775807):ac 294 [F2 n d,F2 m k] (.one (F2 (n/d) (-(-m/k)))):=by
 refine sF f294 ?_;repeat((first|(refine kO 7 rfl ?_;first|refine rG (λ_ z=>⟨_,D7 n d hn hd,z⟩) ?_|refine rG (λ_ z=>⟨_,VN m k hm hk,z⟩) ?_)|refine tX 0 ?_|exact Zt);(try conv=>whnf))
 exact K7
def An (n d:Int)(hn:Qv n)(hd:0<d/\d<=9223372036854775807):ac 337 [I n,I d] (.one (I (n/d))):=by
 have b1:=D4 n hd.1;have e1:IntKind.i64.wrap (n.tdiv d)=n.tdiv d:=i64_in _ K0;have f:=M4 n hd.1;by_cases h0:0<=n
 ·have h2:=CN n (show d≠0 by omega);refine sF f337 ?_;exact K1
 ·refine sF f337 ?_;exact ahS
def M7 (n d:Int)(hn:Qv n)(hd:0<d/\d<=9223372036854775807):ac 338 [I n,I d] (.one (I (-(-n/d)))):=by
 have b1:=D5 (-n) hd.1;have g:=An (-n) d K0 hd;refine sF f338 ?_;exact K1
def Bs (n:Int):ac 214 [I n] (.one (I (if 1<=n/\n<=1000000 then 0 else 2))):=by
 refine sF f214 ?_;repeat((first|(refine kO 7 rfl ?_;first|refine Rq (eP _ _ _) ?_|refine Rq (nX _) ?_)|refine tX 0 ?_|exact Zt);(try conv=>whnf))
 exact K7
def M8 (n m:Int)(hm:Qv m):ac 265 [I n,(false,[.ref [J m]])] (.one (Bo (!(decide (-m<=n)&&decide (n<=m))))):=by
 have g:=HW n m hm;rw[X8]at g;refine sF f265 ?_;exact K1
def D8 (l:List Int)(m:Int)(hm:Qv m)(hl:l.length<=maxLen):ac 215 [L l,I m] (.one (I (if iZ l (-m) m then 0 else 2))):=by
 have g:=Al l 265 [] [[J m]] (λn=> !(decide (-m<=n)&&decide (n<=m))) (λn=>M8 n m hm) hl;rw[acV]at g;refine sF f215 ?_;repeat((first|(refine kO 7 rfl ?_;first|refine Rq (nX _) ?_)|refine tX 0 ?_|exact Zt);(try conv=>whnf))
 exact vV (by simp)
def di (st:Int)(l:List Int):Int:=if 1<=st/\st<=1000000 then(if 3<=l.length then(if l.length<=64 then(if iZ l (-4096) 4096 then 0 else 2)else 8)else 10)else 2
def fs3 (a b c:Int):fs [a,b,c]=if a≠0 then a else if b≠0 then b else c:=by by_cases h:a=0<;>by_cases h':b=0<;>by_cases h'':c=0<;>simp[fs,h,h',h'']
def fs4 (a b c d:Int):fs [a,b,c,d]=if a≠0 then a else if b≠0 then b else if c≠0 then c else d:=by by_cases h:a=0<;>by_cases h':b=0<;>by_cases h'':c=0<;>by_cases h3:d=0<;>simp[fs,h,h',h'',h3]
abbrev Rc (st:Int)(l:List Int):SV:=(true,[J st,.ints l])
def jZ (st:Int)(l:List Int)(hl:l.length<=maxLen):ac 140 [Rc st l] (.one (I (di st l))):=by
 have g:=D8 l 4096 K0 hl;unfold maxLen at hl
 have e:fs [if 1<=st/\st<=1000000 then 0 else 2,if(3:Int)<=l.length then 0 else 10,if(l.length:Int)<=64 then 0 else 8,if iZ l (-4096) 4096 then 0 else 2]=di st l:=by
  rw[fs4];unfold di
  (repeat' split)<;>first|omega|rfl
 rw[<- e];refine sF f140 ?_;repeat((first|(refine kO 7 rfl ?_;first|refine Rq (Bs _) ?_|refine Rq (nX _) ?_|refine rG (λ_ z=>⟨_,g9 _ (fO rfl),z⟩) ?_)|refine tX 0 ?_|exact Zt);(try conv=>whnf))
 exact K7
def lX (st:Int)(l:List Int)(hl:l.length<=maxLen):ac 149 [Rc st l] (.one (I (di st l))):=by
 unfold maxLen at hl;unfold di;refine sF f149 ?_;repeat((first|(refine kO 7 rfl ?_;first|refine Rq (dt _ _ _) ?_)|refine tX 0 ?_|exact Zt);(try conv=>whnf))
 (refine bR ?_ ?_<;>intro h<;>(try conv=>whnf))
 ·exact afJ
 ·rw[if_pos K0]
  (try(refine tX 0 ?_;try exact Zt))
  (refine bR ?_ ?_<;>intro h<;>(try conv=>whnf))
  ·(try(refine tX 0 ?_;try exact Zt))
   rw[if_neg K0];(first|done|rfl|exact True.intro)
  ·rw[if_pos K0]
   (try(refine tX 0 ?_;try exact Zt))
   (refine bR ?_ ?_<;>intro h<;>(try conv=>whnf))
   ·(try(refine tX 0 ?_;try exact Zt))
    rw[if_neg K0];(first|done|rfl|exact True.intro)
   ·rw[if_pos K0]
    (try(refine tX 0 ?_;try exact Zt))
    refine af (ι:=Nat) (λi=>i<=l.length/\∀j<i,-4096<=l.getD j 0/\l.getD j 0<=4096) (λi=>l.length -i) (λi=>⟨[(1,pP 0),(3,vI i)],[(0,some (.box 168 [.st (J st),.st (.ints l)]))],1⟩) 0 Zc ⟨dM _,by intro j hj;omega⟩ ?_;rintro i ⟨hi,he⟩
    (try(refine tX 0 ?_;try exact Zt))
    (refine bR ?_ ?_<;>intro h<;>(try conv=>whnf))
    ·have ak:i<l.length:=by omega
     repeat((first|(refine kO 7 rfl ?_;first|refine Rq (dt _ _ _) ?_)|refine tX 0 ?_|exact Zt);(try conv=>whnf))
     (refine bR ?_ ?_<;>intro h<;>(try conv=>whnf))
     ·(try(refine tX 0 ?_;try exact Zt))
      rw[if_neg (VK ak h)];(first|done|rfl|exact True.intro)
     ·have h: -4096<=l.getD i 0/\l.getD i 0<=4096:=by omega
      (try(refine tX 0 ?_;try exact Zt))
      refine⟨i+1,⟨ak,λj hj=>?_⟩,by omega,Zc⟩;by_cases e:j=i
      ·subst e;exact h
      ·exact he j K0
    ·obtain rfl:i=l.length:=by omega
     (try(refine tX 0 ?_;try exact Zt))
     rw[if_pos (ZE he)];(first|done|rfl|exact True.intro)
abbrev Sp:Type:=Int × Int × Int × Int
abbrev sp (q:Sp):List SC:=[J q.1,J q.2.1,J q.2.2.1,J q.2.2.2]
abbrev qy (q:Sp):Prop:=pW q.1/\pW q.2.1/\pW q.2.2.1/\pW q.2.2.2
abbrev Ru (e:Int)(q:Sp)(ch:List Sp):SV:=(true,[J e,J q.1,J q.2.1,J q.2.2.1,J q.2.2.2,.view (ch.map sp)])
def vX (n d:Int)(hn:pW n)(hd:pW d):ac 260 [F2 n d] (.one (Bo (decide (0<d/\Int.gcd n d=1)))):=by
 have:=hd.2;refine sF f260 ?_
 (try(refine tX 0 ?_;try exact Zt))
 (refine bR ?_ ?_<;>intro h<;>(try conv=>whnf))
 ·repeat((first|(refine kO 7 rfl ?_;first|refine rG (λ_ z=>⟨_,yL n d hn ⟨by omega,by omega⟩ (λ_=>by omega),z⟩) ?_)|refine tX 0 ?_|exact Zt);(try conv=>whnf))
  exact m9 bq
 ·exact K97
def yM (n d:Int):ac 262 [F2 n d] (.one (Bo (decide ((1<=n/\n<=1000)/\d<=1000)))):=by
 refine sF f262 ?_;repeat' ((first|(refine kO 7 rfl ?_;first|refine Rq (eP _ _ _) ?_)|refine tX 0 ?_|exact Zt|refine bR ?_ ?_<;>intro h)<;>(try conv=>whnf))
 grind
 grind
def HX (a b c d:Int)(h1:Qv (a*d))(h2:Qv (c*b)):ac 263 [F2 a b,F2 c d] (.one (Bo (decide (a*d<c*b)))):=by
 refine sF f263 ?_;exact tL
def dG (q:Sp):Int:=if(0<q.2.1/\Int.gcd q.1 q.2.1=1)/\0<q.2.2.2/\Int.gcd q.2.2.1 q.2.2.2=1 then(if((1<=q.1/\q.1<=1000)/\q.2.1<=1000)/\(1<=q.2.2.1/\q.2.2.1<=1000)/\q.2.2.2<=1000 then(if q.2.2.1*q.2.1<q.1*q.2.2.2 then 9 else 0)else 2)else 3
def fs2 (a b:Int):fs [a,b]=if a≠0 then a else b:=by grind[fs]
def Cm {a d:Int}(h1:1<=a/\a<=1000)(h2:0<d/\d<=1000):Qv (a*d):=by
 have h3:0<=a*d:=CO K0 K0;have h4:a*d<=1000*1000:=CV h1.2 h2.2 K0 K0;omega
def vY (q:Sp)(hq:qy q):ac 213 [(true,sp q)] (.one (I (dG q))):=by
 obtain⟨a,b,c,d⟩:=q;obtain⟨ha,hb,hc,hd⟩:=hq;simp only at ha hb hc hd;change ac 213 [F4 a b c d] _;unfold dG;simp only;have l1:=vX a b ha hb;have l2:=vX c d hc hd;have f1:=yM a b;have f2:=yM c d;by_cases k1:(0<b/\Int.gcd a b=1)/\0<d/\Int.gcd c d=1
 ·rw[if_pos k1];rw[fG k1.1]at l1;rw[fG k1.2]at l2;by_cases k2:((1<=a/\a<=1000)/\b<=1000)/\(1<=c/\c<=1000)/\d<=1000
  ·rw[if_pos k2];rw[fG k2.1]at f1;rw[fG k2.2]at f2;have g:=HX c d a b (Cm k2.2.1 ⟨k1.1.1,k2.1.2⟩) (Cm k2.1.1 ⟨k1.2.1,k2.2.2⟩);refine sF f213 ?_;repeat((first|(refine kO 7 rfl ?_;first|refine Rq (nX _) ?_|refine rG (λ_ z=>⟨_,g9 _ (fO rfl),z⟩) ?_)|refine tX 0 ?_|exact Zt);(try conv=>whnf))
   exact vV bq
  ·rw[if_neg k2];by_cases k3:(1<=a/\a<=1000)/\b<=1000
   ·rw[fG k3]at f1;rw[eU (show ¬((1<=c/\c<=1000)/\d<=1000)from λh=>k2 ⟨k3,h⟩)]at f2;exact ab7
   ·rw[eU k3]at f1;exact ab7
 ·rw[if_neg k1];by_cases k3:0<b/\Int.gcd a b=1
  ·rw[fG k3]at l1;rw[eU (show ¬(0<d/\Int.gcd c d=1)from λh=>k1 ⟨k3,h⟩)]at l2;exact ab7
  ·rw[eU k3]at l1;exact ab7
def qz (q:Sp)(hq:qy q):ac 224 [(true,sp q)] (.one (I (dG q))):=by
 obtain⟨a,b,c,d⟩:=q;obtain⟨ha,hb,hc,hd⟩:=hq;simp only at ha hb hc hd;change ac 224 [F4 a b c d] _;unfold dG;simp only;have l1:=nE a b ha hb;have l2:=nE c d hc hd;by_cases k1:(0<b/\Int.gcd a b=1)/\0<d/\Int.gcd c d=1
 ·rw[if_pos k1];rw[fG k1.1]at l1;rw[fG k1.2]at l2;by_cases k2:((1<=a/\a<=1000)/\b<=1000)/\(1<=c/\c<=1000)/\d<=1000
  ·rw[if_pos k2];have m1:=Cm k2.1.1 ⟨k1.2.1,k2.2.2⟩;have m2:=Cm k2.2.1 ⟨k1.1.1,k2.1.2⟩;have g:=JW a b c d K0 K0;unfold Qu at g;by_cases k:c*b<a*d
   ·rw[if_neg K0,if_pos k]at g;rw[if_pos k];exact UZ
   ·rw[if_neg k];by_cases k':a*d<c*b
    ·rw[if_pos k']at g;exact UZ
    ·rw[if_neg k',if_neg k]at g;exact UZ
  ·rw[if_neg k2];exact UZ
 ·rw[if_neg k1];by_cases k3:0<b/\Int.gcd a b=1
  ·rw[fG k3]at l1;rw[eU (show ¬(0<d/\Int.gcd c d=1)from λh=>k1 ⟨k3,h⟩)]at l2;exact UZ
  ·rw[eU k3]at l1;exact UZ
def aV (e:Int)(q:Sp)(ch:List Sp):Int:=if 0<=e/\e<=100 then(if dG q≠0 then dG q else if ch.length<=4 then fs (ch.map dG)else 8)else 2
def JX {ch:List Sp}{i:Nat}(h:i<ch.length):(ch.map sp)[i]? =some (sp (ch.getD i (0,0,0,0))):=by grind
def D9 {ch:List Sp}{i:Nat}(h:i<ch.length):ch.getD i (0,0,0,0)∈ch:=by grind
def TJ {ch:List Sp}{i:Nat}(h:i<ch.length):fs ((ch.drop i).map dG)=if dG (ch.getD i (0,0,0,0))≠0 then dG (ch.getD i (0,0,0,0))else fs ((ch.drop (i+1)).map dG):=by grind[List.drop_eq_getElem_cons,fs]
def k5 (e:Int)(q:Sp)(ch:List Sp)(hq:qy q)(vH: ∀s∈ch,qy s)(hl:ch.length<=4294967296):ac 139 [Ru e q ch] (.one (I (aV e q ch))):=by
 have f3:=fs3 (if 0<=e/\e<=100 then 0 else 2) (dG q) (if((ch.map sp).length :Int)<=4 then 0 else 8);have g:=vY q hq;have key:aV e q ch=if fs [if 0<=e/\e<=100 then 0 else 2,dG q,if((ch.map sp).length :Int)<=4 then 0 else 8]≠0 then fs [if 0<=e/\e<=100 then 0 else 2,dG q,if((ch.map sp).length :Int)<=4 then 0 else 8]else fs (ch.map dG):=by grind[aV]
 rw[key];clear key f3;refine sF f139 ?_;repeat((first|(refine kO 7 rfl ?_;first|refine Rq (eP _ _ _) ?_|refine Rq (nX _) ?_|refine rG (λ_ z=>⟨_,g9 _ (fO rfl),z⟩) ?_)|refine tX 0 ?_|exact Zt);(try conv=>whnf))
 (refine bR ?_ ?_<;>intro h<;>(try conv=>whnf))
 ·(try(refine tX 0 ?_;try exact Zt))
  rw[if_pos h];(first|done|rfl|exact True.intro)
 ·rw[if_neg h]
  (try(refine tX 0 ?_;try exact Zt))
  refine af (ι:=Nat) (λi=>i<=ch.length/\fs (ch.map dG)=fs ((ch.drop i).map dG)) (λi=>ch.length -i) (λi=>⟨[(25,some (.val (false,[.st (.view (ch.map sp))]))),(26,vI ch.length),(27,vI i)],[],0⟩) 0 (ai aka) ⟨dM _,rfl⟩ ?_;rintro i ⟨hi,he⟩
  (try(refine tX 0 ?_;try exact Zt))
  (refine bR ?_ ?_<;>intro h<;>(try conv=>whnf))
  ·have ak:i<ch.length:=by omega
   have iQ:=JX ak;have g:=vY _ (vH _ (D9 ak));rw[TJ ak]at he
   (try(refine tX 0 ?_;try exact Zt))
   (refine bR ?_ ?_<;>intro h<;>(try conv=>whnf))
   ·exact ai7
   ·rw[if_neg h]at he;exact tL
  ·exact aiz
abbrev FnQ (f:Nat):SV:=(false,[.fn f [] []])
def M9 {s:List UInt8}(hl:s.length<=1000000){n:Int}(h:wN false 4 s=some n):ac 259 [SS s] (.aJ [I n,Bo true]):=by
 have c:=rI (d:=4) K9 hl h;refine sF f259 ?_;exact K1
def Na {s:List UInt8}(hl:s.length<=1000000)(h:wN false 4 s=none): ∃v,ac 259 [SS s] (.aJ [I v,Bo false]):=by
 obtain⟨v,c⟩:=rJ (d:=4) hl h;refine⟨v,?_⟩;refine sF f259 ?_;exact K1
def nG {s:List UInt8}(hl:s.length<=1000000): ∃v,ac 259 [SS s] (.aJ [I v,Bo (wN false 4 s).isSome])/\∀n,wN false 4 s=some n->v=n:=by
 cases h:wN false 4 s with
 |some n=>exact⟨n,M9 hl h,λm hm=>by simpa using hm⟩
 |none=>
  obtain⟨v,c⟩:=Na hl h;exact⟨v,c,λm hm=>by cases hm⟩
def acW (s:List UInt8)(hl:s.length<=1000000): ∃v u,ac 258 [SS s,SS [47],FnQ 259] (.aJ [I v,I u,Bo (uS s).isSome])/\∀p,uS s=some p->p=(v,u):=by
 rcases uR s 47 with⟨h1,h2⟩|⟨a,b,h1,h2,h3,h4⟩
 ·have c1:=gh s 47 hl;rw[h1]at c1;obtain⟨v,c2,_⟩:=nG hl;obtain⟨u,c3,_⟩:=nG (s:=[]) (by simp);have e:uS s=none:=yD h2;rw[e];refine⟨v,u,?_,λp hp=>by cases hp⟩;show nN _ _ _ _ (.aJ [I v,I u,Bo false]);generalize (wN false 4 s).isSome =x at*;generalize (wN false 4 []).isSome =y at*;refine sF f258 ?_;exact aiA
 ·have c1:=gh s 47 hl;rw[h1]at c1;obtain⟨v,c2,k2⟩:=nG (s:=a) K0;obtain⟨u,c3,k3⟩:=nG (s:=b) K0
  have e:uS s=(wN false 4 a).bind λx=>(wN false 4 b).map λy=>(x,y):=by
   unfold uS;exact yE (c:=47) (λs=>JQ (.inl rfl)) h2
  rw[e];refine⟨v,u,?_,λp hp=>?_⟩
  ·rw[oE.1];clear e k2 k3;generalize (wN false 4 a).isSome =x at*;generalize (wN false 4 b).isSome =y at*;refine sF f258 ?_;exact ahX
  ·exact aj3
def nH (s:List UInt8)(hl:s.length<=1000000): ∃v u,ac 209 [SS s] (.aJ [F2 v u,Bo (uS s).isSome])/\∀p,uS s=some p->p=(v,u):=by
 obtain⟨v,u,c,k⟩:=acW s hl;refine⟨v,u,?_,k⟩;generalize (uS s).isSome =x at*;refine sF f209 ?_;exact K1
def ZF (s:List UInt8)(hl:s.length<=1000000): ∃v u v' u',ac 208 [SS s,SS [32],FnQ 209] (.aJ [F2 v u,F2 v' u',Bo (Bk s).isSome])/\∀p,Bk s=some p->p=(v,u,v',u'):=by
 rcases uR s 32 with⟨h1,h2⟩|⟨a,b,h1,h2,h3,h4⟩
 ·have c1:=gh s 32 hl;rw[h1]at c1;obtain⟨v,u,c2,_⟩:=nH s hl;obtain⟨v',u',c3,_⟩:=nH [] (by simp);have e:Bk s=none:=by unfold Bk;rw[yD h2];rfl
  rw[e];refine⟨v,u,v',u',?_,λp hp=>by cases hp⟩;show nN _ _ _ _ (.aJ [F2 v u,F2 v' u',Bo false]);generalize (uS s).isSome =x at*;generalize (uS []).isSome =y at*;refine sF f208 ?_;exact aiA
 ·have c1:=gh s 32 hl;rw[h1]at c1;obtain⟨v,u,c2,k2⟩:=nH a K0;obtain⟨v',u',c3,k3⟩:=nH b K0
  have e:Bk s=((uS a).bind λx=>(uS b).map λy=>(x,y)).map λp=>(p.1.1,p.1.2,p.2.1,p.2.2):=by
   unfold Bk;rw[yE (c:=32) (λs=>alz) h2]
  rw[e];refine⟨v,u,v',u',?_,λp hp=>?_⟩
  ·rw[SM,oE.1];clear e k2 k3;generalize (uS a).isSome =x at*;generalize (uS b).isSome =y at*;refine sF f208 ?_;exact ahX
  ·exact afC
def JY (s:List UInt8)(hl:s.length<=1000000): ∃q,ac 138 [SS s] (.aJ [(true,sp q),Bo (Bk s).isSome])/\∀p,Bk s=some p->p=q:=by
 obtain⟨v,u,v',u',c,k⟩:=ZF s hl;refine⟨(v,u,v',u'),?_,k⟩;generalize (Bk s).isSome =x at*;refine sF f138 ?_;exact K1
def Ea (s:List UInt8)(hl:s.length<=1000000): ∃v,ac 145 [SS s] (.aJ [I v,Bo (wN false 4 s).isSome])/\∀n,wN false 4 s=some n->v=n:=by
 have c:=iC s 4 K9 hl
 cases h:fP 4 s with
 |none=>
  rw[h]at c;rw[TA h];refine⟨0,?_,λn hn=>by cases hn⟩;refine sF f145 ?_;exact K41
 |some n=>
  rw[h]at c;have bA:=yC h;rw[Qd h];by_cases Lb:(s.getD 0 0).toNat =45
  ·rw[if_pos Lb];refine⟨n,?_,λn hn=>by cases hn⟩;refine sF f145 ?_
   (try(refine tX 0 ?_;try exact Zt))
   (try(refine tX 0 ?_;try exact Zt))
   exact mG (c:=false) (by rw[Lb];rfl)
  ·rw[if_neg Lb];refine⟨n,?_,λm hm=>by simpa using hm⟩;refine sF f145 ?_
   (try(refine tX 0 ?_;try exact Zt))
   (try(refine tX 0 ?_;try exact Zt))
   exact mG (c:=true) (bne_iff_ne.2 K0)
def HY (s:List UInt8)(hl:s.length<=10000): ∃v u,ac 223 [SS s] (.aJ [F2 v u,Bo (uS s).isSome])/\∀p,uS s=some p->p=(v,u):=by
 obtain⟨h3,h4⟩:=cd 47 s;have c1:=jY s 47 K0;rw[show(47:UInt8).toNat =47 from rfl,iL]at c1;have e:uS s=DU (wN false 4) (wN false 4) (ar 47 s):=rfl;rw[e];clear e;generalize ar 47 s=ws at*;have hn:=eh ws
 match ws,h4 with
 | [],_=>
  refine⟨0,0,?_,λp hp=>by cases hp⟩;refine sF f223 ?_;refine aS ?_;(refine aR ?_;conv=>whnf);(try(refine tX 2 ?_;try exact Zt));refine aQ ?_;(refine aR ?_;conv=>whnf);(try(refine tX 2 ?_;try exact Zt));refine⟨_,dj 6 rfl,?_⟩;exact K1
 | [a],_=>
  refine⟨0,0,?_,λp hp=>by cases hp⟩;refine sF f223 ?_;refine aS ?_;(refine aR ?_;conv=>whnf);(try(refine tX 2 ?_;try exact Zt));refine aQ ?_;(refine aR ?_;conv=>whnf);(try(refine tX 2 ?_;try exact Zt));refine⟨_,dj 6 rfl,?_⟩;exact K1
 | [a,b],h4=>
  obtain⟨v,c2,k2⟩:=Ea a akl;obtain⟨u,c3,k3⟩:=Ea b akk;refine⟨v,u,?_,λp hp=>?_⟩
  ·show nN _ _ _ _ (.aJ [F2 v u,Bo (Option.isSome ((wN false 4 a).bind λx=>(wN false 4 b).map λy=>(x,y)))]);rw[oE.1];clear k2 k3;generalize (wN false 4 a).isSome =x at*;generalize (wN false 4 b).isSome =y at*;refine sF f223 ?_;exact K59
  ·exact aj3
 |a::b::c::r,_=>
  have bA:(ab (a::b::c::r)).length =r.length+3:=by simp
  refine⟨0,0,?_,λp hp=>by cases hp⟩;refine sF f223 ?_;refine aS ?_;(refine aR ?_;conv=>whnf);(try(refine tX 2 ?_;try exact Zt));refine aQ ?_;(refine aR ?_;conv=>whnf);(try(refine tX 2 ?_;try exact Zt));refine⟨_,dj 6 rfl,?_⟩;exact K1
def VO (s:List UInt8)(hl:s.length<=10000): ∃q,ac 146 [SS s] (.aJ [(true,sp q),Bo (Bk s).isSome])/\∀p,Bk s=some p->p=q:=by
 obtain⟨h3,h4⟩:=cd 32 s;have c1:=jY s 32 K0;rw[show(32:UInt8).toNat =32 from rfl,iL]at c1;have e:Bk s=(DU uS uS (ar 32 s)).map (λp=>(p.1.1,p.1.2,p.2.1,p.2.2)):=rfl;rw[e];clear e;generalize ar 32 s=ws at*;have hn:=eh ws
 match ws,h4 with
 | [],_=>
  refine⟨(0,0,0,0),?_,λp hp=>by cases hp⟩;refine sF f146 ?_;refine aS ?_;(refine aR ?_;conv=>whnf);(try(refine tX 2 ?_;try exact Zt));refine aQ ?_;(refine aR ?_;conv=>whnf);(try(refine tX 2 ?_;try exact Zt));refine⟨_,dj 6 rfl,?_⟩;exact K1
 | [a],_=>
  refine⟨(0,0,0,0),?_,λp hp=>by cases hp⟩;refine sF f146 ?_;refine aS ?_;(refine aR ?_;conv=>whnf);(try(refine tX 2 ?_;try exact Zt));refine aQ ?_;(refine aR ?_;conv=>whnf);(try(refine tX 2 ?_;try exact Zt));refine⟨_,dj 6 rfl,?_⟩;exact K1
 | [a,b],h4=>
  obtain⟨v,u,c2,k2⟩:=HY a akl;obtain⟨v',u',c3,k3⟩:=HY b akk;refine⟨(v,u,v',u'),?_,λp hp=>?_⟩
  ·show nN _ _ _ _ (.aJ [(true,sp (v,u,v',u')),Bo (Option.isSome (((uS a).bind λx=>(uS b).map λy=>(x,y)).map λp=>(p.1.1,p.1.2,p.2.1,p.2.2)))]);rw[SM,oE.1];clear k2 k3;generalize (uS a).isSome =x at*;generalize (uS b).isSome =y at*;refine sF f146 ?_;exact K59
  ·exact afC
 |a::b::c::r,_=>
  have bA:(ab (a::b::c::r)).length =r.length+3:=by simp
  refine⟨(0,0,0,0),?_,λp hp=>by cases hp⟩;refine sF f146 ?_;refine aS ?_;(refine aR ?_;conv=>whnf);(try(refine tX 2 ?_;try exact Zt));refine aQ ?_;(refine aR ?_;conv=>whnf);(try(refine tX 2 ?_;try exact Zt));refine⟨_,dj 6 rfl,?_⟩;exact K1
def alE {x y A B:Int}(hx: -A<=x/\x<=A)(hy: -B<=y/\y<=B)(hA:0<=A): -(A*B)<=x*y/\x*y<=A*B:=by
 have h:(x*y).natAbs <=A.natAbs*B.natAbs:=by rw[Yc];exact X9 K0 K0
 rw[<- Yc]at h;have h2:0<=A*B:=CO hA K0;omega
abbrev Rr (l:List Int)(e:Int):SV:=(true,[.ints l,J e])
def jC {l:List Int}{lo hi:Int}(h:iZ l lo hi){i:Nat}(kH:i<l.length):lo<=l.getD i 0/\l.getD i 0<=hi:=h _ (qx kH)
def Z9 {l:List Int}(h0:0<l.length)(hl:l.length<=maxLen):ac 216 [L l] (.one (I (py l))):=by
 unfold maxLen at hl;have p1:Ct l 1=0:=by grind[Ct]
 refine sF f216 ?_
 (try(refine tX 0 ?_;try exact Zt))
 refine af (ι:=Nat) (λi=>1<=i/\i<=l.length) (λi=>l.length -i) (λi=>⟨[(0,vL l),(3,vI (l.getD (Ct l i) 0)),(4,vI i)],[],0⟩) 1 (ai (by rw[p1];kernel_rfl)) ⟨dz _,h0⟩ ?_;rintro i ⟨zG,hi⟩;have hs:(if l.getD i 0>l.getD (Ct l i) 0 then l.getD i 0 else l.getD (Ct l i) 0)=l.getD (Ct l (i+1)) 0:=by grind[Ct]
 (try(refine tX 0 ?_;try exact Zt))
 (refine bR ?_ ?_<;>intro h<;>(try conv=>whnf))
 ·have ak:i<l.length:=by omega
  (try(refine tX 0 ?_;try exact Zt))
  exact⟨i+1,⟨by omega,ak⟩,by omega,ai (by rw[<- hs];kernel_rfl)⟩
 ·obtain rfl:i=l.length:=by omega
  exact tL
def J9 {l:List Int}(h0:0<l.length)(hl:l.length<=maxLen):ac 217 [L l,I (py l)] (.one (I (pk l:Nat))):=by
 unfold maxLen at hl;have hp:pk l<l.length:=Av h0;refine sF f217 ?_
 (try(refine tX 0 ?_;try exact Zt))
 refine af (ι:=Nat) (λi=>i<=pk l) (λi=>l.length -i) (λi=>⟨[(0,vL l),(1,vI (py l)),(7,vI l.length),(8,vI i)],[],0⟩) 0 Zc (dM _) ?_;intro i hi;by_cases he:i=pk l
 ·subst he;have:l.getD (pk l) 0=py l:=rfl;exact tL
 ·have ak:i<pk l:=by omega
  have:l.getD i 0<py l:=If ak;exact tL
def QN {l:List Int}(h0:0<l.length)(h:iZ l (-4096) 4096): -4096<=py l/\py l<=4096:=jC h (Av h0)
def Wm {l:List Int}{e:Int}(h0:0<l.length)(hl:l.length<=maxLen)(h:iZ l (-4096) 4096)(he:0<=e/\e<=1000):ac 142 [Rr l e] (.aJ [I (pk l:Nat),F2 (py l -e) (py l+e)]):=by
 have hv:=QN h0 h;have g1:=Z9 h0 hl;have g2:=J9 h0 hl;refine sF f142 ?_;exact tL
def EK (l:List Int)(g:FuncId)(first:List (Bool × List SC))(bI:List (List SC))(p:Int->Bool)(hp: ∀n∈l,ac g (first++[I n]++bI.map λcs=>(false,[.ref cs])) (.one (Bo (p n))))(hl:l.length<=maxLen):
  ac 267 [L l,(false,[.fn g first bI])] (.one (I (fF p l 0))):=by
 unfold maxLen at hl;refine sF f267 ?_
 (try(refine tX 0 ?_;try exact Zt))
 refine af (ι:=Nat) (λi=>i<=l.length/\fF p l 0=fF p l i) (λi=>l.length -i) (λi=>⟨[(0,vL l),(1,some (.val (false,[.st (.fn g first bI)]))),(7,vI l.length),(8,vI i)],[],0⟩) 0 Zc ⟨dM _,rfl⟩ ?_;rintro i ⟨hi,hf⟩
 (try(refine tX 0 ?_;try exact Zt))
 (refine bR ?_ ?_<;>intro h<;>(try conv=>whnf))<;>((try(refine tX 0 ?_;try exact Zt)))
 ·have ak:i<l.length:=by omega
  have hc:=hp _ (qx (d:=0) ak);rw[vg ak]at hf
  (try(refine tX 0 ?_;try exact Zt))
  (refine bR ?_ ?_<;>intro h<;>(try conv=>whnf))<;>((try(refine tX 0 ?_;try exact Zt)))
  ·rw[hf,if_pos h];(first|done|rfl|exact True.intro)
  ·rw[if_neg h]at hf;exact⟨i+1,⟨ak,hf⟩,by omega,Zc⟩
 ·obtain rfl:i=l.length:=by omega
  rw[hf,J8];(first|done|rfl|exact True.intro)
def adh (p:Int->Bool)(l:List Int)(a:Nat):fF p l a=if fF p (l.drop a) 0>=0 then(a:Int)+fF p (l.drop a) 0 else -1:=by
 unfold fF
 grind
def za (l:List Int)(e:Int)(a:Nat)(g:FuncId)(first:List (Bool × List SC))(bI:List (List SC))(p:Int->Bool)(ha:a<=l.length)(hp: ∀n∈l,ac g (first++[I n]++bI.map λcs=>(false,[.ref cs])) (.one (Bo (p n))))(hl:l.length<=maxLen):
  ac 218 [Rr l e,I (a:Nat),(false,[.fn g first bI])] (.one (I (fF p l a))):=by
 have hld:(l.drop a).length <=maxLen:=by grind
 have c:=EK (l.drop a) g first bI p (λn hn=>hp n (PA hn)) hld
 have c':ac 267 [L (l.drop (a:Int).toNat),(false,[.fn g first bI])] (.one (I (fF p (l.drop a) 0))):=c;rw[adh];have hb:=Z8 p (l.drop a) (dM _);rw[SR]at hb;unfold maxLen at hl;refine sF f218 ?_
 (try(refine tX 0 ?_;try exact Zt))
 (refine bR ?_ ?_<;>intro h<;>(try conv=>whnf))
 ·(try(refine tX 0 ?_;try exact Zt))
  grind;(first|done|rfl|exact True.intro)
 ·exact afJ
def EL (e t x:Int):Int->Bool:=λn=>decide (10*(n+e)>=t*x)
def EM (e t x:Int):Int->Bool:=λn=>decide (10*(n -e)>=t*x)
def Ka (e x:Int):Int->Bool:=λn=>decide (2*(n -e)<=x)
def Kb (e x:Int):Int->Bool:=λn=>decide (2*(n+e)<=x)
abbrev smp (n:Int):Prop:= -10000<=n/\n<=10000
def Kc {t x:Int}(ht:0<=t/\t<=10)(hx:smp x): -100000<=t*x/\t*x<=100000:=alE (A:=10) (B:=10000) K0 hx K0
def QO (n:Int)(l:List Int)(e t x y:Int)(hn:smp n)(he:0<=e/\e<=1000)(ht:0<=t/\t<=10)(hx:smp x):ac 219 [I n,(false,[.ref [.ints l,J e]]),(false,[.ref [J t]]),(false,[.ref [J x,J y]])] (.one (Bo (EL e t x n))):=by
 have:=Kc ht hx;refine sF f219 ?_;exact tL
def QP (n:Int)(l:List Int)(e t x y:Int)(hn:smp n)(he:0<=e/\e<=1000)(ht:0<=t/\t<=10)(hy:smp y):ac 220 [I n,(false,[.ref [.ints l,J e]]),(false,[.ref [J t]]),(false,[.ref [J x,J y]])] (.one (Bo (EM e t y n))):=by
 have:=Kc ht hy;refine sF f220 ?_;exact tL
def Wn (n:Int)(l:List Int)(e x y:Int)(hn:smp n)(he:0<=e/\e<=1000):ac 221 [I n,(false,[.ref [.ints l,J e]]),(false,[.ref [J x,J y]])] (.one (Bo (Ka e y n))):=by
 refine sF f221 ?_;exact tL
def Wo (n:Int)(l:List Int)(e x y:Int)(hn:smp n)(he:0<=e/\e<=1000):ac 222 [I n,(false,[.ref [.ints l,J e]]),(false,[.ref [J x,J y]])] (.one (Bo (Kb e x n))):=by
 refine sF f222 ?_;exact tL
def Ig {l:List Int}{e t x y:Int}(hl:l.length<=maxLen)(h:iZ l (-4096) 4096)(he:0<=e/\e<=1000)(ht:0<=t/\t<=10)(hx:smp x)(hy:smp y):ac 143 [Rr l e,I t,F2 x y] (.one (F2 (fF (EL e t x) l 0) (fF (EM e t y) l 0))):=by
 have c1:=za l e 0 219 [] [[.ints l,J e],[J t],[J x,J y]] (EL e t x) (dM _) (λn hn=>QO n l e t x y abV he ht hx) hl;have c2:=za l e 0 220 [] [[.ints l,J e],[J t],[J x,J y]] (EM e t y) (dM _) (λn hn=>QP n l e t x y abV he ht hy) hl;have c1':ac 218 [Rr l e,I 0,(false,[.fn 219 [] [[.ints l,J e],[J t],[J x,J y]]])] (.one (I (fF (EL e t x) l 0))):=c1;have c2':ac 218 [Rr l e,I 0,(false,[.fn 220 [] [[.ints l,J e],[J t],[J x,J y]]])] (.one (I (fF (EM e t y) l 0))):=c2;refine sF f143 ?_
 (try(refine tX 1 ?_;try exact Zt))
 exact K7
def aaa {l:List Int}{e x y:Int}{a:Nat}(ha:a<l.length)(hl:l.length<=maxLen)(h:iZ l (-4096) 4096)(he:0<=e/\e<=1000):ac 144 [Rr l e,I (a:Nat),F2 x y] (.one (F2 (fF (Ka e y) l (a+1)) (fF (Kb e x) l (a+1)))):=by
 have c1:=za l e (a+1) 221 [] [[.ints l,J e],[J x,J y]] (Ka e y) ha (λn hn=>Wn n l e x y abV he) hl;have c2:=za l e (a+1) 222 [] [[.ints l,J e],[J x,J y]] (Kb e x) ha (λn hn=>Wo n l e x y abV he) hl;unfold maxLen at hl;rw[Int.natCast_add,Int.natCast_one]at c1 c2;refine sF f144 ?_
 (try(refine tX 1 ?_;try exact Zt))
 exact K7
abbrev F9 (a b c d e f g h i:Int):SV:=(true,[J a,J b,J c,J d,J e,J f,J g,J h,J i])
abbrev vB (b:Bool):Option DV:=some (.val (false,[.st (.lit (.bool b))]))
abbrev zd (n:Int):Prop:=0<=n/\n<=63
abbrev adi (n:Int):Prop:=1<=n/\n<=4196
abbrev TY (t p q a b c d e f:Int):Prop:=(zd t/\adi p/\adi q)/\(zd a/\zd b)/\(zd c/\zd d)/\zd e/\zd f
abbrev Ke (p q a b c d e f:Int):Prop:=p<=q/\a<=b/\c<=d/\e<=f
def eT (t p q a b c d e f:Int):Int:=if TY t p q a b c d e f then(if Ke p q a b c d e f then 0 else 9)else 2
def ib (b0 b1 b2 b3:Bool):Nat->Bool
 |0=>b0
 |1=>b0&&b1
 |2=>(b0&&b1)&&b2
 |_=>((b0&&b1)&&b2)&&b3
def ze (t p q a b c d e f:Int)(x1 x2 x3 x4 x5 x6 x7 x8 x9:Bool)(h1:ac 212 [I t,I 0,I 63] (.one (Bo x1)))(h2:ac 212 [I p,I 1,I 4196] (.one (Bo x2)))(h3:ac 212 [I q,I 1,I 4196] (.one (Bo x3)))
  (h4:ac 212 [I a,I 0,I 63] (.one (Bo x4)))(h5:ac 212 [I b,I 0,I 63] (.one (Bo x5)))(h6:ac 212 [I c,I 0,I 63] (.one (Bo x6)))(h7:ac 212 [I d,I 0,I 63] (.one (Bo x7)))(h8:ac 212 [I e,I 0,I 63] (.one (Bo x8)))(h9:ac 212 [I f,I 0,I 63] (.one (Bo x9))):
  ac 293 [F9 t p q a b c d e f] (.one (I (fs [if ib (x1&&x2&&x3) (x4&&x5) (x6&&x7) (x8&&x9) 3=true then 0 else 2,if ib (decide (p<=q)) (decide (a<=b)) (decide (c<=d)) (decide (e<=f)) 3=true then 0 else 9]))):=by
 refine sF f293 ?_;refine aS ?_;(refine aR ?_;conv=>whnf);(try(refine tX 2 ?_;try exact Zt));refine acu (ι:=Unit) (λ_=>True) (λ_=>⟨[(1,pP 0),(3,vB (x1&&x2&&x3))],[(0,some (.box 78 [.st (J t),.st (J p),.st (J q),.st (J a),.st (J b),.st (J c),.st (J d),.st (J e),.st (J f)]))],1⟩) ?_ ?_
 ·refine aR ?_
  (conv=>whnf)
  repeat' ((first|refine tX 0 ?_|exact Zt|refine bR ?_ ?_<;>intro h)<;>(try conv=>whnf))
  all_goals((try simp only[LM]at*);subst_vars;exact⟨(),trivial,Zc⟩)
 ·generalize (x1&&x2&&x3)=z0;intro _ _
  (try(refine tX 0 ?_;try exact Zt))
  refine af (ι:=Nat) (λi=>i<=3) (λi=>3 -i) (λi=>⟨[(3,vB (ib z0 (x4&&x5) (x6&&x7) (x8&&x9) i)),(4,vB (ib (decide (p<=q)) (decide (a<=b)) (decide (c<=d)) (decide (e<=f)) i)),(35,some (.val (true,[.st (J a),.st (J b),.st (J c),.st (J d),.st (J e),.st (J f)]))),(36,vI i)],[],1⟩) 0 Zc (dM _) ?_;intro i hi;rcases(show i=0\/i=1\/i=2\/i=3 by omega)with rfl|rfl|rfl|rfl
  ·have e1:ib z0 (x4&&x5) (x6&&x7) (x8&&x9) (0+1)=(ib z0 (x4&&x5) (x6&&x7) (x8&&x9) 0&&(x4&&x5)):=rfl;have e2:ib (decide (p<=q)) (decide (a<=b)) (decide (c<=d)) (decide (e<=f)) (0+1)=(ib (decide (p<=q)) (decide (a<=b)) (decide (c<=d)) (decide (e<=f)) 0&&decide (a<=b)):=rfl;generalize ib z0 (x4&&x5) (x6&&x7) (x8&&x9) 0=z at e1 ⊢;generalize ib (decide (p<=q)) (decide (a<=b)) (decide (c<=d)) (decide (e<=f)) 0=v at e2 ⊢;repeat' ((first|refine tX 0 ?_|exact Zt|refine bR ?_ ?_<;>intro h)<;>(try conv=>whnf))
   all_goals((try simp only[LM]at*);subst_vars;exact⟨0+1,by omega,by omega,ai af2⟩)
  ·have e1:ib z0 (x4&&x5) (x6&&x7) (x8&&x9) (1+1)=(ib z0 (x4&&x5) (x6&&x7) (x8&&x9) 1&&(x6&&x7)):=rfl;have e2:ib (decide (p<=q)) (decide (a<=b)) (decide (c<=d)) (decide (e<=f)) (1+1)=(ib (decide (p<=q)) (decide (a<=b)) (decide (c<=d)) (decide (e<=f)) 1&&decide (c<=d)):=rfl;generalize ib z0 (x4&&x5) (x6&&x7) (x8&&x9) 1=z at e1 ⊢;generalize ib (decide (p<=q)) (decide (a<=b)) (decide (c<=d)) (decide (e<=f)) 1=v at e2 ⊢;repeat' ((first|refine tX 0 ?_|exact Zt|refine bR ?_ ?_<;>intro h)<;>(try conv=>whnf))
   all_goals((try simp only[LM]at*);subst_vars;exact⟨1+1,by omega,by omega,ai af2⟩)
  ·have e1:ib z0 (x4&&x5) (x6&&x7) (x8&&x9) (2+1)=(ib z0 (x4&&x5) (x6&&x7) (x8&&x9) 2&&(x8&&x9)):=rfl;have e2:ib (decide (p<=q)) (decide (a<=b)) (decide (c<=d)) (decide (e<=f)) (2+1)=(ib (decide (p<=q)) (decide (a<=b)) (decide (c<=d)) (decide (e<=f)) 2&&decide (e<=f)):=rfl;generalize ib z0 (x4&&x5) (x6&&x7) (x8&&x9) 2=z at e1 ⊢;generalize ib (decide (p<=q)) (decide (a<=b)) (decide (c<=d)) (decide (e<=f)) 2=v at e2 ⊢;repeat' ((first|refine tX 0 ?_|exact Zt|refine bR ?_ ?_<;>intro h)<;>(try conv=>whnf))
   all_goals((try simp only[LM]at*);subst_vars;exact⟨2+1,by omega,by omega,ai af2⟩)
  ·generalize ib z0 (x4&&x5) (x6&&x7) (x8&&x9) 3=z;generalize ib (decide (p<=q)) (decide (a<=b)) (decide (c<=d)) (decide (e<=f)) 3=v;repeat((first|(refine kO 7 rfl ?_;first|refine Rq (mH _ _) ?_|refine rG (λ_ z=>⟨_,g9 _ (fO rfl),z⟩) ?_)|refine tX 0 ?_|exact Zt);(try conv=>whnf))
   exact K7
def Wq (t p q a b c d e f:Int):fs [if ib (decide (zd t)&&decide (adi p)&&decide (adi q)) (decide (zd a)&&decide (zd b)) (decide (zd c)&&decide (zd d)) (decide (zd e)&&decide (zd f)) 3=true then 0 else 2,if ib (decide (p<=q)) (decide (a<=b)) (decide (c<=d)) (decide (e<=f)) 3=true then 0 else 9]=eT t p q a b c d e f:=by
 unfold eT ib;simp only[<- X8,SL];by_cases h:TY t p q a b c d e f
 ·rw[if_pos h,if_pos (by obtain⟨⟨h1,h2,h3⟩,h4,h5,h6⟩:=h;exact⟨⟨⟨⟨⟨h1,h2⟩,h3⟩,h4⟩,h5⟩,h6⟩)];by_cases h':Ke p q a b c d e f
  ·rw[if_pos h',if_pos (by obtain⟨k1,k2,k3,k4⟩:=h';exact⟨⟨⟨k1,k2⟩,k3⟩,k4⟩)];rfl
  ·rw[if_neg h',if_neg (by intro k;exact h' ⟨k.1.1.1,k.1.1.2,k.1.2,k.2⟩)];rfl
 ·rw[if_neg h,if_neg (by intro k;exact h ⟨⟨k.1.1.1.1.1,k.1.1.1.1.2,k.1.1.1.2⟩,k.1.1.2,k.1.2,k.2⟩)];simp[fs]
def Aw (t p q a b c d e f:Int):ac 293 [F9 t p q a b c d e f] (.one (I (eT t p q a b c d e f))):=by
 rw[<- Wq];exact ze _ _ _ _ _ _ _ _ _ _ _ _ _ _ _ _ _ _ (eP _ _ _) (eP _ _ _) (eP _ _ _) (eP _ _ _) (eP _ _ _) (eP _ _ _) (eP _ _ _) (eP _ _ _) (eP _ _ _)
end Go.Proofs.Tryz
