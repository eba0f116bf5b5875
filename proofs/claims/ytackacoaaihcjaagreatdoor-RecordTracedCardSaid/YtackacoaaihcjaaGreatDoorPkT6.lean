import Derived.Test.YtackacoaaihcjaaGreatDoorPkT2
set_option linter.all false
set_option maxRecDepth 100000
set_option maxHeartbeats 8000000
namespace Go.Proofs.Tryz
open Go.Fw Go.IntWalk Go.Plain
def pK (x y:Nat)(hx:(be x).length <=1000000)(_hy:(be y).length <=1000000):ad 394 [L (be x),L (be y)] (.one (I (wU x y))):=by
 have cx':=rB x;have cy':=rB y;have vx:=bp x;have vy:=bp y;have l1:(be x).length < (be y).length ->x<y:=λh=>by have:=Qr cx' cy' h;omega
 have l2:(be y).length < (be x).length ->y<x:=λh=>by have:=Qr cy' cx' h;omega
 have t1: ∀i,(be x).length =(be y).length ->i< (be x).length ->(be x).drop (i+1)=(be y).drop (i+1)->(be x).getD i 0< (be y).getD i 0->x<y:=λi a b c d=>by have:=Zu cx'.1 cy'.1 a b c d;omega
 have t2: ∀i,(be x).length =(be y).length ->i< (be x).length ->(be x).drop (i+1)=(be y).drop (i+1)->(be y).getD i 0< (be x).getD i 0->y<x:=λi a b c d=>by have:=Zu cy'.1 cx'.1 a.symm K0 c.symm d;omega
 have t3:be x=be y->x=y:=λh=>by grind
 generalize be x=a at*;generalize be y=b at*;clear vx vy cx' cy';unfold wU;refine sF f394 ?_
 (try(refine tX 0 ?_;try exact Zt))
 (refine bR ?_ ?_<;>intro h<;>(try conv=>whnf))
 ·(try(refine tX 0 ?_;try exact Zt))
  (refine bR ?_ ?_<;>intro h<;>(try conv=>whnf))
  ·exact K97
  ·exact K97
 ·have hl:a.length=b.length:=by omega
  (try(refine tX 0 ?_;try exact Zt))
  refine af (ι:=Nat) (λm=>m<=a.length/\a.drop m=b.drop m) (λm=>m) (λm=>⟨[(0,vL a),(1,vL b),(5,vI ((m:Int) -1))],[],0⟩) a.length Zc ⟨dw _,by grind⟩ ?_;rintro m ⟨hm,hd⟩
  cases m with
  |zero=>
   exact K97
  |succ m=>
   have e1:(((m+1:Nat):Int) -1).toNat =m:=by omega
   have e2:((m+1:Nat):Int) -1=(m:Int):=by omega
   rw[e2]
   (try(refine tX 0 ?_;try exact Zt))
   (refine bR ?_ ?_<;>intro h<;>(try conv=>whnf))
   ·exact K97
   ·(try(refine tX 0 ?_;try exact Zt))
    (refine bR ?_ ?_<;>intro h<;>(try conv=>whnf))
    ·exact K97
    ·(try(refine tX 0 ?_;try exact Zt))
     refine⟨m,⟨by omega,?_⟩,by omega,Zc⟩;rw[nV (d:=0) (show m<a.length by omega),nV (d:=0) (show m<b.length by omega),hd]
     grind
def HZ (l:List Int)(i:Nat):ad 397 [L l,I i] (.one (I (l.getD i 0))):=by
 refine sF f397 ?_
 (try(refine tX 0 ?_;try exact Zt))
 (refine bR ?_ ?_<;>intro h<;>(try conv=>whnf))
 ·(try(refine tX 0 ?_;try exact Zt))
 ·exact K97
def Gj {a b:List Int}(ha:Dg a)(hb:Dg b)(hl:a.length<=1000000/\b.length<=1000000)(e8:a≠[]):ad 398 [L a,L b] (.own 1 (.ints (BU a b (rE a b)))):=by
 have fO:0<a.length:=Lq.2 e8;have hN:rE a b<=1000001:=by grind[rE]
 have hN1:1<=rE a b:=by grind[rE]
 have dig:=HZ;refine sF f398 ?_
 (try(refine tX 0 ?_;try exact Zt))
 refine aD ?_;have d0:=dig a 0;have d0':=dig b 0;have d1:=ha.get 0;have d2:=hb.get 0
 (try(refine tX 0 ?_;try exact Zt))
 refine af (ι:=Nat) (λi=>1<=i/\i<=rE a b) (λi=>rE a b -i) (λi=>⟨[(0,vL a),(1,vL b),(5,pO 0),(6,vI (sI a b i)),(7,vI i)],[(0,some (.row true 1 (.ints (BU a b i))))],1⟩) 1 Zc ⟨dw _,hN1⟩ ?_;clear d0 d0' d1 d2;rintro i ⟨zE,hi⟩;have hc:=HY ha hb hi;have d0:=dig a i;have d0':=dig b i;have d1:=ha.get i;have d2:=hb.get i;have d3:=rC ha hb i;have d4:=Ef a b i;have d5:=HX a b i;by_cases ak:i<rE a b
 ·have IC:=hc.2 ak;repeat' ((first|refine tX 0 ?_|exact Zt|refine bR ?_ ?_<;>intro h)<;>(try conv=>whnf))
  all_goals exact⟨i+1,⟨by omega,ak⟩,by omega,ai (by rw[d5];kernel_rfl)⟩
 ·have IC: ¬(i<a.length\/i<b.length\/sI a b i>0):=λh=>ak (hc.1 h);exact K97
def mj {a b:List Int}(ha:Dg a)(hb:Dg b)(hl:a.length<=1000000/\b.length<=a.length)(eu:aW b<=aW a):ad 395 [L a,L b] (.one (L (be (aW a -aW b).toNat))):=by
 have hd:=Zx ha hb a.length;have he:=acV ha hb hl.2 eu;have dig:=HZ;have ht:=pv (Xe a b a.length) (by grind[Cl]);rw[Cj hd,he]at ht;by_cases e8:a.length=0
 ·have e1:Xe a b a.length= []:=by rw[e8];rfl
  rw[e1]at ht;refine sF f395 ?_
  (try(refine tX 0 ?_;try exact Zt))
  refine aD ?_;exact IV
 ·refine sF f395 ?_
  (try(refine tX 0 ?_;try exact Zt))
  refine aD ?_;have d0':=dig b 0;have d1:=ha.get 0;have d2:=hb.get 0
  (try(refine tX 0 ?_;try exact Zt))
  have g5:Xe a b 1= [sbD a b 0]:=rfl
  (refine bR ?_ ?_<;>intro h<;>(try conv=>whnf))
  ·have e1:FP a b 1=1:=if_pos h;have e2:sbD a b 0=a.getD 0 0 -b.getD 0 0 -0+1000000000:=if_pos h;exact K17
  ·have e1:FP a b 1=0:=if_neg h;have e2:sbD a b 0=a.getD 0 0 -b.getD 0 0 -0:=if_neg h;exact K17
def Sz (k:Nat)(x:Int):Prop:=(be x.natAbs).length <=k
theorem H3 {k:Nat}{x:Int}(h:(x.natAbs:Int)<pw k):Sz k x:=Bq h
theorem TA {k:Nat}{x:Int}(h:Sz k x):(x.natAbs:Int)<pw k:=by
 have h1:=u6 (cX x.natAbs);rw[bp]at h1;have h2:=Ck h;omega
def Sz.mono {k m:Nat}{x:Int}(h:Sz k x)(hm:k<=m):Sz m x:=o3 h hm
def Sz.neg {k:Nat}{x:Int}(h:Sz k x):Sz k (-x):=by grind[Sz]
theorem Sz.add {k:Nat}{x y:Int}(hx:Sz k x)(hy:Sz k y):Sz (k+1) (x+y):=by grind[TA,H3]
def Sz.mul {k m:Nat}{x y:Int}(hx:Sz k x)(hy:Sz m y):Sz (k+m) (x*y):=by
 have h1:=TA hx;have h2:=TA hy;refine H3 ?_;rw[XY,show pw (k+m)=pw k*pw m from Int.pow_add _ _ _];have h3:=R3 h1 (Qp m);have h4:(x.natAbs:Int)*y.natAbs<=x.natAbs*pw m:=Xu K0 K0
 grind
def Bs (x:Int):ad 386 [wd x] (.one (wd (-x))):=by
 have hs: -9223372036854775808<x.sign/\x.sign<=9223372036854775807:=by grind
 refine sF f386 ?_
 (try(refine tX 0 ?_;try exact Zt))
 unfold wd;rw[Int.sign_neg,Int.natAbs_neg];rfl
def iC (x:Int):(x.sign=0↔x=0)/\(x.sign=1↔0<x)/\(x.sign= -1↔x<0)/\(x.sign=0\/x.sign=1\/x.sign= -1):=by grind
def wV (x y:Nat):(wU x y>0↔y<x)/\(wU x y=0↔x=y):=by grind[wU]
def M7 {x y:Int}(hx:Sz 100000 x)(hy:Sz 100000 y):ad 396 [wd x,wd y] (.one (wd (x+y))):=by
 have fx:=iC x;have fy:=iC y;have fc:=wV x.natAbs y.natAbs;have wo: ∀ {s:Int} {l:List Int} {z:Int},Dg l->l.length<=4294967296->(s=1\/s= -1)->s*aW l=z->ad 384 [I s,L l] (.one (wd z)):=λhd hl hs hz=>by rw[<- hz];exact oK hl hd hs
 have AN:(be x.natAbs).length <=100000:=hx;have hy':(be y.natAbs).length <=100000:=hy;have nx:0<x.natAbs->be x.natAbs≠[]:=λh e=>by grind[yN]
 have a1:0<x.natAbs->ad 398 [L (be x.natAbs),L (be y.natAbs)] (.own 1 (.ints (BU (be x.natAbs) (be y.natAbs) (rE (be x.natAbs) (be y.natAbs))))):=λh=>Gj (cX _) (cX _) ⟨by omega,by omega⟩ (nx h);have va:=Zw (cX x.natAbs) (cX y.natAbs);rw[bp,bp]at va;have la:(BU (be x.natAbs) (be y.natAbs) (rE (be x.natAbs) (be y.natAbs))).length <=4294967296:=by rw[Ef];unfold rE;split<;>omega
 have da:=acU (a:=be x.natAbs) (b:=be y.natAbs) (rE (be x.natAbs) (be y.natAbs));have c1:=pK x.natAbs y.natAbs K0 K0
 have s1:y.natAbs<=x.natAbs->ad 395 [L (be x.natAbs),L (be y.natAbs)] (.one (L (be (x.natAbs -y.natAbs)))):=λh=>by
  have:=mj (cX x.natAbs) (cX y.natAbs) ⟨by omega,gw h⟩ (by grind[bp]);rwa [bp,bp,show((x.natAbs:Int) -y.natAbs).toNat =x.natAbs -y.natAbs by omega]at this
 have s2:x.natAbs<=y.natAbs->ad 395 [L (be y.natAbs),L (be x.natAbs)] (.one (L (be (y.natAbs -x.natAbs)))):=λh=>by
  have:=mj (cX y.natAbs) (cX x.natAbs) ⟨by omega,gw h⟩ (by grind[bp]);rwa [bp,bp,show((y.natAbs:Int) -x.natAbs).toNat =y.natAbs -x.natAbs by omega]at this
 have l1:(be (x.natAbs -y.natAbs)).length <=100000:=o3 (gw (Nat.sub_le _ _)) AN;have l2:(be (y.natAbs -x.natAbs)).length <=100000:=o3 (gw (Nat.sub_le _ _)) hy';rcases SD x 0 with h1|h1|h1
 ·have ex:x.sign= -1:=by omega
  rcases SD y 0 with h2|h2|h2
  ·have ey:y.sign= -1:=by omega
   have w1:=wo da la (.inr rfl) (show -1*aW _=x+y by grind);have a1:=a1 K0;unfold wd;rw[ex,ey];refine sF f396 ?_;exact IV
  ·exact aih
  ·have ey:y.sign=1:=by omega
   rcases SE x.natAbs y.natAbs with h3|h3|h3
   ·have cc:wU x.natAbs y.natAbs= -1:=by unfold wU;grind
    rw[cc]at c1;have s2:=s2 K0;have w1:=wo (cX (y.natAbs -x.natAbs)) K0 (.inl rfl) (show 1*aW _=x+y by grind[bp]);unfold wd;rw[ex,ey];refine sF f396 ?_;exact IV
   ·have cc:wU x.natAbs y.natAbs=0:=by grind
    rw[cc]at c1;have ez:x+y=0:=by omega
    unfold wd;rw[ex,ey,ez];simp only[CW,CT,cY];refine sF f396 ?_;exact IV
   ·have cc:wU x.natAbs y.natAbs=1:=by unfold wU;grind
    rw[cc]at c1;have s1:=s1 K0;have w1:=wo (cX (x.natAbs -y.natAbs)) K0 (.inr rfl) (show -1*aW _=x+y by grind[bp]);unfold wd;rw[ex,ey];refine sF f396 ?_;exact IV
 ·subst h1;simp only[Int.zero_add];unfold wd;simp only[CW,CT,cY];refine sF f396 ?_;exact IV
 ·have ex:x.sign=1:=by omega
  rcases SD y 0 with h2|h2|h2
  ·have ey:y.sign= -1:=by omega
   rcases SE x.natAbs y.natAbs with h3|h3|h3
   ·have cc:wU x.natAbs y.natAbs= -1:=by unfold wU;grind
    rw[cc]at c1;have s2:=s2 K0;have w1:=wo (cX (y.natAbs -x.natAbs)) K0 (.inr rfl) (show -1*aW _=x+y by grind[bp]);unfold wd;rw[ex,ey];refine sF f396 ?_;exact IV
   ·have cc:wU x.natAbs y.natAbs=0:=by grind
    rw[cc]at c1;have ez:x+y=0:=by omega
    unfold wd;rw[ex,ey,ez];simp only[CW,CT,cY];refine sF f396 ?_;exact IV
   ·have cc:wU x.natAbs y.natAbs=1:=by unfold wU;grind
    rw[cc]at c1;have s1:=s1 K0;have w1:=wo (cX (x.natAbs -y.natAbs)) K0 (.inl rfl) (show 1*aW _=x+y by grind[bp]);unfold wd;rw[ex,ey];refine sF f396 ?_;exact IV
  ·exact aih
  ·have ey:y.sign=1:=by omega
   have w1:=wo da la (.inl rfl) (show 1*aW _=x+y by grind);have a1:=a1 K0;unfold wd;rw[ex,ey];refine sF f396 ?_;exact IV
def M8 {s:Int}{l:List Int}(hl:l.length<=4294967296)(hd:Dg l)(hz:aW l=0):ad 384 [I s,L l] (.one (wd 0)):=by
 have h:=Br s l hl;rw[Cj hd,hz]at h;simp only[Int.toNat_zero,cY,if_true]at h;unfold wd;simp only[CW,CT,cY];exact h
def JX (sx sy:Int)(a b:List Int)(ha:Dg a)(hb:Dg b)(hla:a.length<=100000)(hlb:b.length<=100000)(_r:SV)(hs:(sx=0\/sx=1\/sx= -1)/\(sy=0\/sy=1\/sy= -1))
  (hw:ad 384 [I (sx*sy),L (ia a b a.length)] (.one (wd (sx*sy*(aW a*aW b))))):ad 374 [Wd sx a,Wd sy b] (.one (wd (sx*sy*(aW a*aW b)))):=by
 have O5: -1<=sx*sy/\sx*sy<=1:=by
  obtain⟨h1,h2⟩:=hs;rcases h1 with rfl|rfl|rfl<;>rcases h2 with rfl|rfl|rfl<;>decide
 refine sF f374 ?_
 (try(refine tX 0 ?_;try exact Zt))
 refine af (ι:=Nat) (λi=>i<=a.length) (λi=>a.length -i) (λi=>⟨[(2,pP 0),(3,pP 1),(4,pP 2),(5,pO 3),(6,vI i)],[(0,some (.box 423 [.st (J sx),.st (.ints a)])),(1,some (.box 423 [.st (J sy),.st (.ints b)])),(2,some (.box 423 [.st (J 0),.nil])),(3,some (.row true 1 (.ints (ia a b i))))],4⟩) 0 (ai (by rw[show((a.length:Int)+(b.length:Int)+1).toNat =a.length+b.length+1 by omega];kernel_rfl)) (dC _) ?_;intro i hi;have d1:=rF a b i
 (try(refine tX 0 ?_;try exact Zt))
 (refine bR ?_ ?_<;>intro h<;>(try conv=>whnf))
 ·have ak:i<a.length:=by omega
  obtain⟨m1,m2,m3⟩:=tZ ha hb i hi;have g0:=ha.get i
  (try(refine tX 0 ?_;try exact Zt))
  refine af (ι:=Nat) (λk=>k<=b.length) (λk=>b.length -k) (λk=>⟨[(2,pP 0),(3,pP 1),(4,pP 2),(5,pO 3),(6,vI i),(7,vI (i6 (ia a b i) i (a.getD i 0) b k).2),(8,vI k)],[(0,some (.box 423 [.st (J sx),.st (.ints a)])),(1,some (.box 423 [.st (J sy),.st (.ints b)])),(2,some (.box 423 [.st (J 0),.nil])),(3,some (.row true 1 (.ints (i6 (ia a b i) i (a.getD i 0) b k).1)))],4⟩) 0 Zc (dC _) ?_;intro k hk;obtain⟨n1,n2,n3,n4⟩:=wW (i:=i) (x:=a.getD i 0) m1 hb g0 k K0;have d2:=qw (ia a b i) i (a.getD i 0) b k;have g1:=n1.get (i+k);have g2:=hb.get k;have g3:=Ej g0 g2
  (try(refine tX 0 ?_;try exact Zt))
  (refine bR ?_ ?_<;>intro h<;>(try conv=>whnf))
  ·have hkt:k<b.length:=by omega
   (try(refine tX 0 ?_;try exact Zt))
   exact⟨k+1,hkt,by omega,Zc⟩
  ·obtain rfl:k=b.length:=by omega
   have g4:=n1.get (i+b.length)
   (try(refine tX 0 ?_;try exact Zt))
   exact⟨i+1,ak,by omega,Zc⟩
 ·obtain rfl:i=a.length:=by omega
  exact IV
def px {x y:Int}(hx:Sz 100000 x)(hy:Sz 100000 y):ad 374 [wd x,wd y] (.one (wd (x*y))):=by
 have fx:=iC x;have fy:=iC y;obtain⟨m1,m2,_⟩:=tZ (cX x.natAbs) (cX y.natAbs) _ (dw _);rw[lu]at m2;have ml:=rF (be x.natAbs) (be y.natAbs) (be x.natAbs).length;have AN:(be x.natAbs).length <=100000:=hx;have hy':(be y.natAbs).length <=100000:=hy
 have ev:x.sign*y.sign*((x.natAbs:Int)*y.natAbs)=x*y:=by
  have e1:x.sign*(x.natAbs:Int)=x:=Int.sign_mul_natAbs x;have e2:y.sign*(y.natAbs:Int)=y:=Int.sign_mul_natAbs y
  calc x.sign*y.sign*((x.natAbs:Int)*y.natAbs)=(x.sign*x.natAbs)*(y.sign*y.natAbs):=by rw[LJ,LJ,Int.mul_left_comm y.sign]
   _=x*y:=by rw[e1,e2]
 have:=JX x.sign y.sign (be x.natAbs) (be y.natAbs) (cX _) (cX _) AN hy' (wd (x*y)) ⟨by omega,by omega⟩ ?_
 ·rw[bp,bp,ev]at this;exact this
 ·by_cases hz:x.sign*y.sign=0
  ·have hxy:aW (be x.natAbs)*aW (be y.natAbs)=0:=by
    rw[bp,bp];rcases Int.mul_eq_zero.1 hz with h|h
    ·have:=fx.1.1 h;subst this;simp
    ·have:=fy.1.1 h;subst this;simp
   rw[hxy,Int.mul_zero];exact M8 K0 m1 (by rw[m2,hxy])
  ·rw[<- m2]
   exact oK K0 m1 (by
    obtain⟨_,_,_,f1⟩:=fx;obtain⟨_,_,_,f2⟩:=fy
    rcases f1 with h|h|h<;>rcases f2 with h'|h'|h'<;>rw[h,h']at hz ⊢ <;>first|(exact absurd rfl hz)|decide)
def yO (x:Int):ad 385 [wd x] (.one (I x.sign)):=by
 refine sF f385 ?_;exact tL
def uc {x y:Int}(hx:Sz 100000 x)(hy:Sz 100000 y):ad 393 [wd x,wd y] (.one (wd (x -y))):=by
 have h1:=Bs y;have h2:=M7 hx hy.neg;rw[<- Int.sub_eq_add_neg]at h2;refine sF f393 ?_;exact tL
def Nc {x y:Int}(hx:Sz 100000 x)(hy:Sz 100000 y):ad 388 [wd x,wd y] (.one (I (x -y).sign)):=by
 refine sF f388 ?_;repeat((first|(refine kO 7 rfl ?_;first|refine rG (λ_ z=>⟨_,uc hx hy,z⟩) ?_)|refine tX 0 ?_|exact Zt);(try conv=>whnf))
 rfl
def An {n:Int}(h: -9223372036854775808<=n/\n<=9223372036854775807):Sz 3 n:=H3 (by
 grind)
def El (s y:Int)(a:List Int)(ha:Dg a)(e8:a≠[])(hla:a.length<=50000)(hy:0<y)(hsy:Sz 50000 y)(hs:s=1\/s= -1):
  ad 389 [Wd s a,wd y] (.one (wd ((s*aW a)/y))):=by
 have fO:0<a.length:=Lq.2 e8;have ly:(be y.natAbs).length <=50000:=hsy;have ey:((y.natAbs:Int))=y:=by omega
 have sy:y.sign=1:=Int.sign_eq_one_of_pos hy
 have wy:ad 384 [I 1,L (be y.natAbs)] (.one (wd y)):=by
  have:=oK (s:=1) (l:=be y.natAbs) K0 (cX _) (.inl rfl);rwa [bp,CX,ey]at this
 have wm: ∀m:Int,0<=m->m<1000000000->ad 374 [wd y,wd m] (.one (wd (y*m))):=λm h1 h2=>px (hsy.mono K0) ((An K0).mono K0);have wo: ∀m:Int,0<=m->m<1000000000->ad 372 [I m] (.one (wd m)):=λm h1 h2=>j9 m K0
 have lm: ∀m:Int,0<=m->m<1000000000->(be (y*m).natAbs).length <=50001:=λm h1 h2=>by
  have:Sz 1 m:=H3 (by have:pw 1=1000000000:=K9;rw[this];omega);exact hsy.mul this
 have tr: ∀(x r:Int),0<=x->x<1000000000->0<=r->r<y->trim ([x]++be r.toNat)=be (x+1000000000*r).toNat :=λx r h1 h2 h3 h4=>by
  have hd:Dg ([x]++be r.toNat):=by
   intro z hz;rcases gC.1 hz with hz|hz
   grind
   ·exact cX _ z hz
  rw[Cj hd];show be (x+1000000000*aW (be r.toNat)).toNat =_;rw[bp,show((r.toNat:Nat):Int)=r by omega]
 have lr: ∀r:Int,0<=r->r<y->(be r.toNat).length <=50000:=λr h1 h2=>o3 (gw K0) ly
 have ll: ∀(x r:Int),0<=x->x<1000000000->0<=r->r<y->(be (x+1000000000*r).toNat).length <=50001:=λx r h1 h2 h3 h4=>by
  refine Bq ?_;have h5:=u6 (cX r.toNat);rw[bp]at h5;have h6:=Ck (lr r h3 h4);rw[pt];omega
 have Uo: ∀t,t<a.length->VE a y (a.length -1 -t)=(a.getD (a.length -1 -t) 0+1000000000*(nY a (a.length -t)%y))/y/\nY a (a.length -(t+1))%y=(a.getD (a.length -1 -t) 0+1000000000*(nY a (a.length -t)%y))%y:=λt ht=>by grind[VE,VF]
 have g1:=ha.get (a.length -1 -0);have hR:0<=nY a (a.length -0)%y/\nY a (a.length -0)%y<y:=⟨CK _ K0,Lr _ hy⟩;have afl:((a.length:Int) -1).toNat =a.length -1 -0:=by omega
 have amN:=tr _ _ g1.1 g1.2 hR.1 hR.2;have e0:be (nY a (a.length -0)%y).toNat = []:=by rw[G2,TB,Int.zero_emod];exact cY
 rw[e0]at amN;refine sF f389 ?_
 (try(refine tX 0 ?_;try exact Zt))
 refine aD ?_;repeat((first|(refine kO 7 rfl ?_;first|refine rG (λ_ z=>⟨_,pv _ (by simp),z⟩) ?_)|refine tX 0 ?_|exact Zt);(try conv=>whnf))
 have hL0:0<=(a.getD (a.length -1 -0) 0+1000000000*(nY a (a.length -0)%y)):=by omega
 have amp:(a.getD (a.length -1 -0) 0+1000000000*(nY a (a.length -0)%y))<y*1000000000:=by omega
 have vN:(be (a.getD (a.length -1 -0) 0+1000000000*(nY a (a.length -0)%y)).toNat).length <=50001:=ll _ _ g1.1 g1.2 hR.1 hR.2;have aeg:=(Uo 0 K0).1;have aei:=(Uo 0 K0).2;refine af (ι:=Int × Int) (λp=>(0<=p.1/\p.1<=p.2/\p.2<=999999999)/\y*p.1<=(a.getD (a.length -1 -0) 0+1000000000*(nY a (a.length -0)%y))/\(a.getD (a.length -1 -0) 0+1000000000*(nY a (a.length -0)%y))<y*(p.2+1)) (λp=>(p.2 -p.1).toNat) (λp=>⟨[(2,pP 0),(3,pP 1),(4,pP 2),(5,pO 3),(6,vL (be (a.getD (a.length -1 -0) 0+1000000000*(nY a (a.length -0)%y)).toNat)),(7,vI ((a.length:Int) -1)),(8,vI p.1),(9,vI p.2)],[(0,some (.box 423 [.st (J s),.st (.ints a)])),(1,some (.box 423 [.st (J y.sign),.st (.ints (be y.natAbs))])),(2,some (.box 423 [.st (J 0),.nil])),(3,some (.row true 1 (.ints (qS a y 0))))],4⟩) (0,999999999) (ai (by rw[afl,amN];kernel_rfl)) ⟨by simp,by grind,by grind⟩ ?_;rintro⟨lo,hi⟩ ⟨⟨p1,p2,p3⟩,p4,p5⟩;simp only at p1 p2 p3 p4 p5
 (try(refine tX 0 ?_;try exact Zt))
 (refine bR ?_ ?_<;>intro h<;>(try conv=>whnf))
 ·have hm:0<=(lo+hi+1)/2/\(lo+hi+1)/2<=999999999/\lo< (lo+hi+1)/2/\(lo+hi+1)/2<=hi:=by omega
  have hyn:0<=y*((lo+hi+1)/2):=CM K0 K0;have cf:=wV (y*((lo+hi+1)/2)).natAbs (a.getD (a.length -1 -0) 0+1000000000*(nY a (a.length -0)%y)).toNat;repeat((first|(refine kO 7 rfl ?_;first|refine rG (λ_ z=>⟨_,wo _ K0 K0,z⟩) ?_|refine rG (λ_ z=>⟨_,wm _ K0 K0,z⟩) ?_|refine rG (λ_ z=>⟨_,pK _ _ (o3 (lm _ K0 K0) K9) (o3 vN K9),z⟩) ?_)|refine tX 0 ?_|exact Zt);(try conv=>whnf))
  exact K51
 ·obtain rfl:lo=hi:=by omega
  have hq:(a.getD (a.length -1 -0) 0+1000000000*(nY a (a.length -0)%y))/y=lo/\(a.getD (a.length -1 -0) 0+1000000000*(nY a (a.length -0)%y))%y=(a.getD (a.length -1 -0) 0+1000000000*(nY a (a.length -0)%y)) -y*lo:=ajC;have hyn:0<=y*lo:=CM K0 K0;have sd:=mj (cX (a.getD (a.length -1 -0) 0+1000000000*(nY a (a.length -0)%y)).toNat) (cX (y*lo).natAbs) ⟨by omega,gw K0⟩ akb;rw[bp,bp,show(((a.getD (a.length -1 -0) 0+1000000000*(nY a (a.length -0)%y)).toNat :Int) -((y*lo).natAbs :Int)).toNat =((a.getD (a.length -1 -0) 0+1000000000*(nY a (a.length -0)%y)) -y*lo).toNat by omega]at sd;have hql:=Ek a y 0;have hqs:qS a y (0+1)=(qS a y 0).set (a.length -1 -0) lo:=by rw[<- hq.1,<- aeg];rfl
  repeat((first|(refine kO 7 rfl ?_;first|refine rG (λ_ z=>⟨_,wo _ K0 K0,z⟩) ?_|refine rG (λ_ z=>⟨_,wm _ K0 K0,z⟩) ?_)|refine tX 0 ?_|exact Zt);(try conv=>whnf))
  refine af (ι:=Nat) (λt=>1<=t/\t<=a.length) (λt=>a.length -t) (λt=>⟨[(2,pP 0),(3,pP 1),(4,pP 2),(5,pO 3),(6,vL (be (nY a (a.length -t)%y).toNat)),(7,vI ((a.length:Int) -1 -(t:Int)))],[(0,some (.box 423 [.st (J s),.st (.ints a)])),(1,some (.box 423 [.st (J y.sign),.st (.ints (be y.natAbs))])),(2,some (.box 423 [.st (J 0),.nil])),(3,some (.row true 1 (.ints (qS a y t))))],4⟩) 1 (ai (by rw[show qS a y 1=(qS a y 0).set (a.length -1 -0) lo from hqs,aei,hq.2,afl];kernel_rfl)) ⟨dw _,by omega⟩ ?_;clear sd hqs hql hyn hq p4 p5 h vN amp hL0 aeg aei;rintro t ⟨ht1,ht⟩;have amg:((a.length:Int) -1 -(t:Int)).toNat =a.length -1 -t:=by omega
  have g1:=ha.get (a.length -1 -t);have hR:0<=nY a (a.length -t)%y/\nY a (a.length -t)%y<y:=⟨CK _ K0,Lr _ hy⟩;have hlr:=lr _ hR.1 hR.2;have htr:=tr _ _ g1.1 g1.2 hR.1 hR.2
  (try(refine tX 0 ?_;try exact Zt))
  (refine bR ?_ ?_<;>intro h<;>(try conv=>whnf))
  ·have ht3:t<a.length:=by omega
   repeat((first|(refine kO 7 rfl ?_;first|refine rG (λ_ z=>⟨_,pv _ wG,z⟩) ?_)|refine tX 0 ?_|exact Zt);(try conv=>whnf))
   have hL0:0<=(a.getD (a.length -1 -t) 0+1000000000*(nY a (a.length -t)%y)):=by omega
   have amp:(a.getD (a.length -1 -t) 0+1000000000*(nY a (a.length -t)%y))<y*1000000000:=by omega
   have vN:(be (a.getD (a.length -1 -t) 0+1000000000*(nY a (a.length -t)%y)).toNat).length <=50001:=ll _ _ g1.1 g1.2 hR.1 hR.2;have aeg:=(Uo t K0).1;have aei:=(Uo t K0).2;refine af (ι:=Int × Int) (λp=>(0<=p.1/\p.1<=p.2/\p.2<=999999999)/\y*p.1<=(a.getD (a.length -1 -t) 0+1000000000*(nY a (a.length -t)%y))/\(a.getD (a.length -1 -t) 0+1000000000*(nY a (a.length -t)%y))<y*(p.2+1)) (λp=>(p.2 -p.1).toNat) (λp=>⟨[(2,pP 0),(3,pP 1),(4,pP 2),(5,pO 3),(6,vL (be (a.getD (a.length -1 -t) 0+1000000000*(nY a (a.length -t)%y)).toNat)),(7,vI ((a.length:Int) -1 -(t:Int))),(8,vI p.1),(9,vI p.2)],[(0,some (.box 423 [.st (J s),.st (.ints a)])),(1,some (.box 423 [.st (J y.sign),.st (.ints (be y.natAbs))])),(2,some (.box 423 [.st (J 0),.nil])),(3,some (.row true 1 (.ints (qS a y t))))],4⟩) (0,999999999) (ai (by rw[amg,htr];kernel_rfl)) ⟨by simp,by grind,by grind⟩ ?_;rintro⟨lo,hi⟩ ⟨⟨p1,p2,p3⟩,p4,p5⟩;simp only at p1 p2 p3 p4 p5
   (try(refine tX 0 ?_;try exact Zt))
   (refine bR ?_ ?_<;>intro h<;>(try conv=>whnf))
   ·have hm:0<=(lo+hi+1)/2/\(lo+hi+1)/2<=999999999/\lo< (lo+hi+1)/2/\(lo+hi+1)/2<=hi:=by omega
    have hyn:0<=y*((lo+hi+1)/2):=CM K0 K0;have cf:=wV (y*((lo+hi+1)/2)).natAbs (a.getD (a.length -1 -t) 0+1000000000*(nY a (a.length -t)%y)).toNat;repeat((first|(refine kO 7 rfl ?_;first|refine rG (λ_ z=>⟨_,wo _ K0 K0,z⟩) ?_|refine rG (λ_ z=>⟨_,wm _ K0 K0,z⟩) ?_|refine rG (λ_ z=>⟨_,pK _ _ (o3 (lm _ K0 K0) K9) (o3 vN K9),z⟩) ?_)|refine tX 0 ?_|exact Zt);(try conv=>whnf))
    exact K51
   ·obtain rfl:lo=hi:=by omega
    have hq:(a.getD (a.length -1 -t) 0+1000000000*(nY a (a.length -t)%y))/y=lo/\(a.getD (a.length -1 -t) 0+1000000000*(nY a (a.length -t)%y))%y=(a.getD (a.length -1 -t) 0+1000000000*(nY a (a.length -t)%y)) -y*lo:=ajC;have hyn:0<=y*lo:=CM K0 K0;have sd:=mj (cX (a.getD (a.length -1 -t) 0+1000000000*(nY a (a.length -t)%y)).toNat) (cX (y*lo).natAbs) ⟨by omega,gw K0⟩ akb;rw[bp,bp,show(((a.getD (a.length -1 -t) 0+1000000000*(nY a (a.length -t)%y)).toNat :Int) -((y*lo).natAbs :Int)).toNat =((a.getD (a.length -1 -t) 0+1000000000*(nY a (a.length -t)%y)) -y*lo).toNat by omega]at sd;have hql:=Ek a y t;have hqs:qS a y (t+1)=(qS a y t).set (a.length -1 -t) lo:=by rw[<- hq.1,<- aeg];rfl
    repeat((first|(refine kO 7 rfl ?_;first|refine rG (λ_ z=>⟨_,wo _ K0 K0,z⟩) ?_|refine rG (λ_ z=>⟨_,wm _ K0 K0,z⟩) ?_)|refine tX 0 ?_|exact Zt);(try conv=>whnf))
    exact⟨t+1,⟨by omega,by omega⟩,by omega,ai (by rw[hqs,aei,hq.2,amg,show(a.length:Int) -1 -(t:Int) -1=(a.length:Int) -1 -((t+1:Nat):Int)by omega];kernel_rfl)⟩
  ·obtain rfl:t=a.length:=by omega
   obtain⟨q1,q2,_⟩:=TC ha hy a.length (dw _);rw[G3,Na]at q2;rw[G3,Na];have hql:=Ek a y a.length;have w1:=oK (s:=s) (l:=qS a y a.length) K0 q1 hs;rw[q2,acT,CX]at w1;have hX:=mK ha;have hnf:=VG (x:=aW a) hy;rcases hs with rfl|rfl
   ·(try(refine tX 0 ?_;try exact Zt))
    rw[CX,CX];rfl
   ·rw[Int.neg_mul,CX,hnf];by_cases hr:aW a%y=0
    ·have e0:be (aW a%y).toNat = []:=by rw[hr];exact cY
     rw[e0,if_pos hr];exact ajz
    ·have e0:0< (be (aW a%y).toNat).length :=by
      have hm:=CK (aW a) (show y≠0 by omega);exact Lq.2 (λe=>by rw[yN]at e;omega)
     rw[if_neg hr];have o1:=j9 1 K0;have hq0:0<=aW a/y/\aW a/y<=aW a:=⟨LF hX K0,XP y hX⟩
     have szq:Sz 100000 (-1*(aW a/y)):=H3 (by
      have h1:=u6 ha;have h2:=Ck (show a.length<=100000 by omega)
      omega)
     have o2:=uc szq ((An (n:=1) K0).mono K0);exact ajz
def pL {x y:Int}(hx:Sz 50000 x)(hsy:Sz 50000 y)(hy:0<y):ad 389 [wd x,wd y] (.one (wd (x/y))):=by
 have fx:=iC x;by_cases h0:x=0
 ·subst h0;rw[Int.zero_ediv];simp only[wd,CW,CT,cY];refine sF f389 ?_;exact tL
 ·have:=El x.sign y (be x.natAbs) (cX _) (λe=>by grind[yN]) hx hy hsy K0
  grind[bp]
def yP (x:Int):ad 392 [wd x] (.one (wd (x.natAbs:Int))):=by
 have fx:=iC x;have wn:=Bs x;rcases SD x 0 with h|h|h
 ·have e:(x.natAbs:Int)= -x:=by omega
  rw[e];have es:x.sign= -1:=by omega
  have wn':ad 386 [Wd (-1) (be x.natAbs)] (.one (wd (-x))):=by rw[<- es];exact wn
  show ad 392 [Wd x.sign (be x.natAbs)] _;rw[es];refine sF f392 ?_;exact IV
 ·subst h;simp only[wd,CW,CT,cY,Int.natCast_zero];refine sF f392 ?_;exact IV
 ·have e:(x.natAbs:Int)=x:=by omega
  rw[e];have es:x.sign=1:=by omega
  unfold wd;rw[es];refine sF f392 ?_;exact IV
def Sz.le {k:Nat}{x y:Int}(h:Sz k x)(hy:y.natAbs<=x.natAbs):Sz k y:=H3 (by have:=TA h;omega)
def Nd {x y:Int}(hx:Sz 50000 x)(hy:Sz 50000 y):ad 387 [wd x,wd y] (.one (wd (Int.gcd x y))):=by
 have a1:=yP x;have a2:=yP y;refine sF f387 ?_
 (try(refine tX 0 ?_;try exact Zt))
 refine af (ι:=Nat × Nat) (λp=>Nat.gcd p.1 p.2=Int.gcd x y/\Sz 50000 (p.1:Int)/\Sz 50000 (p.2:Int)) (λp=>p.2) (λp=>⟨[(2,pP 0),(3,pP 1),(4,pP 2)],[(0,some (.box 423 [.st (J (p.1:Int).sign),.st (.ints (be (p.1:Int).natAbs))])),(1,some (.box 423 [.st (J (p.2:Int).sign),.st (.ints (be (p.2:Int).natAbs))])),(2,some (.box 423 [.st (J 0),.nil]))],3⟩) (x.natAbs,y.natAbs) Zc ⟨rfl,hx.le (by simp),hy.le (by simp)⟩ ?_;rintro⟨u,v⟩ ⟨h1,h2,h3⟩;simp only at h1 h2 h3;have fv:=iC (v:Int);have g0:=yO (v:Int);by_cases hv:v=0
 ·have e:(v:Int).sign =0:=by omega
  rw[e]at g0;subst hv
  (try(refine tX 0 ?_;try exact Zt))
  rw[Nat.gcd_zero_right]at h1;rw[<- h1];rfl
 ·have hvp:(0:Int)<v:=by omega
  have q0:0<=(u:Int)/v/\(u:Int)/v<=u:=⟨LF K0 K0,XP _ K0⟩
  have q1:(u:Int)/v*v=u -((u%v:Nat):Int):=by
   have:=Int.ediv_mul_add_emod (u:Int) v;rw[Int.natCast_emod];omega
  have q2:u%v<=u:=Nat.mod_le _ _;have g1:=pL (x:=u) (y:=v) h2 h3 hvp;have g2:=px (x:=(u:Int)/v) (y:=v) ((h2.le K0).mono K0) (h3.mono K0);have g3:=uc (x:=u) (y:=(u:Int)/v*v) (h2.mono K0) ((h2.le (by rw[q1];omega)).mono K0);rw[show(u:Int) -(u:Int)/v*v=((u%v:Nat):Int)by omega]at g3;have e:(v:Int).sign =1:=by omega
  rw[e]at g0
  (try(refine tX 0 ?_;try exact Zt))
  refine⟨(v,u%v),⟨?_,h3,?_⟩,sZ _ K0,Zc⟩
  ·show Nat.gcd v (u%v)=_;rw[<- h1,SJ u v,Nat.gcd_rec v u,SJ]
  ·exact h2.le af4
abbrev rt (n d:Int):SV:=(true,[J n.sign,.ints (be n.natAbs),J d.sign,.ints (be d.natAbs)])
def wh {n d:Int}(hn:Sz 50000 n)(hd:Sz 50000 d)(hp:0<d):ad 373 [wd n,wd d] (.one (rt (fq n d) (eE n d))):=by
 have fd:=iC d;have g0:=yO d;have es:d.sign=1:=by omega
 rw[es]at g0;have g1:=Nd hn hd;have hg:=MQ (n:=n) hp;have hgd:Int.gcd n d<=d.natAbs:=Nat.le_of_dvd K0 (Int.gcd_dvd_natAbs_right n d);have szg:Sz 50000 (Int.gcd n d:Int):=hd.le (by simpa using hgd);have o1:=j9 1 K0;have g2:=Nc (x:=(Int.gcd n d:Int)) (y:=1) (szg.mono K0) ((An (n:=1) K0).mono K0);have fg:=iC ((Int.gcd n d:Int) -1);have f1:=pL hn szg hg;have f2:=pL hd szg hg;by_cases h1:(Int.gcd n d:Int)=1
 ·have e1:fq n d=n:=by unfold fq;rw[h1];simp
  have e2:eE n d=d:=by unfold eE;rw[h1];simp
  rw[e1,e2];have eg:((Int.gcd n d:Int) -1).sign =0:=by omega
  rw[eg]at g2;refine sF f373 ?_;exact IV
 ·have eg:((Int.gcd n d:Int) -1).sign =1:=by omega
  rw[eg]at g2;refine sF f373 ?_;exact IV
def JY (n:Int)(h: -9223372036854775807<=n/\n<=9223372036854775807):ad 353 [I n] (.one (rt n 1)):=by
 refine sF f353 ?_;repeat((first|(refine kO 7 rfl ?_;first|refine rG (λ_ z=>⟨_,j9 n h,z⟩) ?_|refine rG (λ_ z=>⟨_,j9 1 K0,z⟩) ?_)|refine tX 0 ?_|exact Zt);(try conv=>whnf))
 rfl
def JZ {n d:Int}(hn: -9223372036854775807<=n/\n<=9223372036854775807)(hd:0<d/\d<=9223372036854775807):ad 375 [I n,I d] (.one (rt (fq n d) (eE n d))):=by
 have g:=wh (n:=n) (d:=d) ((An K0).mono K0) ((An K0).mono K0) hd.1;refine sF f375 ?_;repeat((first|(refine kO 7 rfl ?_;first|refine rG (λ_ z=>⟨_,j9 n hn,z⟩) ?_|refine rG (λ_ z=>⟨_,j9 d K0,z⟩) ?_)|refine tX 0 ?_|exact Zt);(try conv=>whnf))
 rfl
def Gk {n d:Int}(hn: -9223372036854775807<=n/\n<=9223372036854775807)(hd:0<d/\d<=9223372036854775807):ad 355 [F2 n d] (.one (rt (fq n d) (eE n d))):=by
 refine sF f355 ?_;repeat((first|(refine kO 7 rfl ?_;first|refine rG (λ_ z=>⟨_,JZ hn hd,z⟩) ?_)|refine tX 0 ?_|exact Zt);(try conv=>whnf))
 rfl
def yQ {n d m e:Int}(hn:Sz 20000 n)(hd:Sz 20000 d)(hm:Sz 20000 m)(he:Sz 20000 e)(hp:0<d*e):ad 354 [rt n d,rt m e] (.one (rt (fq (n*m) (d*e)) (eE (n*m) (d*e)))):=by
 have g1:=px (x:=n) (y:=m) (hn.mono K0) (hm.mono K0);have g2:=px (x:=d) (y:=e) (hd.mono K0) (he.mono K0);have g3:=wh (n:=n*m) (d:=d*e) ((hn.mul hm).mono K0) ((hd.mul he).mono K0) hp;refine sF f354 ?_;exact IV
end Go.Proofs.Tryz
