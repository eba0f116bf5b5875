import Derived.Test.YtackacoaaihcjaaGreatDoorPkF2
set_option linter.all false
set_option maxRecDepth 100000
set_option maxHeartbeats 8000000
namespace Go.Proofs.Tryz
open Go.Fw Go.IntWalk Go.Plain
def pN (x y:Nat)(hx:(be x).length <=1000000)(_hy:(be y).length <=1000000):ac 394 [L (be x),L (be y)] (.one (I (wP x y))):=by
 have cx':=rK x;have cy':=rK y;have vx:=bp x;have vy:=bp y;have l1:(be x).length < (be y).length ->x<y:=λh=>by have:=Qy cx' cy' h;omega
 have l2:(be y).length < (be x).length ->y<x:=λh=>by have:=Qy cy' cx' h;omega
 have t1: ∀i,(be x).length =(be y).length ->i< (be x).length ->(be x).drop (i+1)=(be y).drop (i+1)->(be x).getD i 0< (be y).getD i 0->x<y:=λi a b c d=>by have:=ZJ cx'.1 cy'.1 a b c d;omega
 have t2: ∀i,(be x).length =(be y).length ->i< (be x).length ->(be x).drop (i+1)=(be y).drop (i+1)->(be y).getD i 0< (be x).getD i 0->y<x:=λi a b c d=>by have:=ZJ cy'.1 cx'.1 a.symm K0 c.symm d;omega
 have t3:be x=be y->x=y:=λh=>by grind
 generalize be x=a at*;generalize be y=b at*;clear vx vy cx' cy';unfold wP;refine sF f394 ?_
 (try(refine tX 0 ?_;try exact Zt))
 (refine bR ?_ ?_<;>intro h<;>(try conv=>whnf))
 ·(try(refine tX 0 ?_;try exact Zt))
  (refine bR ?_ ?_<;>intro h<;>(try conv=>whnf))
  ·exact K97
  ·exact K97
 ·have hl:a.length=b.length:=by omega
  (try(refine tX 0 ?_;try exact Zt))
  refine af (ι:=Nat) (λm=>m<=a.length/\a.drop m=b.drop m) (λm=>m) (λm=>⟨[(0,vL a),(1,vL b),(5,vI ((m:Int) -1))],[],0⟩) a.length Zc ⟨dz _,by grind⟩ ?_;rintro m ⟨hm,hd⟩
  cases m with
  |zero=>
   exact K97
  |succ m=>
   have e1:(((m+1:Nat):Int) -1).toNat =m:=by omega
   have e2:((m+1:Nat):Int) -1=(m:Int):=by omega
   rw[e2]
   (try(refine tX 0 ?_;try exact Zt))
   (refine bR ?_ ?_<;>intro h<;>(try conv=>whnf))
   ·exact K97
   ·(try(refine tX 0 ?_;try exact Zt))
    (refine bR ?_ ?_<;>intro h<;>(try conv=>whnf))
    ·exact K97
    ·(try(refine tX 0 ?_;try exact Zt))
     refine⟨m,⟨by omega,?_⟩,by omega,Zc⟩;rw[nV (d:=0) (show m<a.length by omega),nV (d:=0) (show m<b.length by omega),hd]
     grind
def H4 (l:List Int)(i:Nat):ac 397 [L l,I i] (.one (I (l.getD i 0))):=by
 refine sF f397 ?_
 (try(refine tX 0 ?_;try exact Zt))
 (refine bR ?_ ?_<;>intro h<;>(try conv=>whnf))
 ·(try(refine tX 0 ?_;try exact Zt))
 ·exact K97
def Gl {a b:List Int}(ha:Dg a)(hb:Dg b)(hl:a.length<=1000000/\b.length<=1000000)(fh:a≠[]):ac 398 [L a,L b] (.own 1 (.ints (BX a b (rM a b)))):=by
 have fN:0<a.length:=Lx.2 fh;have hN:rM a b<=1000001:=by grind[rM]
 have hN1:1<=rM a b:=by grind[rM]
 have dig:=H4;refine sF f398 ?_
 (try(refine tX 0 ?_;try exact Zt))
 refine aD ?_;have d0:=dig a 0;have d0':=dig b 0;have d1:=ha.get 0;have d2:=hb.get 0
 (try(refine tX 0 ?_;try exact Zt))
 refine af (ι:=Nat) (λi=>1<=i/\i<=rM a b) (λi=>rM a b -i) (λi=>⟨[(0,vL a),(1,vL b),(5,pO 0),(6,vI (sK a b i)),(7,vI i)],[(0,some (.row true 1 (.ints (BX a b i))))],1⟩) 1 Zc ⟨dz _,hN1⟩ ?_;clear d0 d0' d1 d2;rintro i ⟨zG,hi⟩;have hc:=H3 ha hb hi;have d0:=dig a i;have d0':=dig b i;have d1:=ha.get i;have d2:=hb.get i;have d3:=rL ha hb i;have d4:=Ed a b i;have d5:=HZ a b i;by_cases ak:i<rM a b
 ·have IK:=hc.2 ak;repeat' ((first|refine tX 0 ?_|exact Zt|refine bR ?_ ?_<;>intro h)<;>(try conv=>whnf))
  all_goals exact⟨i+1,⟨by omega,ak⟩,by omega,ai (by rw[d5];kernel_rfl)⟩
 ·have IK: ¬(i<a.length\/i<b.length\/sK a b i>0):=λh=>ak (hc.1 h);exact K97
def mi {a b:List Int}(ha:Dg a)(hb:Dg b)(hl:a.length<=1000000/\b.length<=a.length)(eB:aW b<=aW a):ac 395 [L a,L b] (.one (L (be (aW a -aW b).toNat))):=by
 have hd:=ZM ha hb a.length;have he:=ac1 ha hb hl.2 eB;have dig:=H4;have ht:=pt (Xs a b a.length) (by grind[Cp]);rw[Cn hd,he]at ht;by_cases fh:a.length=0
 ·have e1:Xs a b a.length= []:=by rw[fh];rfl
  rw[e1]at ht;refine sF f395 ?_
  (try(refine tX 0 ?_;try exact Zt))
  refine aD ?_;exact IX
 ·refine sF f395 ?_
  (try(refine tX 0 ?_;try exact Zt))
  refine aD ?_;have d0':=dig b 0;have d1:=ha.get 0;have d2:=hb.get 0
  (try(refine tX 0 ?_;try exact Zt))
  have g5:Xs a b 1= [sbD a b 0]:=rfl
  (refine bR ?_ ?_<;>intro h<;>(try conv=>whnf))
  ·have e1:FR a b 1=1:=if_pos h;have e2:sbD a b 0=a.getD 0 0 -b.getD 0 0 -0+1000000000:=if_pos h;exact K17
  ·have e1:FR a b 1=0:=if_neg h;have e2:sbD a b 0=a.getD 0 0 -b.getD 0 0 -0:=if_neg h;exact K17
def Sz (k:Nat)(x:Int):Prop:=(be x.natAbs).length <=k
theorem H5 {k:Nat}{x:Int}(h:(x.natAbs:Int)<pw k):Sz k x:=Bu h
theorem TM {k:Nat}{x:Int}(h:Sz k x):(x.natAbs:Int)<pw k:=by
 have h1:=u6 (cZ x.natAbs);rw[bp]at h1;have h2:=Co h;omega
def Sz.mono {k m:Nat}{x:Int}(h:Sz k x)(hm:k<=m):Sz m x:=o3 h hm
def Sz.neg {k:Nat}{x:Int}(h:Sz k x):Sz k (-x):=by grind[Sz]
theorem Sz.add {k:Nat}{x y:Int}(hx:Sz k x)(hy:Sz k y):Sz (k+1) (x+y):=by grind[TM,H5]
def Sz.mul {k m:Nat}{x y:Int}(hx:Sz k x)(hy:Sz m y):Sz (k+m) (x*y):=by
 have h1:=TM hx;have h2:=TM hy;refine H5 ?_;rw[Yc,show pw (k+m)=pw k*pw m from Int.pow_add _ _ _];have h3:=Sd h1 (Qw m);have h4:(x.natAbs:Int)*y.natAbs<=x.natAbs*pw m:=XH K0 K0
 grind
def Bw (x:Int):ac 386 [wd x] (.one (wd (-x))):=by
 have hs: -9223372036854775808<x.sign/\x.sign<=9223372036854775807:=by grind
 refine sF f386 ?_
 (try(refine tX 0 ?_;try exact Zt))
 unfold wd;rw[Int.sign_neg,Int.natAbs_neg];rfl
def iD (x:Int):(x.sign=0↔x=0)/\(x.sign=1↔0<x)/\(x.sign= -1↔x<0)/\(x.sign=0\/x.sign=1\/x.sign= -1):=by grind
def wQ (x y:Nat):(wP x y>0↔y<x)/\(wP x y=0↔x=y):=by grind[wP]
def Nf {x y:Int}(hx:Sz 100000 x)(hy:Sz 100000 y):ac 396 [wd x,wd y] (.one (wd (x+y))):=by
 have fx:=iD x;have fy:=iD y;have fc:=wQ x.natAbs y.natAbs;have wo: ∀ {s:Int} {l:List Int} {z:Int},Dg l->l.length<=4294967296->(s=1\/s= -1)->s*aW l=z->ac 384 [I s,L l] (.one (wd z)):=λhd hl hs hz=>by rw[<- hz];exact oI hl hd hs
 have AO:(be x.natAbs).length <=100000:=hx;have hy':(be y.natAbs).length <=100000:=hy;have nx:0<x.natAbs->be x.natAbs≠[]:=λh e=>by grind[yN]
 have a1:0<x.natAbs->ac 398 [L (be x.natAbs),L (be y.natAbs)] (.own 1 (.ints (BX (be x.natAbs) (be y.natAbs) (rM (be x.natAbs) (be y.natAbs))))):=λh=>Gl (cZ _) (cZ _) ⟨by omega,by omega⟩ (nx h);have va:=ZL (cZ x.natAbs) (cZ y.natAbs);rw[bp,bp]at va;have la:(BX (be x.natAbs) (be y.natAbs) (rM (be x.natAbs) (be y.natAbs))).length <=4294967296:=by rw[Ed];unfold rM;split<;>omega
 have da:=ac0 (a:=be x.natAbs) (b:=be y.natAbs) (rM (be x.natAbs) (be y.natAbs));have c1:=pN x.natAbs y.natAbs K0 K0
 have s1:y.natAbs<=x.natAbs->ac 395 [L (be x.natAbs),L (be y.natAbs)] (.one (L (be (x.natAbs -y.natAbs)))):=λh=>by
  have:=mi (cZ x.natAbs) (cZ y.natAbs) ⟨by omega,gv h⟩ (by grind[bp]);rwa [bp,bp,show((x.natAbs:Int) -y.natAbs).toNat =x.natAbs -y.natAbs by omega]at this
 have s2:x.natAbs<=y.natAbs->ac 395 [L (be y.natAbs),L (be x.natAbs)] (.one (L (be (y.natAbs -x.natAbs)))):=λh=>by
  have:=mi (cZ y.natAbs) (cZ x.natAbs) ⟨by omega,gv h⟩ (by grind[bp]);rwa [bp,bp,show((y.natAbs:Int) -x.natAbs).toNat =y.natAbs -x.natAbs by omega]at this
 have l1:(be (x.natAbs -y.natAbs)).length <=100000:=o3 (gv (Nat.sub_le _ _)) AO;have l2:(be (y.natAbs -x.natAbs)).length <=100000:=o3 (gv (Nat.sub_le _ _)) hy';rcases SN x 0 with h1|h1|h1
 ·have ex:x.sign= -1:=by omega
  rcases SN y 0 with h2|h2|h2
  ·have ey:y.sign= -1:=by omega
   have w1:=wo da la (.inr rfl) (show -1*aW _=x+y by grind);have a1:=a1 K0;unfold wd;rw[ex,ey];refine sF f396 ?_;exact IX
  ·exact aik
  ·have ey:y.sign=1:=by omega
   rcases SO x.natAbs y.natAbs with h3|h3|h3
   ·have cc:wP x.natAbs y.natAbs= -1:=by unfold wP;grind
    rw[cc]at c1;have s2:=s2 K0;have w1:=wo (cZ (y.natAbs -x.natAbs)) K0 (.inl rfl) (show 1*aW _=x+y by grind[bp]);unfold wd;rw[ex,ey];refine sF f396 ?_;exact IX
   ·have cc:wP x.natAbs y.natAbs=0:=by grind
    rw[cc]at c1;have ez:x+y=0:=by omega
    unfold wd;rw[ex,ey,ez];simp only[CW,CT,df];refine sF f396 ?_;exact IX
   ·have cc:wP x.natAbs y.natAbs=1:=by unfold wP;grind
    rw[cc]at c1;have s1:=s1 K0;have w1:=wo (cZ (x.natAbs -y.natAbs)) K0 (.inr rfl) (show -1*aW _=x+y by grind[bp]);unfold wd;rw[ex,ey];refine sF f396 ?_;exact IX
 ·subst h1;simp only[Int.zero_add];unfold wd;simp only[CW,CT,df];refine sF f396 ?_;exact IX
 ·have ex:x.sign=1:=by omega
  rcases SN y 0 with h2|h2|h2
  ·have ey:y.sign= -1:=by omega
   rcases SO x.natAbs y.natAbs with h3|h3|h3
   ·have cc:wP x.natAbs y.natAbs= -1:=by unfold wP;grind
    rw[cc]at c1;have s2:=s2 K0;have w1:=wo (cZ (y.natAbs -x.natAbs)) K0 (.inr rfl) (show -1*aW _=x+y by grind[bp]);unfold wd;rw[ex,ey];refine sF f396 ?_;exact IX
   ·have cc:wP x.natAbs y.natAbs=0:=by grind
    rw[cc]at c1;have ez:x+y=0:=by omega
    unfold wd;rw[ex,ey,ez];simp only[CW,CT,df];refine sF f396 ?_;exact IX
   ·have cc:wP x.natAbs y.natAbs=1:=by unfold wP;grind
    rw[cc]at c1;have s1:=s1 K0;have w1:=wo (cZ (x.natAbs -y.natAbs)) K0 (.inl rfl) (show 1*aW _=x+y by grind[bp]);unfold wd;rw[ex,ey];refine sF f396 ?_;exact IX
  ·exact aik
  ·have ey:y.sign=1:=by omega
   have w1:=wo da la (.inl rfl) (show 1*aW _=x+y by grind);have a1:=a1 K0;unfold wd;rw[ex,ey];refine sF f396 ?_;exact IX
def Ng {s:Int}{l:List Int}(hl:l.length<=4294967296)(hd:Dg l)(hz:aW l=0):ac 384 [I s,L l] (.one (wd 0)):=by
 have h:=Bv s l hl;rw[Cn hd,hz]at h;simp only[Int.toNat_zero,df,if_true]at h;unfold wd;simp only[CW,CT,df];exact h
def JZ (sx sy:Int)(a b:List Int)(ha:Dg a)(hb:Dg b)(hla:a.length<=100000)(hlb:b.length<=100000)(_r:SV)(hs:(sx=0\/sx=1\/sx= -1)/\(sy=0\/sy=1\/sy= -1))
  (hw:ac 384 [I (sx*sy),L (ia a b a.length)] (.one (wd (sx*sy*(aW a*aW b))))):ac 374 [Wd sx a,Wd sy b] (.one (wd (sx*sy*(aW a*aW b)))):=by
 have Pg: -1<=sx*sy/\sx*sy<=1:=by
  obtain⟨h1,h2⟩:=hs;rcases h1 with rfl|rfl|rfl<;>rcases h2 with rfl|rfl|rfl<;>decide
 refine sF f374 ?_
 (try(refine tX 0 ?_;try exact Zt))
 refine af (ι:=Nat) (λi=>i<=a.length) (λi=>a.length -i) (λi=>⟨[(2,pP 0),(3,pP 1),(4,pP 2),(5,pO 3),(6,vI i)],[(0,some (.box 423 [.st (J sx),.st (.ints a)])),(1,some (.box 423 [.st (J sy),.st (.ints b)])),(2,some (.box 423 [.st (J 0),.nil])),(3,some (.row true 1 (.ints (ia a b i))))],4⟩) 0 (ai (by rw[show((a.length:Int)+(b.length:Int)+1).toNat =a.length+b.length+1 by omega];kernel_rfl)) (dM _) ?_;intro i hi;have d1:=rN a b i
 (try(refine tX 0 ?_;try exact Zt))
 (refine bR ?_ ?_<;>intro h<;>(try conv=>whnf))
 ·have ak:i<a.length:=by omega
  obtain⟨m1,m2,m3⟩:=uc ha hb i hi;have g0:=ha.get i
  (try(refine tX 0 ?_;try exact Zt))
  refine af (ι:=Nat) (λk=>k<=b.length) (λk=>b.length -k) (λk=>⟨[(2,pP 0),(3,pP 1),(4,pP 2),(5,pO 3),(6,vI i),(7,vI (i6 (ia a b i) i (a.getD i 0) b k).2),(8,vI k)],[(0,some (.box 423 [.st (J sx),.st (.ints a)])),(1,some (.box 423 [.st (J sy),.st (.ints b)])),(2,some (.box 423 [.st (J 0),.nil])),(3,some (.row true 1 (.ints (i6 (ia a b i) i (a.getD i 0) b k).1)))],4⟩) 0 Zc (dM _) ?_;intro k hk;obtain⟨n1,n2,n3,n4⟩:=wR (i:=i) (x:=a.getD i 0) m1 hb g0 k K0;have d2:=qB (ia a b i) i (a.getD i 0) b k;have g1:=n1.get (i+k);have g2:=hb.get k;have g3:=Eh g0 g2
  (try(refine tX 0 ?_;try exact Zt))
  (refine bR ?_ ?_<;>intro h<;>(try conv=>whnf))
  ·have hkt:k<b.length:=by omega
   (try(refine tX 0 ?_;try exact Zt))
   exact⟨k+1,hkt,by omega,Zc⟩
  ·obtain rfl:k=b.length:=by omega
   have g4:=n1.get (i+b.length)
   (try(refine tX 0 ?_;try exact Zt))
   exact⟨i+1,ak,by omega,Zc⟩
 ·obtain rfl:i=a.length:=by omega
  exact IX
def pv {x y:Int}(hx:Sz 100000 x)(hy:Sz 100000 y):ac 374 [wd x,wd y] (.one (wd (x*y))):=by
 have fx:=iD x;have fy:=iD y;obtain⟨m1,m2,_⟩:=uc (cZ x.natAbs) (cZ y.natAbs) _ (dz _);rw[mW]at m2;have ml:=rN (be x.natAbs) (be y.natAbs) (be x.natAbs).length;have AO:(be x.natAbs).length <=100000:=hx;have hy':(be y.natAbs).length <=100000:=hy
 have ev:x.sign*y.sign*((x.natAbs:Int)*y.natAbs)=x*y:=by
  have e1:x.sign*(x.natAbs:Int)=x:=Int.sign_mul_natAbs x;have e2:y.sign*(y.natAbs:Int)=y:=Int.sign_mul_natAbs y
  calc x.sign*y.sign*((x.natAbs:Int)*y.natAbs)=(x.sign*x.natAbs)*(y.sign*y.natAbs):=by rw[LS,LS,Int.mul_left_comm y.sign]
   _=x*y:=by rw[e1,e2]
 have:=JZ x.sign y.sign (be x.natAbs) (be y.natAbs) (cZ _) (cZ _) AO hy' (wd (x*y)) ⟨by omega,by omega⟩ ?_
 ·rw[bp,bp,ev]at this;exact this
 ·by_cases hz:x.sign*y.sign=0
  ·have hxy:aW (be x.natAbs)*aW (be y.natAbs)=0:=by
    rw[bp,bp];rcases Int.mul_eq_zero.1 hz with h|h
    ·have:=fx.1.1 h;subst this;simp
    ·have:=fy.1.1 h;subst this;simp
   rw[hxy,Int.mul_zero];exact Ng K0 m1 (by rw[m2,hxy])
  ·rw[<- m2]
   exact oI K0 m1 (by
    obtain⟨_,_,_,f1⟩:=fx;obtain⟨_,_,_,f2⟩:=fy
    rcases f1 with h|h|h<;>rcases f2 with h'|h'|h'<;>rw[h,h']at hz ⊢ <;>first|(exact absurd rfl hz)|decide)
def yO (x:Int):ac 385 [wd x] (.one (I x.sign)):=by
 refine sF f385 ?_;exact tL
def uf {x y:Int}(hx:Sz 100000 x)(hy:Sz 100000 y):ac 393 [wd x,wd y] (.one (wd (x -y))):=by
 have h1:=Bw y;have h2:=Nf hx hy.neg;rw[<- Int.sub_eq_add_neg]at h2;refine sF f393 ?_;exact tL
def Nk {x y:Int}(hx:Sz 100000 x)(hy:Sz 100000 y):ac 388 [wd x,wd y] (.one (I (x -y).sign)):=by
 refine sF f388 ?_;repeat((first|(refine kO 7 rfl ?_;first|refine rG (λ_ z=>⟨_,uf hx hy,z⟩) ?_)|refine tX 0 ?_|exact Zt);(try conv=>whnf))
 rfl
def Ap {n:Int}(h: -9223372036854775808<=n/\n<=9223372036854775807):Sz 3 n:=H5 (by
 grind)
def Ek (s y:Int)(a:List Int)(ha:Dg a)(fh:a≠[])(hla:a.length<=50000)(hy:0<y)(hsy:Sz 50000 y)(hs:s=1\/s= -1):
  ac 389 [Wd s a,wd y] (.one (wd ((s*aW a)/y))):=by
 have fN:0<a.length:=Lx.2 fh;have ly:(be y.natAbs).length <=50000:=hsy;have ey:((y.natAbs:Int))=y:=by omega
 have sy:y.sign=1:=Int.sign_eq_one_of_pos hy
 have wy:ac 384 [I 1,L (be y.natAbs)] (.one (wd y)):=by
  have:=oI (s:=1) (l:=be y.natAbs) K0 (cZ _) (.inl rfl);rwa [bp,CX,ey]at this
 have wm: ∀m:Int,0<=m->m<1000000000->ac 374 [wd y,wd m] (.one (wd (y*m))):=λm h1 h2=>pv (hsy.mono K0) ((Ap K0).mono K0);have wo: ∀m:Int,0<=m->m<1000000000->ac 372 [I m] (.one (wd m)):=λm h1 h2=>kg m K0
 have lm: ∀m:Int,0<=m->m<1000000000->(be (y*m).natAbs).length <=50001:=λm h1 h2=>by
  have:Sz 1 m:=H5 (by have:pw 1=1000000000:=K9;rw[this];omega);exact hsy.mul this
 have tr: ∀(x r:Int),0<=x->x<1000000000->0<=r->r<y->trim ([x]++be r.toNat)=be (x+1000000000*r).toNat :=λx r h1 h2 h3 h4=>by
  have hd:Dg ([x]++be r.toNat):=by
   intro z hz;rcases gC.1 hz with hz|hz
   grind
   ·exact cZ _ z hz
  rw[Cn hd];show be (x+1000000000*aW (be r.toNat)).toNat =_;rw[bp,show((r.toNat:Nat):Int)=r by omega]
 have lr: ∀r:Int,0<=r->r<y->(be r.toNat).length <=50000:=λr h1 h2=>o3 (gv K0) ly
 have ll: ∀(x r:Int),0<=x->x<1000000000->0<=r->r<y->(be (x+1000000000*r).toNat).length <=50001:=λx r h1 h2 h3 h4=>by
  refine Bu ?_;have h5:=u6 (cZ r.toNat);rw[bp]at h5;have h6:=Co (lr r h3 h4);rw[pq];omega
 have Up: ∀t,t<a.length->VR a y (a.length -1 -t)=(a.getD (a.length -1 -t) 0+1000000000*(nY a (a.length -t)%y))/y/\nY a (a.length -(t+1))%y=(a.getD (a.length -1 -t) 0+1000000000*(nY a (a.length -t)%y))%y:=λt ht=>by grind[VR,VS]
 have g1:=ha.get (a.length -1 -0);have hR:0<=nY a (a.length -0)%y/\nY a (a.length -0)%y<y:=⟨CN _ K0,Ly _ hy⟩;have afm:((a.length:Int) -1).toNat =a.length -1 -0:=by omega
 have amy:=tr _ _ g1.1 g1.2 hR.1 hR.2;have e0:be (nY a (a.length -0)%y).toNat = []:=by rw[G4,TN,Int.zero_emod];exact df
 rw[e0]at amy;refine sF f389 ?_
 (try(refine tX 0 ?_;try exact Zt))
 refine aD ?_;repeat((first|(refine kO 7 rfl ?_;first|refine rG (λ_ z=>⟨_,pt _ (by simp),z⟩) ?_)|refine tX 0 ?_|exact Zt);(try conv=>whnf))
 have hL0:0<=(a.getD (a.length -1 -0) 0+1000000000*(nY a (a.length -0)%y)):=by omega
 have amq:(a.getD (a.length -1 -0) 0+1000000000*(nY a (a.length -0)%y))<y*1000000000:=by omega
 have uF:(be (a.getD (a.length -1 -0) 0+1000000000*(nY a (a.length -0)%y)).toNat).length <=50001:=ll _ _ g1.1 g1.2 hR.1 hR.2;have aem:=(Up 0 K0).1;have aeo:=(Up 0 K0).2;refine af (ι:=Int × Int) (λp=>(0<=p.1/\p.1<=p.2/\p.2<=999999999)/\y*p.1<=(a.getD (a.length -1 -0) 0+1000000000*(nY a (a.length -0)%y))/\(a.getD (a.length -1 -0) 0+1000000000*(nY a (a.length -0)%y))<y*(p.2+1)) (λp=>(p.2 -p.1).toNat) (λp=>⟨[(2,pP 0),(3,pP 1),(4,pP 2),(5,pO 3),(6,vL (be (a.getD (a.length -1 -0) 0+1000000000*(nY a (a.length -0)%y)).toNat)),(7,vI ((a.length:Int) -1)),(8,vI p.1),(9,vI p.2)],[(0,some (.box 423 [.st (J s),.st (.ints a)])),(1,some (.box 423 [.st (J y.sign),.st (.ints (be y.natAbs))])),(2,some (.box 423 [.st (J 0),.nil])),(3,some (.row true 1 (.ints (qS a y 0))))],4⟩) (0,999999999) (ai (by rw[afm,amy];kernel_rfl)) ⟨by simp,by grind,by grind⟩ ?_;rintro⟨lo,hi⟩ ⟨⟨p1,p2,p3⟩,p4,p5⟩;simp only at p1 p2 p3 p4 p5
 (try(refine tX 0 ?_;try exact Zt))
 (refine bR ?_ ?_<;>intro h<;>(try conv=>whnf))
 ·have hm:0<=(lo+hi+1)/2/\(lo+hi+1)/2<=999999999/\lo< (lo+hi+1)/2/\(lo+hi+1)/2<=hi:=by omega
  have hyn:0<=y*((lo+hi+1)/2):=CO K0 K0;have cf:=wQ (y*((lo+hi+1)/2)).natAbs (a.getD (a.length -1 -0) 0+1000000000*(nY a (a.length -0)%y)).toNat;repeat((first|(refine kO 7 rfl ?_;first|refine rG (λ_ z=>⟨_,wo _ K0 K0,z⟩) ?_|refine rG (λ_ z=>⟨_,wm _ K0 K0,z⟩) ?_|refine rG (λ_ z=>⟨_,pN _ _ (o3 (lm _ K0 K0) K9) (o3 uF K9),z⟩) ?_)|refine tX 0 ?_|exact Zt);(try conv=>whnf))
  exact K51
 ·obtain rfl:lo=hi:=by omega
  have hq:(a.getD (a.length -1 -0) 0+1000000000*(nY a (a.length -0)%y))/y=lo/\(a.getD (a.length -1 -0) 0+1000000000*(nY a (a.length -0)%y))%y=(a.getD (a.length -1 -0) 0+1000000000*(nY a (a.length -0)%y)) -y*lo:=ajC;have hyn:0<=y*lo:=CO K0 K0;have sd:=mi (cZ (a.getD (a.length -1 -0) 0+1000000000*(nY a (a.length -0)%y)).toNat) (cZ (y*lo).natAbs) ⟨by omega,gv K0⟩ akb;rw[bp,bp,show(((a.getD (a.length -1 -0) 0+1000000000*(nY a (a.length -0)%y)).toNat :Int) -((y*lo).natAbs :Int)).toNat =((a.getD (a.length -1 -0) 0+1000000000*(nY a (a.length -0)%y)) -y*lo).toNat by omega]at sd;have hql:=Ej a y 0;have hqs:qS a y (0+1)=(qS a y 0).set (a.length -1 -0) lo:=by rw[<- hq.1,<- aem];rfl
  repeat((first|(refine kO 7 rfl ?_;first|refine rG (λ_ z=>⟨_,wo _ K0 K0,z⟩) ?_|refine rG (λ_ z=>⟨_,wm _ K0 K0,z⟩) ?_)|refine tX 0 ?_|exact Zt);(try conv=>whnf))
  refine af (ι:=Nat) (λt=>1<=t/\t<=a.length) (λt=>a.length -t) (λt=>⟨[(2,pP 0),(3,pP 1),(4,pP 2),(5,pO 3),(6,vL (be (nY a (a.length -t)%y).toNat)),(7,vI ((a.length:Int) -1 -(t:Int)))],[(0,some (.box 423 [.st (J s),.st (.ints a)])),(1,some (.box 423 [.st (J y.sign),.st (.ints (be y.natAbs))])),(2,some (.box 423 [.st (J 0),.nil])),(3,some (.row true 1 (.ints (qS a y t))))],4⟩) 1 (ai (by rw[show qS a y 1=(qS a y 0).set (a.length -1 -0) lo from hqs,aeo,hq.2,afm];kernel_rfl)) ⟨dz _,by omega⟩ ?_;clear sd hqs hql hyn hq p4 p5 h uF amq hL0 aem aeo;rintro t ⟨ht1,ht⟩;have amf:((a.length:Int) -1 -(t:Int)).toNat =a.length -1 -t:=by omega
  have g1:=ha.get (a.length -1 -t);have hR:0<=nY a (a.length -t)%y/\nY a (a.length -t)%y<y:=⟨CN _ K0,Ly _ hy⟩;have hlr:=lr _ hR.1 hR.2;have htr:=tr _ _ g1.1 g1.2 hR.1 hR.2
  (try(refine tX 0 ?_;try exact Zt))
  (refine bR ?_ ?_<;>intro h<;>(try conv=>whnf))
  ·have ht3:t<a.length:=by omega
   repeat((first|(refine kO 7 rfl ?_;first|refine rG (λ_ z=>⟨_,pt _ wA,z⟩) ?_)|refine tX 0 ?_|exact Zt);(try conv=>whnf))
   have hL0:0<=(a.getD (a.length -1 -t) 0+1000000000*(nY a (a.length -t)%y)):=by omega
   have amq:(a.getD (a.length -1 -t) 0+1000000000*(nY a (a.length -t)%y))<y*1000000000:=by omega
   have uF:(be (a.getD (a.length -1 -t) 0+1000000000*(nY a (a.length -t)%y)).toNat).length <=50001:=ll _ _ g1.1 g1.2 hR.1 hR.2;have aem:=(Up t K0).1;have aeo:=(Up t K0).2;refine af (ι:=Int × Int) (λp=>(0<=p.1/\p.1<=p.2/\p.2<=999999999)/\y*p.1<=(a.getD (a.length -1 -t) 0+1000000000*(nY a (a.length -t)%y))/\(a.getD (a.length -1 -t) 0+1000000000*(nY a (a.length -t)%y))<y*(p.2+1)) (λp=>(p.2 -p.1).toNat) (λp=>⟨[(2,pP 0),(3,pP 1),(4,pP 2),(5,pO 3),(6,vL (be (a.getD (a.length -1 -t) 0+1000000000*(nY a (a.length -t)%y)).toNat)),(7,vI ((a.length:Int) -1 -(t:Int))),(8,vI p.1),(9,vI p.2)],[(0,some (.box 423 [.st (J s),.st (.ints a)])),(1,some (.box 423 [.st (J y.sign),.st (.ints (be y.natAbs))])),(2,some (.box 423 [.st (J 0),.nil])),(3,some (.row true 1 (.ints (qS a y t))))],4⟩) (0,999999999) (ai (by rw[amf,htr];kernel_rfl)) ⟨by simp,by grind,by grind⟩ ?_;rintro⟨lo,hi⟩ ⟨⟨p1,p2,p3⟩,p4,p5⟩;simp only at p1 p2 p3 p4 p5
   (try(refine tX 0 ?_;try exact Zt))
   (refine bR ?_ ?_<;>intro h<;>(try conv=>whnf))
   ·have hm:0<=(lo+hi+1)/2/\(lo+hi+1)/2<=999999999/\lo< (lo+hi+1)/2/\(lo+hi+1)/2<=hi:=by omega
    have hyn:0<=y*((lo+hi+1)/2):=CO K0 K0;have cf:=wQ (y*((lo+hi+1)/2)).natAbs (a.getD (a.length -1 -t) 0+1000000000*(nY a (a.length -t)%y)).toNat;repeat((first|(refine kO 7 rfl ?_;first|refine rG (λ_ z=>⟨_,wo _ K0 K0,z⟩) ?_|refine rG (λ_ z=>⟨_,wm _ K0 K0,z⟩) ?_|refine rG (λ_ z=>⟨_,pN _ _ (o3 (lm _ K0 K0) K9) (o3 uF K9),z⟩) ?_)|refine tX 0 ?_|exact Zt);(try conv=>whnf))
    exact K51
   ·obtain rfl:lo=hi:=by omega
    have hq:(a.getD (a.length -1 -t) 0+1000000000*(nY a (a.length -t)%y))/y=lo/\(a.getD (a.length -1 -t) 0+1000000000*(nY a (a.length -t)%y))%y=(a.getD (a.length -1 -t) 0+1000000000*(nY a (a.length -t)%y)) -y*lo:=ajC;have hyn:0<=y*lo:=CO K0 K0;have sd:=mi (cZ (a.getD (a.length -1 -t) 0+1000000000*(nY a (a.length -t)%y)).toNat) (cZ (y*lo).natAbs) ⟨by omega,gv K0⟩ akb;rw[bp,bp,show(((a.getD (a.length -1 -t) 0+1000000000*(nY a (a.length -t)%y)).toNat :Int) -((y*lo).natAbs :Int)).toNat =((a.getD (a.length -1 -t) 0+1000000000*(nY a (a.length -t)%y)) -y*lo).toNat by omega]at sd;have hql:=Ej a y t;have hqs:qS a y (t+1)=(qS a y t).set (a.length -1 -t) lo:=by rw[<- hq.1,<- aem];rfl
    repeat((first|(refine kO 7 rfl ?_;first|refine rG (λ_ z=>⟨_,wo _ K0 K0,z⟩) ?_|refine rG (λ_ z=>⟨_,wm _ K0 K0,z⟩) ?_)|refine tX 0 ?_|exact Zt);(try conv=>whnf))
    exact⟨t+1,⟨by omega,by omega⟩,by omega,ai (by rw[hqs,aeo,hq.2,amf,show(a.length:Int) -1 -(t:Int) -1=(a.length:Int) -1 -((t+1:Nat):Int)by omega];kernel_rfl)⟩
  ·obtain rfl:t=a.length:=by omega
   obtain⟨q1,q2,_⟩:=TO ha hy a.length (dz _);rw[G6,Ni]at q2;rw[G6,Ni];have hql:=Ej a y a.length;have w1:=oI (s:=s) (l:=qS a y a.length) K0 q1 hs;rw[q2,acZ,CX]at w1;have hX:=mI ha;have hnf:=VT (x:=aW a) hy;rcases hs with rfl|rfl
   ·(try(refine tX 0 ?_;try exact Zt))
    rw[CX,CX];rfl
   ·rw[Int.neg_mul,CX,hnf];by_cases hr:aW a%y=0
    ·have e0:be (aW a%y).toNat = []:=by rw[hr];exact df
     rw[e0,if_pos hr];exact ajz
    ·have e0:0< (be (aW a%y).toNat).length :=by
      have hm:=CN (aW a) (show y≠0 by omega);exact Lx.2 (λe=>by rw[yN]at e;omega)
     rw[if_neg hr];have o1:=kg 1 K0;have hq0:0<=aW a/y/\aW a/y<=aW a:=⟨LN hX K0,X4 y hX⟩
     have szq:Sz 100000 (-1*(aW a/y)):=H5 (by
      have h1:=u6 ha;have h2:=Co (show a.length<=100000 by omega)
      omega)
     have o2:=uf szq ((Ap (n:=1) K0).mono K0);exact ajz
def pQ {x y:Int}(hx:Sz 50000 x)(hsy:Sz 50000 y)(hy:0<y):ac 389 [wd x,wd y] (.one (wd (x/y))):=by
 have fx:=iD x;by_cases h0:x=0
 ·subst h0;rw[Int.zero_ediv];simp only[wd,CW,CT,df];refine sF f389 ?_;exact tL
 ·have:=Ek x.sign y (be x.natAbs) (cZ _) (λe=>by grind[yN]) hx hy hsy K0
  grind[bp]
def yP (x:Int):ac 392 [wd x] (.one (wd (x.natAbs:Int))):=by
 have fx:=iD x;have wn:=Bw x;rcases SN x 0 with h|h|h
 ·have e:(x.natAbs:Int)= -x:=by omega
  rw[e];have es:x.sign= -1:=by omega
  have wn':ac 386 [Wd (-1) (be x.natAbs)] (.one (wd (-x))):=by rw[<- es];exact wn
  show ac 392 [Wd x.sign (be x.natAbs)] _;rw[es];refine sF f392 ?_;exact IX
 ·subst h;simp only[wd,CW,CT,df,Int.natCast_zero];refine sF f392 ?_;exact IX
 ·have e:(x.natAbs:Int)=x:=by omega
  rw[e];have es:x.sign=1:=by omega
  unfold wd;rw[es];refine sF f392 ?_;exact IX
def Sz.le {k:Nat}{x y:Int}(h:Sz k x)(hy:y.natAbs<=x.natAbs):Sz k y:=H5 (by have:=TM h;omega)
def Nl {x y:Int}(hx:Sz 50000 x)(hy:Sz 50000 y):ac 387 [wd x,wd y] (.one (wd (Int.gcd x y))):=by
 have a1:=yP x;have a2:=yP y;refine sF f387 ?_
 (try(refine tX 0 ?_;try exact Zt))
 refine af (ι:=Nat × Nat) (λp=>Nat.gcd p.1 p.2=Int.gcd x y/\Sz 50000 (p.1:Int)/\Sz 50000 (p.2:Int)) (λp=>p.2) (λp=>⟨[(2,pP 0),(3,pP 1),(4,pP 2)],[(0,some (.box 423 [.st (J (p.1:Int).sign),.st (.ints (be (p.1:Int).natAbs))])),(1,some (.box 423 [.st (J (p.2:Int).sign),.st (.ints (be (p.2:Int).natAbs))])),(2,some (.box 423 [.st (J 0),.nil]))],3⟩) (x.natAbs,y.natAbs) Zc ⟨rfl,hx.le (by simp),hy.le (by simp)⟩ ?_;rintro⟨u,v⟩ ⟨h1,h2,h3⟩;simp only at h1 h2 h3;have fv:=iD (v:Int);have g0:=yO (v:Int);by_cases hv:v=0
 ·have e:(v:Int).sign =0:=by omega
  rw[e]at g0;subst hv
  (try(refine tX 0 ?_;try exact Zt))
  rw[Nat.gcd_zero_right]at h1;rw[<- h1];rfl
 ·have hvp:(0:Int)<v:=by omega
  have q0:0<=(u:Int)/v/\(u:Int)/v<=u:=⟨LN K0 K0,X4 _ K0⟩
  have q1:(u:Int)/v*v=u -((u%v:Nat):Int):=by
   have:=Int.ediv_mul_add_emod (u:Int) v;rw[Int.natCast_emod];omega
  have q2:u%v<=u:=Nat.mod_le _ _;have g1:=pQ (x:=u) (y:=v) h2 h3 hvp;have g2:=pv (x:=(u:Int)/v) (y:=v) ((h2.le K0).mono K0) (h3.mono K0);have g3:=uf (x:=u) (y:=(u:Int)/v*v) (h2.mono K0) ((h2.le (by rw[q1];omega)).mono K0);rw[show(u:Int) -(u:Int)/v*v=((u%v:Nat):Int)by omega]at g3;have e:(v:Int).sign =1:=by omega
  rw[e]at g0
  (try(refine tX 0 ?_;try exact Zt))
  refine⟨(v,u%v),⟨?_,h3,?_⟩,s6 _ K0,Zc⟩
  ·show Nat.gcd v (u%v)=_;rw[<- h1,SX u v,Nat.gcd_rec v u,SX]
  ·exact h2.le af8
abbrev rt (n d:Int):SV:=(true,[J n.sign,.ints (be n.natAbs),J d.sign,.ints (be d.natAbs)])
def wa {n d:Int}(hn:Sz 50000 n)(hd:Sz 50000 d)(hp:0<d):ac 373 [wd n,wd d] (.one (rt (fu n d) (eE n d))):=by
 have fd:=iD d;have g0:=yO d;have es:d.sign=1:=by omega
 rw[es]at g0;have g1:=Nl hn hd;have hg:=MZ (n:=n) hp;have hgd:Int.gcd n d<=d.natAbs:=Nat.le_of_dvd K0 (Int.gcd_dvd_natAbs_right n d);have szg:Sz 50000 (Int.gcd n d:Int):=hd.le (by simpa using hgd);have o1:=kg 1 K0;have g2:=Nk (x:=(Int.gcd n d:Int)) (y:=1) (szg.mono K0) ((Ap (n:=1) K0).mono K0);have fg:=iD ((Int.gcd n d:Int) -1);have f1:=pQ hn szg hg;have f2:=pQ hd szg hg;by_cases h1:(Int.gcd n d:Int)=1
 ·have e1:fu n d=n:=by unfold fu;rw[h1];simp
  have e2:eE n d=d:=by unfold eE;rw[h1];simp
  rw[e1,e2];have eg:((Int.gcd n d:Int) -1).sign =0:=by omega
  rw[eg]at g2;refine sF f373 ?_;exact IX
 ·have eg:((Int.gcd n d:Int) -1).sign =1:=by omega
  rw[eg]at g2;refine sF f373 ?_;exact IX
def J0 (n:Int)(h: -9223372036854775807<=n/\n<=9223372036854775807):ac 353 [I n] (.one (rt n 1)):=by
 refine sF f353 ?_;repeat((first|(refine kO 7 rfl ?_;first|refine rG (λ_ z=>⟨_,kg n h,z⟩) ?_|refine rG (λ_ z=>⟨_,kg 1 K0,z⟩) ?_)|refine tX 0 ?_|exact Zt);(try conv=>whnf))
 rfl
def J1 {n d:Int}(hn: -9223372036854775807<=n/\n<=9223372036854775807)(hd:0<d/\d<=9223372036854775807):ac 375 [I n,I d] (.one (rt (fu n d) (eE n d))):=by
 have g:=wa (n:=n) (d:=d) ((Ap K0).mono K0) ((Ap K0).mono K0) hd.1;refine sF f375 ?_;repeat((first|(refine kO 7 rfl ?_;first|refine rG (λ_ z=>⟨_,kg n hn,z⟩) ?_|refine rG (λ_ z=>⟨_,kg d K0,z⟩) ?_)|refine tX 0 ?_|exact Zt);(try conv=>whnf))
 rfl
def Gm {n d:Int}(hn: -9223372036854775807<=n/\n<=9223372036854775807)(hd:0<d/\d<=9223372036854775807):ac 355 [F2 n d] (.one (rt (fu n d) (eE n d))):=by
 refine sF f355 ?_;repeat((first|(refine kO 7 rfl ?_;first|refine rG (λ_ z=>⟨_,J1 hn hd,z⟩) ?_)|refine tX 0 ?_|exact Zt);(try conv=>whnf))
 rfl
def yQ {n d m e:Int}(hn:Sz 20000 n)(hd:Sz 20000 d)(hm:Sz 20000 m)(he:Sz 20000 e)(hp:0<d*e):ac 354 [rt n d,rt m e] (.one (rt (fu (n*m) (d*e)) (eE (n*m) (d*e)))):=by
 have g1:=pv (x:=n) (y:=m) (hn.mono K0) (hm.mono K0);have g2:=pv (x:=d) (y:=e) (hd.mono K0) (he.mono K0);have g3:=wa (n:=n*m) (d:=d*e) ((hn.mul hm).mono K0) ((hd.mul he).mono K0) hp;refine sF f354 ?_;exact IX
end Go.Proofs.Tryz
