import Derived.Test.YtolnfpljgjpbpaaGreatDoorPk5
set_option linter.all false
set_option maxRecDepth 100000
set_option maxHeartbeats 8000000
namespace Go.Proofs.Tryz
open Go.Fw Go.IntWalk Go.Plain
def EK (s:List UInt8)(hl:s.length<=1000000): ∃v,ac 155 [SS s] (.aI [I v,Bo (wN false 4 s).isSome])/\∀n,wN false 4 s=some n->v=n:=by
 have c:=iC s 4 bX hl
 cases h:fN 4 s with
 |none=>
  rw[h]at c;rw[TO h];refine⟨0,?_,λn hn=>by cases hn⟩;refine sF f155 ?_;exact K34
 |some n=>
  rw[h]at c;have bD:=yS h;rw[QB h];by_cases Lv:(s.getD 0 0).toNat =45
  ·rw[if_pos Lv];refine⟨n,?_,λn hn=>by cases hn⟩;refine sF f155 ?_
   (try(refine tX 0 ?_;try exact Zt))
   (try(refine tX 0 ?_;try exact Zt))
   exact mI (c:=false) (by rw[Lv];rfl)
  ·rw[if_neg Lv];refine⟨n,?_,λm hm=>by simpa using hm⟩;refine sF f155 ?_
   (try(refine tX 0 ?_;try exact Zt))
   (try(refine tX 0 ?_;try exact Zt))
   exact mI (c:=true) (bne_iff_ne.2 K0)
def IA (s:List UInt8)(hl:s.length<=10000): ∃v u,ac 202 [SS s] (.aI [F2 v u,Bo (vq s).isSome])/\∀p,vq s=some p->p=(v,u):=by
 obtain⟨h3,h4⟩:=cj 47 s;have c1:=j0 s 47 K0;rw[show(47:UInt8).toNat =47 from rfl,iM]at c1;have e:vq s=Ep (wN false 4) (wN false 4) (aH 47 s):=rfl;rw[e];clear e;generalize aH 47 s=ws at*;have hn:=ee ws
 match ws,h4 with
 | [],_=>
  refine⟨0,0,?_,λp hp=>by cases hp⟩;refine sF f202 ?_;refine aS ?_;(refine aR ?_;conv=>whnf);(try(refine tX 2 ?_;try exact Zt));refine aM ?_;(refine aR ?_;conv=>whnf);(try(refine tX 2 ?_;try exact Zt));refine⟨_,dk 6 rfl,?_⟩;exact K1
 | [a],_=>
  refine⟨0,0,?_,λp hp=>by cases hp⟩;refine sF f202 ?_;refine aS ?_;(refine aR ?_;conv=>whnf);(try(refine tX 2 ?_;try exact Zt));refine aM ?_;(refine aR ?_;conv=>whnf);(try(refine tX 2 ?_;try exact Zt));refine⟨_,dk 6 rfl,?_⟩;exact K1
 | [a,b],h4=>
  obtain⟨v,c2,k2⟩:=EK a ajV;obtain⟨u,c3,k3⟩:=EK b ajU;refine⟨v,u,?_,λp hp=>?_⟩
  ·show nR _ _ _ _ (.aI [F2 v u,Bo (Option.isSome ((wN false 4 a).bind λx=>(wN false 4 b).map λy=>(x,y)))]);rw[oM.1];clear k2 k3;generalize (wN false 4 a).isSome =x at*;generalize (wN false 4 b).isSome =y at*;refine sF f202 ?_;exact K53
  ·exact ajF
 |a::b::c::r,_=>
  have bD:(ab (a::b::c::r)).length =r.length+3:=by simp
  refine⟨0,0,?_,λp hp=>by cases hp⟩;refine sF f202 ?_;refine aS ?_;(refine aR ?_;conv=>whnf);(try(refine tX 2 ?_;try exact Zt));refine aM ?_;(refine aR ?_;conv=>whnf);(try(refine tX 2 ?_;try exact Zt));refine⟨_,dk 6 rfl,?_⟩;exact K1
def VX (s:List UInt8)(hl:s.length<=10000): ∃q,ac 156 [SS s] (.aI [(true,sp q),Bo (BH s).isSome])/\∀p,BH s=some p->p=q:=by
 obtain⟨h3,h4⟩:=cj 32 s;have c1:=j0 s 32 K0;rw[show(32:UInt8).toNat =32 from rfl,iM]at c1;have e:BH s=(Ep vq vq (aH 32 s)).map (λp=>(p.1.1,p.1.2,p.2.1,p.2.2)):=rfl;rw[e];clear e;generalize aH 32 s=ws at*;have hn:=ee ws
 match ws,h4 with
 | [],_=>
  refine⟨(0,0,0,0),?_,λp hp=>by cases hp⟩;refine sF f156 ?_;refine aS ?_;(refine aR ?_;conv=>whnf);(try(refine tX 2 ?_;try exact Zt));refine aM ?_;(refine aR ?_;conv=>whnf);(try(refine tX 2 ?_;try exact Zt));refine⟨_,dk 6 rfl,?_⟩;exact K1
 | [a],_=>
  refine⟨(0,0,0,0),?_,λp hp=>by cases hp⟩;refine sF f156 ?_;refine aS ?_;(refine aR ?_;conv=>whnf);(try(refine tX 2 ?_;try exact Zt));refine aM ?_;(refine aR ?_;conv=>whnf);(try(refine tX 2 ?_;try exact Zt));refine⟨_,dk 6 rfl,?_⟩;exact K1
 | [a,b],h4=>
  obtain⟨v,u,c2,k2⟩:=IA a ajV;obtain⟨v',u',c3,k3⟩:=IA b ajU;refine⟨(v,u,v',u'),?_,λp hp=>?_⟩
  ·show nR _ _ _ _ (.aI [(true,sp (v,u,v',u')),Bo (Option.isSome (((vq a).bind λx=>(vq b).map λy=>(x,y)).map λp=>(p.1.1,p.1.2,p.2.1,p.2.2)))]);rw[SZ,oM.1];clear k2 k3;generalize (vq a).isSome =x at*;generalize (vq b).isSome =y at*;refine sF f156 ?_;exact K53
  ·exact afv
 |a::b::c::r,_=>
  have bD:(ab (a::b::c::r)).length =r.length+3:=by simp
  refine⟨(0,0,0,0),?_,λp hp=>by cases hp⟩;refine sF f156 ?_;refine aS ?_;(refine aR ?_;conv=>whnf);(try(refine tX 2 ?_;try exact Zt));refine aM ?_;(refine aR ?_;conv=>whnf);(try(refine tX 2 ?_;try exact Zt));refine⟨_,dk 6 rfl,?_⟩;exact K1
def zb (x:Int):ac 372 [wd x] (.one (I x.sign)):=by
 refine sF f372 ?_;exact tL
def uI {x y:Int}(hx:Sz 100000 x)(hy:Sz 100000 y):ac 380 [wd x,wd y] (.one (wd (x -y))):=by
 have h1:=BT y;have h2:=ND hx hy.neg;rw[<- Int.sub_eq_add_neg]at h2;refine sF f380 ?_;exact tL
def NI {x y:Int}(hx:Sz 100000 x)(hy:Sz 100000 y):ac 375 [wd x,wd y] (.one (I (x -y).sign)):=by
 refine sF f375 ?_;repeat((first|(refine kO 7 rfl ?_;first|refine rG (λ_ z=>⟨_,uI hx hy,z⟩) ?_)|refine tX 0 ?_|exact Zt);(try conv=>whnf))
 rfl
def AI {n:Int}(h: -9223372036854775808<=n/\n<=9223372036854775807):Sz 3 n:=IE (by
 grind)
def ET (s y:Int)(a:List Int)(ha:Dg a)(gk:a≠[])(hla:a.length<=50000)(hy:0<y)(hsy:Sz 50000 y)(hs:s=1\/s= -1):
  ac 376 [Wd s a,wd y] (.one (wd ((s*aW a)/y))):=by
 have fL:0<a.length:=LX.2 gk;have ly:(bf y.natAbs).length <=50000:=hsy;have ey:((y.natAbs:Int))=y:=by omega
 have sy:y.sign=1:=Int.sign_eq_one_of_pos hy
 have wy:ac 371 [I 1,L (bf y.natAbs)] (.one (wd y)):=by
  have:=oU (s:=1) (l:=bf y.natAbs) K0 (df _) (.inl rfl);rwa [bs,Dn,ey]at this
 have wm: ∀m:Int,0<=m->m<1000000000->ac 361 [wd y,wd m] (.one (wd (y*m))):=λm h1 h2=>pG (hsy.mono K0) ((AI K0).mono K0);have wo: ∀m:Int,0<=m->m<1000000000->ac 359 [I m] (.one (wd m)):=λm h1 h2=>kh m K0
 have lm: ∀m:Int,0<=m->m<1000000000->(bf (y*m).natAbs).length <=50001:=λm h1 h2=>by
  have:Sz 1 m:=IE (by have:pw 1=1000000000:=bX;rw[this];omega);exact hsy.mul this
 have tr: ∀(x r:Int),0<=x->x<1000000000->0<=r->r<y->trim ([x]++bf r.toNat)=bf (x+1000000000*r).toNat :=λx r h1 h2 h3 h4=>by
  have hd:Dg ([x]++bf r.toNat):=by
   intro z hz;rcases ig.1 hz with hz|hz
   grind
   ·exact df _ z hz
  rw[CJ hd];show bf (x+1000000000*aW (bf r.toNat)).toNat =_;rw[bs,show((r.toNat:Nat):Int)=r by omega]
 have lr: ∀r:Int,0<=r->r<y->(bf r.toNat).length <=50000:=λr h1 h2=>pf (gt K0) ly
 have ll: ∀(x r:Int),0<=x->x<1000000000->0<=r->r<y->(bf (x+1000000000*r).toNat).length <=50001:=λx r h1 h2 h3 h4=>by
  refine BR ?_;have h5:=vD (df r.toNat);rw[bs]at h5;have h6:=CK (lr r h3 h4);rw[pE];omega
 have UF: ∀t,t<a.length->V0 a y (a.length -1 -t)=(a.getD (a.length -1 -t) 0+1000000000*(og a (a.length -t)%y))/y/\og a (a.length -(t+1))%y=(a.getD (a.length -1 -t) 0+1000000000*(og a (a.length -t)%y))%y:=λt ht=>by grind[V0,V2]
 have g1:=ha.get (a.length -1 -0);have hR:0<=og a (a.length -0)%y/\og a (a.length -0)%y<y:=⟨Dd _ K0,LY _ hy⟩;have afr:((a.length:Int) -1).toNat =a.length -1 -0:=by omega
 have alQ:=tr _ _ g1.1 g1.2 hR.1 hR.2;have e0:bf (og a (a.length -0)%y).toNat = []:=by rw[HH,T1,Int.zero_emod];exact di
 rw[e0]at alQ;refine sF f376 ?_
 (try(refine tX 0 ?_;try exact Zt))
 refine aA ?_;repeat((first|(refine kO 7 rfl ?_;first|refine rG (λ_ z=>⟨_,pF _ (by simp),z⟩) ?_)|refine tX 0 ?_|exact Zt);(try conv=>whnf))
 have hL0:0<=(a.getD (a.length -1 -0) 0+1000000000*(og a (a.length -0)%y)):=by omega
 have al1:(a.getD (a.length -1 -0) 0+1000000000*(og a (a.length -0)%y))<y*1000000000:=by omega
 have wu:(bf (a.getD (a.length -1 -0) 0+1000000000*(og a (a.length -0)%y)).toNat).length <=50001:=ll _ _ g1.1 g1.2 hR.1 hR.2;have aed:=(UF 0 K0).1;have aej:=(UF 0 K0).2;refine af (ι:=Int × Int) (λp=>(0<=p.1/\p.1<=p.2/\p.2<=999999999)/\y*p.1<=(a.getD (a.length -1 -0) 0+1000000000*(og a (a.length -0)%y))/\(a.getD (a.length -1 -0) 0+1000000000*(og a (a.length -0)%y))<y*(p.2+1)) (λp=>(p.2 -p.1).toNat) (λp=>⟨[(2,pP 0),(3,pP 1),(4,pP 2),(5,pO 3),(6,vL (bf (a.getD (a.length -1 -0) 0+1000000000*(og a (a.length -0)%y)).toNat)),(7,vI ((a.length:Int) -1)),(8,vI p.1),(9,vI p.2)],[(0,some (.box 408 [.st (J s),.st (.ints a)])),(1,some (.box 408 [.st (J y.sign),.st (.ints (bf y.natAbs))])),(2,some (.box 408 [.st (J 0),.nil])),(3,some (.row true 1 (.ints (qS a y 0))))],4⟩) (0,999999999) (ai (by rw[afr,alQ];kernel_rfl)) ⟨by simp,by grind,by grind⟩ ?_;rintro⟨lo,hi⟩ ⟨⟨p1,p2,p3⟩,p4,p5⟩;simp only at p1 p2 p3 p4 p5
 (try(refine tX 0 ?_;try exact Zt))
 (refine bR ?_ ?_<;>intro h<;>(try conv=>whnf))
 ·have hm:0<=(lo+hi+1)/2/\(lo+hi+1)/2<=999999999/\lo< (lo+hi+1)/2/\(lo+hi+1)/2<=hi:=by omega
  have hyn:0<=y*((lo+hi+1)/2):=De K0 K0;have cf:=xm (y*((lo+hi+1)/2)).natAbs (a.getD (a.length -1 -0) 0+1000000000*(og a (a.length -0)%y)).toNat;repeat((first|(refine kO 7 rfl ?_;first|refine rG (λ_ z=>⟨_,wo _ K0 K0,z⟩) ?_|refine rG (λ_ z=>⟨_,wm _ K0 K0,z⟩) ?_|refine rG (λ_ z=>⟨_,pV _ _ (pf (lm _ K0 K0) bX) (pf wu bX),z⟩) ?_)|refine tX 0 ?_|exact Zt);(try conv=>whnf))
  exact K45
 ·obtain rfl:lo=hi:=by omega
  have hq:(a.getD (a.length -1 -0) 0+1000000000*(og a (a.length -0)%y))/y=lo/\(a.getD (a.length -1 -0) 0+1000000000*(og a (a.length -0)%y))%y=(a.getD (a.length -1 -0) 0+1000000000*(og a (a.length -0)%y)) -y*lo:=ajf;have hyn:0<=y*lo:=De K0 K0;have sd:=mn (df (a.getD (a.length -1 -0) 0+1000000000*(og a (a.length -0)%y)).toNat) (df (y*lo).natAbs) ⟨by omega,gt K0⟩ ajM;rw[bs,bs,show(((a.getD (a.length -1 -0) 0+1000000000*(og a (a.length -0)%y)).toNat :Int) -((y*lo).natAbs :Int)).toNat =((a.getD (a.length -1 -0) 0+1000000000*(og a (a.length -0)%y)) -y*lo).toNat by omega]at sd;have hql:=ES a y 0;have hqs:qS a y (0+1)=(qS a y 0).set (a.length -1 -0) lo:=by rw[<- hq.1,<- aed];rfl
  repeat((first|(refine kO 7 rfl ?_;first|refine rG (λ_ z=>⟨_,wo _ K0 K0,z⟩) ?_|refine rG (λ_ z=>⟨_,wm _ K0 K0,z⟩) ?_)|refine tX 0 ?_|exact Zt);(try conv=>whnf))
  refine af (ι:=Nat) (λt=>1<=t/\t<=a.length) (λt=>a.length -t) (λt=>⟨[(2,pP 0),(3,pP 1),(4,pP 2),(5,pO 3),(6,vL (bf (og a (a.length -t)%y).toNat)),(7,vI ((a.length:Int) -1 -(t:Int)))],[(0,some (.box 408 [.st (J s),.st (.ints a)])),(1,some (.box 408 [.st (J y.sign),.st (.ints (bf y.natAbs))])),(2,some (.box 408 [.st (J 0),.nil])),(3,some (.row true 1 (.ints (qS a y t))))],4⟩) 1 (ai (by rw[show qS a y 1=(qS a y 0).set (a.length -1 -0) lo from hqs,aej,hq.2,afr];kernel_rfl)) ⟨dG _,by omega⟩ ?_;clear sd hqs hql hyn hq p4 p5 h wu al1 hL0 aed aej;rintro t ⟨ht1,ht⟩;have al6:((a.length:Int) -1 -(t:Int)).toNat =a.length -1 -t:=by omega
  have g1:=ha.get (a.length -1 -t);have hR:0<=og a (a.length -t)%y/\og a (a.length -t)%y<y:=⟨Dd _ K0,LY _ hy⟩;have hlr:=lr _ hR.1 hR.2;have htr:=tr _ _ g1.1 g1.2 hR.1 hR.2
  (try(refine tX 0 ?_;try exact Zt))
  (refine bR ?_ ?_<;>intro h<;>(try conv=>whnf))
  ·have ht3:t<a.length:=by omega
   repeat((first|(refine kO 7 rfl ?_;first|refine rG (λ_ z=>⟨_,pF _ wY,z⟩) ?_)|refine tX 0 ?_|exact Zt);(try conv=>whnf))
   have hL0:0<=(a.getD (a.length -1 -t) 0+1000000000*(og a (a.length -t)%y)):=by omega
   have al1:(a.getD (a.length -1 -t) 0+1000000000*(og a (a.length -t)%y))<y*1000000000:=by omega
   have wu:(bf (a.getD (a.length -1 -t) 0+1000000000*(og a (a.length -t)%y)).toNat).length <=50001:=ll _ _ g1.1 g1.2 hR.1 hR.2;have aed:=(UF t K0).1;have aej:=(UF t K0).2;refine af (ι:=Int × Int) (λp=>(0<=p.1/\p.1<=p.2/\p.2<=999999999)/\y*p.1<=(a.getD (a.length -1 -t) 0+1000000000*(og a (a.length -t)%y))/\(a.getD (a.length -1 -t) 0+1000000000*(og a (a.length -t)%y))<y*(p.2+1)) (λp=>(p.2 -p.1).toNat) (λp=>⟨[(2,pP 0),(3,pP 1),(4,pP 2),(5,pO 3),(6,vL (bf (a.getD (a.length -1 -t) 0+1000000000*(og a (a.length -t)%y)).toNat)),(7,vI ((a.length:Int) -1 -(t:Int))),(8,vI p.1),(9,vI p.2)],[(0,some (.box 408 [.st (J s),.st (.ints a)])),(1,some (.box 408 [.st (J y.sign),.st (.ints (bf y.natAbs))])),(2,some (.box 408 [.st (J 0),.nil])),(3,some (.row true 1 (.ints (qS a y t))))],4⟩) (0,999999999) (ai (by rw[al6,htr];kernel_rfl)) ⟨by simp,by grind,by grind⟩ ?_;rintro⟨lo,hi⟩ ⟨⟨p1,p2,p3⟩,p4,p5⟩;simp only at p1 p2 p3 p4 p5
   (try(refine tX 0 ?_;try exact Zt))
   (refine bR ?_ ?_<;>intro h<;>(try conv=>whnf))
   ·have hm:0<=(lo+hi+1)/2/\(lo+hi+1)/2<=999999999/\lo< (lo+hi+1)/2/\(lo+hi+1)/2<=hi:=by omega
    have hyn:0<=y*((lo+hi+1)/2):=De K0 K0;have cf:=xm (y*((lo+hi+1)/2)).natAbs (a.getD (a.length -1 -t) 0+1000000000*(og a (a.length -t)%y)).toNat;repeat((first|(refine kO 7 rfl ?_;first|refine rG (λ_ z=>⟨_,wo _ K0 K0,z⟩) ?_|refine rG (λ_ z=>⟨_,wm _ K0 K0,z⟩) ?_|refine rG (λ_ z=>⟨_,pV _ _ (pf (lm _ K0 K0) bX) (pf wu bX),z⟩) ?_)|refine tX 0 ?_|exact Zt);(try conv=>whnf))
    exact K45
   ·obtain rfl:lo=hi:=by omega
    have hq:(a.getD (a.length -1 -t) 0+1000000000*(og a (a.length -t)%y))/y=lo/\(a.getD (a.length -1 -t) 0+1000000000*(og a (a.length -t)%y))%y=(a.getD (a.length -1 -t) 0+1000000000*(og a (a.length -t)%y)) -y*lo:=ajf;have hyn:0<=y*lo:=De K0 K0;have sd:=mn (df (a.getD (a.length -1 -t) 0+1000000000*(og a (a.length -t)%y)).toNat) (df (y*lo).natAbs) ⟨by omega,gt K0⟩ ajM;rw[bs,bs,show(((a.getD (a.length -1 -t) 0+1000000000*(og a (a.length -t)%y)).toNat :Int) -((y*lo).natAbs :Int)).toNat =((a.getD (a.length -1 -t) 0+1000000000*(og a (a.length -t)%y)) -y*lo).toNat by omega]at sd;have hql:=ES a y t;have hqs:qS a y (t+1)=(qS a y t).set (a.length -1 -t) lo:=by rw[<- hq.1,<- aed];rfl
    repeat((first|(refine kO 7 rfl ?_;first|refine rG (λ_ z=>⟨_,wo _ K0 K0,z⟩) ?_|refine rG (λ_ z=>⟨_,wm _ K0 K0,z⟩) ?_)|refine tX 0 ?_|exact Zt);(try conv=>whnf))
    exact⟨t+1,⟨by omega,by omega⟩,by omega,ai (by rw[hqs,aej,hq.2,al6,show(a.length:Int) -1 -(t:Int) -1=(a.length:Int) -1 -((t+1:Nat):Int)by omega];kernel_rfl)⟩
  ·obtain rfl:t=a.length:=by omega
   obtain⟨q1,q2,_⟩:=T2 ha hy a.length (dG _);rw[HI,NG]at q2;rw[HI,NG];have hql:=ES a y a.length;have w1:=oU (s:=s) (l:=qS a y a.length) K0 q1 hs;rw[q2,ac8,Dn]at w1;have hX:=mK ha;have hnf:=V3 (x:=aW a) hy;rcases hs with rfl|rfl
   ·(try(refine tX 0 ?_;try exact Zt))
    rw[Dn,Dn];rfl
   ·rw[Int.neg_mul,Dn,hnf];by_cases hr:aW a%y=0
    ·have e0:bf (aW a%y).toNat = []:=by rw[hr];exact di
     rw[e0,if_pos hr];exact ajc
    ·have e0:0< (bf (aW a%y).toNat).length :=by
      have hm:=Dd (aW a) (show y≠0 by omega);exact LX.2 (λe=>by rw[za]at e;omega)
     rw[if_neg hr];have o1:=kh 1 K0;have hq0:0<=aW a/y/\aW a/y<=aW a:=⟨Mc hX K0,Yd y hX⟩
     have szq:Sz 100000 (-1*(aW a/y)):=IE (by
      have h1:=vD ha;have h2:=CK (show a.length<=100000 by omega)
      omega)
     have o2:=uI szq ((AI (n:=1) K0).mono K0);exact ajc
def pW {x y:Int}(hx:Sz 50000 x)(hsy:Sz 50000 y)(hy:0<y):ac 376 [wd x,wd y] (.one (wd (x/y))):=by
 have fx:=iD x;by_cases h0:x=0
 ·subst h0;rw[Int.zero_ediv];simp only[wd,Dm,Dj,di];refine sF f376 ?_;exact tL
 ·have:=ET x.sign y (bf x.natAbs) (df _) (λe=>by grind[za]) hx hy hsy K0
  grind[bs]
def zc (x:Int):ac 379 [wd x] (.one (wd (x.natAbs:Int))):=by
 have fx:=iD x;have wn:=BT x;rcases S3 x 0 with h|h|h
 ·have e:(x.natAbs:Int)= -x:=by omega
  rw[e];have es:x.sign= -1:=by omega
  have wn':ac 373 [Wd (-1) (bf x.natAbs)] (.one (wd (-x))):=by rw[<- es];exact wn
  show ac 379 [Wd x.sign (bf x.natAbs)] _;rw[es];refine sF f379 ?_;exact Lz
 ·subst h;simp only[wd,Dm,Dj,di,Int.natCast_zero];refine sF f379 ?_;exact Lz
 ·have e:(x.natAbs:Int)=x:=by omega
  rw[e];have es:x.sign=1:=by omega
  unfold wd;rw[es];refine sF f379 ?_;exact Lz
def Sz.le {k:Nat}{x y:Int}(h:Sz k x)(hy:y.natAbs<=x.natAbs):Sz k y:=IE (by have:=TZ h;omega)
def NJ {x y:Int}(hx:Sz 50000 x)(hy:Sz 50000 y):ac 374 [wd x,wd y] (.one (wd (Int.gcd x y))):=by
 have a1:=zc x;have a2:=zc y;refine sF f374 ?_
 (try(refine tX 0 ?_;try exact Zt))
 refine af (ι:=Nat × Nat) (λp=>Nat.gcd p.1 p.2=Int.gcd x y/\Sz 50000 (p.1:Int)/\Sz 50000 (p.2:Int)) (λp=>p.2) (λp=>⟨[(2,pP 0),(3,pP 1),(4,pP 2)],[(0,some (.box 408 [.st (J (p.1:Int).sign),.st (.ints (bf (p.1:Int).natAbs))])),(1,some (.box 408 [.st (J (p.2:Int).sign),.st (.ints (bf (p.2:Int).natAbs))])),(2,some (.box 408 [.st (J 0),.nil]))],3⟩) (x.natAbs,y.natAbs) Zc ⟨rfl,hx.le (by simp),hy.le (by simp)⟩ ?_;rintro⟨u,v⟩ ⟨h1,h2,h3⟩;simp only at h1 h2 h3;have fv:=iD (v:Int);have g0:=zb (v:Int);by_cases hv:v=0
 ·have e:(v:Int).sign =0:=by omega
  rw[e]at g0;subst hv
  (try(refine tX 0 ?_;try exact Zt))
  rw[Nat.gcd_zero_right]at h1;rw[<- h1];rfl
 ·have hvp:(0:Int)<v:=by omega
  have q0:0<=(u:Int)/v/\(u:Int)/v<=u:=⟨Mc K0 K0,Yd _ K0⟩
  have q1:(u:Int)/v*v=u -((u%v:Nat):Int):=by
   have:=Int.ediv_mul_add_emod (u:Int) v;rw[Int.natCast_emod];omega
  have q2:u%v<=u:=Nat.mod_le _ _;have g1:=pW (x:=u) (y:=v) h2 h3 hvp;have g2:=pG (x:=(u:Int)/v) (y:=v) ((h2.le K0).mono K0) (h3.mono K0);have g3:=uI (x:=u) (y:=(u:Int)/v*v) (h2.mono K0) ((h2.le (by rw[q1];omega)).mono K0);rw[show(u:Int) -(u:Int)/v*v=((u%v:Nat):Int)by omega]at g3;have e:(v:Int).sign =1:=by omega
  rw[e]at g0
  (try(refine tX 0 ?_;try exact Zt))
  refine⟨(v,u%v),⟨?_,h3,?_⟩,tQ _ K0,Zc⟩
  ·show Nat.gcd v (u%v)=_;rw[<- h1,Ta u v,Nat.gcd_rec v u,Ta]
  ·exact h2.le afY
abbrev rt (n d:Int):SV:=(true,[J n.sign,.ints (bf n.natAbs),J d.sign,.ints (bf d.natAbs)])
def wL {n d:Int}(hn:Sz 50000 n)(hd:Sz 50000 d)(hp:0<d):ac 360 [wd n,wd d] (.one (rt (fu n d) (eE n d))):=by
 have fd:=iD d;have g0:=zb d;have es:d.sign=1:=by omega
 rw[es]at g0;have g1:=NJ hn hd;have hg:=Nr (n:=n) hp;have hgd:Int.gcd n d<=d.natAbs:=Nat.le_of_dvd K0 (Int.gcd_dvd_natAbs_right n d);have szg:Sz 50000 (Int.gcd n d:Int):=hd.le (by simpa using hgd);have o1:=kh 1 K0;have g2:=NI (x:=(Int.gcd n d:Int)) (y:=1) (szg.mono K0) ((AI (n:=1) K0).mono K0);have fg:=iD ((Int.gcd n d:Int) -1);have f1:=pW hn szg hg;have f2:=pW hd szg hg;by_cases h1:(Int.gcd n d:Int)=1
 ·have e1:fu n d=n:=by unfold fu;rw[h1];simp
  have e2:eE n d=d:=by unfold eE;rw[h1];simp
  rw[e1,e2];have eg:((Int.gcd n d:Int) -1).sign =0:=by omega
  rw[eg]at g2;refine sF f360 ?_;exact Lz
 ·have eg:((Int.gcd n d:Int) -1).sign =1:=by omega
  rw[eg]at g2;refine sF f360 ?_;exact Lz
def Kn (n:Int)(h: -9223372036854775807<=n/\n<=9223372036854775807):ac 338 [I n] (.one (rt n 1)):=by
 refine sF f338 ?_;repeat((first|(refine kO 7 rfl ?_;first|refine rG (λ_ z=>⟨_,kh n h,z⟩) ?_|refine rG (λ_ z=>⟨_,kh 1 K0,z⟩) ?_)|refine tX 0 ?_|exact Zt);(try conv=>whnf))
 rfl
def Ko {n d:Int}(hn: -9223372036854775807<=n/\n<=9223372036854775807)(hd:0<d/\d<=9223372036854775807):ac 362 [I n,I d] (.one (rt (fu n d) (eE n d))):=by
 have g:=wL (n:=n) (d:=d) ((AI K0).mono K0) ((AI K0).mono K0) hd.1;refine sF f362 ?_;repeat((first|(refine kO 7 rfl ?_;first|refine rG (λ_ z=>⟨_,kh n hn,z⟩) ?_|refine rG (λ_ z=>⟨_,kh d K0,z⟩) ?_)|refine tX 0 ?_|exact Zt);(try conv=>whnf))
 rfl
def GY {n d:Int}(hn: -9223372036854775807<=n/\n<=9223372036854775807)(hd:0<d/\d<=9223372036854775807):ac 340 [F2 n d] (.one (rt (fu n d) (eE n d))):=by
 refine sF f340 ?_;repeat((first|(refine kO 7 rfl ?_;first|refine rG (λ_ z=>⟨_,Ko hn hd,z⟩) ?_)|refine tX 0 ?_|exact Zt);(try conv=>whnf))
 rfl
def zd {n d m e:Int}(hn:Sz 20000 n)(hd:Sz 20000 d)(hm:Sz 20000 m)(he:Sz 20000 e)(hp:0<d*e):ac 339 [rt n d,rt m e] (.one (rt (fu (n*m) (d*e)) (eE (n*m) (d*e)))):=by
 have g1:=pG (x:=n) (y:=m) (hn.mono K0) (hm.mono K0);have g2:=pG (x:=d) (y:=e) (hd.mono K0) (he.mono K0);have g3:=wL (n:=n*m) (d:=d*e) ((hn.mul hm).mono K0) ((hd.mul he).mono K0) hp;refine sF f339 ?_;exact Lz
theorem ZW (u:Int)(hu:0<=u/\u<1000000000):ac 363 [Wd 1 [u]] (.aI [I u,Bo true]):=by
 have hl:([u]:List Int).length =1:=rfl;have hg:([u]:List Int).getD ((([u]:List Int).length :Int) -1).toNat 0=u:=rfl;have hg2:([u]:List Int).getD 0 0=u:=rfl;refine sF f363 ?_
 (try(refine tX 0 ?_;try exact Zt))
 refine aA ?_
 (try(refine tX 0 ?_;try exact Zt))
 refine aA ?_
 (try(refine tX 0 ?_;try exact Zt))
 grind[i64_in]
theorem ZX (u v:Int)(hu:0<=u/\u<1000000000)(hv:0<=v/\v<1000000000):ac 363 [Wd 1 [u,v]] (.aI [I (v*1000000000+u),Bo true]):=by
 have hl:([u,v]:List Int).length =2:=rfl;have hg:([u,v]:List Int).getD ((([u,v]:List Int).length :Int) -1).toNat 0=v:=rfl;have hg2:([u,v]:List Int).getD 1 0=v:=rfl;have hg3:([u,v]:List Int).getD 0 0=u:=rfl;have UL:([u,v]:List Int).getD ((([u,v]:List Int).length :Int) -1 -1).toNat 0=u:=rfl;refine sF f363 ?_
 (try(refine tX 0 ?_;try exact Zt))
 refine aA ?_
 (try(refine tX 0 ?_;try exact Zt))
 refine aA ?_
 (try(refine tX 0 ?_;try exact Zt))
 refine aA ?_
 (try(refine tX 0 ?_;try exact Zt))
 simp[i64_in u K0,i64_in v K0,i64_in (v*1000000000) K0,i64_in (v*1000000000+u) K0]
def BU {x:Int}(hx:0<x/\x<1000000000000000000):ac 363 [wd x] (.aI [I x,Bo true]):=by
 have fx:=VY x;have e:x.sign=1:=by omega
 unfold wd
 grind[qG,di,ZW,ZX]
def wM {n d:Int}(hn:0<n/\n<1000000000000000000)(hd:0<d/\d<1000000000000000000):ac 341 [rt n d] (.aI (if n<=1000000000/\d<=1000000000 then [F2 n d,Bo true]else [F2 0 0,Bo false])):=by
 have g1:=BU hn;have g2:=BU hd;by_cases h:n<=1000000000/\d<=1000000000
 ·rw[if_pos h];refine sF f341 ?_;exact tL
 ·rw[if_neg h];refine sF f341 ?_;exact tL
def QY (s q:Sp):Sp:=(fu (s.1*q.1) (s.2.1*q.2.1),eE (s.1*q.1) (s.2.1*q.2.1),fu (s.2.2.1*q.2.2.1) (s.2.2.2*q.2.2.2),eE (s.2.2.1*q.2.2.1) (s.2.2.2*q.2.2.2))
def EU (ch:List Sp)(k:Nat):Sp:=(ch.take k).foldl QY (1,1,1,1)
def EV {ch:List Sp}{k:Nat}(h:k<ch.length):EU ch (k+1)=QY (EU ch k) (ch.getD k (0,0,0,0)):=by grind[EU,List.take_succ_eq_append_getElem]
def iW (ch:List Sp):Sp:=EU ch ch.length
abbrev scB (B:Int)(s:Sp):Prop:=(1<=s.1/\s.1<=B)/\(1<=s.2.1/\s.2.1<=B)/\(1<=s.2.2.1/\s.2.2.1<=B)/\1<=s.2.2.2/\s.2.2.2<=B
def mL {q:Sp}(h:dK q=0):scB 1000 q/\Int.gcd q.1 q.2.1=1/\Int.gcd q.2.2.1 q.2.2.2=1/\¬q.2.2.1*q.2.1<q.1*q.2.2.2:=by
 unfold dK at h
 grind
def NK {n d B:Int}(hn:1<=n/\n<=B)(hd:1<=d/\d<=B):(1<=fu n d/\fu n d<=B)/\1<=eE n d/\eE n d<=B:=by
 have h1:=ags (show 0<=n by omega) (show 0<d by omega);have h2:=GW (n:=n) (d:=d) K0;have h3:=xj (n:=n) (show 0<d by omega);have h4:=QP n d
 grind
def GZ {a b A B:Int}(ha:1<=a/\a<=A)(hb:1<=b/\b<=B):1<=a*b/\a*b<=A*B:=by
 have h1:1*1<=a*b:=Dk ha.1 hb.1 K0 K0;have h2:a*b<=A*B:=Dk ha.2 hb.2 K0 K0;omega
def ZY {s q:Sp}{B:Int}(hs:scB B s)(hq:scB 1000 q):scB (B*1000) (QY s q):=by
 obtain⟨s1,s2,s3,s4⟩:=hs;obtain⟨q1,q2,q3,q4⟩:=hq;have a:=NK (GZ s1 q1) (GZ s2 q2);have b:=NK (GZ s3 q3) (GZ s4 q4);exact⟨a.1,a.2,b.1,b.2⟩
def ak9 {ch:List Sp}(hc: ∀q∈ch,dK q=0): ∀k,k<=ch.length->scB (1000^k) (EU ch k):=by
 intro k
 induction k with
 |zero=>grind[EU]
 |succ k ih=>
  intro hk;rw[EV hk,Int.pow_succ];exact ZY (ih K0) (mL (hc _ (EJ hk))).1
def amM {k:Nat}(h:k<=4):(1000:Int)^k<=1000000000000:=by rcases(show k=0\/k=1\/k=2\/k=3\/k=4 by omega)with rfl|rfl|rfl|rfl|rfl<;>decide
def EW {ch:List Sp}(hc: ∀q∈ch,dK q=0)(hl:ch.length<=4){k:Nat}(hk:k<=ch.length):scB 1000000000000 (EU ch k):=by
 have h:=ak9 hc k hk;have:=amM (k:=k) K0;omega
def iU {e:Int}{q:Sp}{ch:List Sp}(h:aV e q ch=0):(0<=e/\e<=100)/\dK q=0/\ch.length<=4/\∀s∈ch,dK s=0:=by
 unfold aV at h;split at h
 ·rename_i h1;split at h
  grind
  ·rename_i h2;split at h
   ·rename_i h3;refine⟨h1,by omega,h3,?_⟩;clear h2 h3
    induction ch with
    |nil=>grind
    |cons x ch ih=>
     simp only[ju,fs]at h
     grind
   ·omega
 ·omega
def ze {a b c d:Int}(ha:1<=a/\a<=1000000000000)(hb:1<=b/\b<=1000000000000)(hc:1<=c/\c<=1000)(hd:1<=d/\d<=1000):ac 286 [F2 a b,F2 c d] (.one (F2 (fu (a*c) (b*d)) (eE (a*c) (b*d)))):=by
 have m1:=GZ ha hc;have m2:=GZ hb hd;have g:=BN (a*c) (b*d) ⟨by omega,by omega⟩ K0;refine sF f286 ?_;exact tL
abbrev k7 (s:Sp):Prop:=(s.1<=1000000000/\s.2.1<=1000000000)/\s.2.2.1<=1000000000/\s.2.2.2<=1000000000
def kC (e:Int)(q:Sp)(ch:List Sp):Int:=if aV e q ch≠0 then aV e q ch else if k7 (iW ch)then 0 else 8
def NL (e:Int)(q:Sp)(ch:List Sp)(hq:qE q)(wl: ∀s∈ch,qE s)(hl:ch.length<=4294967296):ac 233 [Ru e q ch] (.aI (if kC e q ch=0 then [(true,sp (iW ch)),I 0]else [F4 0 0 0 0,I (kC e q ch)])):=by
 have g0:=k6 e q ch hq wl hl;by_cases h0:aV e q ch=0
 ·obtain⟨_,_,h4,hf⟩:=iU h0;have hS:=EW hf h4 (dG _);rw[h0]at g0;have he:kC e q ch=if k7 (iW ch)then 0 else 8:=by unfold kC;grind
  rw[he];clear he;refine sF f233 ?_
  (try(refine tX 0 ?_;try exact Zt))
  refine af (ι:=Nat) (λi=>i<=ch.length) (λi=>ch.length -i) (λi=>⟨[(2,pP 0),(6,pP 1),(20,some (.val (false,[.st (.view (ch.map sp))]))),(21,vI ch.length),(22,vI i)],[(0,some (.box 178 [.st (J 0),.st (J 0),.st (J 0),.st (J 0)])),(1,some (.box 178 [.st (J (EU ch i).1),.st (J (EU ch i).2.1),.st (J (EU ch i).2.2.1),.st (J (EU ch i).2.2.2)]))],2⟩) 0 (ai ajL) (dz _) ?_;intro i hi;have hB:=EW hf h4 hi
  (try(refine tX 0 ?_;try exact Zt))
  (refine bR ?_ ?_<;>intro h<;>(try conv=>whnf))
  ·have al:i<ch.length:=by omega
   have iR:=Kk al;have hs:=EV al;have hQ:=(mL (hf _ (EJ al))).1;generalize ch.getD i (0,0,0,0)=Q at*;have p1:=ze hB.1 hB.2.1 hQ.1 hQ.2.1;have p2:=ze hB.2.2.1 hB.2.2.2 hQ.2.2.1 hQ.2.2.2;exact K76
  ·obtain rfl:i=ch.length:=by omega
   change scB 1000000000000 (iW ch)at hB;show m9 _ _ ⟨_,[_,(1,some (.box 178 [.st (J (iW ch).1),.st (J (iW ch).2.1),.st (J (iW ch).2.2.1),.st (J (iW ch).2.2.2)]))],_⟩ _ _ _;generalize iW ch=S at*;by_cases k1:S.1<=1000000000/\S.2.1<=1000000000
   ·by_cases k2:S.2.2.1<=1000000000/\S.2.2.2<=1000000000
    ·rw[if_pos (show k7 S from⟨k1,k2⟩),if_pos rfl];repeat((first|(refine kO 7 rfl ?_;first|refine Rq (nJ _ _) ?_)|refine tX 0 ?_|exact Zt);(try conv=>whnf))
     exact K5
    ·rw[if_neg (show ¬k7 S from λh=>k2 h.2),if_neg K0];repeat((first|(refine kO 7 rfl ?_;first|refine Rq (nJ _ _) ?_)|refine tX 0 ?_|exact Zt);(try conv=>whnf))
     exact K5
   ·rw[if_neg (show ¬k7 S from λh=>k1 h.1),if_neg K0];repeat((first|(refine kO 7 rfl ?_;first|refine Rq (nJ _ _) ?_)|refine tX 0 ?_|exact Zt);(try conv=>whnf))
    exact K5
 ·have he:kC e q ch=aV e q ch:=by unfold kC;grind
  rw[he,if_neg h0];generalize aV e q ch=z0 at*;refine sF f233 ?_;exact K1
def uJ {n:Int}(h:1<=n/\n<=1000000000000):Sz 20000 n:=(AI K0).mono K0
def T3 {n d:Int}(hn:1<=n/\n<=1000)(hd:1<=d/\d<=1000)(hg:Int.gcd n d=1):ac 340 [F2 n d] (.one (rt n d)):=by
 have g:=GY (n:=n) (d:=d) K0 K0;have h1:fu n d=n:=by unfold fu;rw[hg];simp
 have h2:eE n d=d:=by unfold eE;rw[hg];simp
 rwa [h1,h2]at g
def Kp {e:Int}{q:Sp}{ch:List Sp}(h0:aV e q ch=0):ac 315 [Ru e q ch] (.aI (if k7 (iW ch)then [(true,sp (iW ch)),Bo true]else [F4 0 0 0 0,Bo false])):=by
 obtain⟨_,_,h4,hf⟩:=iU h0;have hS:=EW hf h4 (dG _);have o1:=Kn 1 K0;refine sF f315 ?_
 (try(refine tX 0 ?_;try exact Zt))
 refine af (ι:=Nat) (λi=>i<=ch.length) (λi=>ch.length -i) (λi=>⟨[(1,pP 0),(2,pP 1),(4,pP 2),(5,pP 3),(6,vI i)],[(0,some (.box 181 [.st (J e),.st (J q.1),.st (J q.2.1),.st (J q.2.2.1),.st (J q.2.2.2),.st (.view (ch.map sp))])),(1,some (.box 178 [.st (J 0),.st (J 0),.st (J 0),.st (J 0)])),
  (2,some (.box 410 [.st (J (EU ch i).1.sign),.st (.ints (bf (EU ch i).1.natAbs)),.st (J (EU ch i).2.1.sign),.st (.ints (bf (EU ch i).2.1.natAbs))])),(3,some (.box 410 [.st (J (EU ch i).2.2.1.sign),.st (.ints (bf (EU ch i).2.2.1.natAbs)),.st (J (EU ch i).2.2.2.sign),.st (.ints (bf (EU ch i).2.2.2.natAbs))]))],4⟩) 0 Zc (dz _) ?_
 intro i hi;have hB:=EW hf h4 hi
 (try(refine tX 0 ?_;try exact Zt))
 (refine bR ?_ ?_<;>intro h<;>(try conv=>whnf))
 ·have al:i<ch.length:=by rw[jf]at h;omega
  have iR:=Kk al;have hs:=EV al;have hQ:=mL (hf _ (EJ al));generalize ch.getD i (0,0,0,0)=Q at*;obtain⟨hQ,hg1,hg2,_⟩:=hQ;have p1:=T3 hQ.1 hQ.2.1 hg1;have p2:=T3 hQ.2.2.1 hQ.2.2.2 hg2;have p3:=zd (n:=(EU ch i).1) (d:=(EU ch i).2.1) (m:=Q.1) (e:=Q.2.1) (uJ hB.1) (uJ hB.2.1) (uJ K0) (uJ K0) (Int.mul_pos K0 K0);have p4:=zd (n:=(EU ch i).2.2.1) (d:=(EU ch i).2.2.2) (m:=Q.2.2.1) (e:=Q.2.2.2) (uJ hB.2.2.1) (uJ hB.2.2.2) (uJ K0) (uJ K0) (Int.mul_pos K0 K0);exact K76
 ·obtain rfl:i=ch.length:=by rw[jf]at h;omega
  have f1:=wM (n:=(iW ch).1) (d:=(iW ch).2.1) abZ abZ;have f2:=wM (n:=(iW ch).2.2.1) (d:=(iW ch).2.2.2) abZ abZ;by_cases k1:(iW ch).1<=1000000000/\(iW ch).2.1<=1000000000
  ·rw[if_pos k1]at f1;by_cases k2:(iW ch).2.2.1<=1000000000/\(iW ch).2.2.2<=1000000000
   ·rw[if_pos k2]at f2;rw[if_pos (show k7 (iW ch)from⟨k1,k2⟩)];exact K1
   ·rw[if_neg k2]at f2;rw[if_neg (show ¬k7 (iW ch)from λh=>k2 h.2)];exact K1
  ·rw[if_neg k1]at f1;rw[if_neg (show ¬k7 (iW ch)from λh=>k1 h.1)];by_cases k2:(iW ch).2.2.1<=1000000000/\(iW ch).2.2.2<=1000000000
   ·rw[if_pos k2]at f2;exact K1
   ·rw[if_neg k2]at f2;exact K1
def ni (e:Int)(q:Sp)(ch:List Sp)(hq:qE q)(wl: ∀s∈ch,qE s):ac 157 [Ru e q ch] (.one (I (aV e q ch))):=by
 have g:=qF q hq;unfold aV;by_cases h1:0<=e/\e<=100
 ·rw[if_pos h1];by_cases h2:dK q=0
  ·rw[if_neg K0];rw[h2]at g;by_cases h3:ch.length<=4
   ·rw[if_pos h3];have bD:(ch.map sp).length =ch.length:=jf ..;refine sF f157 ?_;repeat((first|(refine kO 7 rfl ?_;first|refine Rq (dt _ _ _) ?_)|refine tX 0 ?_|exact Zt);(try conv=>whnf))
    refine af (ι:=Nat) (λi=>i<=ch.length/\fs (ch.map dK)=fs ((ch.drop i).map dK)) (λi=>ch.length -i) (λi=>⟨[(1,pP 0),(4,vI i)],[(0,some (.box 181 [.st (J e),.st (J q.1),.st (J q.2.1),.st (J q.2.2.1),.st (J q.2.2.2),.st (.view (ch.map sp))]))],1⟩) 0 Zc ⟨dz _,rfl⟩ ?_;rintro i ⟨hi,he⟩
    (try(refine tX 0 ?_;try exact Zt))
    (refine bR ?_ ?_<;>intro h<;>(try conv=>whnf))
    ·have al:i<ch.length:=by omega
     have iR:=Kk al;have g:=qF _ (wl _ (EJ al));rw[TW al]at he
     (try(refine tX 0 ?_;try exact Zt))
     (refine bR ?_ ?_<;>intro h<;>(try conv=>whnf))
     ·exact aiN
     ·rw[if_neg h]at he
      (try(refine tX 0 ?_;try exact Zt))
      exact⟨i+1,⟨al,he⟩,by omega,Zc⟩
    ·exact aig
   ·rw[if_neg h3];have bD:(ch.map sp).length =ch.length:=jf ..;exact K63
  ·rw[if_pos h2];generalize dK q=z at*;refine sF f157 ?_;repeat((first|(refine kO 7 rfl ?_;first|refine Rq (dt _ _ _) ?_)|refine tX 0 ?_|exact Zt);(try conv=>whnf))
   exact K5
 ·rw[if_neg h1];exact K63
def dT (o:Option (Int × List Int)):(Int × List Int) × Int:=match o with
 |some (st,l)=>if dj st l=0 then((st,l),0)else((0,[]),dj st l)
 |none=>((0,[]),7)
abbrev PR (r:(Int × List Int) × Int):List SV:=[Rc r.1.1 r.1.2,I r.2]
def vG {l:List (List UInt8)}{i:Nat}(h:i<l.length):(ab l)[i]? =some [.lit (.string (B (l.getD i [])))]:=aiS
def lY (s:List UInt8)(hl:s.length<=10000):ac 181 [SS s] (.aI (PR (dT (cI (aH 32 s))))):=by
 obtain⟨h1,h2⟩:=uw s 32;obtain⟨h3,h4⟩:=cj 32 s;have c1:=AF s 32 K0 h2;rw[h1,show(32:UInt8).toNat =32 from rfl]at c1;generalize aH 32 s=ws at*;have hn:=ee ws;refine sF f181 ?_
 (try(refine tX 0 ?_;try exact Zt))
 refine af (ι:=Nat × Int × List Int) (λp=>(p.1<=ws.length/\p.2.2.length<=p.1)/\cI (ws.take p.1)=some p.2) (λp=>ws.length -p.1)
  (λp=>⟨[(2,pP 0),(4,pP 1),(15,pO 2),(16,vI ws.length),(17,vI p.1)],[(0,some (.box 249 [.st (J 0),.nil])),(1,some (.box 249 [.st (J p.2.1),.own 3])),(2,some (.row false 1 (.view (ab ws)))),(3,some (.row true 1 (.ints p.2.2)))],4⟩)
  (0,0,[]) (by
   refine bu.trans (dk 14 rfl) ?_;refine bu.trans (iL 10 1 1 (.ints []) (T:=249) (cs:=[.st (J 0),.nil]) bX rfl rfl rfl rfl) ?_
   exact ai P3) ⟨⟨dz _,dG _⟩,rfl⟩ ?_
 rintro⟨i,st,l⟩ ⟨⟨hi,ha⟩,hg⟩;dsimp only at hi ha hg ⊢;by_cases al:i<ws.length
 ·have he:=vG al
  have UQ:(ws.getD i []).length <=10000:=by
   have:=h4 (ws.getD i []) afu;omega
  have ma:=Eu al;by_cases h0:i=0
  ·have hb:decide ((i:Int)>0)=false:=eJ K0;have hz:=λn=>BJ (ws:=ws) K0 (n:=n);rw[if_pos h0]at ma;rw[<- h0]at hz;have qe:l= []:=Jj K0;subst qe;generalize ws.getD i []=w at*
   cases hd:wN false 7 w with
   |some n=>
    have c:=rO (d:=7) bX K0 hd;rw[<- hb]at c;have hz:=hz n hd;exact K85
   |none=>
    rw[ma hd];obtain⟨v,c⟩:=rQ (d:=7) K0 hd;rw[<- hb]at c;exact K3
  ·have hb:decide ((i:Int)>0)=true:=fh K0;have hz:=λn=>BK K0 al hg (n:=n);rw[if_neg h0,<- CG]at ma;rw[<- CG]at hz;generalize ws.getD i []=w at*
   cases hd:wN true 7 w with
   |some n=>
    have c:=rO (d:=7) bX K0 hd;rw[<- hb]at c;exact K69
   |none=>
    rw[ma hd];obtain⟨v,c⟩:=rQ (d:=7) K0 hd;rw[<- hb]at c;exact K3
 ·obtain rfl:i=ws.length:=by omega
  rw[mB]at hg;rw[hg];have c3:=j6 st l ab7;have e:dT (some (st,l))=if dj st l=0 then((st,l),0)else((0,[]),dj st l):=rfl
  rw[e];generalize dj st l=x at*;by_cases hx:x=0
  ·rw[if_pos hx];exact K3
  ·rw[if_neg hx];exact K3
end Go.Proofs.Tryz
