import Derived.Test.YtolnfpljgjpbpaaGreatDoorPk4
import Derived.Test.YtolnfpljgjpbpaaGreatDoorPk14
import Derived.Test.YtolnfpljgjpbpaaGreatDoorPk15
set_option linter.all false
set_option maxRecDepth 100000
set_option maxHeartbeats 8000000
namespace Go.Proofs.Tryz
open Go.Fw Go.IntWalk Go.Plain
theorem zk {s:aj}{a b:Int}(h:pY s=some (a,b)):qd a/\qd b:=by
 have h:Ep (wN false 13) (wN false 13) (aH 47 s)=some (a,b):=h;generalize aH 47 s=l at h
 match l,h with
 | [],h=>cases h
 | [_],h=>cases h
 |_::_::_::_,h=>cases h
 | [x,y],h=>
  obtain⟨h1,h2⟩:=oM.2 _ h;exact⟨Io bX h1,Io bX h2⟩
def AX (s:aj)(hl:s.length<=10000):ac 179 [SS s] (.aI [(true,Fo (CO s).1),I (CO s).2]):=by
 obtain⟨l1,l2⟩:=cj 59 s;have c0:=rL s 59 K0;rw[show(59:UInt8).toNat =59 from rfl]at c0
 obtain⟨p,ps,Be⟩: ∃p ps,aH 59 s=p::ps:=by
  cases h:aH 59 s with
  |nil=>grind[ng]
  |cons p ps=>grind
 have nn:=λh=>Ua (s:=s) Be h;have abI:=λh=>Ub (s:=s) Be h;rw[Be]at l1 l2 c0;have lp:=l2 p (by simp);have l3:ps.length<=s.length:=by grind
 obtain⟨m1,m2⟩:=cj 32 p;have c1:=rL p 32 K0;rw[show(32:UInt8).toNat =32 from rfl]at c1;generalize aH 32 p=ws at*;have hn:=ee ws;have Ja:=ee (p::ps);by_cases h5:ws.length=5;rotate_left
 ·rw[jU (abI h5)];refine sF f179 ?_;exact tL
 ·have nn:=nn h5;clear abI
  match ws,h5,m2,c1,nn with
  | [w0,w1,w2,w3,w4],_,m2,c1,nn=>
   have b0:=m2 w0 (by simp);have b1:=m2 w1 (by simp);have b2:=m2 w2 (by simp);have b3:=m2 w3 (by simp);have b4:=m2 w4 (by simp);obtain⟨v1,d1,k1⟩:=gi false w1 K0;obtain⟨v2,d2,k2⟩:=gi false w2 K0;obtain⟨v3,u3,d3,k3⟩:=IS w3 K0;obtain⟨v4,u4,d4,k4⟩:=IS w4 K0;have hh:(sJ [w0,w1,w2,w3,w4]).isSome =((((wN false 13 w1).isSome &&(wN false 13 w2).isSome)&&(pY w3).isSome)&&(pY w4).isSome):=IK;have hv: ∀h,sJ [w0,w1,w2,w3,w4]=some h->h=(v1,v2,(v3,u3),(v4,u4)):=aiE
   have hI:(sJ [w0,w1,w2,w3,w4]).isSome =true->(qd v3/\qd u3)/\qd v4/\qd u4:=by
    intro h;obtain⟨⟨a,b,c,d⟩,h⟩:=qW.1 h;obtain⟨e1,e2,e3,e4⟩:=Ks h
    grind[zk]
   generalize sJ [w0,w1,w2,w3,w4]=hd at*;clear k1 k2 k3 k4 m2;obtain⟨fl,ov⟩: ∃fl:Nat->Bool,∀i,fl i= !(hd.isSome&&(fO LD (ps.take i)).isSome):=⟨_,λ_=>rfl⟩
   have alO:fl 0=((((false || !(wN false 13 w1).isSome) || !(wN false 13 w2).isSome) || !(pY w3).isSome) || !(pY w4).isSome):=by
    rw[ov 0,hh];show(!(_&&true))=_;cases (wN false 13 w1).isSome <;>cases (wN false 13 w2).isSome <;>cases (pY w3).isSome <;>cases (pY w4).isSome <;>rfl
   have hsn:=ee ps;refine sF f179 ?_;repeat((first|(refine kO 7 rfl ?_;first|refine gu (λ_ z=>⟨_,_,_,kX (d1 _) rfl,z⟩) ?_|refine gu (λ_ z=>⟨_,_,_,kX (d2 _) rfl,z⟩) ?_|refine gu (λ_ z=>⟨_,_,_,kX (d3 _) rfl,z⟩) ?_|refine gu (λ_ z=>⟨_,_,_,kX (d4 _) rfl,z⟩) ?_)|refine tX 0 ?_|exact Zt);(try conv=>whnf))
   refine af (ι:=Nat × List Pu) (λq=>(q.1<=ps.length/\q.2.length=q.1)/\∀x,fO LD (ps.take q.1)=some x->x=q.2) (λq=>ps.length -q.1)
    (λq=>⟨[(2,pP 0),(6,pP 1),(7,pP 2),(56,some (.val (false,[.st (.view (ab ps))]))),(57,vI ps.length),(58,vI q.1)],
     [(0,some (.box 243 [.st (T []),.st (J 0),.st (J 0),.st (J 0),.st (J 0),.st (J 0),.st (J 0),.nil])),(1,some (.box 291 [.st (K (fl q.1))])),
      (2,some (.box 243 [.st (T w0),.st (J v1),.st (J v2),.st (J v3),.st (J u3),.st (J v4),.st (J u4),.own 3])),(3,some (.row true 3 (.view (q.2.map wb))))],4⟩)
    (0,[]) (by
     refine bu.trans (iL 66 7 3 (.view []) (T:=243) (cs:=[.st (T w0),.st (J v1),.st (J v2),.st (J v3),.st (J u3),.st (J v4),.st (J u4),.nil]) bX rfl rfl rfl rfl) ?_
     exact ai (by rw[alO,<- hsn];kernel_rfl)) ⟨⟨dz _,rfl⟩,λx h=>by cases h;rfl⟩ ?_
   rintro⟨i,l⟩ ⟨⟨hi,wu⟩,hx⟩;dsimp only at hi wu hx ⊢;clear d1 d2 d3 d4 alO c0 c1;by_cases al:i<ps.length
   ·have he:=sA al;have hq:ps.getD i []∈ps:=by grind
    have hql:=l2 _ (jt _ hq);have ma:=λh=>ux (f:=LD) al h;have UP:=Wq (f:=LD) al;have l8:=λ{n:Pu} hn=>aad (f:=LD) al hx (n:=n) hn;generalize ps.getD i []=w at*;obtain⟨r1,r2⟩:=cj 32 w;have c2:=rL w 32 K0;rw[show(32:UInt8).toNat =32 from rfl]at c2;have Cw: ∀x y z:aj,aH 32 w= [x,y,z]->LD w=(wN false 13 x).bind λa=>(wN true 13 y).bind λb=>(wN false 13 z).map λc=>(a,b,c):=λx y z h=>IL h;have hpb:=λh=>T8 (s:=w) h;generalize aH 32 w=wi at*;have hwn:=ee wi;by_cases h3:wi.length=3
    ·match wi,h3,r2,c2,Cw with
     | [x,y,z],_,r2,c2,Cw=>
      have g1:=r2 x (by simp);have g2:=r2 y (by simp);have g3:=r2 z (by simp);obtain⟨n1,d1,k1⟩:=gi false x K0;obtain⟨n2,d2,k2⟩:=gi true y K0;obtain⟨n3,d3,k3⟩:=gi false z K0;have Cw:=Cw x y z rfl
      have Sb:fl (i+1)=(((fl i || !(wN false 13 x).isSome) || !(wN true 13 y).isSome) || !(wN false 13 z).isSome):=by
       rw[ov,ov,UP,Cw,Wp];cases hd.isSome<;>cases (fO LD (ps.take i)).isSome <;>cases (wN false 13 x).isSome <;>cases (wN true 13 y).isSome <;>cases (wN false 13 z).isSome <;>rfl
      have io:=l8 (n:=(n1,n2,n3)) (by
       rintro⟨a,b,c⟩ e;rw[Cw]at e;obtain⟨e1,e2,e3⟩:=ado e
       grind)
      clear l8 ma UP Cw hpb k1 k2 k3;repeat((first|(refine kO 7 rfl ?_;first|refine gu (λ_ z=>⟨_,_,_,kX (d1 _) rfl,z⟩) ?_|refine gu (λ_ z=>⟨_,_,_,kX (d2 _) rfl,z⟩) ?_|refine gu (λ_ z=>⟨_,_,_,kX (d3 _) rfl,z⟩) ?_)|refine tX 0 ?_|exact Zt);(try conv=>whnf))
      exact⟨(i+1,l++[(n1,n2,n3)]),⟨⟨al,by grind⟩,io⟩,by grind,ai (by rw[Sb,Aj];kernel_rfl)⟩
    ·rw[jU (by grind[zj])];exact tL
   ·obtain rfl:i=ps.length:=by omega
    rw[mB]at hx;have hf:=ov ps.length;rw[mB]at hf;by_cases hb:fl ps.length=true
    ·rw[hb]at hf;rw[jU (by grind[zj]),hb];exact tL
    ·have hb:fl ps.length=false:=by grind
     rw[hb]at hf;have hf2:hd.isSome=true/\(fO LD ps).isSome =true:=by grind
     have hI:=hI hf2.1;obtain⟨h,e1⟩:=qW.1 hf2.1;obtain⟨x,e2⟩:=qW.1 hf2.2;obtain rfl:=hv h e1;obtain rfl:=hx x e2;rw[e1,e2]at nn;have nn:E5 s=some ⟨w0,v1,v2,(v3,u3),(v4,u4),x⟩:=nn;rw[Fa nn,hb];have cc:=qM ⟨w0,v1,v2,(v3,u3),(v4,u4),x⟩ bw bw hI;generalize mO ⟨w0,v1,v2,(v3,u3),(v4,u4),x⟩=E at*;have cc:ac 224 [(true,[T w0,J v1,J v2,J v3,J u3,J v4,J u4,.view (x.map wb)])] (.aI [I E.1,I E.2]):=cc;clear hf hf2 e1 e2 nn ov hsn wu;exact ai4
def amQ {a b c:Int}(h:a=b):mc.aI [I a,I c]= .aI [I b,I c]:=by rw[h]
def WD (x:G1)(hn:x.name.length<=1000000)(hp:x.ps.length<=1000000)(hi:Rk x):ac 272 [(true,Fo x)] (.aI [(true,Fo x),I (mO x).2]):=by
 have c:=qM x hn hp hi;generalize mO x=E at*;refine sF f272 ?_;exact K1
def aaz (xs:List Int)(h0:0<xs.length)(hl:xs.length<4611686018427387904):ac 274 [(false,[.ints xs])] (.vh 1 (.ints (srt xs))):=aay abU dy xs h0 hl
def KK (x:G1)(hn:x.name.length<=1000000)(hp:x.ps.length<=1000000)(hi:Rk x):ac 225 [(true,Fo x)] (.aI [I (adw x).1,I (adw x).2]):=by
 have c:=WD x hn hp hi;have e8:=λh=>CT (x:=x) h;obtain⟨nm,pe,le,⟨a,b⟩,⟨p,q⟩,ps⟩:=x;dsimp only at hn hp e8;have hl:(ps.map wb).length =ps.length:=by simp
 unfold adw;generalize (mO ⟨nm,pe,le,(a,b),(p,q),ps⟩).2=E at*;dsimp only;have c:ac 272 [(true,[T nm,J pe,J le,J a,J b,J p,J q,.view (ps.map wb)])] (.aI [(true,[T nm,J pe,J le,J a,J b,J p,J q,.view (ps.map wb)]),I E]):=c;show nR _ _ _ [(true,[T nm,J pe,J le,J a,J b,J p,J q,.view (ps.map wb)])] _;by_cases h0:E=0;rotate_left
 ·rw[if_neg h0];have hf:=λz=>dF (l:=[E,z]) (E:=E) (by simp[fs,h0]);refine sF f225 ?_;repeat' ((first|(refine kO 7 rfl ?_;first|refine Rq (jC _) ?_|refine Rq (hf _) ?_)|refine tX 0 ?_|exact Zt|refine bR ?_ ?_<;>intro h)<;>(try conv=>whnf))
  all_goals exact Z0
 obtain⟨h1,h2,h3,_⟩:=e8 h0;rw[if_pos h0];subst h0;clear e8;by_cases h4:le<=ps.length;rotate_left
 ·rw[if_neg h4];have hf:=dF (l:=[0,12]) (E:=12) rfl;refine sF f225 ?_;repeat' ((first|(refine kO 7 rfl ?_;first|refine rG (λ_ z=>⟨_,Rj K0 _,z⟩) ?_)|refine tX 0 ?_|exact Zt|refine bR ?_ ?_<;>intro h)<;>(try conv=>whnf))
  all_goals exact Z0
 rw[if_pos h4];have hf:=dF (l:=[0,0]) (E:=0) rfl;refine sF f225 ?_;repeat((first|(refine kO 7 rfl ?_;first|refine rG (λ_ z=>⟨_,Oy K0 _,z⟩) ?_)|refine tX 0 ?_|exact Zt);(try conv=>whnf))
 have hm: ∀i<ps.length,(ps.take (i+1)).map (λp=>(p.2.1.natAbs:Int))=(ps.take i).map (λp=>(p.2.1.natAbs:Int))++[((ps.getD i (0,0,0)).2.1.natAbs :Int)]:=λi hi=>by
  rw[Db,o8 hi,show ps.getD i (0,0,0)=ps[i]by simp[jX,hi],Aj];rfl
 refine af (ι:=Nat) (λi=>i<=ps.length) (λi=>ps.length -i) (λi=>⟨[(1,pP 0),(6,pO 1),(29,some (.val (false,[.st (.view (ps.map wb))]))),(30,vI ps.length),(31,vI i)],
  [(0,some (.box 243 [.st (T nm),.st (J pe),.st (J le),.st (J a),.st (J b),.st (J p),.st (J q),.st (.view (ps.map wb))])),(1,some (.row true 1 (.ints ((ps.take i).map λp=>(p.2.1.natAbs:Int)))))],2⟩) 0 (by
   refine bu.trans (jz 6 1 (.ints []) bX rfl rfl rfl) ?_
   exact ai (by rw[<- hl];kernel_rfl)) (dz _) ?_
 clear c hf;intro i hi;by_cases al:i<ps.length
 ·have he:=aZ (f:=wb) al (0,0,0);have hm:=hm i al;have hb:=h3 _ (show ps.getD i (0,0,0)∈ps by rw[show ps.getD i (0,0,0)=ps[i]by simp[jX,al]];exact pd al);have hz:((ps.take i).map λp=>(p.2.1.natAbs:Int)).length <=60:=by simp;omega
  generalize ps.getD i (0,0,0)=r at*;repeat' ((first|(refine kO 7 rfl ?_;first|refine rG (λ_ z=>⟨_,IT r.2.1 K0 K0,z⟩) ?_)|refine tX 0 ?_|exact Zt|refine bR ?_ ?_<;>intro h)<;>(try conv=>whnf))
  all_goals first|exact Zo|exact⟨i+1,al,by omega,ai (by rw[hm];kernel_rfl)⟩
 ·obtain rfl:i=ps.length:=by omega
  rw[mB];obtain⟨k,rfl⟩: ∃k:Nat,le=k:=⟨le.toNat,by omega⟩;have hk:k<=ps.length:=by omega
  have hv:=Rm (l:=ps) (n:=k) K0 hk h3;have hsl:=(OC (ps.map λp=>(p.2.1.natAbs:Int))).length_eq;have hml:(ps.map λp=>(p.2.1.natAbs:Int)).length =ps.length:=by simp
  generalize ps.map (λp=>(p.2.1.natAbs:Int))=zs at*;have hs:=aaz zs K0 K0;generalize srt zs=ss at*;generalize qK ps k 4096=lv at*;have hv:ss.getD ((ss.length:Int) -k).toNat 0=(lv:Nat):=by rw[show((ss.length:Int) -k).toNat =ps.length -k by omega];exact hv
  repeat' ((first|refine tX 0 ?_|exact Zt|refine bR ?_ ?_<;>intro h)<;>(try conv=>whnf))
  all_goals first|exact Zo|exact amQ hv
def amR {a b c d e:Int}(h:a=b)(k:c=d):mc.aI [F2 a c,I e]= .aI [F2 b d,I e]:=by rw[h,k]
def adx (y:Int){q:Int}(hq:0<q):(y+q -1)/q= -(-y/q):=by
 have d1:=SF (y+q -1) q;have d2:=Dd (y+q -1) (by omega:q≠0);have d3:=LY (y+q -1) hq;have d4:=SF (-y) q;have d5:=Dd (-y) (by omega:q≠0);have d6:=LY (-y) hq;generalize (y+q -1)/q=A at*;generalize -y/q=B at*;generalize (y+q -1)%q=r at*;generalize -y%q=s at*;have e:q*(A+B)=q*A+q*B:=Int.mul_add _ _ _
 have h:A+B=0:=by
  generalize A+B=z at*;have h1:q*z<q:=by omega
  have h2: -q<q*z:=by omega
  have h3:z<1:=by
   apply PY;intro h;have:=XJ (show 1<=z by omega) (show 0<=q by omega);omega
  have h4: -1<z:=by
   apply PY;intro h;have:=XJ (show z<= -1 by omega) (show 0<=q by omega);omega
  omega
 omega
def Hb (x:G1)(hn:x.name.length<=1000000)(hp:x.ps.length<=1000000)(hi:Rk x):ac 180 [(true,Fo x)] (.aI [F2 (T7 x).1.1 (T7 x).1.2,I (T7 x).2]):=by
 have c:=KK x hn hp hi;have e8:=λh=>CT (x:=x) h;have eA:=KJ x.ps x.least 4096;obtain⟨nm,pe,le,⟨a,b⟩,⟨p,q⟩,ps⟩:=x;unfold adw at c;unfold T7;dsimp only at hn hp e8 c eA ⊢;generalize (mO ⟨nm,pe,le,(a,b),(p,q),ps⟩).2=E at*;generalize qK ps le 4096=lv at*;show nR _ _ _ [(true,[T nm,J pe,J le,J a,J b,J p,J q,.view (ps.map wb)])] _;by_cases h0:E=0;rotate_left
 ·rw[if_neg h0]at c ⊢;refine sF f180 ?_;exact tA
 obtain⟨h1,h2,_,h5,h6⟩:=e8 h0;rw[if_pos h0]at c ⊢;subst h0;clear e8;by_cases h4:le<=ps.length;rotate_left
 ·rw[if_neg h4]at c ⊢;refine sF f180 ?_;exact tA
 rw[if_pos h4]at c ⊢;have c:ac 225 [(true,[T nm,J pe,J le,J a,J b,J p,J q,.view (ps.map wb)])] (.aI [I (lv:Nat),I 0]):=c;have m1:=uP (a:=(lv:Nat)) (b:=a) K0 K0;have m2:=uP (a:=(lv:Nat)) (b:=p) K0 K0;have e2:=adx ((lv:Nat)*p) (q:=q) K0;refine sF f180 ?_;repeat' ((first|refine tX 0 ?_|exact Zt|refine bR ?_ ?_<;>intro h)<;>(try conv=>whnf))
 all_goals first|exact Zo|exact amR rfl e2
def Rz {l:List aj}{x:aj}:l.take (l.idxOf x)++l.drop (l.idxOf x+1)=l.erase x:=by rw[List.erase_eq_eraseIdx_of_idxOf rfl,List.eraseIdx_eq_take_drop_succ]
def agJ {fid:Nat}{H:HF}{id:Nat}(zs:List aj)(i:Nat)(hi:i<zs.length)(hb:H id=some (.row true 1 (.view (ab zs)))):
  bI cx fid 140 [(false,[.own id]),(false,[.st (.lit (.int .i64 (i:Int)))]),(false,[.st (.lit (.int .i64 ((i:Int)+1)))])] H (bh (.own fid)) [(fid,some (.row true 1 (.view (ab (zs.take i++zs.drop (i+1)))))),(id,none)] [id]:=by
 have:=NS (C:=cx) (fid:=fid) (f:=140) dy zs i (i+1) K0 K0 (λb cap arr T w q1 q2 q3 q4=>adf zs i (i+1) K0 K0 b cap arr T w q1 q2 q3 q4) hb;rwa [show((i+1:Nat):Int)=(i:Int)+1 by omega]at this
def aaM (E:to)(p:Pl)(log:List En)(s:bV)(hl:s.units.length<=1000)(x:aj)(n:List Int)(r:aj)(hg:p.ap.length<=1000)(hs:s.opens.length<=1000):
  bA cx 105 1 ((false,[.ptr 1 0])::[xp [x] n r].map dyn) (form p log s) [1] (.val (dyn (I (bm E p log s 4 [x] n r).2))) (form p log (bm E p log s 4 [x] n r).1):=by
 obtain⟨volt,earth,opens,hall,lots,units⟩:=s;have hs:opens.length<=1000:=hs;have c1:=bG p.ap x K0;have c2:=bG opens x K0;have e:bm E p log ⟨volt,earth,opens,hall,lots,units⟩ 4 [x] n r=if x∈p.ap then(if x∈opens then(⟨volt,earth,opens,hall,lots,units⟩,20)else if volt=false/\earth=true then(⟨volt,earth,opens++[x],hall,lots,units⟩,0)else(⟨volt,earth,opens,hall,lots,units⟩,24))else(⟨volt,earth,opens,hall,lots,units⟩,6):=rfl
 rw[e];clear e;by_cases h1:x∈p.ap
 all_goals
  first|(rw[fh h1]at c1;rw[if_pos h1])|(rw[eJ h1]at c1;rw[if_neg h1])
  by_cases h2:x∈opens
  all_goals
   first|rw[fh h2]at c2|rw[eJ h2]at c2
   try first|rw[if_pos h2]|rw[if_neg h2]
   cases volt<;>cases earth
   all_goals
    try first|rw[if_pos (⟨rfl,rfl⟩:false=false/\true=true)]|rw[if_neg (by decide: ¬(false=false/\false=true))]|rw[if_neg (by decide: ¬(true=false/\false=true))]|rw[if_neg (by decide: ¬(true=false/\true=true))]
    refine gF f105 hl ?_;exact K58
def aaN (E:to)(p:Pl)(log:List En)(s:bV)(hl:s.units.length<=1000)(x:aj)(n:List Int)(r:aj)(hg:p.ap.length<=1000)(hs:s.opens.length<=1000):
  bA cx 106 1 ((false,[.ptr 1 0])::[xp [x] n r].map dyn) (form p log s) [1] (.val (dyn (I (bm E p log s 5 [x] n r).2))) (form p log (bm E p log s 5 [x] n r).1):=by
 obtain⟨volt,earth,opens,hall,lots,units⟩:=s;have hs:opens.length<=1000:=hs;have c1:=bG p.ap x K0;have c2:=AB opens x K0;have e:bm E p log ⟨volt,earth,opens,hall,lots,units⟩ 5 [x] n r=if x∈p.ap then(if x∈opens then(⟨volt,earth,opens.erase x,hall,lots,units⟩,0)else(⟨volt,earth,opens,hall,lots,units⟩,20))else(⟨volt,earth,opens,hall,lots,units⟩,6):=rfl
 rw[e];clear e;by_cases h2:x∈opens
 ·have hk:=XR h2;have d1:=λfid H id hb=>agJ (fid:=fid) (H:=H) (id:=id) opens (opens.idxOf x) hk hb;rw[Rz]at d1;rw[show be opens x=(opens.idxOf x:Nat)by unfold be;rw[if_pos h2]]at c2;rw[if_pos h2];generalize opens.idxOf x=k at*;by_cases h1:x∈p.ap
  ·rw[fh h1]at c1;rw[if_pos h1];refine gF f106 hl ?_;repeat' ((first|(refine kO 7 rfl ?_;first|refine rG (λ_ z=>⟨_,aN (by omega) _,z⟩) ?_|refine rG (λ_ z=>⟨_,bJ (by omega) _,z⟩) ?_|refine rG (λ_ z=>⟨_,wF rfl,z⟩) ?_|refine gu (λ_ z=>⟨_,_,_,(d1 _ _ _ rfl),z⟩) ?_)|refine tX 0 ?_|exact Zt|refine bR ?_ ?_<;>intro h)<;>(try conv=>whnf))
   all_goals exact Ew
  ·rw[eJ h1]at c1;rw[if_neg h1];exact K29
 ·rw[show be opens x= -1 by unfold be;rw[if_neg h2]]at c2;rw[if_neg h2];by_cases h1:x∈p.ap
  ·rw[fh h1]at c1;rw[if_pos h1];exact K29
  ·rw[eJ h1]at c1;rw[if_neg h1];exact K29
end Go.Proofs.Tryz
