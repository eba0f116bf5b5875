import Derived.Test.YtackacoaaihcjaaGreatDoorPkM3
import Derived.Lib.Walk
import Derived.Deep.RegionLaw
import Derived.Lib.SliceRun
import Derived.Laws.IdiomCopy
set_option linter.all false
set_option maxRecDepth 100000
set_option maxHeartbeats 8000000
namespace Go.Proofs.Tryz
open Go.Fw Go.IntWalk Go.Plain
def dW (o:Option (Int × List Int)):(Int × List Int) × Int:=match o with
 |some (st,l)=>if dn st l=0 then((st,l),0)else((0,[]),dn st l)
 |none=>((0,[]),7)
abbrev PR (r:(Int × List Int) × Int):List SV:=[Rc r.1.1 r.1.2,I r.2]
def vp {l:List (List UInt8)}{i:Nat}(h:i<l.length):(ab l)[i]? =some [.lit (.string (B (l.getD i [])))]:=ajn
def l5 (s:List UInt8)(hl:s.length<=10000):ac 73 [SS s] (.aI (PR (dW (cF (aJ 32 s))))):=by
 obtain⟨h1,h2⟩:=uf s 32;obtain⟨h3,h4⟩:=cj 32 s;have c1:=Ar s 32 K0 h2;rw[h1,show(32:UInt8).toNat =32 from rfl]at c1;generalize aJ 32 s=ws at*;have hn:=eo ws;refine sF f73 ?_
 (try(refine tX 0 ?_;try exact Zt))
 refine af (ι:=Nat × Int × List Int) (λp=>(p.1<=ws.length/\p.2.2.length<=p.1)/\cF (ws.take p.1)=some p.2) (λp=>ws.length -p.1)
  (λp=>⟨[(2,pP 0),(4,pP 1),(15,pO 2),(16,vI ws.length),(17,vI p.1)],[(0,some (.box 168 [.st (J 0),.nil])),(1,some (.box 168 [.st (J p.2.1),.own 3])),(2,some (.row false 1 (.view (ab ws)))),(3,some (.row true 1 (.ints p.2.2)))],4⟩)
  (0,0,[]) (by
   refine bp.trans (cL 14 rfl) ?_;refine bp.trans (iQ 10 1 1 (.ints []) (T:=168) (cs:=[.st (J 0),.nil]) K9 rfl rfl rfl rfl) ?_
   exact ai PF) ⟨⟨dD _,dE _⟩,rfl⟩ ?_
 rintro⟨i,st,l⟩ ⟨⟨hi,ha⟩,hg⟩;dsimp only at hi ha hg ⊢;by_cases ak:i<ws.length
 ·have he:=vp ak
  have Uw:(ws.getD i []).length <=10000:=by
   have:=h4 (ws.getD i []) afI;omega
  have jt:=D1 ak;by_cases h0:i=0
  ·have hb:decide ((i:Int)>0)=false:=fj K0;have hz:=λn=>Bt (ws:=ws) K0 (n:=n);rw[if_pos h0]at jt;rw[<- h0]at hz;have sI:l= []:=IR K0;subst sI;generalize ws.getD i []=w at*
   cases hd:wN false 7 w with
   |some n=>
    have c:=rN (d:=7) K9 K0 hd;rw[<- hb]at c;have hz:=hz n hd;exact K93
   |none=>
    rw[jt hd];obtain⟨v,c⟩:=rO (d:=7) K0 hd;rw[<- hb]at c;exact K5
  ·have hb:decide ((i:Int)>0)=true:=fL K0;have hz:=λn=>Bu K0 ak hg (n:=n);rw[if_neg h0,<- Cp]at jt;rw[<- Cp]at hz;generalize ws.getD i []=w at*
   cases hd:wN true 7 w with
   |some n=>
    have c:=rN (d:=7) K9 K0 hd;rw[<- hb]at c;exact K77
   |none=>
    rw[jt hd];obtain⟨v,c⟩:=rO (d:=7) K0 hd;rw[<- hb]at c;exact K5
 ·obtain rfl:i=ws.length:=by omega
  rw[mA]at hg;rw[hg];have c3:=jZ st l Yn;have e:dW (some (st,l))=if dn st l=0 then((st,l),0)else((0,[]),dn st l):=rfl
  rw[e];generalize dn st l=x at*;by_cases hx:x=0
  ·rw[if_pos hx];exact K5
  ·rw[if_neg hx];exact K5
def kf (s:List UInt8)(hl:s.length<=10000):ac 77 [SS s] (.aI (PR (dW (cF (aJ 32 s))))):=by
 obtain⟨h3,h4⟩:=cj 32 s;have c1:=jY s 32 K0;rw[show(32:UInt8).toNat =32 from rfl,iR]at c1;generalize aJ 32 s=ws at*;have hn:=eo ws;refine sF f77 ?_
 (try(refine tX 0 ?_;try exact Zt))
 refine af (ι:=Nat × Int × List Int) (λp=>(p.1<=ws.length/\p.2.2.length<=p.1)/\cF (ws.take p.1)=some p.2) (λp=>ws.length -p.1)
  (λp=>⟨[(2,pP 0),(4,pP 1),(5,pO 2),(6,vI p.1)],[(0,some (.box 168 [.st (J 0),.nil])),(1,some (.box 168 [.st (J p.2.1),.own 3])),(2,some (.row false 1 (.view (ab ws)))),(3,some (.row true 1 (.ints p.2.2)))],4⟩)
  (0,0,[]) (by
   refine bp.trans (cL 14 rfl) ?_;refine bp.trans (iQ 10 1 1 (.ints []) (T:=168) (cs:=[.st (J 0),.nil]) K9 rfl rfl rfl rfl) ?_
   exact Zc) ⟨⟨dD _,dE _⟩,rfl⟩ ?_
 rintro⟨i,st,l⟩ ⟨⟨hi,ha⟩,hg⟩;dsimp only at hi ha hg ⊢;by_cases ak:i<ws.length
 ·have he:=vp ak
  have Uw:(ws.getD i []).length <=10000:=by
   have:=h4 (ws.getD i []) afI;omega
  have jt:=D1 ak;by_cases h0:i=0
  ·have hz:=λn=>Bt (ws:=ws) K0 (n:=n);rw[if_pos h0]at jt;rw[<- h0]at hz;have sI:l= []:=IR K0;subst sI;generalize ws.getD i []=w at*;have c:=iI w 7 K9 K0
   cases hd:fP 7 w with
   |some n=>
    rw[hd]at c;have hwp:=yO hd;have hp:=Qe hd;by_cases KQ:(w.getD 0 0).toNat =45
    ·rw[if_pos KQ]at hp;rw[jt hp];exact K5
    ·rw[if_neg KQ]at hp;have hz:=hz n hp;exact K93
   |none=>
    rw[hd]at c;rw[jt (TA hd)];exact K5
  ·have hz:=λn=>Bu K0 ak hg (n:=n);rw[if_neg h0]at jt;generalize ws.getD i []=w at*;have c:=iI w 7 K9 K0
   cases hd:fP 7 w with
   |some n=>
    rw[hd]at c;exact K77
   |none=>
    rw[hd]at c;rw[jt hd];exact K5
 ·obtain rfl:i=ws.length:=by omega
  rw[mA]at hg;rw[hg];have c3:=lZ st l Yn;have e:dW (some (st,l))=if dn st l=0 then((st,l),0)else((0,[]),dn st l):=rfl
  rw[e];generalize dn st l=x at*;by_cases hx:x=0
  ·rw[if_pos hx];exact K5
  ·rw[if_neg hx];exact K5
def iK (o:Option (Int × MQ × List MQ)):(Int × MQ × List MQ) × Int:=match o with
 |some (e,q,ch)=>if aY e q ch=0 then((e,q,ch),0)else((0,(0,0,0,0),[]),aY e q ch)
 |none=>((0,(0,0,0,0),[]),7)
abbrev PQ (r:(Int × MQ × List MQ) × Int):List SV:=[Ru r.1.1 r.1.2.1 r.1.2.2,I r.2]
abbrev z4:MQ:=(0,0,0,0)
def ZY (l:List Sp)(x:Sp):(SC.view (l.map sp++[sp x])).zW 4:=aiz
def nj (s:List UInt8)(hl:s.length<=10000):ac 72 [SS s] (.aI (PQ (iK (eF (aJ 59 s))))):=by
 obtain⟨h1,h2⟩:=uf s 59;obtain⟨h3,h4⟩:=cj 59 s;have h5:=ng 59 s;have c1:=Ar s 59 K0 h2;rw[h1,show(59:UInt8).toNat =59 from rfl]at c1;generalize aJ 59 s=ws at*;have hn:=eo ws;have h6:0<ws.length:=Lu.2 h5;have R2:=vp h6;have CE:(ws.getD 0 []).length <=10000:=aiJ
 cases hd:wN false 4 (ws.getD 0 [])with
 |none=>
  obtain⟨v,c0⟩:=rO (d:=4) K0 hd;rw[HP hd];generalize ws.getD 0 []=w at*;refine sF f72 ?_;refine aS ?_;(refine aR ?_;conv=>whnf);(try(refine tX 2 ?_;try exact Zt));refine aS ?_;refine aS ?_;(refine aR ?_;conv=>whnf);(try(refine tX 2 ?_;try exact Zt))
  (try refine tB 0 ?_)
  refine aM ?_;(refine aR ?_;conv=>whnf);(try(refine tX 2 ?_;try exact Zt));refine⟨_,cL 12 rfl,?_⟩;exact K5
 |some n=>
  have c0:=rN (d:=4) K9 K0 hd;have hsm:=λq ch=>Bv (q:=q) (ch:=ch) hd;generalize ws.getD 0 []=w at*;by_cases h7:ws.length<2
  ·have e:fQ Br (ws.drop 1)=some []:=by rw[Ly K0];rfl
   rw[D3 e];refine sF f72 ?_;refine aS ?_;(refine aR ?_;conv=>whnf);(try(refine tX 2 ?_;try exact Zt));refine aS ?_;refine aS ?_;(refine aR ?_;conv=>whnf);(try(refine tX 2 ?_;try exact Zt))
   (try refine tB 0 ?_)
   refine aM ?_;(refine aR ?_;conv=>whnf);(try(refine tX 2 ?_;try exact Zt));refine⟨_,cL 12 rfl,?_⟩;exact K5
  ·have AU:(ab ws).drop 1=ab (ws.drop 1):=by simp
   have hpn:ws.length -1=(ws.drop 1).length :=by simp
   have pL:(ab (ws.drop 1)).length =(ws.drop 1).length :=eo _;have hbd:=D2 (ws:=ws);have Uw: ∀w∈ws.drop 1,w.length<=10000:=λw hw=>by have:=h4 w (PD hw);omega
   generalize hpd:ws.drop 1=ps at*;refine sF f72 ?_;refine aS ?_;(refine aR ?_;conv=>whnf);(try(refine tX 2 ?_;try exact Zt));refine aS ?_;refine aS ?_;(refine aR ?_;conv=>whnf);(try(refine tX 2 ?_;try exact Zt))
   (try refine tB 0 ?_)
   refine aM ?_;(refine aR ?_;conv=>whnf);(try(refine tX 2 ?_;try exact Zt));refine⟨_,cL 12 rfl,?_⟩
   (try(refine tX 0 ?_;try exact Zt))
   refine af (ι:=Nat × List Sp) (λp=>(p.1<=ps.length/\p.2.length=p.1)/\fQ Br (ps.take p.1)=some p.2) (λp=>ps.length -p.1)
    (λp=>⟨[(2,pP 0),(7,pP 1),(37,some (.val (false,[.st (.view (ab ps))]))),(38,vI ps.length),(39,vI p.1)],[(0,some (.box 164 [.st (J 0),.st (J 0),.st (J 0),.st (J 0),.st (J 0),.nil])),(1,some (.box 164 [.st (J n),.st (J (p.2.getD 0 z4).1),.st (J (p.2.getD 0 z4).2.1),.st (J (p.2.getD 0 z4).2.2.1),.st (J (p.2.getD 0 z4).2.2.2),.own 2])),(2,some (.row true 4 (.view ((p.2.drop 1).map sp))))],3⟩)
    (0,[]) (by
     refine bp.trans (iQ 52 5 4 (.view []) (T:=164) (cs:=[.st (J n),.st (J 0),.st (J 0),.st (J 0),.st (J 0),.nil]) K9 rfl rfl rfl rfl) ?_
     exact ai (by rw[<- pL];kernel_rfl)) ⟨⟨dD _,rfl⟩,rfl⟩ ?_
   rintro⟨i,qs⟩ ⟨⟨hi,ha⟩,hg⟩;dsimp only at hi ha hg ⊢;by_cases ak:i<ps.length
   ·have he:=vp ak;have Uw:(ps.getD i []).length <=10000:=Uw _ ai4;have hz:=λn=>vc ak hg (n:=n);have jt:=ug (f:=Br) ak;generalize ps.getD i []=x at*;obtain⟨q,c,k⟩:=JV x K0
    cases hx:Br x with
    |some p=>
     have hpq:=k p hx;subst hpq;have hz:=hz _ hx;rw[hx,X7]at c;by_cases h0:i=0
     ·have sI:qs= []:=IR K0;subst sI;repeat' ((first|refine tX 0 ?_|exact Zt|refine bR ?_ ?_<;>intro h)<;>(try conv=>whnf))
      all_goals first|exact Zo|(exact absurd rfl h)|(exact⟨(i+1,[p]),⟨⟨ak,by dsimp only[List.length_cons,List.length_nil];omega⟩,hz⟩,by dsimp only;omega,Zc⟩)
     ·have e1:(qs++[p]).getD 0 z4=qs.getD 0 z4:=by
       exact akb
      have e2:((qs++[p]).drop 1).map sp=(qs.drop 1).map sp++[sp p]:=aj7;have hap:(qs++[p]).length =qs.length+1:=by simp
      have jg:((qs.drop 1).map sp).length =qs.length -1:=by simp
      have u:=ZY (qs.drop 1) p;generalize hC:(qs.drop 1).map sp=C at*;generalize hQ:qs.getD 0 z4=Q at*;have amV:(C++[sp p]).length =C.length+1:=by simp
      repeat' ((first|refine tX 0 ?_|exact Zt|refine bR ?_ ?_<;>intro h)<;>(try conv=>whnf))
      all_goals first|exact Zo|(exact absurd rfl h)|(exact⟨(i+1,qs++[p]),⟨⟨ak,by dsimp only;omega⟩,hz⟩,by dsimp only;omega,ai akg⟩)
    |none=>
     rw[hbd (jt hx)];rw[hx,X8]at c;exact K5
   ·obtain rfl:i=ps.length:=by omega
    rw[mA]at hg
    match qs,ha,hg with
    | [],ha,hg=>exfalso;simp at ha;omega
    |q::ch,ha,hg=>
     rw[hsm q ch hg];have Ce:=yU (P:=qC) (λs x=>Qg) hg;have c3:=k7 n q ch (Ce q (by simp)) (λs hs=>Ce s (by simp[hs])) (by simp at ha;omega);have e:iK (some (n,q,ch))=if aY n q ch=0 then((n,q,ch),0)else((0,(0,0,0,0),[]),aY n q ch):=rfl
     rw[e];generalize aY n q ch=x at*;by_cases hx:x=0
     ·rw[if_pos hx];exact K5
     ·rw[if_neg hx];exact K5
def QD {ws:List (List UInt8)}{i:Nat}(h:1<=i):(ws.drop 1).getD (i -1) []=ws.getD i []:=ajj
def k9 (s:List UInt8)(hl:s.length<=10000):ac 76 [SS s] (.aI (PQ (iK (eF (aJ 59 s))))):=by
 obtain⟨h3,h4⟩:=cj 59 s;have h5:=ng 59 s;have c1:=jY s 59 K0;rw[show(59:UInt8).toNat =59 from rfl,iR]at c1;generalize aJ 59 s=ws at*;have hn:=eo ws;have h6:0<ws.length:=Lu.2 h5;have R2:=vp h6;have CE:(ws.getD 0 []).length <=10000:=aiJ;obtain⟨n,c0,k0⟩:=Ec (ws.getD 0 []) K0
 cases hd:wN false 4 (ws.getD 0 [])with
 |none=>
  rw[hd,X8]at c0;rw[HP hd];generalize ws.getD 0 []=w at*;refine sF f76 ?_;exact K5
 |some n'=>
  have hnn:=k0 _ hd;subst hnn;rw[hd,X7]at c0;have hsm:=λq ch=>Bv (q:=q) (ch:=ch) hd;generalize ws.getD 0 []=w at*;by_cases h7:ws.length<2
  ·have e:fQ Br (ws.drop 1)=some []:=by rw[Ly K0];rfl
   rw[D3 e];refine sF f76 ?_;exact K5
  ·have hbd:=D2 (ws:=ws);have hpn:(ws.drop 1).length =ws.length -1:=by simp
   have hgt:=λi=>QD (ws:=ws) (i:=i);have Uw: ∀w∈ws,w.length<=10000:=λw hw=>by have:=h4 w hw;omega
   generalize hpd:ws.drop 1=ps at*;refine sF f76 ?_
   (try(refine tX 0 ?_;try exact Zt))
   refine af (ι:=Nat × List Sp) (λp=>(1<=p.1/\p.1<=ws.length/\p.2.length=p.1 -1)/\fQ Br (ps.take (p.1 -1))=some p.2) (λp=>ws.length -p.1)
    (λp=>⟨[(2,pP 0),(4,pO 1),(7,pP 2),(8,vI p.1)],[(0,some (.box 164 [.st (J 0),.st (J 0),.st (J 0),.st (J 0),.st (J 0),.nil])),(1,some (.row true 1 (.view (ab ws)))),(2,some (.box 164 [.st (J n),.st (J (p.2.getD 0 z4).1),.st (J (p.2.getD 0 z4).2.1),.st (J (p.2.getD 0 z4).2.2.1),.st (J (p.2.getD 0 z4).2.2.2),.own 3])),(3,some (.row true 4 (.view ((p.2.drop 1).map sp))))],4⟩)
    (1,[]) (by
     refine bp.trans (iQ 52 5 4 (.view []) (T:=164) (cs:=[.st (J n),.st (J 0),.st (J 0),.st (J 0),.st (J 0),.nil]) K9 rfl rfl rfl rfl) ?_
     exact Zc) ⟨⟨dE _,by dsimp only;omega,rfl⟩,rfl⟩ ?_
   rintro⟨i,qs⟩ ⟨⟨zO,hi,ha⟩,hg⟩;dsimp only at zO hi ha hg ⊢;by_cases ak:i<ws.length
   ·have he:=vp ak;have Uw:(ws.getD i []).length <=10000:=Uw _ afI;have hz:=λn=>vc K0 hg (n:=n);have jt:=ug (f:=Br) (l:=ps) (i:=i -1) K0;rw[show i -1+1=i+1 -1 by omega,hgt i zO]at hz;rw[hgt i zO]at jt;generalize ws.getD i []=x at*;obtain⟨q,c,k⟩:=VR x K0
    cases hx:Br x with
    |some p=>
     have hpq:=k p hx;subst hpq;have hz:=hz _ hx;rw[hx,X7]at c;by_cases h0:i=1
     ·have sI:qs= []:=IR K0;subst sI;repeat' ((first|refine tX 0 ?_|exact Zt|refine bR ?_ ?_<;>intro h)<;>(try conv=>whnf))
      all_goals first|exact Zo|(exact absurd rfl h)|(exact⟨(i+1,[p]),⟨⟨by dsimp only;omega,ak,by dsimp only[List.length_cons,List.length_nil];omega⟩,hz⟩,by dsimp only;omega,Zc⟩)
     ·have e1:(qs++[p]).getD 0 z4=qs.getD 0 z4:=by
       exact akb
      have e2:((qs++[p]).drop 1).map sp=(qs.drop 1).map sp++[sp p]:=aj7;have hap:(qs++[p]).length =qs.length+1:=by simp
      have jg:((qs.drop 1).map sp).length =qs.length -1:=by simp
      have u:=ZY (qs.drop 1) p;generalize hC:(qs.drop 1).map sp=C at*;generalize hQ:qs.getD 0 z4=Q at*;have amV:(C++[sp p]).length =C.length+1:=by simp
      repeat' ((first|refine tX 0 ?_|exact Zt|refine bR ?_ ?_<;>intro h)<;>(try conv=>whnf))
      all_goals first|exact Zo|(exact absurd rfl h)|(exact⟨(i+1,qs++[p]),⟨⟨by dsimp only;omega,ak,by dsimp only;omega⟩,hz⟩,by dsimp only;omega,ai akg⟩)
    |none=>
     rw[hbd (jt hx)];rw[hx,X8]at c;exact K5
   ·obtain rfl:i=ws.length:=by omega
    rw[pc K0]at hg
    match qs,ha,hg with
    | [],ha,hg=>exfalso;simp at ha;omega
    |q::ch,ha,hg=>
     rw[hsm q ch hg];have Ce:=yU (P:=qC) (λs x=>Qg) hg;have c3:=ni n q ch (Ce q (by simp)) (λs hs=>Ce s (by simp[hs]));have e:iK (some (n,q,ch))=if aY n q ch=0 then((n,q,ch),0)else((0,(0,0,0,0),[]),aY n q ch):=rfl
     rw[e];generalize aY n q ch=x at*;by_cases hx:x=0
     ·rw[if_pos hx];exact K5
     ·rw[if_neg hx];exact K5
def jL (s:aj):Int:=(iK (eF (aJ 59 s))).2
abbrev TsL (l:List Ts):SV:=(false,[.view (l.map fD)])
def iU {l:List Ts}{k:Nat}(h:k<l.length):(l.map fD)[k]? =some (fD (l.getD k dz)):=aV (f:=fD) h dz
theorem ld {l:List aj}{x:aj}(h:x∈l): ∃k,k<l.length/\bg l x=(k:Int):=by
 refine⟨l.idxOf x,XU h,?_⟩;unfold bg;grind
def Eu {l all:List aj}(h:jT l all=0)(i:Nat)(hi:i<l.length):l.getD i []∈all/\l.getD i []∉l.take i:=by
 have:=oR (f:=D4 l all) h i hi;unfold D4 at this
 grind
def afc {re:aj->Int}{l:List Ts}{i:Nat}(h: ¬(0<=(l.getD i dz).kind /\(l.getD i dz).kind <=3)):VF re l i=15:=by
 show ju (if _ then 0 else 15) _=15;rw[if_neg h,eS K9]
def afd {re:aj->Int}{l:List Ts}{i:Nat}(h:0<=(l.getD i dz).kind /\(l.getD i dz).kind <=3)(ha:jT (l.getD i dz).bz ((cS l).take i)≠0):VF re l i=jT (l.getD i dz).bz ((cS l).take i):=by
 show ju (if _ then 0 else 15) (ju _ _)=_;rw[if_pos h,jn,eS ha]
def afe {re:aj->Int}{l:List Ts}{i:Nat}(h:0<=(l.getD i dz).kind /\(l.getD i dz).kind <=3)(ha:jT (l.getD i dz).bz ((cS l).take i)=0)(hc:Qj l (l.getD i dz)≠0):VF re l i=Qj l (l.getD i dz):=by
 show ju (if _ then 0 else 15) (ju _ (ju _ _))=_;rw[if_pos h,jn,ha,jn,eS hc]
def aff {re:aj->Int}{l:List Ts}{i:Nat}(h:0<=(l.getD i dz).kind /\(l.getD i dz).kind <=3)(ha:jT (l.getD i dz).bz ((cS l).take i)=0)(hc:Qj l (l.getD i dz)=0):
  VF re l i=ju (if sw (l.getD i dz).kind then re (l.getD i dz).rules else if(l.getD i dz).rules = []then 0 else 7) (Zx (l.getD i dz).lo (l.getD i dz).hi):=by
 show ju (if _ then 0 else 15) (ju _ (ju _ _))=_;rw[if_pos h,jn,ha,jn,hc,jn]
def No (a b c:Int):ac 52 [(false,[.ints [a,b,c]])] (.one (I (fs [a,b,c]))):=oS [a,b,c] (fO rfl)
def Ev (e lo hi:Int):fs [e,if((-1000000000000000<=lo/\lo<=1000000000000000)/\ -1000000000000000<=hi/\hi<=1000000000000000)then 0 else 2,if lo<=hi then 0 else 9]=ju e (Zx lo hi):=by grind[ju,Zx,fs]
section
variable (l:List Ts)(i:Nat)(hl:l.length<=1000)(ak:i<l.length)(hn:(l.getD i dz).bz.length <=1000)(hr:(l.getD i dz).rules.length <=10000)
include hl ak hn hr
theorem Np:ac 179 [TsL l,I i] (.one (I (VF jL l i))):=by
 have he:=iU ak;have xp:(l.map fD).take i=(l.take i).map fD:=by rw[LR]
 have hmt:=uo (l.take i) wa;rw[Zy]at hmt;have hmf:=uo l hl;have ham:=HY (l.getD i dz).bz ((cS l).take i) hn (by simp[cS];omega);have ta:=afc (re:=jL) (l:=l) (i:=i);have tb:=afd (re:=jL) (l:=l) (i:=i);have tc:=afe (re:=jL) (l:=l) (i:=i);have td:=aff (re:=jL) (l:=l) (i:=i);have zQ:=nj (l.getD i dz).rules hr;have hre:(iK (eF (aJ 59 (l.getD i dz).rules))).2=jL (l.getD i dz).rules :=rfl;have hz:=Eu (l:=(l.getD i dz).bz) (all:=(cS l).take i);have BQ:Qj l (l.getD i dz)=if(l.getD i dz).kind =2 then(if(l.getD i dz).bz.length =0 then 10 else if(l.getD (bg (cS l) ((l.getD i dz).bz.getD 0 [])).toNat dz).kind =1 then 0 else 3)else 0:=rfl
 have hu: ∀e∈l.map fD,e.length=6:=by intro e he;obtain⟨t,_,rfl⟩:=dT.1 he;rfl
 generalize ht:l.getD i dz=t at*;generalize hA:jT t.bz ((cS l).take i)=A at*
 rcases t with⟨nm,kd,nd,ru,lo,hi⟩;dsimp only at*;have he:(l.map fD)[i]? =some [T nm,J kd,.view (ab nd),T ru,J lo,J hi]:=he;have AV:(ab nd).length =nd.length:=by simp
 have vV:(l.map fD).length =l.length:=by simp
 by_cases h1:0<=kd/\kd<=3
 ·by_cases h2:A=0
  ·have hA0:=h2;subst h2;by_cases h3:kd=2
   ·rw[if_pos h3]at BQ;by_cases h4:nd.length=0
    ·rw[if_pos h4]at BQ;rw[tc h1 rfl (by rw[BQ];decide),BQ];exact K44
    ·have abI:0<nd.length:=by omega
     obtain⟨hm0,_⟩:=hz hA0 0 abI;have R2:=sA abI;obtain⟨k0,XD,hk0⟩:=ld (CO hm0);have Xj:=Ao (cS l) (nd.getD 0 []) (by simp[cS];omega);rw[hk0]at Xj;have KS:=iU (l:=l) (k:=k0) (by simpa [cS]using XD);have xw:k0<l.length:=by simpa [cS]using XD
     rw[if_neg h4,hk0,sP]at BQ;generalize nd.getD 0 []=n0 at*;generalize l.getD k0 dz=t0 at*
     rcases t0 with⟨nm0,kd0,nd0,ru0,lo0,zO⟩;have KS:(l.map fD)[k0]? =some [T nm0,J kd0,.view (ab nd0),T ru0,J lo0,J zO]:=KS;dsimp only at BQ;by_cases h5:kd0=1
     ·rw[if_pos h5]at BQ;rw[td h1 rfl BQ];by_cases hi1:sw kd
      ·rw[if_pos hi1];have him:=kY kd;rw[fL hi1]at him;refine sF f179 ?_;repeat((first|(refine kO 7 rfl ?_;first|refine rG (λ_ z=>⟨_,aO h1 _,z⟩) ?_)|refine tX 0 ?_|exact Zt);(try conv=>whnf))
       refine BZ hu rfl rfl rfl rfl rfl rfl wa ?_;conv=>whnf
       rw[xp];repeat' ((first|(refine kO 7 rfl ?_;first|refine rG (λ_ z=>⟨_,aO h1 _,z⟩) ?_|refine Rq (bZ _ _) ?_|refine rG (λ_ z=>⟨_,kX _ _ K0,z⟩) ?_|refine Rq (No _ _ _) ?_)|refine tX 0 ?_|exact Zt|refine bR ?_ ?_<;>intro h)<;>(try conv=>whnf))
       all_goals first|exact Zo|(exact mH ab4)|(exact mH (by rw[<- Ev];simp_all))
      ·rw[if_neg hi1];have him:=kY kd;rw[fj hi1]at him;refine sF f179 ?_;repeat((first|(refine kO 7 rfl ?_;first|refine rG (λ_ z=>⟨_,aO h1 _,z⟩) ?_)|refine tX 0 ?_|exact Zt);(try conv=>whnf))
       refine BZ hu rfl rfl rfl rfl rfl rfl wa ?_;conv=>whnf
       rw[xp];repeat' ((first|(refine kO 7 rfl ?_;first|refine rG (λ_ z=>⟨_,aO h1 _,z⟩) ?_|refine Rq (bZ _ _) ?_|refine rG (λ_ z=>⟨_,kX _ _ K0,z⟩) ?_|refine Rq (No _ _ _) ?_)|refine tX 0 ?_|exact Zt|refine bR ?_ ?_<;>intro h)<;>(try conv=>whnf))
       all_goals first|exact Zo|(exact mH ab4)|(exact mH (by rw[<- Ev];simp_all))
     ·rw[if_neg h5]at BQ;rw[tc h1 rfl (by rw[BQ];decide),BQ];exact K44
   ·rw[if_neg h3]at BQ;rw[td h1 rfl BQ];by_cases hi1:sw kd
    ·rw[if_pos hi1];have him:=kY kd;rw[fL hi1]at him;refine sF f179 ?_;repeat((first|(refine kO 7 rfl ?_;first|refine rG (λ_ z=>⟨_,aO h1 _,z⟩) ?_)|refine tX 0 ?_|exact Zt);(try conv=>whnf))
     refine BZ hu rfl rfl rfl rfl rfl rfl wa ?_;conv=>whnf
     rw[xp];repeat' ((first|(refine kO 7 rfl ?_;first|refine rG (λ_ z=>⟨_,aO h1 _,z⟩) ?_|refine Rq (bZ _ _) ?_|refine rG (λ_ z=>⟨_,kX _ _ K0,z⟩) ?_|refine Rq (No _ _ _) ?_)|refine tX 0 ?_|exact Zt|refine bR ?_ ?_<;>intro h)<;>(try conv=>whnf))
     all_goals first|exact Zo|(exact mH ab4)|(exact mH (by rw[<- Ev];simp_all))
    ·rw[if_neg hi1];have him:=kY kd;rw[fj hi1]at him;refine sF f179 ?_;repeat((first|(refine kO 7 rfl ?_;first|refine rG (λ_ z=>⟨_,aO h1 _,z⟩) ?_)|refine tX 0 ?_|exact Zt);(try conv=>whnf))
     refine BZ hu rfl rfl rfl rfl rfl rfl wa ?_;conv=>whnf
     rw[xp];repeat' ((first|(refine kO 7 rfl ?_;first|refine rG (λ_ z=>⟨_,aO h1 _,z⟩) ?_|refine Rq (bZ _ _) ?_|refine rG (λ_ z=>⟨_,kX _ _ K0,z⟩) ?_|refine Rq (No _ _ _) ?_)|refine tX 0 ?_|exact Zt|refine bR ?_ ?_<;>intro h)<;>(try conv=>whnf))
     all_goals first|exact Zo|(exact mH ab4)|(exact mH (by rw[<- Ev];simp_all))
  ·rw[tb h1 h2];exact K44
 ·rw[ta h1];refine sF f179 ?_;repeat((first|(refine kO 7 rfl ?_;first|refine rG (λ_ z=>⟨_,bK h1 _,z⟩) ?_|refine rG (λ_ z=>⟨_,HS (show(15:Int)≠0 by decide),z⟩) ?_)|refine tX 0 ?_|exact Zt);(try conv=>whnf))
  refine BZ hu rfl rfl rfl rfl rfl rfl wa ?_;conv=>whnf
  rw[xp];exact tL
end
def VY (x:aj × List aj)(n:aj):ac 255 [(true,mj x),(false,[.ref [T n]])] (.one (Bo (decide (x.1=n)))):=by
 refine sF f255 ?_;exact tL
def mN {l:List aj}{x:aj}{i:Nat}(h:i<l.length)(e:l.getD i []=x)(dp:x∉l.take i):bg l x=i:=Tz h (by rw[<- getD_at h (d:=[])];exact e) dp
def Nq (ps:List (aj × List aj))(n:aj)(hl:ps.length<=1000):ac 254 [(false,[.view (ps.map mj)]),Lb 255 [[T n]]] (.one (I (bg (ps.map Prod.fst) n))):=by
 have hn:(ps.map mj).length =ps.length:=by simp
 have AX:(ps.map Prod.fst).length =ps.length:=by simp
 refine sF f254 ?_
 (try(refine tX 0 ?_;try exact Zt))
 refine af (ι:=Nat) (λi=>i<=ps.length/\n∉(ps.map Prod.fst).take i) (λi=>ps.length -i) (λi=>⟨[(0,some (.val (false,[.st (.view (ps.map mj))]))),(1,vF 255 [[T n]]),(7,vI ps.length),(8,vI i)],[],0⟩) 0 (ai PF) ⟨dD _,by simp⟩ ?_;rintro i ⟨hi,dp⟩;by_cases ak:i<ps.length
 ·have he:=aV (f:=mj) ak ([],[]);have hg:(ps.map Prod.fst).getD i []=(ps.getD i ([],[])).1:=by rw[getD_at ak,getD_at K0];simp
  have nX:=λe=>mN (l:=ps.map Prod.fst) (x:=n) (i:=i) K0 e dp;have FL:=iS (l:=ps.map Prod.fst) (i:=i) (x:=n) K0;rw[hg]at nX FL;have hp1:=VY (ps.getD i ([],[])) n;by_cases hx:(ps.getD i ([],[])).1=n
  ·exact af5
  ·exact agc
 ·obtain rfl:i=ps.length:=by omega
  rw[pc K0]at dp;rw[fq dp];exact tL
def nw (p:Pl)(n:aj):aj × List aj:=if n∈p.bf then p.parts.getD (bg p.bf n).toNat ([],[])else([],[])
def QE (p:Pl)(n:aj)(hl:p.parts.length<=1000):ac 204 [(true,bE p),SS n] (.aI [(true,mj (nw p n)),Bo (decide (n∈p.bf))]):=by
 have Xj:=Nq p.parts n hl;have hq:p.parts.map Prod.fst=p.bf:=rfl;have pL:(p.parts.map mj).length =p.parts.length:=by simp
 rw[hq]at Xj;by_cases h:n∈p.bf
 ·obtain⟨k,hk,e⟩:=ld h;have xw:k<p.parts.length:=by simpa [Pl.bf]using hk
  have hd:nw p n=p.parts.getD k ([],[]):=by unfold nw;rw[if_pos h,e,sP]
  have KS:=aV (f:=mj) xw ([],[]);rw[e]at Xj;rw[hd,fL h];refine sF f204 ?_;exact tL
 ·have hd:nw p n=([],[]):=by unfold nw;rw[if_neg h]
  rw[fq h]at Xj;rw[hd,fj h];refine sF f204 ?_;exact tL
def VZ (s:aj)(out:List aj)(hl:out.length<=1000):ac 256 [SS s,(false,[.ref [.view (ab out)]])] (.one (Bo (decide (s∈out)))):=by
 have hc:=bI out s K0;refine sF f256 ?_;exact tL
def inE (l out:List aj)(i:Nat):Int:=if l.getD i []∈out then 1 else 0
def Gr (l out:List aj):Int:=if(cR (inE l out) l.length).2=0 then -1 else(cR (inE l out) l.length).1
def Nr (l out:List aj)(hl:l.length<=1000)(ho:out.length<=1000):ac 226 [V1 l,Lb 256 [[.view (ab out)]]] (.one (I (Gr l out))):=by
 have hn:(ab l).length =l.length:=by simp
 refine sF f226 ?_
 (try(refine tX 0 ?_;try exact Zt))
 refine af (ι:=Nat) (λi=>i<=l.length/\∀j<i,inE l out j=0) (λi=>l.length -i) (λi=>⟨[(0,some (.val (false,[.st (.view (ab l))]))),(1,vF 256 [[.view (ab out)]]),(7,vI l.length),(8,vI i)],[],0⟩) 0 (ai PF) ⟨dD _,λj hj=>by omega⟩ ?_;rintro i ⟨hi,hp⟩;by_cases ak:i<l.length
 ·have he:=sA ak;have hv:=VZ (l.getD i []) out ho;have kG:inE l out i=if l.getD i []∈out then 1 else 0:=rfl
  have eM:=λ(h:inE l out i≠0)=>fI (f:=inE l out) ak hp h;have it:=λ(h:inE l out i=0)=>all_succ hp h;by_cases hx:l.getD i []∈out
  ·rw[if_pos hx]at kG;rw[fL hx]at hv;have hr:=eM agk;rw[kG]at hr;have hf:Gr l out=i:=by unfold Gr;rw[hr];rfl
   rw[hf];exact tL
  ·rw[if_neg hx]at kG;rw[fj hx]at hv;exact tL
 ·obtain rfl:i=l.length:=by omega
  have hf:Gr l out= -1:=by unfold Gr;rw[gT hp];rfl
  rw[hf];exact tL
def ZZ (l out:List aj):0<=Gr l out↔∃n∈l,n∈out:=by
 rcases uh (inE l out) l.length with h|⟨k,h1,h2,h3⟩
 ·have:Gr l out= -1:=by unfold Gr;rw[gT h];rfl
  rw[this];refine⟨λe=>absurd e K9,λ⟨n,hn,ho⟩=>?_⟩;obtain⟨j,hj,rfl⟩:=IU.1 hn;have:=h j hj;unfold inE at this;rw[getD_at hj,if_pos ho]at this;cases this
 ·have:Gr l out=k:=by
   unfold Gr;rw[fI h1 h2 h3,if_neg h3]
  rw[this];refine⟨λ_=>?_,λ_=>by omega⟩;unfold inE at h3;by_cases hx:l.getD k []∈out
  ·rw[getD_at h1]at hx;exact⟨_,qd h1,hx⟩
  ·rw[if_neg hx]at h3;exact absurd rfl h3
def V0 (l out:List aj)(hl:l.length<=1000)(ho:out.length<=1000):ac 227 [V1 l,Lb 256 [[.view (ab out)]]] (.one (Bo (decide (∃n∈l,n∈out)))):=by
 have hi:=Nr l out hl ho;have hp:=ZZ l out;refine sF f227 ?_;exact tL
def Ey {fid:Nat}{H:HF}{t:TypeId}{l out:List aj}(hl:l.length<=1000)(ho:out.length<=1000)(h1:H 1=some (.box t [.own 2]))(h2:H 2=some (.row true 1 (.view (ab out)))):
  bX cx fid 227 [(false,[.st (.view (ab l))]),(false,[.sL 256 1])] H (.val (dyn (Bo (decide (∃n∈l,n∈out))))) [] [1,2]:=by
 refine iP (l:=[V1 l,Lb 256 [[.view (ab out)]]]) ⟨rfl,λk x y hx hy=>?_⟩ (V0 l out hl ho) rfl ⟨rfl,rfl,rfl⟩
 match k with
 |0=>
  cases hx;cases hy;refine⟨rfl,rfl,λk d c hd hc=>?_⟩
  match k with
  |0=>cases hd;cases hc;exact .st _
  |k+1=>simp at hd
 |1=>
  cases hx;cases hy;refine⟨rfl,rfl,λk d c hd hc=>?_⟩
  match k with
  |0=>
   cases hd;cases hc;refine .sL (by simp) h1 rfl λk d c hd hc=>?_
   match k with
   |0=>cases hd;cases hc;exact .row (by simp) h2
   |k+1=>simp at hd
  |k+1=>simp at hd
 |k+2=>simp at hx
def adg {fid:Nat}{H:HF}{t:TypeId}{l out:List aj}(h: ∃n∈l,n∈out)(hl:l.length<=1000)(ho:out.length<=1000)(h1:H 1=some (.box t [.own 2]))(h2:H 2=some (.row true 1 (.view (ab out)))):
  bX cx fid 227 [(false,[.st (.view (ab l))]),(false,[.sL 256 1])] H (.val (dyn (Bo true))) [] [1,2]:=by
 have:=Ey (fid:=fid) hl ho h1 h2;rwa [fL h]at this
def TQ {fid:Nat}{H:HF}{t:TypeId}{l out:List aj}(h: ¬ ∃n∈l,n∈out)(hl:l.length<=1000)(ho:out.length<=1000)(h1:H 1=some (.box t [.own 2]))(h2:H 2=some (.row true 1 (.view (ab out)))):
  bX cx fid 227 [(false,[.st (.view (ab l))]),(false,[.sL 256 1])] H (.val (dyn (Bo false))) [] [1,2]:=by
 have:=Ey (fid:=fid) hl ho h1 h2;rwa [fj h]at this
abbrev Pm (n:aj):List SC:=[T n,.any,.any,.any,.any,.any,.any,.any,.any,.any,.any,.any,.any,.any,.any,.any,.any]
def V2 (m n:aj):ac 163 [(true,Pm m),(false,[.ref [T n]])] (.one (Bo (decide (m=n)))):=by
 refine sF f163 ?_;exact K1
def Ns (ns:List aj)(n:aj)(hl:ns.length<=1000):ac 162 [(false,[.view (ns.map Pm)]),Lb 163 [[T n]]] (.one (I (bg ns n))):=by
 have hn:(ns.map Pm).length =ns.length:=by simp
 refine sF f162 ?_
 (try(refine tX 0 ?_;try exact Zt))
 refine af (ι:=Nat) (λi=>i<=ns.length/\n∉ns.take i) (λi=>ns.length -i) (λi=>⟨[(0,some (.val (false,[.st (.view (ns.map Pm))]))),(1,vF 163 [[T n]]),(7,vI ns.length),(8,vI i)],[],0⟩) 0 (ai PF) ⟨dD _,by simp⟩ ?_;rintro i ⟨hi,dp⟩;by_cases ak:i<ns.length
 ·have he:=aV (f:=Pm) ak [];have nX:=λe=>mN (l:=ns) (x:=n) (i:=i) ak e dp;have FL:=iS (l:=ns) (i:=i) (x:=n) ak;have hp1:=V2 (ns.getD i []) n;generalize ns.getD i []=m at*;by_cases hx:m=n
  ·rw[fL hx]at hp1;rw[nX hx];exact tA
  ·rw[fj hx]at hp1;repeat' ((first|refine tX 0 ?_|exact Zt|refine bR ?_ ?_<;>intro h)<;>(try conv=>whnf))
   all_goals first|exact Zo|exact⟨i+1,⟨ak,λhm=>(FL.1 hm).elim dp λe=>hx e.symm⟩,by omega,Zc⟩
 ·obtain rfl:i=ns.length:=by omega
  rw[pc (dE _)]at dp;exact acr
end Go.Proofs.Tryz
namespace Go.Proofs.Tryz
open Go Go.RowKit Go.Fw Go.Lib Go.Plain
def Z1 {mv mr:Mem}{a:Option Addr}{m cap:Nat}{c:SC}(h:dy mv mr (.slice a m cap) c)(hm:0<m)(hv:c.ao=true:=by rfl): ∃b o,a=some ⟨b,o,none⟩:=by
 generalize hs:Value.slice a m cap=v0 at h
 cases h with
 |empty a' jE Ps h0=>simp only[Value.slice.injEq]at hs;omega
 |view b9 o jE z f Ps fN hz fZ Xt hcc Uv=>simp only[Value.slice.injEq]at hs;exact⟨b9,o,hs.1⟩
 |_=>first|(simp[SC.ao]at hv;done)|cases hs
set_option maxHeartbeats 4000000 in
set_option maxRecDepth 1000000 in
def Z2 (ns:List aj)(n:aj)(hl:ns.length<=1000)(b:Nat)(a:Option Addr)(cap:Nat)(w:World)(hG: ∀w1,Below w.heap.size w w1->eQ cx.gl (rd w1))(hc:w.cell? ⟨b,12,none⟩=some (.slice a ns.length cap))
  (hr:dy (rd w) (rd w) (.slice a ns.length cap) (.view (ns.map Pm)))(hb:b<w.heap.size):
  Calls prog 89 #[.pointer (some ⟨b,0,none⟩),.string (B n)] w λe w'=>Below w.heap.size w w'/\
   ∃v,e= .returned v/\((bg ns n<0/\v= .pointer none)\/∃b9 o,0<=bg ns n/\a=some ⟨b9,o,none⟩/\v= .pointer (some ⟨b9,o+(bg ns n).toNat *17,none⟩)):=by
 go_enter Tryz.func89,Tryz.ntmps89
 go_wp2_with fail
 have KT:Below w.heap.size w (w.alloc (.cells #[.string (B n)] 9)):=by
  refine⟨rfl,rfl,rfl,?_,λc hc=>?_⟩
  ·show w.heap.size<=(w.heap.push _).size;simp
  ·show(w.heap.push _)[c]? =w.heap[c]?;rw[Array.getElem?_push];rw[if_neg K0]
 have np:rd (w.alloc (.cells #[.string (B n)] 9)) w.heap.size 0=some (.string (B n)):=by
  have h:(w.alloc (.cells #[.string (B n)] 9)).heap[w.heap.size]? =some (.cells #[.string (B n)] 9):=by
   show(w.heap.push _)[w.heap.size]? =_;rw[Array.getElem?_push,if_pos rfl]
  show World.cell? _ _=_;unfold World.cell?;dsimp only;rw[h];rfl
 have eC:(rd w).le (rd (w.alloc (.cells #[.string (B n)] 9))):=λb o v h=>by
  have ak:b<w.heap.size:=IS _ _ h;have:rd (w.alloc (.cells #[.string (B n)] 9)) b o=rd w b o:=PA (a:=⟨b,o,none⟩) (KT.block b ak);rw[this];exact h
 generalize s9:w.alloc (.cells #[.string (B n)] 9)=w1 at*;have nC:w.heap.size<=w1.heap.size:=KT.size
 have xy:pf (rd w1) (rd w1) #[.slice a ns.length cap,.func (.func 163) #[] #[.pointer (some ⟨w.heap.size,0,none⟩)]] [(false,[.view (ns.map Pm)]),Lb 163 [[T n]]]:=by
  refine⟨rfl,λk x hk=>?_⟩
  match k,hk with
  |0,hk=>cases hk;exact⟨_,rfl,hr.mono eC eC⟩
  |1,hk=>
   cases hk;refine⟨_,rfl,?_⟩;refine .fn #[] #[.pointer (some ⟨w.heap.size,0,none⟩)] (λ_=> #[]) rfl rfl (λj c h=>by simp at h) (λj c h=>by simp at h) (λj c h=>by simp at h) (λj c k x h=>by simp at h) λj cs h=>?_
   match j,h with
   |0,h=>
    cases h;refine .ref w.heap.size 0 (λ_=>.string (B n)) (λk hk=>?_) λk x hx=>?_
    ·have:k=0:=by simpa using hk
     subst this;exact np
    ·match k,hx with
     |0,hx=>cases hx;exact .lit rfl
 refine((Ns ns n hl).pure.2 (rd w1) w1 _ (Mem.le_refl _) (hG w1 KT) xy).mono λe w2 he=>?_;obtain⟨v,rfl,hB2,lE⟩:=he
 have hv:v= .int .i64 (bg ns n):=by
  obtain⟨c,hc1,XG⟩:=lE;simp only[BR,sv]at hc1;subst hc1;exact ge XG
 subst hv
 have XG:w2.cell? ⟨b,12,none⟩=some (.slice a ns.length cap):=by
  have h1:w1.cell? ⟨b,12,none⟩=w.cell? ⟨b,12,none⟩:=PA (KT.block b hb);have h2:w2.cell? ⟨b,12,none⟩=w1.cell? ⟨b,12,none⟩:=PA (hB2.block b K0);rw[h2,h1];exact hc
 have hB:Below w.heap.size w w2:=⟨hB2.os.trans KT.os,hB2.tape.trans KT.tape,hB2.output.trans KT.output,pd nC hB2.size,λc hc=>(hB2.block c K0).trans (KT.block c hc)⟩;by_cases KR:bg ns n<0
 ·have e1:decide (bg ns n<0)=true:=fL KR
  go_wp2_with fail
  go_ret
  exact⟨hB,_,rfl,.inl ⟨KR,rfl⟩⟩
 ·have e1:decide (bg ns n<0)=false:=fj KR
  have Ce:n∈ns:=by
   apply Pz;intro h;rw[fq h]at KR;omega
  obtain⟨k,hk,hke⟩:=ld Ce;obtain⟨b9,o,rfl⟩: ∃b9 o,a=some ⟨b9,o,none⟩:=by exact Z1 hr K0
  have e2:(Instr.indexAt 56 (.slice (some ⟨b9,o,none⟩) ns.length cap) (.int .i64 (bg ns n))).run prog w2= .ok (.pointer (some ⟨b9,o+(bg ns n).toNat *17,none⟩)) w2:=
   HO (C:=cx) (w:=w2) (b:=b9) (o:=o) (n:=ns.length) (cap:=cap) (k:=bg ns n) lJ (T:=56) rfl rfl rfl K0 (by rw[hke];omega)
  go_wp2_with fail
  go_ret
  exact⟨hB,_,rfl,.inr ⟨b9,o,by omega,rfl,by rw[hke,sP];rfl⟩⟩
end Go.Proofs.Tryz
namespace Go.Proofs.Tryz
open Go Go.RowKit Go.Fw Go.Plain
structure Wk (H:HF) (id:Nat) (ns:List aj):Prop where
 box: ∃t cs,H id=some (.box t cs)/\cs[12]? =some (.own 9)
 row: ∃l,H 9=some (.aD 17 l)/\l.length=ns.length/\∀(i:Nat) (e:List DC),l[i]? =some e->e.length=17/\e[0]? =some (.st (T (ns.getD i [])))
 len:ns.length<=1000
def Ez {H:HF}{id fid:Nat}{ns:List aj}(n:aj)(hw:Wk H id ns){r:DC}(hr:(bg ns n<0/\r= .st (.lit (.pointer none)))\/(0<=bg ns n/\r= .cI 9 17 (bg ns n).toNat 0)):
  bX cx fid 89 [(false,[.ptr id 0]),(false,[.st (T n)])] H (bm r) [] [id,9]:=by
 obtain⟨⟨t,cs,h1,hc⟩,⟨l,h9,vV,IE⟩,hl⟩:=hw;refine⟨by kernel_rfl,λF β N H' w vs UA hG hR hf nC hv=>?_⟩;have e1:H' id=some (.box t cs):=(UA id (by simp)).trans h1;have e9:H' 9=some (.aD 17 l):=(UA 9 (by simp)).trans h9;obtain⟨_,b,arr,T',xH,hb2,hb3,hb4,hb5⟩:=hR.rel id _ e1;obtain⟨hN9,_⟩:=hR.rel 9 _ e9;have hbl:=(FV.1 hb3).1;have a0:=hv 0 _ rfl;have a1:=hv 1 _ rfl;obtain⟨_,b',jW,hv0⟩:=au.am a0;obtain rfl:b'=b:=xU (jW.symm.trans xH);have hv1:vs.getD 1 undef= .string (B n):=ge (au.am a1);have h12:12<arr.size:=by rw[hb4];exact(kJ.1 hc).1
 have d12:=hb5 12 _ hc
 have IK:w.cell? ⟨b',12,none⟩=some (arr.getD 12 undef):=by
  unfold World.cell?;dsimp only;rw[hb3];simp[h12]
 have ip:dy (rd w) (rd w) (arr.getD 12 undef) (.view (ns.map Pm)):=by
  refine DG (H:=H') (R:=[9]) hG hR (λ_ _=>rfl) (.aD (by simp) e9 (by rw[jj,vV]) (λi e e' he CJ=>?_) (λi e e' k d c he CJ hd ID=>?_) (λi e' k c CJ ID=>?_)) d12
  ·obtain⟨q1,_⟩:=IE i e he;rw[gK,mZ]at CJ;obtain⟨m,_,rfl⟩:=CJ;rw[q1];rfl
  ·obtain⟨q1,q2⟩:=IE i e he;rw[gK,mZ]at CJ;obtain⟨m,hm,rfl⟩:=CJ;have hmd:ns.getD i []=m:=by rw[jN,hm];rfl
   rw[hmd]at q2
   cases k with
   |zero=>
    rw[q2]at hd;cases hd;cases ID;exact .st _
   |succ k=>
    have:c= .any :=by
     have hk:k<16:=by exact ajx
     have XG:(List.replicate 16 SC.any)[k]? =some c:=ID;rw[List.getElem?_replicate,if_pos hk]at XG;exact(xU XG).symm
    subst this;exact .any _
  ·rw[gK,mZ]at CJ;obtain⟨m,hm,rfl⟩:=CJ
   cases k with
   |zero=>cases ID;rfl
   |succ k=>
    have hk:k<16:=by exact ajx
    have XG:(List.replicate 16 SC.any)[k]? =some c:=ID;rw[List.getElem?_replicate,if_pos hk]at XG;rw[<- xU XG];rfl
 obtain⟨_,_,jr⟩:=d12;have jr:=jr _ 17 l.length e9 rfl
 have xy:vs= #[.pointer (some ⟨b',0,none⟩),.string (B n)]:=by
  apply A1
  ·rw[nC];rfl
  ·intro i h1 h2;have h2:i<2:=h2;have hg:vs.getD i undef=vs[i]:=by simp[sN,h1]
   match i,h2 with
   |0,_=>rw[<- hg];exact hv0
   |1,_=>rw[<- hg];exact hv1
 have hGl: ∀w1,Below w.heap.size w w1->eQ cx.gl (rd w1):=λw1 hB=>eQ.later hG (hR.grow hB)
 have fin: ∀ {a:Option Addr} {cap:Nat},w.cell? ⟨b',12,none⟩=some (.slice a ns.length cap)->dy (rd w) (rd w) (.slice a ns.length cap) (.view (ns.map Pm))->(∀b9 o,a=some ⟨b9,o,none⟩->β 9=some b9/\o=0)->
   Calls cx.P 89 vs w λe w'=>∃v cQ,e= .returned v/\Tr F β N H' w cQ (bk N fid) (Hp.on [] H') w'/\ad F cQ (bk N fid) (Hp.on [] H') w'/\co F cQ (bk N fid) (Hp.on [] H') w' v (bm r):=by
  intro a cap jg hrp ha;rw[xy];refine(Z2 ns n hl b' a cap w hGl jg hrp hbl).mono λe w' he=>?_;obtain⟨hB,v,rfl,lE⟩:=he;refine⟨v,β,rfl,(Tr.grow hR hB).bk,(hR.grow hB).bk,co.bk ?_⟩;show au _ _ _ _ _ _ (false,[r])
  rcases hr with⟨KR,rfl⟩|⟨fN,rfl⟩
  ·rcases lE with⟨_,rfl⟩|⟨b9,o,h0,rfl,rfl⟩
   ·exact⟨_,rfl,.lit rfl⟩
   ·omega
  ·rcases lE with⟨hn,_⟩|⟨b9,o,h0,rfl,rfl⟩
   ·omega
   ·obtain⟨q1,rfl⟩:=ha b9 o rfl;refine⟨_,rfl,hN9,b9,q1,by simp⟩
 rcases jr with⟨_,h0,hs⟩|⟨b9,cap,arr9,T9,q1,hs,_,_⟩
 ·rw[hs]at IK ip;have hz:ns.length=0:=by omega
  refine fin (a:=none) (cap:=0) (by rw[hz];exact IK) (by rw[hz];exact ip) λb9 o h=>by cases h
 ·rw[hs,vV]at IK ip;exact fin IK ip λb9' o h=>by cases h;exact⟨q1,rfl⟩
end Go.Proofs.Tryz
namespace Go.Proofs.Tryz
open Go.Fw Go.IntWalk Go.Plain
abbrev w7 (a:List aj)(n:List Int)(r:aj):SV:=(true,[.view (ab a),.ints n,T r])
inductive ir:Hp->Hp->Prop
 |base (R:Hp):ir R R
 |step {k:Nat} {b:Option cD} {H R:Hp} (h:JE k=true) (e:ir H R):ir ((k,b)::H) R
theorem ir.get {H R:Hp}(h:ir H R)(hT:BY R): ∀k∈ah R,H.get k=R.get k:=by
 induction h with
 |base=>exact λ_ _=>rfl
 |step h e ih=>
  intro k hk;rw[Hp.jO (λe=>by subst e;exact hT.not h hk)];exact ih hT k hk
def Ia {us:List Un}{m:List (Nat × Nat)}(hm:Go.Fw.IL m=true):fG (m++mW (bw 0 us)) (az 0 us)=some (az 0 us)\/1000<us.length:=by
 by_cases hl:us.length<=1000
 ·refine .inl (Ak λx hx=>?_);have hT:=gY hl
  have key: ∀d∈x,m9 (m++mW (bw 0 us)) d=some d:=λd hd=>by
   have hme:=lX hx d hd;exact K79
  exact aiu
 ·exact .inr K0
theorem cE {o n k:Nat}{m:List (Nat × Nat)}(h:k≠o):bO ((o,n)::m) k=bO m k:=by
 have e':Nat.beq k o=false:=by
  cases hb:Nat.beq k o
  ·rfl
  ·exact absurd (pb hb) h
 show(match Nat.beq k o with|true=>some n|false=>bO m k)=_;rw[e']
theorem mO {n k:Nat}{m:List (Nat × Nat)}:bO ((k,n)::m) k=some n:=by
 show(match Nat.beq k k with|true=>some n|false=>bO m k)=_;rw[Nat.beq_refl]
def Z3 (fn:Func)(p:Pl)(log:List En)(s:bP)(r:DV)(S:St):Prop:=∃lg op lt,
 S.env.get 0=some (.val (false,[.ptr 1 0]))/\S.hp.get 1=some (.box 126 [.st (.view (p.ae.map nh)),.st (.view (ab p.ap)),.st (.view (p.aa.map fD)),.st (.view (p.parts.map mj)),.st (J p.dZ),.st (J p.eK),.own lg,.st (K s.volt),.st (K s.earth),.own op,.st (T s.hall),.own lt,.own 9])/\
 S.hp.get lg=some (.row true 3 (.view (log.map be)))/\S.hp.get op=some (.row true 1 (.view (ab s.opens)))/\S.hp.get lt=some (.row true 1 (.view (ab s.lots)))/\S.hp.get 9=some (.aD 17 (az 0 s.units))/\
 Go.Fw.IL [(9,9),(1,1),(lg,3),(op,5),(lt,7)]=true/\ir S.hp (bw 0 s.units)/\eB cx S.hp.get S.env.get fn.results.toList λys=>∃zs,kT ([(9,9),(1,1),(lg,3),(op,5),(lt,7)]++mW (bw 0 s.units)) ys=some zs/\pv zs=r
def agP {a b c:Nat}(h:Go.Fw.IL [(9,9),(1,1),(a,3),(b,5),(c,7)]=true):(a≠9/\a≠1)/\(b≠9/\b≠1/\b≠a)/\c≠9/\c≠1/\c≠a/\c≠b:=by
 unfold Go.Fw.IL at h;simp only[sQ]at h;have:=bY h.1.1;simp only[jd,CT,xQ,dl,nE,nF,not_or]at this;obtain⟨⟨_,h1,h2,h3⟩,⟨h4,h5,h6⟩,⟨h7,h8⟩,h9,_⟩:=this;exact⟨⟨oz h1,oz h4⟩,⟨oz h2,oz h5,oz h7⟩,oz h3,oz h6,oz h8,oz h9⟩
def Nt {fn:Func}{p:Pl}{log:List En}{s:bP}{r:DV}{S:St}(hl:s.units.length<=1000)(h:Z3 fn p log s r S):
  ∃m:List (Nat × Nat),cZ m S.hp.get (form p log s).get /\(∀q∈[(0,1)],∃o off,S.env.get q.1=some (.val (false,[.ptr o off]))/\(o,q.2)∈m)/\
   eB cx S.hp.get S.env.get fn.results.toList λys=>∃zs,kT m ys=some zs/\pv zs=r:=by
 obtain⟨lg,op,lt,h0,h1,h2,h3,h4,h9,hm,hE,hr⟩:=h;have hT:=gY hl;have iL:=(Ia (us:=s.units) hm).resolve_right K0;obtain⟨⟨n1,n2⟩,⟨n3,n4,n5⟩,n6,n7,n8,n9⟩:=agP hm;refine⟨_,cZ.form (Y:=hd p log s) hT hm h9 iL ?_ rfl (hE.get hT),λq hq=>?_,hr⟩
 ·have id1:bO ((9,9)::[(1,1),(lg,3),(op,5),(lt,7)]++mW (bw 0 s.units)) lg=some 3:=by
   simp only[qX];rw[cE n1,cE n2,mO]
  have id2:bO ((9,9)::[(1,1),(lg,3),(op,5),(lt,7)]++mW (bw 0 s.units)) op=some 5:=by simp only[qX];rw[cE n3,cE n4,cE n5,mO]
  have id3:bO ((9,9)::[(1,1),(lg,3),(op,5),(lt,7)]++mW (bw 0 s.units)) lt=some 7:=by simp only[qX];rw[cE n6,cE n7,cE n8,cE n9,mO]
  have id4:bO ((9,9)::[(1,1),(lg,3),(op,5),(lt,7)]++mW (bw 0 s.units)) 9=some 9:=rfl;simp only[jX,h1,h2,h3,h4,fp,e8,m9,id1,id2,id3,id4];rfl
 ·rw[m6]at hq;subst hq;exact⟨1,0,h0,by simp⟩
def gF {f:FuncId}{c:Code}{p:Pl}{log sr:List En}{s s':bP}{ys:List SV}{y:SV}(fn:Func)(hl:s'.units.length<=1000)(h:m8 cx c ⟨iF 0 ((false,[.ptr 1 0])::ys.map dyn),form p log s,1⟩ (Z3 fn p sr s' (.val (dyn y))) (λ_ _=>False) (Z3 fn p sr s' (.val (dyn y))))
  (h1:iN cx.P f=true:=by kernel_rfl)(h2:cx.P.funcs[f]? =some fn:=by kernel_rfl)(h3:fn.body=some c:=by rfl)(h4:bS fn.ntmps c=true:=by kernel_rfl)(h5:ys.length+1<=fn.ntmps:=by exact fO rfl)(h6:aN [0] c=true:=by kernel_rfl):
  bx cx f 1 ((false,[.ptr 1 0])::ys.map dyn) (form p log s) [1] (.val (dyn y)) (form p sr s'):=
 fA lJ h1 h2 h3 h4 ago [(0,1)] (λp hp=>by rw[m6]at hp;subst hp;exact⟨0,rfl⟩) h6 (λS hS=>Nt hl hS) h
def qG (l:List aj)(x:aj):ab (l++[x])=ab l++[[T x]]:=by simp[ab]
def Er {p:Prop}(h:p:=by first|rfl|(rw[qG];rfl)|(rw[zZ];rfl)):p:=h
def Ew {p:Prop}(h:p:=by
 refine⟨_,_,_,rfl,rfl,Er,Er,Er,rfl,rfl,?_,_,rfl,rfl⟩
 repeat(first|exact ir.base _|refine ir.step rfl ?_)):p:=h
def adi (p:Pl)(log:List En)(s:bP)(hl:s.units.length<=1000)(a:List aj)(n:List Int)(r:aj):
  bx cx 123 1 ((false,[.ptr 1 0])::[w7 a n r].map dyn) (form p log s) [1] (.val (dyn (I (if s.volt then 0 else 20)))) (form p log (if s.volt then {s with volt:=false}else s)):=by
 obtain⟨volt,earth,opens,hall,lots,units⟩:=s;cases volt
 ·refine gF f123 hl ?_;exact afH
 ·refine gF f123 hl ?_;exact afH
def wF {l:List Int}{E:Int}(h:fs l=E)(hl:l.length<=1000000:=by exact fO rfl):ac 52 [(false,[.ints l])] (.one (I E)):=by
 have:=oS l hl;rwa [h]at this
def V4 (E:uj)(p:Pl)(log:List En)(s:bP)(hl:s.units.length<=1000)(a:List aj)(n:List Int)(r:aj):
  bx cx 120 1 ((false,[.ptr 1 0])::[w7 a n r].map dyn) (form p log s) [1] (.val (dyn (I (bs E p log s 6 a n r).2))) (form p log (bs E p log s 6 a n r).1):=by
 obtain⟨volt,earth,opens,hall,lots,units⟩:=s;cases volt<;>cases earth
 ·refine gF (s':=⟨false,true,opens,hall,lots,units⟩) (y:=I 0) f120 hl ?_;exact tL
 ·refine gF (s':=⟨false,true,opens,hall,lots,units⟩) (y:=I 20) f120 hl ?_;exact tL
 ·refine gF (s':=⟨true,false,opens,hall,lots,units⟩) (y:=I 24) f120 hl ?_;exact tL
 ·refine gF (s':=⟨true,true,opens,hall,lots,units⟩) (y:=I 20) f120 hl ?_;exact tL
def Z5 (E:uj)(p:Pl)(log:List En)(s:bP)(hl:s.units.length<=1000)(a:List aj)(n:List Int)(r:aj):
  bx cx 121 1 ((false,[.ptr 1 0])::[w7 a n r].map dyn) (form p log s) [1] (.val (dyn (I (bs E p log s 7 a n r).2))) (form p log (bs E p log s 7 a n r).1):=by
 obtain⟨volt,earth,opens,hall,lots,units⟩:=s
 cases earth<;>rcases opens with _|⟨o,os⟩
 ·refine gF (s':=⟨volt,false,[],hall,lots,units⟩) (y:=I 20) f121 hl ?_;exact tL
 ·refine gF (s':=⟨volt,false,o::os,hall,lots,units⟩) (y:=I 20) f121 hl ?_;exact tL
 ·refine gF (s':=⟨volt,false,[],hall,lots,units⟩) (y:=I 0) f121 hl ?_;exact tL
 ·refine gF (s':=⟨volt,true,o::os,hall,lots,units⟩) (y:=I 24) f121 hl ?_;exact tL
def Nv (E:uj)(p:Pl)(log:List En)(s:bP)(hl:s.units.length<=1000)(a:List aj)(n:List Int)(r:aj):
  bx cx 122 1 ((false,[.ptr 1 0])::[w7 a n r].map dyn) (form p log s) [1] (.val (dyn (I (bs E p log s 8 a n r).2))) (form p log (bs E p log s 8 a n r).1):=by
 obtain⟨volt,earth,opens,hall,lots,units⟩:=s
 cases volt<;>rcases opens with _|⟨o,os⟩<;>cases earth
 ·refine gF (s':=⟨true,false,[],hall,lots,units⟩) (y:=I 0) f122 hl ?_;exact tL
 ·refine gF (s':=⟨false,true,[],hall,lots,units⟩) (y:=I 24) f122 hl ?_;exact tL
 ·refine gF (s':=⟨false,false,o::os,hall,lots,units⟩) (y:=I 24) f122 hl ?_;exact tL
 ·refine gF (s':=⟨false,true,o::os,hall,lots,units⟩) (y:=I 24) f122 hl ?_;exact tL
 ·refine gF (s':=⟨true,false,[],hall,lots,units⟩) (y:=I 20) f122 hl ?_;exact tL
 ·refine gF (s':=⟨true,true,[],hall,lots,units⟩) (y:=I 20) f122 hl ?_;exact tL
 ·refine gF (s':=⟨true,false,o::os,hall,lots,units⟩) (y:=I 20) f122 hl ?_;exact tL
 ·refine gF (s':=⟨true,true,o::os,hall,lots,units⟩) (y:=I 20) f122 hl ?_;exact tL
def qH {m:List (Nat × Nat)}{R:Hp}(hT:BY R)(hm:Go.Fw.IL m=true){k:Nat}{us:List Un}(hs: ∀n∈ah (bw k us),n∈ah R):fG (m++mW R) (az k us)=some (az k us):=by
 refine Ak λx hx=>?_
 have key: ∀d∈x,m9 (m++mW R) d=some d:=λd hd=>by
  have hme:=DC.dS hs (lX hx d hd);exact K79
 exact aiu
def ze {m:List (Nat × Nat)}: ∀ {A B A' B':List (List DC)},fG m A=some A'->fG m B=some B'->fG m (A++B)=some (A'++B')
 | [],B,A',B',h,h'=>by grind[fG]
 |e::A,B,A',B',h,h'=>by
  unfold fG at h
  cases h1:e8 m e with
  |none=>simp_all
  |some e'=>
   cases h2:fG m A with
   |none=>simp_all
   |some A2=>
    rw[h1,h2]at h;cases h;rw[qX];unfold fG;rw[h1,ze h2 h'];rfl
def V5 {us:List Un}{i:Nat}{u:Un}(hi:us[i]? =some u):(ah (aw us i)).Nodup :=by
 have hn:=yW 0 us;obtain⟨h1,h2⟩:=qz hi;have e:ah (bw 0 us)=ah (bw 0 (us.take i))++(ah (lC u (17+6*i) (19+6*i) (21+6*i))++ah (bw (i+1) (us.drop (i+1)))):=ah8
 grind
def BE {us:List Un}{i:Nat}{u:Un}(hi:us[i]? =some u)(hl:us.length<=1000):BY (aw us i):=
 ⟨V5 hi,λn hn=>by obtain⟨a1,_,_,_,a2,a3⟩:=wV hi hn;omega,λk b e=>by
  rw[Hp.get_append,na]at e
  grind[um]⟩
def Z6 (fn:Func)(p:Pl)(log:List En)(s:bP)(u:Un)(us:List Un)(i:Nat)(r:DV)(S:St):Prop:=∃lg op lt l9,
 S.env.get 0=some (.val (false,[.ptr 1 0]))/\S.hp.get 1=some (.box 126 [.st (.view (p.ae.map nh)),.st (.view (ab p.ap)),.st (.view (p.aa.map fD)),.st (.view (p.parts.map mj)),.st (J p.dZ),.st (J p.eK),.own lg,.st (K s.volt),.st (K s.earth),.own op,.st (T s.hall),.own lt,.own 9])/\
 S.hp.get 9=some (.aD 17 l9)/\∃a b c,l9=(az 0 us).set i (cU u a b c)/\
 S.hp.get lg=some (.row true 3 (.view (log.map be)))/\S.hp.get op=some (.row true 1 (.view (ab s.opens)))/\S.hp.get lt=some (.row true 1 (.view (ab s.lots)))/\
 S.hp.get a=some (.row true 1 (.view (ab u.lots)))/\S.hp.get b=some (.row true 4 (.view (u.res.map kF)))/\S.hp.get c=some (.row true 5 (.view (u.gas.map vh)))/\
 Go.Fw.IL [(9,9),(1,1),(lg,3),(op,5),(lt,7),(a,11),(b,13),(c,15)]=true/\ir S.hp (aw us i)/\
 eB cx S.hp.get S.env.get fn.results.toList λys=>∃zs,kT ([(9,9),(1,1),(lg,3),(op,5),(lt,7),(a,11),(b,13),(c,15)]++mW (aw us i)) ys=some zs/\pv zs=r
def adk {lg op lt a b c:Nat}(h:Go.Fw.IL [(9,9),(1,1),(lg,3),(op,5),(lt,7),(a,11),(b,13),(c,15)]=true):
  (lg≠9/\lg≠1)/\(op≠9/\op≠1/\op≠lg)/\(lt≠9/\lt≠1/\lt≠lg/\lt≠op)/\(a≠9/\a≠1/\a≠lg/\a≠op/\a≠lt)/\(b≠9/\b≠1/\b≠lg/\b≠op/\b≠lt/\b≠a)/\c≠9/\c≠1/\c≠lg/\c≠op/\c≠lt/\c≠a/\c≠b:=by
 exact ah4
def TR {fn:Func}{p:Pl}{log:List En}{s:bP}{u u0:Un}{us:List Un}{i:Nat}{r:DV}{S:St}(hi:us[i]? =some u0)(hl:us.length<=1000)(h:Z6 fn p log s u us i r S):
  ∃m:List (Nat × Nat),cZ m S.hp.get (er p log s u ((az 0 us).set i (cU u 11 13 15)) (aw us i)).get /\(∀q∈[(0,1)],∃o off,S.env.get q.1=some (.val (false,[.ptr o off]))/\(o,q.2)∈m)/\
   eB cx S.hp.get S.env.get fn.results.toList λys=>∃zs,kT m ys=some zs/\pv zs=r:=by
 obtain⟨lg,op,lt,l9,h0,h1,h9,a,b,c,rfl,h2,h3,h4,h5,h6,h7,hm,hE,hr⟩:=h;have hT:=BE hi hl;obtain⟨⟨n1,n2⟩,⟨n3,n4,n5⟩,⟨n6,n7,n8,n9⟩,⟨a1,a2,a3,a4,a5⟩,⟨b1,b2,b3,b4,b5,b6⟩,c1,c2,c3,c4,c5,c6,c7⟩:=adk hm;have id1:bO ((9,9)::[(1,1),(lg,3),(op,5),(lt,7),(a,11),(b,13),(c,15)]++mW (aw us i)) lg=some 3:=act;have id2:bO ((9,9)::[(1,1),(lg,3),(op,5),(lt,7),(a,11),(b,13),(c,15)]++mW (aw us i)) op=some 5:=act;have id3:bO ((9,9)::[(1,1),(lg,3),(op,5),(lt,7),(a,11),(b,13),(c,15)]++mW (aw us i)) lt=some 7:=ab0;have id5:bO ((9,9)::[(1,1),(lg,3),(op,5),(lt,7),(a,11),(b,13),(c,15)]++mW (aw us i)) a=some 11:=ab0;have id6:bO ((9,9)::[(1,1),(lg,3),(op,5),(lt,7),(a,11),(b,13),(c,15)]++mW (aw us i)) b=some 13:=aiS;have id7:bO ((9,9)::[(1,1),(lg,3),(op,5),(lt,7),(a,11),(b,13),(c,15)]++mW (aw us i)) c=some 15:=aiM;have id4:bO ((9,9)::[(1,1),(lg,3),(op,5),(lt,7),(a,11),(b,13),(c,15)]++mW (aw us i)) 9=some 9:=rfl
 have iL:fG ((9,9)::[(1,1),(lg,3),(op,5),(lt,7),(a,11),(b,13),(c,15)]++mW (aw us i)) ((az 0 us).set i (cU u a b c))=some ((az 0 us).set i (cU u 11 13 15)):=by
  rw[vl hi,vl hi];refine ze (qH hT hm λn hn=>?_) ?_
  grind
  ·have h2:=qH (m:=(9,9)::[(1,1),(lg,3),(op,5),(lt,7),(a,11),(b,13),(c,15)]) hT hm (k:=i+1) (us:=us.drop (i+1)) λn hn=>by
    grind
   unfold fG;rw[h2];simp only[cU,e8,m9,id5,id6,id7]
 refine⟨_,cZ.form (Y:=hd p log s++lC u 11 13 15) hT hm h9 iL ?_ rfl (hE.get hT),λq hq=>?_,hr⟩
 ·exact ajl
 grind
def gI {f:FuncId}{c:Code}{p:Pl}{log sr:List En}{s s':bP}{u u':Un}{i:Nat}{ys:List SV}{y:SV}(fn:Func)(hi:s.units[i]? =some u)(hl:s.units.length<=1000)(hs:s'.units=s.units.set i u')
  (h:m8 cx c ⟨iF 0 ((false,[.ptr 1 0])::ys.map dyn),er p log s u ((az 0 s.units).set i (cU u 11 13 15)) (aw s.units i),1⟩ (Z6 fn p sr s' u' s.units i (.val (dyn y))) (λ_ _=>False) (Z6 fn p sr s' u' s.units i (.val (dyn y))))
  (h1:iN cx.P f=true:=by kernel_rfl)(h2:cx.P.funcs[f]? =some fn:=by kernel_rfl)(h3:fn.body=some c:=by rfl)(h4:bS fn.ntmps c=true:=by kernel_rfl)(h5:ys.length+1<=fn.ntmps:=by exact fO rfl)(h6:aN [0] c=true:=by kernel_rfl):
  bx cx f 1 ((false,[.ptr 1 0])::ys.map dyn) (form p log s) [1] (.val (dyn y)) (form p sr s'):=
 focus hi hl (fA lJ h1 h2 h3 h4 bv [(0,1)] (λp hp=>by grind) h6 (λS hS=>TR hi hl hS) h) hs
def adl {us:List Un}{i:Nat}{X:List DC}:((az 0 us).set i X).length =(us.map Un.name).length :=by rw[FX,eO,jj]
theorem Av {us:List Un}{j:Nat}{e:List DC}(h:(az 0 us)[j]? =some e):e.length=17/\e[0]? =some (.st (T ((us.map Un.name).getD j []))):=by
 have ak:=(kJ.1 h).1;rw[eO]at ak;have hv:us[j]? =some us[j]:=by grind
 rw[vi hv]at h;cases h;refine⟨rfl,?_⟩;rw[jN,gK,hv];rfl
def lf {H:HF}{fid:Nat}{us:List Un}{i:Nat}{u:Un}(hi:us[i]? =some u)(hl:us.length<=1000){x:aj}(hx:bg (us.map Un.name) x=(i:Nat))(h1: ∃t cs,H 1=some (.box t cs)/\cs[12]? =some (.own 9))(h9:H 9=some (.aD 17 ((az 0 us).set i (cU u 11 13 15)))):
  bX cx fid 89 [(false,[.ptr 1 0]),(false,[.st (T x)])] H (bm (.cI 9 17 i 0)) [] [1,9]:=by
 refine Ez (ns:=us.map Un.name) x ⟨h1,⟨_,h9,adl,λj e he=>?_⟩,by grind⟩ (.inr ⟨by omega,by grind⟩);by_cases hj:i=j
 ·subst hj;have ak:=(kJ.1 hi).1;rw[IT bv]at he;cases he;refine⟨rfl,?_⟩;rw[jN,gK,hi];rfl
 grind[Av]
def Aw {H:HF}{fid:Nat}{us:List Un}(hl:us.length<=1000){x:aj}(hx:bg (us.map Un.name) x<0)(h1: ∃t cs,H 1=some (.box t cs)/\cs[12]? =some (.own 9))(h9:H 9=some (.aD 17 (az 0 us))):
  bX cx fid 89 [(false,[.ptr 1 0]),(false,[.st (T x)])] H (bm (.st (.lit (.pointer none)))) [] [1,9]:=
 Ez (ns:=us.map Un.name) x ⟨h1,⟨_,h9,by rw[eO,jj],λ_ _ he=>Av he⟩,by grind⟩ (.inl ⟨hx,rfl⟩)
def Ei {p:Prop}(h:p:=by
 refine⟨_,_,_,_,rfl,rfl,rfl,?_⟩;refine⟨?_,?_,?_,?_,?_⟩;rotate_left 3
 ·first|rfl|(simp only[List.set_set];rfl)
 ·refine⟨rfl,rfl,rfl,Er,Er,Er,rfl,?_,_,rfl,rfl⟩
  repeat(first|exact ir.base _|refine ir.step rfl ?_)):p:=h
def j0 {s:bP}{x:aj}(h:0<=io s x): ∃i u,bg (s.units.map Un.name) x=(i:Nat)/\(io s x).toNat =i/\s.units[i]? =some u/\s.units.getD i qa=u/\i< (az 0 s.units).length :=by
 have e:io s x=bg (s.units.map Un.name) x:=rfl;unfold bg at e;by_cases hm:x∈s.units.map Un.name
 ·rw[if_pos hm]at e;have ak:=XU hm;rw[jj]at ak;refine⟨(s.units.map Un.name).idxOf x,s.units[(s.units.map Un.name).idxOf x],?_,?_,?_,?_,?_⟩
  ·unfold bg;grind
  grind
  ·simp
  grind
  grind[eO]
 grind
def QF (p:Pl)(q:aj × List aj)(hl:p.aa.length<=1000)(hq:q.2.length<=1000)(hn: ∀i<p.aa.length,(p.aa.getD i dz).bz.length <=1000):
  ac 205 [(true,bE p),(true,mj q)] (.own 1 (.view (ab (jo p.aa q.2)))):=by
 have hn1:(p.aa.map fD).length =p.aa.length:=by simp
 refine sF f205 ?_
 (try(refine tX 0 ?_;try exact Zt))
 refine af (ι:=Nat) (λi=>i<=p.aa.length) (λi=>p.aa.length -i) (λi=>⟨[(3,pP 0),(5,pP 1),(10,some (.val (false,[.st (.view (p.aa.map fD))]))),(11,vI p.aa.length),(12,vI i)],[(0,some (.box 106 [.st (T q.1),.st (.view (ab q.2))])),(1,some (.box 23 [.own 2])),(2,some (.row true 1 (.view (ab (jo (p.aa.take i) q.2)))))],3⟩) 0
  (bp.trans (iQ 6 0 1 (.view []) (T:=23) (cs:=[.nil]) K9 rfl rfl rfl rfl) (ai (by rw[<- hn1];kernel_rfl))) (dD _) ?_
 intro i hi;by_cases ak:i<p.aa.length
 ·have he:=iU ak;have xG:=Bw (voids:=q.2) ak;have Xl:=rL (p.aa.take i) q.2;have hnn:=hn i ak;have an5:(p.aa.take i).length =i:=by simp;omega
  have hc:=bI q.2 (p.aa.getD i dz).name K0;unfold HR at xG;generalize jo (p.aa.take i) q.2=out at*;generalize p.aa.getD i dz=t at*
  rcases t with⟨nm,kd,nd,ru,lo,lA⟩;have he:(p.aa.map fD)[i]? =some [T nm,J kd,.view (ab nd),T ru,J lo,J lA]:=he;dsimp only at xG hnn hc;have hol:(ab out).length =out.length:=by simp
  by_cases h1: ∃n∈nd,n∈out
  ·rw[if_pos (.inr h1)]at xG;repeat((first|(refine kO 7 rfl ?_;first|refine im (λ_ z=>⟨_,_,_,adg (t:=23) h1 K0 K0 rfl rfl,z⟩) ?_)|refine tX 3 ?_|exact Zt);(try conv=>whnf))
   exact K22
  ·by_cases h2:nm∈q.2
   ·rw[if_pos (.inl h2)]at xG;rw[fL h2]at hc;repeat((first|(refine kO 7 rfl ?_;first|refine im (λ_ z=>⟨_,_,_,TQ (t:=23) h1 K0 K0 rfl rfl,z⟩) ?_)|refine tX 3 ?_|exact Zt);(try conv=>whnf))
    exact K22
   ·rw[if_neg (by rintro(h|h);exact h2 h;exact h1 h)]at xG;rw[fj h2]at hc;repeat((first|(refine kO 7 rfl ?_;first|refine im (λ_ z=>⟨_,_,_,TQ (t:=23) h1 K0 K0 rfl rfl,z⟩) ?_)|refine tX 3 ?_|exact Zt);(try conv=>whnf))
    exact K30
 ·exact ajf
def w8 (s:aj)(hl:s.length<=1000000):ac 57 [SS s,SS [32]] (.own 1 (.view (ab (aJ 32 s)))):=by
 have h:=Ar s 32 hl (uf s 32).2;rw[(uf s 32).1]at h;exact h
abbrev NI (role words sM:Nat)(rest:Bool)(f:FuncId):SV:=(true,[J role,J words,J sM,K rest,.fn f [] []])
def aaa (role words sM:Nat)(f:FuncId)(s:aj)(hl:s.length<=100000)(hw:words<=10)(h:(aJ 32 s).length ≠words+1):ac 69 [NI role words sM false f,SS s] (.aI [w7 [] [] [],Bo false]):=by
 have c1:=w8 s K0;have h1:=(cj 32 s).1;exact afO
def adq (role words sM:Nat)(f:FuncId)(s:aj)(hl:s.length<=100000)(hw:words<=10)(h:(aJ 32 s).length =words+1)(he: []∈aJ 32 s):ac 69 [NI role words sM false f,SS s] (.aI [w7 [] [] [],Bo false]):=by
 have c1:=w8 s K0;have h1:=(cj 32 s).1;have c2:=bI (aJ 32 s) [] K0;rw[fL he]at c2;exact afO
instance adr (a b:Nat):dU (((a+b:Nat):Int) -(b:Int)) a:=⟨by omega⟩
def dV:List aj->List Int
 | []=>[]
 |s::r=>match wN false 7 s with
  |some n=>n::dV r
  |none=>[]
def EH: ∀u:List aj,(dV u).length <=u.length
 | []=>dE _
 |s::r=>by
  unfold dV;split
  ·have:=EH r;simp;omega
  ·simp
def EI: ∀ {u:List aj} {i:Nat},i< (dV u).length ->wN false 7 (u.getD i [])=some ((dV u).getD i 0)
 | [],i,h=>by simp[dV]at h
 |s::r,i,h=>by
  unfold dV at h ⊢
  cases e:wN false 7 s with
  |none=>rw[e]at h;simp at h
  |some n=>
   rw[e]at h
   cases i with
   |zero=>simp[e]
   |succ i=>
    have:=EI (u:=r) (i:=i) U1;simpa using this
def w9: ∀ {u:List aj},(dV u).length <u.length->wN false 7 (u.getD (dV u).length [])=none
 | [],h=>by simp[dV]at h
 |s::r,h=>by
  unfold dV at h ⊢
  cases e:wN false 7 s with
  |none=>simp[e]
  |some n=>
   rw[e]at h;have:=w9 (u:=r) U1;simpa using this
def QK (role d k:Nat)(f:FuncId)(s:aj)(hl:s.length<=100000)(hw:d+k<=10)(h:(aJ 32 s).length =d+k+1)(he: []∉aJ 32 s):
  ac 69 [NI role (d+k) k false f,SS s] (.aI [w7 ((aJ 32 s).drop 1) (dV (((aJ 32 s).drop 1).drop d)) [],Bo (decide ((dV (((aJ 32 s).drop 1).drop d)).length =k))]):=by
 have c1:=w8 s K0;have h1:=(cj 32 s).1;have h2:=(cj 32 s).2;have c2:=bI (aJ 32 s) [] K0;rw[fj he]at c2;generalize aJ 32 s=l at*;have hn:(ab l).length =l.length:=by simp
 have hu:(ab ((l.drop 1).drop d)).length =k:=by simp;omega
 have hlu: ∀i<k,(((l.drop 1).drop d).getD i []).length <=100000:=λi hi=>by
  have lA:i< ((l.drop 1).drop d).length :=by simp;omega
  have:((l.drop 1).drop d).getD i []∈l:=by
   rw[jN,pj lA,vK];exact PD (PD (qd lA))
  have:=h2 _ this;omega
 refine sF f69 ?_;repeat' ((first|refine tX 0 ?_|exact Zt|refine bR ?_ ?_<;>intro h)<;>(try conv=>whnf))
 generalize hU:(l.drop 1).drop d=u at*;have hk:u.length=k:=by simpa using hu
 refine af (ι:=Nat) (λi=>i<=(dV u).length) (λi=>u.length -i) (λi=>⟨[(4,pP 0),(7,pP 1),(61,some (.val (false,[.st (.view (ab u))]))),(62,vI k),(63,vI i)],[(0,some (.box 147 [.nil,.nil,.st (T [])])),(1,some (.box 147 [.st (.view (ab (l.drop 1))),.own 2,.st (T [])])),(2,some (.row true 1 (.ints ((dV u).take i))))],3⟩) 0
  (bp.trans (iQ 8 1 1 (.ints []) (T:=147) (cs:=[.st (.view (ab (l.drop 1))),.nil,.st (T [])]) K9 rfl rfl rfl rfl) (ai (by rw[<- hu];kernel_rfl))) (dD _) ?_
 intro i hi;have eC:=EH u;by_cases ak:i<k
 ·have CJ:=sA (l:=u) (i:=i) K0;have Uw:=hlu i ak;obtain⟨v,cn,hv⟩:=mR false 7 K9 (u.getD i []) K0;by_cases hp:i< (dV u).length
  ·have qc:=EI hp;have e1:=hv _ qc;have xp:(dV u).take (i+1)=(dV u).take i++[v]:=by rw[<- e1,CQ,pj hp,jN,pj hp];rfl
   have htl:((dV u).take i).length =i:=by simp;omega
   rw[qc]at cn;generalize (dV u).take i=w at*;generalize u.getD i []=y at*;exact ah7
  ·have hi2:(dV u).length =i:=by omega
   have dw:=w9 (u:=u) K0;rw[hi2]at dw;rw[dw]at cn;rw[pc K0,fj K0];generalize u.getD i []=y at*;exact tA
 ·have IG:(dV u).length =k:=by omega
  have:i=k:=by omega
  subst this;rw[pc K0,fL IG];exact tA
abbrev vE (n:aj)(role words sM:Nat)(rest:Bool)(f:FuncId):aj × SV:=(n,NI role words sM rest f)
abbrev kB (q:aj × SV):ByteArray × SV:=(B q.1,q.2)
def NJ:List (aj × SV):=[
 vE [110,111,116,101] 0 0 0 true 114,vE [108,111,116] 1 1 0 false 115,vE [117,110,105,116] 1 1 0 true 116,
 vE [117,115,101] 1 2 0 false 117,vE [111,112,101,110] 2 1 0 false 118,vE [115,104,117,116] 2 1 0 false 119,
 vE [101,97,114,116,104] 2 0 0 false 120,vE [108,105,102,116] 2 0 0 false 121,vE [118,111,108,116,97,103,101] 2 0 0 false 122,
 vE [111,102,102] 2 0 0 false 123,vE [101,110,116,101,114] 1 1 0 false 124,vE [108,101,97,118,101] 1 1 0 false 125,
 vE [116,101,115,116] 2 2 0 true 126,vE [114,101,112,97,105,114] 1 2 0 false 127,vE [114,101,108,101,97,115,101] 3 1 0 false 128,
 vE [115,104,111,99,107] 1 2 1 false 129,vE [105,110,115,112,101,99,116] 2 1 0 false 130,vE [108,111,97,100] 1 3 2 false 131,vE [103,97,115] 1 6 5 false 132]
def uA:List (ByteArray × SV):=NJ.map kB
def NK: ∀(l:List (aj × SV)) (w:aj),ja (l.map kB) (B w)=(l[(l.map Prod.fst).idxOf w]?).map Prod.snd
 | [],_=>rfl
 |q::l,w=>by
  show(match(B w==B q.1)with|true=>some q.2|false=>ja (l.map kB) (B w))=_;rw[ZG];by_cases h:w=q.1
  ·rw[fL h];simp[List.idxOf_cons,h]
  ·have hb:(q.1==w)=false:=by simp;exact λe=>h e.symm
   rw[fj h];dsimp only;rw[NK l w];simp[List.idxOf_cons,hb]
def Wf (w:aj):ja uA (B w)=(NJ[lB w]?).map Prod.snd:=NK NJ w
def agy (fn:Func)(fid:Nat)(S:St):Prop:=∃id,S.hp.get id=some (.map uA)/\eB cx S.hp.get S.env.get fn.results.toList λys=>∃zs,kT [(id,fid)] ys=some zs/\pv zs=bm (.mp fid)
def gM {f:FuncId}{c:Code}{fid:Nat}(fn:Func)(h:m8 cx c ⟨iF 0 [],[],1⟩ (agy fn fid) (λ_ _=>False) (agy fn fid))
  (h1:iN cx.P f=true:=by kernel_rfl)(h2:cx.P.funcs[f]? =some fn:=by kernel_rfl)(h3:fn.body=some c:=by rfl)(h4:bS fn.ntmps c=true:=by kernel_rfl)(h5:([]:List DX).length <=fn.ntmps:=by exact dD _)(h6:aN [] c=true:=by kernel_rfl):
  bx cx f 1 [] [] [] (bm (.mp fid)) [(fid,some (.map uA))]:=
 fA lJ h1 h2 h3 h4 h5 [] (λ_ h=>by cases h) h6 (λS hS=>by
  obtain⟨id,g1,g2⟩:=hS;refine⟨[(id,fid)],⟨by simp,by simp,λn b' e=>?_⟩,(λ_ h=>by cases h),g2⟩;obtain⟨rfl,rfl⟩:=gD e
  exact⟨id,_,by simp,g1,rfl⟩) h
def Wg (fid:Nat):bx cx 68 1 [] [] [] (bm (.mp fid)) [(fid,some (.map uA))]:=by
 refine gM f68 ?_
 (try(refine tX 0 ?_;try exact Zt))
 exact⟨4,by kernel_rfl,_,rfl,rfl⟩
def kh (H:HF)(fid:Nat):bX cx fid 68 [] H (bm (.mp fid)) [(fid,some (.map uA))] []:=
 gr (Wg fid) (λid hid=>by cases hid) (λid hid=>by cases hid) (λid b e=>by simp[Hp.get]at e) (λx hx=>by cases hx) (λid hid=>by cases hid)
  (λid hid=>.inr ajO) (λid b e=>by obtain⟨rfl,rfl⟩:=gD e;trivial) (by
   intro d hd;have:d= .mp fid:=by simpa [bm]using hd
   subst this
   exact .inr rfl)
theorem om: ∀(k:Nat) (s:aj),(cd k s).length <=s.length
 |0,s=>dE _
 |k+1,s=>by
  unfold cd;have:=om k (s.drop ((aJ 32 s).getD 0 []).length.succ);rw[LJ]at this;omega
def Wh (role w:Nat)(f:FuncId)(s:aj)(hl:s.length<=100000)(hw:w<=10)(h:(aJ 32 s).length <w+2):ac 69 [NI role w 0 true f,SS s] (.aI [w7 [] [] [],Bo false]):=by
 have c1:=rW s (w+2) K0 K0 K0;rw[NC _ _ K0,if_pos K0,show(((w+2:Nat)):Int)=(w:Int)+2 by omega]at c1;have h1:=(cj 32 s).1;exact afO
instance agS (a:Nat):dU ((a:Int) -((0:Nat):Int)) a:=⟨by omega⟩
instance alS (a:Nat):dU ((a:Int)+1) (a+1):=⟨by omega⟩
def aab (role w:Nat)(f:FuncId)(s:aj)(hl:s.length<=100000)(hw:w<=10)(h:w+2<=(aJ 32 s).length)(he: []∈(aJ 32 s).take (w+1)):ac 69 [NI role w 0 true f,SS s] (.aI [w7 [] [] (cd (w+1) s),Bo false]):=by
 have c1:=rW s (w+2) K0 K0 K0;rw[J1 _ _ K0 h,show(((w+2:Nat)):Int)=(w:Int)+2 by omega,show w+2 -1=w+1 from rfl]at c1;have ak:((aJ 32 s).take (w+1)).length =w+1:=by simp;omega
 have c2:=bI ((aJ 32 s).take (w+1)) [] K0;rw[fL he]at c2;generalize (aJ 32 s).take (w+1)=l at*;generalize cd (w+1) s=r at*;have hn:(ab (l++[r])).length =w+2:=by simp;omega
 have hn2:(ab ((l++[r]).take (w+1))).length =w+1:=by exact ajI
 have hg:(ab (l++[r]))[w+1]? =some [T r]:=by simp[ab,ak]
 have xp:(l++[r]).take (w+1)=l:=by rw[<- ak];simp
 have c3:=c2;rw[<- xp]at c3;refine sF f69 ?_;refine aS ?_;(refine aR ?_;conv=>whnf);(try(refine tX 2 ?_;try exact Zt));refine aS ?_;(refine aR ?_;conv=>whnf);(try(refine tX 2 ?_;try exact Zt));refine aS ?_;(refine aR ?_;conv=>whnf);(try(refine tX 2 ?_;try exact Zt));refine aS ?_;refine aS ?_;(refine aR ?_;conv=>whnf);(try(refine tX 2 ?_;try exact Zt))
 (try refine tB 0 ?_)
 refine aM ?_;(refine aR ?_;conv=>whnf);(try(refine tX 2 ?_;try exact Zt));refine⟨_,cL 22 rfl,?_⟩;exact tA
def Wi (role w:Nat)(f:FuncId)(s:aj)(hl:s.length<=100000)(hw:w<=10)(h:w+2<=(aJ 32 s).length)(he: []∉(aJ 32 s).take (w+1)):ac 69 [NI role w 0 true f,SS s] (.aI [w7 (((aJ 32 s).take (w+1)).drop 1) [] (cd (w+1) s),Bo true]):=by
 have c1:=rW s (w+2) K0 K0 K0;rw[J1 _ _ K0 h,show(((w+2:Nat)):Int)=(w:Int)+2 by omega,show w+2 -1=w+1 from rfl]at c1;have ak:((aJ 32 s).take (w+1)).length =w+1:=by simp;omega
 have c2:=bI ((aJ 32 s).take (w+1)) [] K0;rw[fj he]at c2;generalize (aJ 32 s).take (w+1)=l at*;generalize cd (w+1) s=r at*;have hn:(ab (l++[r])).length =w+2:=by simp;omega
 have hn2:(ab ((l++[r]).take (w+1))).length =w+1:=by exact ajI
 have hg:(ab (l++[r]))[w+1]? =some [T r]:=by simp[ab,ak]
 have xp:(l++[r]).take (w+1)=l:=by rw[<- ak];simp
 have c3:=c2;rw[<- xp]at c3;have hn3:((l++[r]).take (w+1)).length =w+1:=by rw[xp];exact ak
 have hn4:(((l++[r]).take (w+1)).drop 1).length =w:=by rw[xp];simp;omega
 have hz:(ab ((((l++[r]).take (w+1)).drop 1).drop w)).length =0:=by rw[xp];simp;omega
 refine sF f69 ?_;refine aS ?_;(refine aR ?_;conv=>whnf);(try(refine tX 2 ?_;try exact Zt));refine aS ?_;(refine aR ?_;conv=>whnf);(try(refine tX 2 ?_;try exact Zt));refine aS ?_;(refine aR ?_;conv=>whnf);(try(refine tX 2 ?_;try exact Zt));refine aS ?_;refine aS ?_;(refine aR ?_;conv=>whnf);(try(refine tX 2 ?_;try exact Zt))
 (try refine tB 0 ?_)
 refine aM ?_;(refine aR ?_;conv=>whnf);(try(refine tX 2 ?_;try exact Zt));refine⟨_,cL 22 rfl,?_⟩;repeat' ((first|refine tX 0 ?_|exact Zt|refine bR ?_ ?_<;>intro h)<;>(try conv=>whnf))
 generalize (((l++[r]).take (w+1)).drop 1).drop w=u at*
 refine af (ι:=Nat) (λ_=>True) (λ_=>0) (λ_=>⟨[(4,pP 0),(7,pP 1),(61,some (.val (false,[.st (.view (ab u))]))),(62,vI (ab u).length),(63,vI 0)],[(0,some (.box 147 [.nil,.nil,.st (T [])])),(1,some (.box 147 [.st (.view (ab (((l++[r]).take (w+1)).drop 1))),.nil,.st (T r)]))],2⟩) 0
  Zc trivial ?_
 intro i _;rw[xp];exact tA
def EL: ∀u:List aj,jU u=if(dV u).length =u.length then some (dV u)else none
 | []=>rfl
 |s::r=>by
  unfold jU dV
  cases e:wN false 7 s with
  |none=>simp
  |some n=>
   rw[EL r];by_cases h:(dV r).length =r.length
   ·simp[h]
   ·simp[h]
def Wn (role w k:Nat)(rest:Bool)(f:FuncId)(s:aj)(hl:s.length<=100000)(hw:w<=10)(hk:k<=w)(hr:rest=true->k=0):
  ∃a n r ok,ac 69 [NI role w k rest f,SS s] (.aI [w7 a n r,Bo ok])/\fU ⟨role,w,k,rest⟩ s=if ok=true then some (a,n,r)else none:=by
 have s9:w+1<=11:=by omega
 cases rest
 ·by_cases h:(aJ 32 s).length =w+1
  ·have ht:(aJ 32 s).take (w+1)=aJ 32 s:=pc K0;by_cases he: []∈aJ 32 s
   ·refine⟨_,_,_,_,adq role w k f s hl hw h he,?_⟩;unfold fU;rw[if_pos (.inr (.inr (by rw[show(Vb.mk role w k false).words +1=w+1 from rfl,ht];exact he)))];rfl
   ·obtain⟨d,rfl⟩: ∃d,w=d+k:=⟨w -k,by omega⟩;refine⟨_,_,_,_,QK role d k f s hl hw h he,?_⟩;unfold fU
    rw[if_neg (by
     show ¬((false=true/\_)\/(false=false/\(aJ 32 s).length ≠d+k+1)\/[]∈(aJ 32 s).take (d+k+1));rw[ht];rintro(⟨h1,_⟩|⟨_,h1⟩|h1)
     ·cases h1
     ·exact h1 h
     ·exact he h1)]
    show(jU (((aJ 32 s).take (d+k+1)).drop (d+k+1 -k))).map (λn=>(((aJ 32 s).take (d+k+1)).drop 1,n,if false=true then _ else []))=_;rw[ht,show d+k+1 -k=1+d by omega,<- Yi,EL];have hu:(((aJ 32 s).drop 1).drop d).length =k:=by simp;omega
    rw[hu];by_cases hn:(dV (((aJ 32 s).drop 1).drop d)).length =k
    ·rw[if_pos hn,fL hn];rfl
    ·rw[if_neg hn,fj hn];rfl
  ·refine⟨_,_,_,_,aaa role w k f s hl hw h,?_⟩;unfold fU;rw[if_pos (.inr (.inl ⟨rfl,h⟩))];rfl
 ·obtain rfl:=hr rfl;by_cases h:(aJ 32 s).length <w+2
  ·refine⟨_,_,_,_,Wh role w f s hl hw h,?_⟩;unfold fU;rw[if_pos (.inl ⟨rfl,h⟩)];rfl
  ·by_cases he: []∈(aJ 32 s).take (w+1)
   ·refine⟨_,_,_,_,aab role w f s hl hw K0 he,?_⟩;unfold fU;rw[if_pos (.inr (.inr he))];rfl
   ·refine⟨_,_,_,_,Wi role w f s hl hw K0 he,?_⟩;unfold fU
    rw[if_neg (by
     rintro(⟨_,h1⟩|⟨h1,_⟩|h1)
     ·exact h h1
     ·cases h1
     ·exact he h1)]
    show(jU (((aJ 32 s).take (w+1)).drop (w+1 -0))).map (λn=>(((aJ 32 s).take (w+1)).drop 1,n,if true=true then _ else []))=_;rw[show((aJ 32 s).take (w+1)).drop (w+1 -0)= []from List.drop_eq_nil_of_le wa];rfl
def Q7 (E:uj)(p:Pl)(log:List En)(s:bP)(hl:s.units.length<=1000)(x:aj)(n:List Int)(r:aj)(hx:x.length<=1000)(hs:s.lots.length<=1000):
  bx cx 115 1 ((false,[.ptr 1 0])::[w7 [x] n r].map dyn) (form p log s) [1] (.val (dyn (I (bs E p log s 1 [x] n r).2))) (form p log (bs E p log s 1 [x] n r).1):=by
 obtain⟨volt,earth,opens,hall,lots,units⟩:=s;have c1:=gi x K0;have c2:=bI lots x (by simp only at hs;omega);unfold jG at c1;have e:bs E p log ⟨volt,earth,opens,hall,lots,units⟩ 1 [x] n r=if jK x then(if x∈lots then(⟨volt,earth,opens,hall,lots,units⟩,5)else if lots.length<12 then(⟨volt,earth,opens,hall,lots++[x],units⟩,0)else(⟨volt,earth,opens,hall,lots,units⟩,16))else(⟨volt,earth,opens,hall,lots,units⟩,4):=rfl
 rw[e];clear e;by_cases h1:jK x
 ·rw[if_pos h1]at c1 ⊢;by_cases h2:x∈lots
  ·rw[fL h2]at c2;rw[if_pos h2];refine gF f115 hl ?_;by_cases h3:lots.length<12
   ·exact K11
   ·exact K11
  ·rw[fj h2]at c2;rw[if_neg h2];by_cases h3:lots.length<12
   ·rw[if_pos h3];refine gF f115 hl ?_;exact K11
   ·rw[if_neg h3];refine gF f115 hl ?_;exact K11
 ·rw[if_neg h1]at c1 ⊢;refine gF f115 hl ?_;by_cases h2:x∈lots
  all_goals
   first|rw[fL h2]at c2|rw[fj h2]at c2
   by_cases h3:lots.length<12
   ·exact K11
   ·exact K11
structure ii (p:Pl):Prop where
 pe:p.ae.length<=1000
 ga:p.ap.length<=1000
 te:p.aa.length<=1000
 pa:p.parts.length<=1000
 pn: ∀i<p.ae.length,(p.ae.getD i ([],0)).1.length <=1000
 gn: ∀i<p.ap.length,(p.ap.getD i []).length <=1000
 tn: ∀i<p.aa.length,(p.aa.getD i dz).name.length <=1000
 td: ∀i<p.aa.length,(p.aa.getD i dz).bz.length <=1000
 tr: ∀i<p.aa.length,(p.aa.getD i dz).rules.length <=10000
 qn: ∀i<p.parts.length,(p.parts.getD i ([],[])).1.length <=1000
 qv: ∀i<p.parts.length,(p.parts.getD i ([],[])).2.length <=1000
abbrev Xy (p:Pl):SV:=(false,[.ref (bE p)])
abbrev Ra (r:Int × Int):List SV:=[I r.1,I r.2]
def al1 (a b:Int):fs [a,b]=ju a b:=by unfold ju;by_cases h:a=0<;>by_cases h':b=0<;>simp[fs,h,h']
def aaP (a b:Int):ac 52 [(false,[.ints [a,b]])] (.one (I (fs [a,b]))):=oS [a,b] (fO rfl)
section
variable {p:Pl}
def adL:ac 164 [Xy p] (.aI (Ra (0,pR p.ae.length 8))):=by
 have hn:(p.ae.map nh).length =p.ae.length:=by simp
 refine sF f164 ?_;repeat' ((first|(refine kO 7 rfl ?_;first|refine Rq (bZ _ _) ?_|refine Rq (aaP _ _) ?_)|refine tX 0 ?_|exact Zt|refine bR ?_ ?_<;>intro h)<;>(try conv=>whnf))
 refine aQ lO.aI (aQ (List.cons (I 0)) (aQ (λn=>[I n]) ?_));rw[al1];unfold pR ju;rw[hn];by_cases h1:0<p.ae.length
 ·by_cases h2:p.ae.length<=8<;>simp[h1,h2]<;>omega
 ·simp[h1]<;>omega
def adM:ac 169 [Xy p] (.aI (Ra (0,pR p.ap.length 4))):=by
 have hn:(ab p.ap).length =p.ap.length:=by simp
 refine sF f169 ?_;repeat' ((first|(refine kO 7 rfl ?_;first|refine Rq (bZ _ _) ?_|refine Rq (aaP _ _) ?_)|refine tX 0 ?_|exact Zt|refine bR ?_ ?_<;>intro h)<;>(try conv=>whnf))
 refine aQ lO.aI (aQ (List.cons (I 0)) (aQ (λn=>[I n]) ?_));rw[al1];unfold pR ju;rw[hn];by_cases h1:0<p.ap.length
 ·by_cases h2:p.ap.length<=4<;>simp[h1,h2]<;>omega
 ·simp[h1]<;>omega
def adN:ac 174 [Xy p] (.aI (Ra (0,kw p.aa.length 8))):=by
 have hn:(p.aa.map fD).length =p.aa.length:=by simp
 refine sF f174 ?_;repeat' ((first|(refine kO 7 rfl ?_;first|refine Rq (bZ _ _) ?_)|refine tX 0 ?_|exact Zt|refine bR ?_ ?_<;>intro h)<;>(try conv=>whnf))
 refine aQ lO.aI (aQ (List.cons (I 0)) (aQ (λn=>[I n]) ?_));unfold kw;rw[hn];by_cases h2:p.aa.length<=8<;>simp[h2]<;>omega
def adO:ac 180 [Xy p] (.aI (Ra (0,kw p.parts.length 6))):=by
 have hn:(p.parts.map mj).length =p.parts.length:=by simp
 refine sF f180 ?_;repeat' ((first|(refine kO 7 rfl ?_;first|refine Rq (bZ _ _) ?_)|refine tX 0 ?_|exact Zt|refine bR ?_ ?_<;>intro h)<;>(try conv=>whnf))
 refine aQ lO.aI (aQ (List.cons (I 0)) (aQ (λn=>[I n]) ?_));unfold kw;rw[hn];by_cases h2:p.parts.length<=6<;>simp[h2]<;>omega
def adP:ac 187 [Xy p] (.aI (Ra (0,if(0<=p.dZ/\p.dZ<=1000)/\0<=p.eK/\p.eK<=1000000000000 then 0 else 2))):=by
 refine sF f187 ?_;repeat' ((first|(refine kO 7 rfl ?_;first|refine Rq (bZ _ _) ?_)|refine tX 0 ?_|exact Zt|refine bR ?_ ?_<;>intro h)<;>(try conv=>whnf))
 all_goals(refine aQ lO.aI (aQ (List.cons (I 0)) (aQ (λn=>[I n]) ?_));first|(simp_all;done)|(simp;omega))
def aaQ (i:Nat)(hi:i<p.ae.length):ac 168 [I i,Xy p] (.one (I (if 0<=(p.ae.getD i ([],0)).2/\(p.ae.getD i ([],0)).2<=3 then 0 else 15))):=by
 have he:=aV (f:=nh) hi ([],0);have hn:(p.ae.map nh).length =p.ae.length:=by simp
 generalize p.ae.getD i ([],0)=x at*;refine sF f168 ?_;repeat' ((first|(refine kO 7 rfl ?_;first|refine Rq (bZ _ _) ?_)|refine tX 0 ?_|exact Zt|refine bR ?_ ?_<;>intro h)<;>(try conv=>whnf))
 exact mH (by by_cases h:0<=x.2/\x.2<=3<;>simp_all)
end
section
variable {p:Pl}(hs:ii p)
include hs
theorem aaR (i:Nat)(hi:i<p.aa.length):ac 178 [I i,Xy p] (.one (I (VF jL p.aa i))):=by
 have ht:=Np p.aa i hs.te hi (hs.td i hi) (hs.tr i hi);refine sF f178 ?_;exact K1
theorem aaS (i:Nat)(hi:i<p.parts.length):ac 184 [I i,Xy p] (.one (I (jT (p.parts.getD i ([],[])).2 (cS p.aa)))):=by
 have he:=aV (f:=mj) hi ([],[]);have hn:(p.parts.map mj).length =p.parts.length:=by simp
 have ht:=uo p.aa hs.te;have ha:=HY (p.parts.getD i ([],[])).2 (cS p.aa) (hs.qv i hi) (by simp[cS];exact hs.te);refine sF f184 ?_;exact K1
theorem adQ:ac 165 [Xy p] (.aI (Ra (cR p.dx p.ae.length))):=by
 have h:=Ql p hs.pe hs.pn λi hi=>aaQ i hi;refine sF f165 ?_;exact K1
theorem adR:ac 170 [Xy p] (.aI (Ra (cR (gW p.ap) p.ap.length))):=by
 have h:=Qm p hs.ga hs.gn λi hi=>ZH i;have e:p.xL=gW p.ap:=by funext i;unfold Pl.xL ju;by_cases h:gW p.ap i=0<;>simp[h]
 rw[e]at h;refine sF f170 ?_;exact K1
theorem adS:ac 175 [Xy p] (.aI (Ra (cR (p.gE jL) p.aa.length))):=by
 have h:=Qo p jL hs.te hs.tn λi hi=>aaR hs i hi;refine sF f175 ?_;exact K1
theorem adT:ac 181 [Xy p] (.aI (Ra (cR p.jh p.parts.length))):=by
 have h:=Qp p hs.pa hs.qn λi hi=>aaS hs i hi;refine sF f181 ?_;exact K1
end
def jq:List (Int × Int)->Int × Int
 | []=>(0,0)
 |r::l=>o8 r (jq l)
def Is: ∀ {l:List (Int × Int)} {i:Nat},i<l.length->(∀j<i,(l.getD j (0,0)).2=0)->(l.getD i (0,0)).2≠0->jq l=l.getD i (0,0)
 | [],i,h,_,_=>by simp at h
 |r::l,0,_,_,h=>by unfold jq o8;exact if_pos h
 |r::l,i+1,h,h0,h1=>by
  unfold jq o8;rw[if_neg (by simpa using h0 0 K0),Is (i:=i) U1 (λj hj=>by simpa using h0 (j+1) K0) (by simpa using h1)];simp
def It: ∀ {l:List (Int × Int)},(∀j<l.length,(l.getD j (0,0)).2=0)->jq l=(0,0)
 | [],_=>rfl
 |r::l,h=>by
  unfold jq o8;rw[if_neg (by simpa using h 0 (by simp)),It λj hj=>by simpa using h (j+1) (by simpa using hj)]
noncomputable def xh (p:Pl):List (Int × Int):=[(0,pR p.ae.length 8),cR p.dx p.ae.length,(0,pR p.ap.length 4),cR (gW p.ap) p.ap.length,(0,kw p.aa.length 8),cR (p.gE jL) p.aa.length,(0,kw p.parts.length 6),cR p.jh p.parts.length,
 (0,if(0<=p.dZ/\p.dZ<=1000)/\0<=p.eK/\p.eK<=1000000000000 then 0 else 2)]
def aaT (p:Pl):p.err jL=jq (xh p):=by
 unfold Pl.err xh jq jq jq jq jq jq jq jq jq jq;have: ∀x:Int,o8 (0,x) (0,0)=(0,x):=λx=>by unfold o8;by_cases h:x=0<;>simp[h]
 rw[this]
abbrev cps:List Nat:=[164,165,169,170,174,175,180,181,187]
set_option maxRecDepth 100000 in
def Fb {p:Pl}(hs:ii p):ac 90 [(true,bE p)] (.aI (Ra (p.err jL))):=by
 have g0:=adL (p:=p);have g1:=adQ hs;have g2:=adM (p:=p);have g3:=adR hs;have g4:=adN (p:=p);have g5:=adS hs;have g6:=adO (p:=p);have g7:=adT hs;have g8:=adP (p:=p);rw[aaT];have eM:=λi h1 h2 h3=>Is (l:=xh p) (i:=i) h1 h2 h3;have dp:=It (l:=xh p);have GV:(xh p).getD 0 (0,0)=(0,pR p.ae.length 8):=rfl;have hn1:(xh p).getD 1 (0,0)=cR p.dx p.ae.length:=rfl;have hn2:(xh p).getD 2 (0,0)=(0,pR p.ap.length 4):=rfl;have hn3:(xh p).getD 3 (0,0)=cR (gW p.ap) p.ap.length:=rfl;have hn4:(xh p).getD 4 (0,0)=(0,kw p.aa.length 8):=rfl;have hn5:(xh p).getD 5 (0,0)=cR (p.gE jL) p.aa.length:=rfl;have hn6:(xh p).getD 6 (0,0)=(0,kw p.parts.length 6):=rfl;have hn7:(xh p).getD 7 (0,0)=cR p.jh p.parts.length:=rfl;have hn8:(xh p).getD 8 (0,0)=(0,if(0<=p.dZ/\p.dZ<=1000)/\0<=p.eK/\p.eK<=1000000000000 then 0 else 2):=rfl;have hl9:(xh p).length =9:=rfl;rw[<- GV]at g0;rw[<- hn1]at g1;rw[<- hn2]at g2;rw[<- hn3]at g3;rw[<- hn4]at g4;rw[<- hn5]at g5;rw[<- hn6]at g6;rw[<- hn7]at g7;rw[<- hn8]at g8;clear GV hn1 hn2 hn3 hn4 hn5 hn6 hn7 hn8;generalize xh p=L at*;have g0:ac 164 [(false,[.ref (bE p)])] (.aI [I (L.getD 0 (0,0)).1,I (L.getD 0 (0,0)).2]):=g0;have g1:ac 165 [(false,[.ref (bE p)])] (.aI [I (L.getD 1 (0,0)).1,I (L.getD 1 (0,0)).2]):=g1;have g2:ac 169 [(false,[.ref (bE p)])] (.aI [I (L.getD 2 (0,0)).1,I (L.getD 2 (0,0)).2]):=g2;have g3:ac 170 [(false,[.ref (bE p)])] (.aI [I (L.getD 3 (0,0)).1,I (L.getD 3 (0,0)).2]):=g3;have g4:ac 174 [(false,[.ref (bE p)])] (.aI [I (L.getD 4 (0,0)).1,I (L.getD 4 (0,0)).2]):=g4;have g5:ac 175 [(false,[.ref (bE p)])] (.aI [I (L.getD 5 (0,0)).1,I (L.getD 5 (0,0)).2]):=g5;have g6:ac 180 [(false,[.ref (bE p)])] (.aI [I (L.getD 6 (0,0)).1,I (L.getD 6 (0,0)).2]):=g6;have g7:ac 181 [(false,[.ref (bE p)])] (.aI [I (L.getD 7 (0,0)).1,I (L.getD 7 (0,0)).2]):=g7;have g8:ac 187 [(false,[.ref (bE p)])] (.aI [I (L.getD 8 (0,0)).1,I (L.getD 8 (0,0)).2]):=g8;clear hs;refine sF f90 ?_;refine aS ?_;(refine aR ?_;conv=>whnf);(try(refine tX 2 ?_;try exact Zt));refine aS ?_;refine aR ?_;conv=>whnf
 iterate 9 (refine oP rfl ?_;(conv=>whnf);refine rP rfl (λ_ z=>z) ?_;(conv=>whnf))
 refine oP rfl ?_;(conv=>whnf);refine rG (r:=.val (true,[.st (.fn 164 [] [bE p]),.st (.fn 165 [] [bE p]),.st (.fn 169 [] [bE p]),.st (.fn 170 [] [bE p]),.st (.fn 174 [] [bE p]),.st (.fn 175 [] [bE p]),.st (.fn 180 [] [bE p]),.st (.fn 181 [] [bE p]),.st (.fn 187 [] [bE p])])) (u:=[]) (R:=[]) (λK z=>cast cT z) ?_;conv=>whnf
 (try(refine tX 0 ?_;try exact Zt))
 refine af (ι:=Nat) (λi=>i<=9/\∀j<i,(L.getD j (0,0)).2=0) (λi=>9 -i) (λi=>⟨[(19,some (.val (true,cps.map λf=>.st (.fn f [] [bE p])))),(20,vI i)],[],0⟩) 0 Zc ⟨dD _,λj hj=>by omega⟩ ?_;rintro i ⟨hi,hp⟩;generalize bE p=P at*;have it:=λ(h:(L.getD i (0,0)).2=0)=>all_succ (f:=λj=>(L.getD j (0,0)).2) hp h;have eM:=λh1 h2=>eM i h1 hp h2;rcases(show i=0\/i=1\/i=2\/i=3\/i=4\/i=5\/i=6\/i=7\/i=8\/i=9 by omega)with rfl|rfl|rfl|rfl|rfl|rfl|rfl|rfl|rfl|rfl
 ·generalize L.getD 0 (0,0)=r at*;by_cases h:r.2=0
  ·rw[h]at g0;repeat' ((first|refine tX 0 ?_|exact Zt|refine bR ?_ ?_<;>intro h)<;>(try conv=>whnf))
   all_goals first|exact Zo|(exact absurd rfl h)|exact⟨0+1,⟨by omega,it h⟩,by omega,Zc⟩
  ·rw[eM K0 h];exact tL
 ·generalize L.getD 1 (0,0)=r at*;by_cases h:r.2=0
  ·rw[h]at g1;repeat' ((first|refine tX 0 ?_|exact Zt|refine bR ?_ ?_<;>intro h)<;>(try conv=>whnf))
   all_goals first|exact Zo|(exact absurd rfl h)|exact⟨1+1,⟨by omega,it h⟩,by omega,Zc⟩
  ·rw[eM K0 h];exact tL
 ·generalize L.getD 2 (0,0)=r at*;by_cases h:r.2=0
  ·rw[h]at g2;repeat' ((first|refine tX 0 ?_|exact Zt|refine bR ?_ ?_<;>intro h)<;>(try conv=>whnf))
   all_goals first|exact Zo|(exact absurd rfl h)|exact⟨2+1,⟨by omega,it h⟩,by omega,Zc⟩
  ·rw[eM K0 h];exact tL
 ·generalize L.getD 3 (0,0)=r at*;by_cases h:r.2=0
  ·rw[h]at g3;repeat' ((first|refine tX 0 ?_|exact Zt|refine bR ?_ ?_<;>intro h)<;>(try conv=>whnf))
   all_goals first|exact Zo|(exact absurd rfl h)|exact⟨3+1,⟨by omega,it h⟩,by omega,Zc⟩
  ·rw[eM K0 h];exact tL
 ·generalize L.getD 4 (0,0)=r at*;by_cases h:r.2=0
  ·rw[h]at g4;repeat' ((first|refine tX 0 ?_|exact Zt|refine bR ?_ ?_<;>intro h)<;>(try conv=>whnf))
   all_goals first|exact Zo|(exact absurd rfl h)|exact⟨4+1,⟨by omega,it h⟩,by omega,Zc⟩
  ·rw[eM K0 h];exact tL
 ·generalize L.getD 5 (0,0)=r at*;by_cases h:r.2=0
  ·rw[h]at g5;repeat' ((first|refine tX 0 ?_|exact Zt|refine bR ?_ ?_<;>intro h)<;>(try conv=>whnf))
   all_goals first|exact Zo|(exact absurd rfl h)|exact⟨5+1,⟨by omega,it h⟩,by omega,Zc⟩
  ·rw[eM K0 h];exact tL
 ·generalize L.getD 6 (0,0)=r at*;by_cases h:r.2=0
  ·rw[h]at g6;repeat' ((first|refine tX 0 ?_|exact Zt|refine bR ?_ ?_<;>intro h)<;>(try conv=>whnf))
   all_goals first|exact Zo|(exact absurd rfl h)|exact⟨6+1,⟨by omega,it h⟩,by omega,Zc⟩
  ·rw[eM K0 h];exact tL
 ·generalize L.getD 7 (0,0)=r at*;by_cases h:r.2=0
  ·rw[h]at g7;repeat' ((first|refine tX 0 ?_|exact Zt|refine bR ?_ ?_<;>intro h)<;>(try conv=>whnf))
   all_goals first|exact Zo|(exact absurd rfl h)|exact⟨7+1,⟨by omega,it h⟩,by omega,Zc⟩
  ·rw[eM K0 h];exact tL
 ·generalize L.getD 8 (0,0)=r at*;by_cases h:r.2=0
  ·rw[h]at g8;repeat' ((first|refine tX 0 ?_|exact Zt|refine bR ?_ ?_<;>intro h)<;>(try conv=>whnf))
   all_goals first|exact Zo|(exact absurd rfl h)|exact⟨8+1,⟨by omega,it h⟩,by omega,Zc⟩
  ·rw[eM K0 h];exact tL
 ·rw[dp (by rw[hl9];exact hp)];exact tL
def GF (p:Pl)(n:aj)(hl:p.parts.length<=1000):ac 48 [(true,bE p),SS n] (.one (I (bg p.bf n))):=by
 have hn:(p.parts.map mj).length =p.parts.length:=by simp
 have AX:p.bf.length=p.parts.length:=by simp[Pl.bf]
 refine sF f48 ?_
 (try(refine tX 0 ?_;try exact Zt))
 refine af (ι:=Nat) (λi=>i<=p.parts.length/\n∉p.bf.take i) (λi=>p.parts.length -i) (λi=>⟨[(1,lS n),(2,pP 0),(5,vI i)],[(0,some (.box 27 ((bE p).map .st)))],1⟩) 0 Zc ⟨dD _,by simp⟩ ?_;rintro i ⟨hi,dp⟩;by_cases ak:i<p.parts.length
 ·have he:=aV (f:=mj) ak ([],[]);have hg:p.bf.getD i []=(p.parts.getD i ([],[])).1:=by rw[getD_at ak,getD_at K0];simp[Pl.bf]
  have nX:=λe=>mN (l:=p.bf) (x:=n) (i:=i) K0 e dp;have FL:=iS (l:=p.bf) (i:=i) (x:=n) K0;rw[hg]at nX FL;generalize p.parts.getD i ([],[])=x at*;by_cases hx:x.1=n
  ·rw[nX hx];exact K87
  ·exact K50
 ·obtain rfl:i=p.parts.length:=by omega
  rw[pc K0]at dp;exact acr
def pY (p:Pl)(n:aj)(hl:p.aa.length<=1000):ac 75 [(true,bE p),SS n] (.one (I (bg (cS p.aa) n))):=by
 have hn:(p.aa.map fD).length =p.aa.length:=by simp
 have AX:(cS p.aa).length =p.aa.length:=by simp[cS]
 refine sF f75 ?_
 (try(refine tX 0 ?_;try exact Zt))
 refine af (ι:=Nat) (λi=>i<=p.aa.length/\n∉(cS p.aa).take i) (λi=>p.aa.length -i) (λi=>⟨[(1,lS n),(2,pP 0),(5,vI i)],[(0,some (.box 27 ((bE p).map .st)))],1⟩) 0 Zc ⟨dD _,by simp⟩ ?_;rintro i ⟨hi,dp⟩;by_cases ak:i<p.aa.length
 ·have he:=iU ak;have hg:=rM ak;have nX:=λe=>mN (l:=cS p.aa) (x:=n) (i:=i) K0 e dp;have FL:=iS (l:=cS p.aa) (i:=i) (x:=n) K0;rw[hg]at nX FL;generalize p.aa.getD i dz=x at*;by_cases hx:x.name=n
  ·rw[nX hx];exact K87
  ·exact K50
 ·obtain rfl:i=p.aa.length:=by omega
  rw[pc K0]at dp;exact acr
def lj (l:List aj)(i:Nat)(hi:i<l.length)(hl:l.length<=1000)(hs:(l.getD i []).length <=1000):ac 229 [V1 l,I i] (.one (I (gW l i))):=by
 have he:=sA hi;have hn:(ab l).length =l.length:=by simp
 have h1:=px (l.getD i []) K0;have h2:=df (l.take i) (l.getD i []) wa;have xp:(ab l).take i=ab (l.take i):=by simp
 have hm:gW l i=ju (jG (l.getD i [])) (if l.getD i []∈l.take i then 5 else 0):=rfl;unfold jG ju at hm;generalize l.getD i []=s at*;by_cases c1:jK s
 ·rw[if_pos c1,if_neg K9]at hm;rw[fL c1]at h1;by_cases c2:s∈l.take i
  ·rw[if_pos c2]at hm;rw[fL c2]at h2;exact agh
  ·rw[if_neg c2]at hm;rw[fj c2]at h2;exact agh
 ·rw[if_neg c1,if_pos K9]at hm;rw[fj c1]at h1;exact agh
def AL {l:List aj}{i:Nat}(h:i<l.length):gW (l.take (i+1)) i=gW l i:=by
 unfold gW;rw[List.take_take,Nat.min_eq_left K0,show(l.take (i+1)).getD i []=l.getD i []by simp[jN,h]]
end Go.Proofs.Tryz
