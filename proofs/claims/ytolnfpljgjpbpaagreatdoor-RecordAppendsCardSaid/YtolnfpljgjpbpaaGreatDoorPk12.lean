import Derived.Test.YtolnfpljgjpbpaaGreatDoorPk8
import Derived.Test.YtolnfpljgjpbpaaGreatDoorPk9
set_option linter.all false
set_option maxRecDepth 100000
set_option maxHeartbeats 8000000
namespace Go.Proofs.Tryz
open Go.Fw Go.IntWalk Go.Plain
def ki (s:List UInt8)(hl:s.length<=10000):ac 258 [SS s] (.aI (PR (dT (cI (aH 32 s))))):=by
 obtain⟨h3,h4⟩:=cj 32 s;have c1:=j0 s 32 K0;rw[show(32:UInt8).toNat =32 from rfl,iM]at c1;generalize aH 32 s=ws at*;have hn:=ee ws;refine sF f258 ?_
 (try(refine tX 0 ?_;try exact Zt))
 refine af (ι:=Nat × Int × List Int) (λp=>(p.1<=ws.length/\p.2.2.length<=p.1)/\cI (ws.take p.1)=some p.2) (λp=>ws.length -p.1)
  (λp=>⟨[(2,pP 0),(4,pP 1),(5,pO 2),(6,vI p.1)],[(0,some (.box 249 [.st (J 0),.nil])),(1,some (.box 249 [.st (J p.2.1),.own 3])),(2,some (.row false 1 (.view (ab ws)))),(3,some (.row true 1 (.ints p.2.2)))],4⟩)
  (0,0,[]) (by
   refine bu.trans (dk 14 rfl) ?_;refine bu.trans (iL 10 1 1 (.ints []) (T:=249) (cs:=[.st (J 0),.nil]) bX rfl rfl rfl rfl) ?_
   exact Zc) ⟨⟨dz _,dG _⟩,rfl⟩ ?_
 rintro⟨i,st,l⟩ ⟨⟨hi,ha⟩,hg⟩;dsimp only at hi ha hg ⊢;by_cases al:i<ws.length
 ·have he:=vG al
  have UQ:(ws.getD i []).length <=10000:=by
   have:=h4 (ws.getD i []) afu;omega
  have ma:=Eu al;by_cases h0:i=0
  ·have hz:=λn=>BJ (ws:=ws) K0 (n:=n);rw[if_pos h0]at ma;rw[<- h0]at hz;have qe:l= []:=Jj K0;subst qe;generalize ws.getD i []=w at*;have c:=iC w 7 bX K0
   cases hd:fN 7 w with
   |some n=>
    rw[hd]at c;have hwp:=yS hd;have hp:=QB hd;by_cases Lv:(w.getD 0 0).toNat =45
    ·rw[if_pos Lv]at hp;rw[ma hp];exact K3
    ·rw[if_neg Lv]at hp;have hz:=hz n hp;exact K85
   |none=>
    rw[hd]at c;rw[ma (TO hd)];exact K3
  ·have hz:=λn=>BK K0 al hg (n:=n);rw[if_neg h0]at ma;generalize ws.getD i []=w at*;have c:=iC w 7 bX K0
   cases hd:fN 7 w with
   |some n=>
    rw[hd]at c;exact K69
   |none=>
    rw[hd]at c;rw[ma hd];exact K3
 ·obtain rfl:i=ws.length:=by omega
  rw[mB]at hg;rw[hg];have c3:=lX st l ab7;have e:dT (some (st,l))=if dj st l=0 then((st,l),0)else((0,[]),dj st l):=rfl
  rw[e];generalize dj st l=x at*;by_cases hx:x=0
  ·rw[if_pos hx];exact K3
  ·rw[if_neg hx];exact K3
def iE (o:Option (Int × Nk × List Nk)):(Int × Nk × List Nk) × Int:=match o with
 |some (e,q,ch)=>if aV e q ch=0 then((e,q,ch),0)else((0,(0,0,0,0),[]),aV e q ch)
 |none=>((0,(0,0,0,0),[]),7)
abbrev PQ (r:(Int × Nk × List Nk) × Int):List SV:=[Ru r.1.1 r.1.2.1 r.1.2.2,I r.2]
abbrev z4:Nk:=(0,0,0,0)
def ZZ (l:List Sp)(x:Sp):(SC.view (l.map sp++[sp x])).Ag 4:=ah8
def nj (s:List UInt8)(hl:s.length<=10000):ac 127 [SS s] (.aI (PQ (iE (eD (aH 59 s))))):=by
 obtain⟨h1,h2⟩:=uw s 59;obtain⟨h3,h4⟩:=cj 59 s;have h5:=ng 59 s;have c1:=AF s 59 K0 h2;rw[h1,show(59:UInt8).toNat =59 from rfl]at c1;generalize aH 59 s=ws at*;have hn:=ee ws;have h6:0<ws.length:=LX.2 h5;have PW:=vG h6;have C2:(ws.getD 0 []).length <=10000:=aii
 cases hd:wN false 4 (ws.getD 0 [])with
 |none=>
  obtain⟨v,c0⟩:=rQ (d:=4) K0 hd;rw[In hd];generalize ws.getD 0 []=w at*;refine sF f127 ?_;refine aS ?_;(refine aR ?_;conv=>whnf);(try(refine tX 2 ?_;try exact Zt));refine aS ?_;refine aS ?_;(refine aR ?_;conv=>whnf);(try(refine tX 2 ?_;try exact Zt))
  (try refine tB 0 ?_)
  refine aM ?_;(refine aR ?_;conv=>whnf);(try(refine tX 2 ?_;try exact Zt));refine⟨_,dk 12 rfl,?_⟩;exact K3
 |some n=>
  have c0:=rO (d:=4) bX K0 hd;have hsm:=λq ch=>BL (q:=q) (ch:=ch) hd;generalize ws.getD 0 []=w at*;by_cases h7:ws.length<2
  ·have e:fO BH (ws.drop 1)=some []:=by rw[Sy K0];rfl
   rw[Ey e];refine sF f127 ?_;refine aS ?_;(refine aR ?_;conv=>whnf);(try(refine tX 2 ?_;try exact Zt));refine aS ?_;refine aS ?_;(refine aR ?_;conv=>whnf);(try(refine tX 2 ?_;try exact Zt))
   (try refine tB 0 ?_)
   refine aM ?_;(refine aR ?_;conv=>whnf);(try(refine tX 2 ?_;try exact Zt));refine⟨_,dk 12 rfl,?_⟩;exact K3
  ·have Be:(ab ws).drop 1=ab (ws.drop 1):=by simp
   have hpn:ws.length -1=(ws.drop 1).length :=by simp
   have pN:(ab (ws.drop 1)).length =(ws.drop 1).length :=ee _;have hbd:=Ev (ws:=ws);have UQ: ∀w∈ws.drop 1,w.length<=10000:=λw hw=>by have:=h4 w (P2 hw);omega
   generalize hpd:ws.drop 1=ps at*;refine sF f127 ?_;refine aS ?_;(refine aR ?_;conv=>whnf);(try(refine tX 2 ?_;try exact Zt));refine aS ?_;refine aS ?_;(refine aR ?_;conv=>whnf);(try(refine tX 2 ?_;try exact Zt))
   (try refine tB 0 ?_)
   refine aM ?_;(refine aR ?_;conv=>whnf);(try(refine tX 2 ?_;try exact Zt));refine⟨_,dk 12 rfl,?_⟩
   (try(refine tX 0 ?_;try exact Zt))
   refine af (ι:=Nat × List Sp) (λp=>(p.1<=ps.length/\p.2.length=p.1)/\fO BH (ps.take p.1)=some p.2) (λp=>ps.length -p.1)
    (λp=>⟨[(2,pP 0),(7,pP 1),(37,some (.val (false,[.st (.view (ab ps))]))),(38,vI ps.length),(39,vI p.1)],[(0,some (.box 181 [.st (J 0),.st (J 0),.st (J 0),.st (J 0),.st (J 0),.nil])),(1,some (.box 181 [.st (J n),.st (J (p.2.getD 0 z4).1),.st (J (p.2.getD 0 z4).2.1),.st (J (p.2.getD 0 z4).2.2.1),.st (J (p.2.getD 0 z4).2.2.2),.own 2])),(2,some (.row true 4 (.view ((p.2.drop 1).map sp))))],3⟩)
    (0,[]) (by
     refine bu.trans (iL 52 5 4 (.view []) (T:=181) (cs:=[.st (J n),.st (J 0),.st (J 0),.st (J 0),.st (J 0),.nil]) bX rfl rfl rfl rfl) ?_
     exact ai (by rw[<- pN];kernel_rfl)) ⟨⟨dz _,rfl⟩,rfl⟩ ?_
   rintro⟨i,qs⟩ ⟨⟨hi,ha⟩,hg⟩;dsimp only at hi ha hg ⊢;by_cases al:i<ps.length
   ·have he:=vG al;have UQ:(ps.getD i []).length <=10000:=UQ _ aiB;have hz:=λn=>vr al hg (n:=n);have ma:=ux (f:=BH) al;generalize ps.getD i []=x at*;obtain⟨q,c,k⟩:=Kl x K0
    cases hx:BH x with
    |some p=>
     have hpq:=k p hx;subst hpq;have hz:=hz _ hx;rw[hx,X9]at c;by_cases h0:i=0
     ·have qe:qs= []:=Jj K0;subst qe;repeat' ((first|refine tX 0 ?_|exact Zt|refine bR ?_ ?_<;>intro h)<;>(try conv=>whnf))
      all_goals first|exact Zo|(exact absurd rfl h)|(exact⟨(i+1,[p]),⟨⟨al,by dsimp only[List.length_cons,List.length_nil];omega⟩,hz⟩,by dsimp only;omega,Zc⟩)
     ·have e1:(qs++[p]).getD 0 z4=qs.getD 0 z4:=by
       exact ajE
      have e2:((qs++[p]).drop 1).map sp=(qs.drop 1).map sp++[sp p]:=ajA;have hap:(qs++[p]).length =qs.length+1:=by simp
      have jc:((qs.drop 1).map sp).length =qs.length -1:=by simp
      have u:=ZZ (qs.drop 1) p;generalize hC:(qs.drop 1).map sp=C at*;generalize hQ:qs.getD 0 z4=Q at*;have al0:(C++[sp p]).length =C.length+1:=by simp
      repeat' ((first|refine tX 0 ?_|exact Zt|refine bR ?_ ?_<;>intro h)<;>(try conv=>whnf))
      all_goals first|exact Zo|(exact absurd rfl h)|(exact⟨(i+1,qs++[p]),⟨⟨al,by dsimp only;omega⟩,hz⟩,by dsimp only;omega,ai ajH⟩)
    |none=>
     rw[hbd (ma hx)];rw[hx,Ya]at c;exact K3
   ·obtain rfl:i=ps.length:=by omega
    rw[mB]at hg
    match qs,ha,hg with
    | [],ha,hg=>exfalso;simp at ha;omega
    |q::ch,ha,hg=>
     rw[hsm q ch hg];have Ad:=yY (P:=qE) (λs x=>QD) hg;have c3:=k6 n q ch (Ad q (by simp)) (λs hs=>Ad s (by simp[hs])) (by simp at ha;omega);have e:iE (some (n,q,ch))=if aV n q ch=0 then((n,q,ch),0)else((0,(0,0,0,0),[]),aV n q ch):=rfl
     rw[e];generalize aV n q ch=x at*;by_cases hx:x=0
     ·rw[if_pos hx];exact K3
     ·rw[if_neg hx];exact K3
def QZ {ws:List (List UInt8)}{i:Nat}(h:1<=i):(ws.drop 1).getD (i -1) []=ws.getD i []:=aiP
def k8 (s:List UInt8)(hl:s.length<=10000):ac 130 [SS s] (.aI (PQ (iE (eD (aH 59 s))))):=by
 obtain⟨h3,h4⟩:=cj 59 s;have h5:=ng 59 s;have c1:=j0 s 59 K0;rw[show(59:UInt8).toNat =59 from rfl,iM]at c1;generalize aH 59 s=ws at*;have hn:=ee ws;have h6:0<ws.length:=LX.2 h5;have PW:=vG h6;have C2:(ws.getD 0 []).length <=10000:=aii;obtain⟨n,c0,k0⟩:=EK (ws.getD 0 []) K0
 cases hd:wN false 4 (ws.getD 0 [])with
 |none=>
  rw[hd,Ya]at c0;rw[In hd];generalize ws.getD 0 []=w at*;refine sF f130 ?_;exact K3
 |some n'=>
  have hnn:=k0 _ hd;subst hnn;rw[hd,X9]at c0;have hsm:=λq ch=>BL (q:=q) (ch:=ch) hd;generalize ws.getD 0 []=w at*;by_cases h7:ws.length<2
  ·have e:fO BH (ws.drop 1)=some []:=by rw[Sy K0];rfl
   rw[Ey e];refine sF f130 ?_;exact K3
  ·have hbd:=Ev (ws:=ws);have hpn:(ws.drop 1).length =ws.length -1:=by simp
   have hgt:=λi=>QZ (ws:=ws) (i:=i);have UQ: ∀w∈ws,w.length<=10000:=λw hw=>by have:=h4 w hw;omega
   generalize hpd:ws.drop 1=ps at*;refine sF f130 ?_
   (try(refine tX 0 ?_;try exact Zt))
   refine af (ι:=Nat × List Sp) (λp=>(1<=p.1/\p.1<=ws.length/\p.2.length=p.1 -1)/\fO BH (ps.take (p.1 -1))=some p.2) (λp=>ws.length -p.1)
    (λp=>⟨[(2,pP 0),(4,pO 1),(7,pP 2),(8,vI p.1)],[(0,some (.box 181 [.st (J 0),.st (J 0),.st (J 0),.st (J 0),.st (J 0),.nil])),(1,some (.row true 1 (.view (ab ws)))),(2,some (.box 181 [.st (J n),.st (J (p.2.getD 0 z4).1),.st (J (p.2.getD 0 z4).2.1),.st (J (p.2.getD 0 z4).2.2.1),.st (J (p.2.getD 0 z4).2.2.2),.own 3])),(3,some (.row true 4 (.view ((p.2.drop 1).map sp))))],4⟩)
    (1,[]) (by
     refine bu.trans (iL 52 5 4 (.view []) (T:=181) (cs:=[.st (J n),.st (J 0),.st (J 0),.st (J 0),.st (J 0),.nil]) bX rfl rfl rfl rfl) ?_
     exact Zc) ⟨⟨dG _,by dsimp only;omega,rfl⟩,rfl⟩ ?_
   rintro⟨i,qs⟩ ⟨⟨xJ,hi,ha⟩,hg⟩;dsimp only at xJ hi ha hg ⊢;by_cases al:i<ws.length
   ·have he:=vG al;have UQ:(ws.getD i []).length <=10000:=UQ _ afu;have hz:=λn=>vr K0 hg (n:=n);have ma:=ux (f:=BH) (l:=ps) (i:=i -1) K0;rw[show i -1+1=i+1 -1 by omega,hgt i xJ]at hz;rw[hgt i xJ]at ma;generalize ws.getD i []=x at*;obtain⟨q,c,k⟩:=VX x K0
    cases hx:BH x with
    |some p=>
     have hpq:=k p hx;subst hpq;have hz:=hz _ hx;rw[hx,X9]at c;by_cases h0:i=1
     ·have qe:qs= []:=Jj K0;subst qe;repeat' ((first|refine tX 0 ?_|exact Zt|refine bR ?_ ?_<;>intro h)<;>(try conv=>whnf))
      all_goals first|exact Zo|(exact absurd rfl h)|(exact⟨(i+1,[p]),⟨⟨by dsimp only;omega,al,by dsimp only[List.length_cons,List.length_nil];omega⟩,hz⟩,by dsimp only;omega,Zc⟩)
     ·have e1:(qs++[p]).getD 0 z4=qs.getD 0 z4:=by
       exact ajE
      have e2:((qs++[p]).drop 1).map sp=(qs.drop 1).map sp++[sp p]:=ajA;have hap:(qs++[p]).length =qs.length+1:=by simp
      have jc:((qs.drop 1).map sp).length =qs.length -1:=by simp
      have u:=ZZ (qs.drop 1) p;generalize hC:(qs.drop 1).map sp=C at*;generalize hQ:qs.getD 0 z4=Q at*;have al0:(C++[sp p]).length =C.length+1:=by simp
      repeat' ((first|refine tX 0 ?_|exact Zt|refine bR ?_ ?_<;>intro h)<;>(try conv=>whnf))
      all_goals first|exact Zo|(exact absurd rfl h)|(exact⟨(i+1,qs++[p]),⟨⟨by dsimp only;omega,al,by dsimp only;omega⟩,hz⟩,by dsimp only;omega,ai ajH⟩)
    |none=>
     rw[hbd (ma hx)];rw[hx,Ya]at c;exact K3
   ·obtain rfl:i=ws.length:=by omega
    rw[pc K0]at hg
    match qs,ha,hg with
    | [],ha,hg=>exfalso;simp at ha;omega
    |q::ch,ha,hg=>
     rw[hsm q ch hg];have Ad:=yY (P:=qE) (λs x=>QD) hg;have c3:=ni n q ch (Ad q (by simp)) (λs hs=>Ad s (by simp[hs]));have e:iE (some (n,q,ch))=if aV n q ch=0 then((n,q,ch),0)else((0,(0,0,0,0),[]),aV n q ch):=rfl
     rw[e];generalize aV n q ch=x at*;by_cases hx:x=0
     ·rw[if_pos hx];exact K3
     ·rw[if_neg hx];exact K3
def jb (s:aj):Int:=(iE (eD (aH 59 s))).2
abbrev TsL (l:List Ts):SV:=(false,[.view (l.map fB)])
def iP {l:List Ts}{k:Nat}(h:k<l.length):(l.map fB)[k]? =some (fB (l.getD k dl)):=aZ (f:=fB) h dl
theorem k9 {l:List aj}{x:aj}(h:x∈l): ∃k,k<l.length/\be l x=(k:Int):=by
 refine⟨l.idxOf x,XR h,?_⟩;unfold be;grind
def EX {l all:List aj}(h:jS l all=0)(i:Nat)(hi:i<l.length):l.getD i []∈all/\l.getD i []∉l.take i:=by
 have:=oQ (f:=Ez l all) h i hi;unfold Ez at this
 grind
def ae1 {re:aj->Int}{l:List Ts}{i:Nat}(h: ¬(0<=(l.getD i dl).kind /\(l.getD i dl).kind <=3)):VK re l i=15:=by
 show jp (if _ then 0 else 15) _=15;rw[if_neg h,eS bX]
def ae2 {re:aj->Int}{l:List Ts}{i:Nat}(h:0<=(l.getD i dl).kind /\(l.getD i dl).kind <=3)(ha:jS (l.getD i dl).bv ((cU l).take i)≠0):VK re l i=jS (l.getD i dl).bv ((cU l).take i):=by
 show jp (if _ then 0 else 15) (jp _ _)=_;rw[if_pos h,jj,eS ha]
def ae3 {re:aj->Int}{l:List Ts}{i:Nat}(h:0<=(l.getD i dl).kind /\(l.getD i dl).kind <=3)(ha:jS (l.getD i dl).bv ((cU l).take i)=0)(hc:QG l (l.getD i dl)≠0):VK re l i=QG l (l.getD i dl):=by
 show jp (if _ then 0 else 15) (jp _ (jp _ _))=_;rw[if_pos h,jj,ha,jj,eS hc]
def ae4 {re:aj->Int}{l:List Ts}{i:Nat}(h:0<=(l.getD i dl).kind /\(l.getD i dl).kind <=3)(ha:jS (l.getD i dl).bv ((cU l).take i)=0)(hc:QG l (l.getD i dl)=0):
  VK re l i=jp (if sI (l.getD i dl).kind then re (l.getD i dl).rules else if(l.getD i dl).rules = []then 0 else 7) (Zz (l.getD i dl).lo (l.getD i dl).hi):=by
 show jp (if _ then 0 else 15) (jp _ (jp _ _))=_;rw[if_pos h,jj,ha,jj,hc,jj]
def NM (a b c:Int):ac 42 [(false,[.ints [a,b,c]])] (.one (I (fs [a,b,c]))):=oS [a,b,c] (fM rfl)
def EY (e lo hi:Int):fs [e,if((-1000000000000000<=lo/\lo<=1000000000000000)/\ -1000000000000000<=hi/\hi<=1000000000000000)then 0 else 2,if lo<=hi then 0 else 9]=jp e (Zz lo hi):=by grind[jp,Zz,fs]
section
variable (l:List Ts)(i:Nat)(hl:l.length<=1000)(al:i<l.length)(hn:(l.getD i dl).bv.length <=1000)(hr:(l.getD i dl).rules.length <=10000)
include hl al hn hr
theorem NN:ac 81 [TsL l,I i] (.one (I (VK jb l i))):=by
 have he:=iP al;have z6:(l.map fB).take i=(l.take i).map fB:=by rw[HG]
 have hmt:=uC (l.take i) wY;rw[ZA]at hmt;have hmf:=uC l hl;have ham:=Iw (l.getD i dl).bv ((cU l).take i) hn (by simp[cU];omega);have ta:=ae1 (re:=jb) (l:=l) (i:=i);have tb:=ae2 (re:=jb) (l:=l) (i:=i);have tc:=ae3 (re:=jb) (l:=l) (i:=i);have td:=ae4 (re:=jb) (l:=l) (i:=i);have zZ:=nj (l.getD i dl).rules hr;have hre:(iE (eD (aH 59 (l.getD i dl).rules))).2=jb (l.getD i dl).rules :=rfl;have hz:=EX (l:=(l.getD i dl).bv) (all:=(cU l).take i);have B8:QG l (l.getD i dl)=if(l.getD i dl).kind =2 then(if(l.getD i dl).bv.length =0 then 10 else if(l.getD (be (cU l) ((l.getD i dl).bv.getD 0 [])).toNat dl).kind =1 then 0 else 3)else 0:=rfl
 have hu: ∀e∈l.map fB,e.length=6:=by intro e he;obtain⟨t,_,rfl⟩:=dC.1 he;rfl
 generalize ht:l.getD i dl=t at*;generalize hA:jS t.bv ((cU l).take i)=A at*
 rcases t with⟨nm,kd,nd,ru,lo,hi⟩;dsimp only at*;have he:(l.map fB)[i]? =some [T nm,J kd,.view (ab nd),T ru,J lo,J hi]:=he;have Cu:(ab nd).length =nd.length:=by simp
 have wu:(l.map fB).length =l.length:=by simp
 by_cases h1:0<=kd/\kd<=3
 ·by_cases h2:A=0
  ·have hA0:=h2;subst h2;by_cases h3:kd=2
   ·rw[if_pos h3]at B8;by_cases h4:nd.length=0
    ·rw[if_pos h4]at B8;rw[tc h1 rfl (by rw[B8];decide),B8];exact K39
    ·have abN:0<nd.length:=by omega
     obtain⟨hm0,_⟩:=hz hA0 0 abN;have PW:=sA abN;obtain⟨k0,Xu,hk0⟩:=k9 (Ca hm0);have Xf:=AB (cU l) (nd.getD 0 []) (by simp[cU];omega);rw[hk0]at Xf;have R7:=iP (l:=l) (k:=k0) (by simpa [cU]using Xu);have sC:k0<l.length:=by simpa [cU]using Xu
     rw[if_neg h4,hk0,tK]at B8;generalize nd.getD 0 []=n0 at*;generalize l.getD k0 dl=t0 at*
     rcases t0 with⟨nm0,kd0,nd0,ru0,lo0,xJ⟩;have R7:(l.map fB)[k0]? =some [T nm0,J kd0,.view (ab nd0),T ru0,J lo0,J xJ]:=R7;dsimp only at B8;by_cases h5:kd0=1
     ·rw[if_pos h5]at B8;rw[td h1 rfl B8];by_cases hi1:sI kd
      ·rw[if_pos hi1];have him:=kZ kd;rw[fh hi1]at him;refine sF f81 ?_;repeat((first|(refine kO 7 rfl ?_;first|refine rG (λ_ z=>⟨_,aN h1 _,z⟩) ?_)|refine tX 0 ?_|exact Zt);(try conv=>whnf))
       refine Ck hu rfl rfl rfl rfl rfl rfl wY ?_;conv=>whnf
       rw[z6];repeat' ((first|(refine kO 7 rfl ?_;first|refine rG (λ_ z=>⟨_,aN h1 _,z⟩) ?_|refine Rq (bZ _ _) ?_|refine rG (λ_ z=>⟨_,kY _ _ K0,z⟩) ?_|refine Rq (NM _ _ _) ?_)|refine tX 0 ?_|exact Zt|refine bR ?_ ?_<;>intro h)<;>(try conv=>whnf))
       all_goals first|exact Zo|(exact mH ab4)|(exact mH (by rw[<- EY];simp_all))
      ·rw[if_neg hi1];have him:=kZ kd;rw[eJ hi1]at him;refine sF f81 ?_;repeat((first|(refine kO 7 rfl ?_;first|refine rG (λ_ z=>⟨_,aN h1 _,z⟩) ?_)|refine tX 0 ?_|exact Zt);(try conv=>whnf))
       refine Ck hu rfl rfl rfl rfl rfl rfl wY ?_;conv=>whnf
       rw[z6];repeat' ((first|(refine kO 7 rfl ?_;first|refine rG (λ_ z=>⟨_,aN h1 _,z⟩) ?_|refine Rq (bZ _ _) ?_|refine rG (λ_ z=>⟨_,kY _ _ K0,z⟩) ?_|refine Rq (NM _ _ _) ?_)|refine tX 0 ?_|exact Zt|refine bR ?_ ?_<;>intro h)<;>(try conv=>whnf))
       all_goals first|exact Zo|(exact mH ab4)|(exact mH (by rw[<- EY];simp_all))
     ·rw[if_neg h5]at B8;rw[tc h1 rfl (by rw[B8];decide),B8];exact K39
   ·rw[if_neg h3]at B8;rw[td h1 rfl B8];by_cases hi1:sI kd
    ·rw[if_pos hi1];have him:=kZ kd;rw[fh hi1]at him;refine sF f81 ?_;repeat((first|(refine kO 7 rfl ?_;first|refine rG (λ_ z=>⟨_,aN h1 _,z⟩) ?_)|refine tX 0 ?_|exact Zt);(try conv=>whnf))
     refine Ck hu rfl rfl rfl rfl rfl rfl wY ?_;conv=>whnf
     rw[z6];repeat' ((first|(refine kO 7 rfl ?_;first|refine rG (λ_ z=>⟨_,aN h1 _,z⟩) ?_|refine Rq (bZ _ _) ?_|refine rG (λ_ z=>⟨_,kY _ _ K0,z⟩) ?_|refine Rq (NM _ _ _) ?_)|refine tX 0 ?_|exact Zt|refine bR ?_ ?_<;>intro h)<;>(try conv=>whnf))
     all_goals first|exact Zo|(exact mH ab4)|(exact mH (by rw[<- EY];simp_all))
    ·rw[if_neg hi1];have him:=kZ kd;rw[eJ hi1]at him;refine sF f81 ?_;repeat((first|(refine kO 7 rfl ?_;first|refine rG (λ_ z=>⟨_,aN h1 _,z⟩) ?_)|refine tX 0 ?_|exact Zt);(try conv=>whnf))
     refine Ck hu rfl rfl rfl rfl rfl rfl wY ?_;conv=>whnf
     rw[z6];repeat' ((first|(refine kO 7 rfl ?_;first|refine rG (λ_ z=>⟨_,aN h1 _,z⟩) ?_|refine Rq (bZ _ _) ?_|refine rG (λ_ z=>⟨_,kY _ _ K0,z⟩) ?_|refine Rq (NM _ _ _) ?_)|refine tX 0 ?_|exact Zt|refine bR ?_ ?_<;>intro h)<;>(try conv=>whnf))
     all_goals first|exact Zo|(exact mH ab4)|(exact mH (by rw[<- EY];simp_all))
  ·rw[tb h1 h2];exact K39
 ·rw[ta h1];refine sF f81 ?_;repeat((first|(refine kO 7 rfl ?_;first|refine rG (λ_ z=>⟨_,bJ h1 _,z⟩) ?_|refine rG (λ_ z=>⟨_,Nn (show(15:Int)≠0 by decide),z⟩) ?_)|refine tX 0 ?_|exact Zt);(try conv=>whnf))
  refine Ck hu rfl rfl rfl rfl rfl rfl wY ?_;conv=>whnf
  rw[z6];exact tL
end
def amT (a b:Int):fs [a,b]=jp a b:=by unfold jp;simp only[fs];split<;>(try rfl);split<;>omega
def amU (a b c:Int):fs [a,b,c]=jp a (jp b c):=by unfold jp;simp only[fs];split<;>(try rfl);split<;>(try rfl);split<;>omega
def gF2 (a b:Int):ac 216 [(false,[.ints [a,b]])] (.one (I (jp a b))):=by
 have h:=E6 [a,b] (fM rfl);rwa [amT]at h
def gF3 (a b c:Int):ac 216 [(false,[.ints [a,b,c]])] (.one (I (jp a (jp b c)))):=by
 have h:=E6 [a,b,c] (fM rfl);rwa [amU]at h
def OG (n:Int):ac 263 [I n] (.one (Bo (decide (0<=n)&&decide (n<=2)))):=by
 refine sF f263 ?_;repeat((first|(refine kO 7 rfl ?_;first|refine Rq (pH _ _ _) ?_)|refine tX 0 ?_|exact Zt);(try conv=>whnf))
 exact K5
def pL (w:PX):ac 217 [(true,wdC w)] (.one (I (wdE w))):=by
 obtain⟨k,t,s,r⟩:=w;refine sF f217 ?_;repeat' ((first|(refine kO 7 rfl ?_;first|refine Rq (OG _) ?_|refine Rq (pH _ _ _) ?_|refine Rq (AM _) ?_|refine Rq (gF2 _ _) ?_)|refine tX 0 ?_|exact Zt|refine bR ?_ ?_<;>intro h)<;>(try conv=>whnf))
 all_goals exact mH (by dsimp only at*;unfold wdE jp;dsimp only;(repeat' split)<;>first|rfl|omega|(exfalso;simp_all;done)|(exfalso;simp_all;omega))
def Fs (a b:PX)(c:Int):ac 173 [(true,wdC a++wdC b++[J c])] (.one (I (N7 a b c))):=by
 obtain⟨k,t,s,r⟩:=a;obtain⟨k',t',s',r'⟩:=b;have h1:=pL ⟨k,t,s,r⟩;have h2:=pL ⟨k',t',s',r'⟩;unfold N7;generalize wdE ⟨k,t,s,r⟩=x at*;generalize wdE ⟨k',t',s',r'⟩=y at*;refine sF f173 ?_;repeat((first|(refine kO 7 rfl ?_;first|refine Rq (pH _ _ _) ?_|refine Rq (AM _) ?_|refine Rq (gF3 _ _ _) ?_)|refine tX 0 ?_|exact Zt);(try conv=>whnf))
 exact mH (by unfold stE;(repeat' split)<;>first|rfl|omega)
def aaH {x:Option PX}{y:Option PX}{z:Option Int}(h: ¬((x.isSome=true/\y.isSome=true)/\z.isSome=true)):puO x y z=(wi0,7):=by cases x<;>cases y<;>cases z<;>first|rfl|exact absurd ⟨⟨rfl,rfl⟩,rfl⟩ h
def Ft (s:aj)(hl:s.length<=100000):ac 139 [SS s] (.aI [(true,Wi (N8 s).1),I (N8 s).2]):=by
 obtain⟨l1,l2⟩:=cj 32 s;have c0:=rL s 32 K0;rw[show(32:UInt8).toNat =32 from rfl]at c0;unfold N8;generalize aH 32 s=ws at*;have hn:=ee ws;by_cases h3:ws.length=3
 ·rw[if_pos h3]
  match ws,h3,l2,c0 with
  | [a,b,c],_,l2,c0=>
   have la:=l2 a (by simp);have lb:=l2 b (by simp);have lc:=l2 c (by simp);obtain⟨w1,c1,k1⟩:=zi a K0;obtain⟨w2,c2,k2⟩:=zi b K0;obtain⟨n,c3,k3⟩:=mP c K0;show nR _ _ _ _ (.aI [(true,Wi (puO (AL a) (AL b) (wN false 4 c)).1),I (puO (AL a) (AL b) (wN false 4 c)).2]);by_cases hall:((AL a).isSome =true/\(AL b).isSome =true)/\(wN false 4 c).isSome =true
   ·obtain⟨⟨ha,hb⟩,hc⟩:=hall;rw[ha]at c1;rw[hb]at c2;rw[hc]at c3;obtain⟨x,hx⟩:=qW.1 ha;obtain⟨y,hy⟩:=qW.1 hb;obtain⟨z,hz⟩:=qW.1 hc;rw[hx,hy,hz];obtain rfl:=k1 x hx;obtain rfl:=k2 y hy;obtain rfl:=k3 z hz;show nR _ _ _ _ (.aI [(true,Wi (puE x y z).1),I (puE x y z).2]);have c4:=Fs x y z;unfold puE;generalize N7 x y z=e at*;clear k1 k2 k3 ha hb hc hx hy hz;by_cases he:e=0
    ·rw[if_pos he];refine sF f139 ?_;exact tA
    ·rw[if_neg he];refine sF f139 ?_;exact tA
   ·rw[aaH hall];generalize (AL a).isSome =x at*;generalize (AL b).isSome =y at*;generalize (wN false 4 c).isSome =z at*;refine sF f139 ?_;exact aiv
 ·rw[if_neg h3];refine sF f139 ?_;exact tA
end Go.Proofs.Tryz
