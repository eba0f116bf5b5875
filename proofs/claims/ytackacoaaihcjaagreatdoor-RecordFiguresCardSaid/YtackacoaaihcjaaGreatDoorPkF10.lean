import Derived.Test.YtackacoaaihcjaaGreatDoorPkF5
import Derived.Test.YtackacoaaihcjaaGreatDoorPkF7
import Derived.Lib.Walk
import Derived.Deep.RegionLaw
import Derived.Lib.SliceRun
import Derived.Laws.IdiomCopy
set_option linter.all false
set_option maxRecDepth 100000
set_option maxHeartbeats 8000000
namespace Go.Proofs.Tryz
open Go.Fw Go.IntWalk Go.Plain
def jO (s:aj):Int:=(cO (bY (ar 59 s))).2
abbrev TsL (l:List Ts):SV:=(false,[.view (l.map fq)])
def iO {l:List Ts}{k:Nat}(h:k<l.length):(l.map fq)[k]? =some (fq (l.getD k dk)):=bg (f:=fq) h dk
theorem k7 {l:List aj}{x:aj}(h:x∈l): ∃k,k<l.length/\aZ l x=(k:Int):=by
 refine⟨l.idxOf x,Se h,?_⟩;unfold aZ;grind
def Ep {l all:List aj}(h:jT l all=0)(i:Nat)(hi:i<l.length):l.getD i []∈all/\l.getD i []∉l.take i:=by
 have:=oF (f:=D2 l all) h i hi;unfold D2 at this
 grind
def ae6 {re:aj->Int}{l:List Ts}{i:Nat}(h: ¬(0<=(l.getD i dk).kind /\(l.getD i dk).kind <=3)):VC re l i=15:=by
 show jr (if _ then 0 else 15) _=15;rw[if_neg h,eS K9]
def ae7 {re:aj->Int}{l:List Ts}{i:Nat}(h:0<=(l.getD i dk).kind /\(l.getD i dk).kind <=3)(ha:jT (l.getD i dk).bu ((cL l).take i)≠0):VC re l i=jT (l.getD i dk).bu ((cL l).take i):=by
 show jr (if _ then 0 else 15) (jr _ _)=_;rw[if_pos h,jj,eS ha]
def ae8 {re:aj->Int}{l:List Ts}{i:Nat}(h:0<=(l.getD i dk).kind /\(l.getD i dk).kind <=3)(ha:jT (l.getD i dk).bu ((cL l).take i)=0)(hc:Qi l (l.getD i dk)≠0):VC re l i=Qi l (l.getD i dk):=by
 show jr (if _ then 0 else 15) (jr _ (jr _ _))=_;rw[if_pos h,jj,ha,jj,eS hc]
def ae9 {re:aj->Int}{l:List Ts}{i:Nat}(h:0<=(l.getD i dk).kind /\(l.getD i dk).kind <=3)(ha:jT (l.getD i dk).bu ((cL l).take i)=0)(hc:Qi l (l.getD i dk)=0):
  VC re l i=jr (if nj (l.getD i dk).kind then re (l.getD i dk).rules else if(l.getD i dk).rules = []then 0 else 7) (Zl (l.getD i dk).lo (l.getD i dk).hi):=by
 show jr (if _ then 0 else 15) (jr _ (jr _ _))=_;rw[if_pos h,jj,ha,jj,hc,jj]
def Np (a b c:Int):ac 52 [(false,[.ints [a,b,c]])] (.one (I (fs [a,b,c]))):=oG [a,b,c] (fO rfl)
def Es (e lo hi:Int):fs [e,if((-1000000000000000<=lo/\lo<=1000000000000000)/\ -1000000000000000<=hi/\hi<=1000000000000000)then 0 else 2,if lo<=hi then 0 else 9]=jr e (Zl lo hi):=by grind[jr,Zl,fs]
section
variable (l:List Ts)(i:Nat)(hl:l.length<=1000)(ak:i<l.length)(hn:(l.getD i dk).bu.length <=1000)(hr:(l.getD i dk).rules.length <=10000)
include hl ak hn hr
theorem Nq:ac 179 [TsL l,I i] (.one (I (VC jO l i))):=by
 have he:=iO ak;have zB:(l.map fq).take i=(l.take i).map fq:=by rw[List.map_take]
 have hmt:=tT (l.take i) wA;rw[Zm]at hmt;have hmf:=tT l hl;have ham:=HU (l.getD i dk).bu ((cL l).take i) hn (by simp[cL];omega);have ta:=ae6 (re:=jO) (l:=l) (i:=i);have tb:=ae7 (re:=jO) (l:=l) (i:=i);have tc:=ae8 (re:=jO) (l:=l) (i:=i);have td:=ae9 (re:=jO) (l:=l) (i:=i);have zC:=j0 (l.getD i dk).rules hr;have hre:(cO (bY (ar 59 (l.getD i dk).rules))).2=jO (l.getD i dk).rules :=rfl;have hz:=Ep (l:=(l.getD i dk).bu) (all:=(cL l).take i);have BK:Qi l (l.getD i dk)=if(l.getD i dk).kind =2 then(if(l.getD i dk).bu.length =0 then 10 else if(l.getD (aZ (cL l) ((l.getD i dk).bu.getD 0 [])).toNat dk).kind =1 then 0 else 3)else 0:=rfl
 have hu: ∀e∈l.map fq,e.length=6:=by intro e he;obtain⟨t,_,rfl⟩:=dS.1 he;rfl
 generalize ht:l.getD i dk=t at*;generalize hA:jT t.bu ((cL l).take i)=A at*
 rcases t with⟨nm,kd,nd,ru,lo,hi⟩;dsimp only at*;have he:(l.map fq)[i]? =some [T nm,J kd,.view (ab nd),T ru,J lo,J hi]:=he;have AR:(ab nd).length =nd.length:=by simp
 have uF:(l.map fq).length =l.length:=by simp
 by_cases h1:0<=kd/\kd<=3
 ·by_cases h2:A=0
  ·have hA0:=h2;subst h2;by_cases h3:kd=2
   ·rw[if_pos h3]at BK;by_cases h4:nd.length=0
    ·rw[if_pos h4]at BK;rw[tc h1 rfl (by rw[BK];decide),BK];exact K45
    ·have abB:0<nd.length:=by omega
     obtain⟨O2,_⟩:=hz hA0 0 abB;have RP:=sA abB;obtain⟨k0,Xx,hk0⟩:=k7 (FU O2);have Xk:=Ai (cL l) (nd.getD 0 []) (by simp[cL];omega);rw[hk0]at Xk;have RR:=iO (l:=l) (k:=k0) (by simpa [cL]using Xx);have uI:k0<l.length:=by simpa [cL]using Xx
     rw[if_neg h4,hk0,p8]at BK;generalize nd.getD 0 []=n0 at*;generalize l.getD k0 dk=t0 at*
     rcases t0 with⟨nm0,kd0,nd0,ru0,lo0,zG⟩;have RR:(l.map fq)[k0]? =some [T nm0,J kd0,.view (ab nd0),T ru0,J lo0,J zG]:=RR;dsimp only at BK;by_cases h5:kd0=1
     ·rw[if_pos h5]at BK;rw[td h1 rfl BK];by_cases hi1:nj kd
      ·rw[if_pos hi1];have him:=jm kd;rw[fG hi1]at him;refine sF f179 ?_;repeat((first|(refine kO 7 rfl ?_;first|refine rG (λ_ z=>⟨_,aN h1 _,z⟩) ?_)|refine tX 0 ?_|exact Zt);(try conv=>whnf))
       refine JI hu rfl rfl rfl rfl rfl rfl wA ?_;conv=>whnf
       rw[zB];repeat' ((first|(refine kO 7 rfl ?_;first|refine rG (λ_ z=>⟨_,aN h1 _,z⟩) ?_|refine Rq (bZ _ _) ?_|refine rG (λ_ z=>⟨_,kY _ _ K0,z⟩) ?_|refine Rq (Np _ _ _) ?_)|refine tX 0 ?_|exact Zt|refine bR ?_ ?_<;>intro h)<;>(try conv=>whnf))
       all_goals first|exact Zo|(exact mF abT)|(exact mF (by rw[<- Es];simp_all))
      ·rw[if_neg hi1];have him:=jm kd;rw[eU hi1]at him;refine sF f179 ?_;repeat((first|(refine kO 7 rfl ?_;first|refine rG (λ_ z=>⟨_,aN h1 _,z⟩) ?_)|refine tX 0 ?_|exact Zt);(try conv=>whnf))
       refine JI hu rfl rfl rfl rfl rfl rfl wA ?_;conv=>whnf
       rw[zB];repeat' ((first|(refine kO 7 rfl ?_;first|refine rG (λ_ z=>⟨_,aN h1 _,z⟩) ?_|refine Rq (bZ _ _) ?_|refine rG (λ_ z=>⟨_,kY _ _ K0,z⟩) ?_|refine Rq (Np _ _ _) ?_)|refine tX 0 ?_|exact Zt|refine bR ?_ ?_<;>intro h)<;>(try conv=>whnf))
       all_goals first|exact Zo|(exact mF abT)|(exact mF (by rw[<- Es];simp_all))
     ·rw[if_neg h5]at BK;rw[tc h1 rfl (by rw[BK];decide),BK];exact K45
   ·rw[if_neg h3]at BK;rw[td h1 rfl BK];by_cases hi1:nj kd
    ·rw[if_pos hi1];have him:=jm kd;rw[fG hi1]at him;refine sF f179 ?_;repeat((first|(refine kO 7 rfl ?_;first|refine rG (λ_ z=>⟨_,aN h1 _,z⟩) ?_)|refine tX 0 ?_|exact Zt);(try conv=>whnf))
     refine JI hu rfl rfl rfl rfl rfl rfl wA ?_;conv=>whnf
     rw[zB];repeat' ((first|(refine kO 7 rfl ?_;first|refine rG (λ_ z=>⟨_,aN h1 _,z⟩) ?_|refine Rq (bZ _ _) ?_|refine rG (λ_ z=>⟨_,kY _ _ K0,z⟩) ?_|refine Rq (Np _ _ _) ?_)|refine tX 0 ?_|exact Zt|refine bR ?_ ?_<;>intro h)<;>(try conv=>whnf))
     all_goals first|exact Zo|(exact mF abT)|(exact mF (by rw[<- Es];simp_all))
    ·rw[if_neg hi1];have him:=jm kd;rw[eU hi1]at him;refine sF f179 ?_;repeat((first|(refine kO 7 rfl ?_;first|refine rG (λ_ z=>⟨_,aN h1 _,z⟩) ?_)|refine tX 0 ?_|exact Zt);(try conv=>whnf))
     refine JI hu rfl rfl rfl rfl rfl rfl wA ?_;conv=>whnf
     rw[zB];repeat' ((first|(refine kO 7 rfl ?_;first|refine rG (λ_ z=>⟨_,aN h1 _,z⟩) ?_|refine Rq (bZ _ _) ?_|refine rG (λ_ z=>⟨_,kY _ _ K0,z⟩) ?_|refine Rq (Np _ _ _) ?_)|refine tX 0 ?_|exact Zt|refine bR ?_ ?_<;>intro h)<;>(try conv=>whnf))
     all_goals first|exact Zo|(exact mF abT)|(exact mF (by rw[<- Es];simp_all))
  ·rw[tb h1 h2];exact K45
 ·rw[ta h1];refine sF f179 ?_;repeat((first|(refine kO 7 rfl ?_;first|refine rG (λ_ z=>⟨_,bG h1 _,z⟩) ?_|refine rG (λ_ z=>⟨_,MU (show(15:Int)≠0 by decide),z⟩) ?_)|refine tX 0 ?_|exact Zt);(try conv=>whnf))
  refine JI hu rfl rfl rfl rfl rfl rfl wA ?_;conv=>whnf
  rw[zB];exact tL
end
def VU (x:aj × List aj)(n:aj):ac 255 [(true,mh x),(false,[.ref [T n]])] (.one (Bo (decide (x.1=n)))):=by
 refine sF f255 ?_;exact tL
def mK {l:List aj}{x:aj}{i:Nat}(h:i<l.length)(e:l.getD i []=x)(dy:x∉l.take i):aZ l x=i:=Tz h (by rw[<- getD_at h (d:=[])];exact e) dy
def Nr (ps:List (aj × List aj))(n:aj)(hl:ps.length<=1000):ac 254 [(false,[.view (ps.map mh)]),Le 255 [[T n]]] (.one (I (aZ (ps.map Prod.fst) n))):=by
 have hn:(ps.map mh).length =ps.length:=by simp
 have AP:(ps.map Prod.fst).length =ps.length:=by simp
 refine sF f254 ?_
 (try(refine tX 0 ?_;try exact Zt))
 refine af (ι:=Nat) (λi=>i<=ps.length/\n∉(ps.map Prod.fst).take i) (λi=>ps.length -i) (λi=>⟨[(0,some (.val (false,[.st (.view (ps.map mh))]))),(1,vF 255 [[T n]]),(7,vI ps.length),(8,vI i)],[],0⟩) 0 (ai PD) ⟨dM _,by simp⟩ ?_;rintro i ⟨hi,dy⟩;by_cases ak:i<ps.length
 ·have he:=bg (f:=mh) ak ([],[]);have hg:(ps.map Prod.fst).getD i []=(ps.getD i ([],[])).1:=by rw[getD_at ak,getD_at K0];simp
  have nM:=λe=>mK (l:=ps.map Prod.fst) (x:=n) (i:=i) K0 e dy;have FP:=iM (l:=ps.map Prod.fst) (i:=i) (x:=n) K0;rw[hg]at nM FP;have hp1:=VU (ps.getD i ([],[])) n;by_cases hx:(ps.getD i ([],[])).1=n
  ·exact afW
  ·exact af3
 ·obtain rfl:i=ps.length:=by omega
  rw[o0 K0]at dy;rw[eN dy];exact tL
def nk (p:Pl)(n:aj):aj × List aj:=if n∈p.bd then p.parts.getD (aZ p.bd n).toNat ([],[])else([],[])
def QD (p:Pl)(n:aj)(hl:p.parts.length<=1000):ac 204 [(true,bU p),SS n] (.aJ [(true,mh (nk p n)),Bo (decide (n∈p.bd))]):=by
 have Xk:=Nr p.parts n hl;have hq:p.parts.map Prod.fst=p.bd:=rfl;have pG:(p.parts.map mh).length =p.parts.length:=by simp
 rw[hq]at Xk;by_cases h:n∈p.bd
 ·obtain⟨k,hk,e⟩:=k7 h;have uI:k<p.parts.length:=by simpa [Pl.bd]using hk
  have hd:nk p n=p.parts.getD k ([],[]):=by unfold nk;rw[if_pos h,e,p8]
  have RR:=bg (f:=mh) uI ([],[]);rw[e]at Xk;rw[hd,fG h];refine sF f204 ?_;exact tL
 ·have hd:nk p n=([],[]):=by unfold nk;rw[if_neg h]
  rw[eN h]at Xk;rw[hd,eU h];refine sF f204 ?_;exact tL
def VV (s:aj)(out:List aj)(hl:out.length<=1000):ac 256 [SS s,(false,[.ref [.view (ab out)]])] (.one (Bo (decide (s∈out)))):=by
 have hc:=bD out s K0;refine sF f256 ?_;exact tL
def inE (l out:List aj)(i:Nat):Int:=if l.getD i []∈out then 1 else 0
def Gp (l out:List aj):Int:=if(cN (inE l out) l.length).2=0 then -1 else(cN (inE l out) l.length).1
def Ns (l out:List aj)(hl:l.length<=1000)(ho:out.length<=1000):ac 226 [V1 l,Le 256 [[.view (ab out)]]] (.one (I (Gp l out))):=by
 have hn:(ab l).length =l.length:=by simp
 refine sF f226 ?_
 (try(refine tX 0 ?_;try exact Zt))
 refine af (ι:=Nat) (λi=>i<=l.length/\∀j<i,inE l out j=0) (λi=>l.length -i) (λi=>⟨[(0,some (.val (false,[.st (.view (ab l))]))),(1,vF 256 [[.view (ab out)]]),(7,vI l.length),(8,vI i)],[],0⟩) 0 (ai PD) ⟨dM _,λj hj=>by omega⟩ ?_;rintro i ⟨hi,hp⟩;by_cases ak:i<l.length
 ·have he:=sA ak;have hv:=VV (l.getD i []) out ho;have kI:inE l out i=if l.getD i []∈out then 1 else 0:=rfl
  have eL:=λ(h:inE l out i≠0)=>fJ (f:=inE l out) ak hp h;have iU:=λ(h:inE l out i=0)=>all_succ hp h;by_cases hx:l.getD i []∈out
  ·rw[if_pos hx]at kI;rw[fG hx]at hv;have hr:=eL af9;rw[kI]at hr;have hf:Gp l out=i:=by unfold Gp;rw[hr];rfl
   rw[hf];exact tL
  ·rw[if_neg hx]at kI;rw[eU hx]at hv;exact tL
 ·obtain rfl:i=l.length:=by omega
  have hf:Gp l out= -1:=by unfold Gp;rw[gT hp];rfl
  rw[hf];exact tL
def ZR (l out:List aj):0<=Gp l out↔∃n∈l,n∈out:=by
 rcases tO (inE l out) l.length with h|⟨k,h1,h2,h3⟩
 ·have:Gp l out= -1:=by unfold Gp;rw[gT h];rfl
  rw[this];refine⟨λe=>absurd e K9,λ⟨n,hn,ho⟩=>?_⟩;obtain⟨j,hj,rfl⟩:=CI.1 hn;have:=h j hj;unfold inE at this;rw[getD_at hj,if_pos ho]at this;cases this
 ·have:Gp l out=k:=by
   unfold Gp;rw[fJ h1 h2 h3,if_neg h3]
  rw[this];refine⟨λ_=>?_,λ_=>by omega⟩;unfold inE at h3;by_cases hx:l.getD k []∈out
  ·rw[getD_at h1]at hx;exact⟨_,pH h1,hx⟩
  ·rw[if_neg hx]at h3;exact absurd rfl h3
def VX (l out:List aj)(hl:l.length<=1000)(ho:out.length<=1000):ac 227 [V1 l,Le 256 [[.view (ab out)]]] (.one (Bo (decide (∃n∈l,n∈out)))):=by
 have hi:=Ns l out hl ho;have hp:=ZR l out;refine sF f227 ?_;exact tL
def Et {fid:Nat}{H:HF}{t:TypeId}{l out:List aj}(hl:l.length<=1000)(ho:out.length<=1000)(h1:H 1=some (.box t [.own 2]))(h2:H 2=some (.row true 1 (.view (ab out)))):
  bW cx fid 227 [(false,[.st (.view (ab l))]),(false,[.sD 256 1])] H (.val (dyn (Bo (decide (∃n∈l,n∈out))))) [] [1,2]:=by
 refine iJ (l:=[V1 l,Le 256 [[.view (ab out)]]]) ⟨rfl,λk x y hx hy=>?_⟩ (VX l out hl ho) rfl ⟨rfl,rfl,rfl⟩
 match k with
 |0=>
  cases hx;cases hy;refine⟨rfl,rfl,λk d c hd hc=>?_⟩
  match k with
  |0=>cases hd;cases hc;exact .st _
  |k+1=>simp at hd
 |1=>
  cases hx;cases hy;refine⟨rfl,rfl,λk d c hd hc=>?_⟩
  match k with
  |0=>
   cases hd;cases hc;refine .sD (by simp) h1 rfl λk d c hd hc=>?_
   match k with
   |0=>cases hd;cases hc;exact .row (by simp) h2
   |k+1=>simp at hd
  |k+1=>simp at hd
 |k+2=>simp at hx
def ac2 {fid:Nat}{H:HF}{t:TypeId}{l out:List aj}(h: ∃n∈l,n∈out)(hl:l.length<=1000)(ho:out.length<=1000)(h1:H 1=some (.box t [.own 2]))(h2:H 2=some (.row true 1 (.view (ab out)))):
  bW cx fid 227 [(false,[.st (.view (ab l))]),(false,[.sD 256 1])] H (.val (dyn (Bo true))) [] [1,2]:=by
 have:=Et (fid:=fid) hl ho h1 h2;rwa [fG h]at this
def TQ {fid:Nat}{H:HF}{t:TypeId}{l out:List aj}(h: ¬ ∃n∈l,n∈out)(hl:l.length<=1000)(ho:out.length<=1000)(h1:H 1=some (.box t [.own 2]))(h2:H 2=some (.row true 1 (.view (ab out)))):
  bW cx fid 227 [(false,[.st (.view (ab l))]),(false,[.sD 256 1])] H (.val (dyn (Bo false))) [] [1,2]:=by
 have:=Et (fid:=fid) hl ho h1 h2;rwa [eU h]at this
abbrev Pm (n:aj):List SC:=[T n,.any,.any,.any,.any,.any,.any,.any,.any,.any,.any,.any,.any,.any,.any,.any,.any]
def VY (m n:aj):ac 163 [(true,Pm m),(false,[.ref [T n]])] (.one (Bo (decide (m=n)))):=by
 refine sF f163 ?_;exact K1
def Nt (ns:List aj)(n:aj)(hl:ns.length<=1000):ac 162 [(false,[.view (ns.map Pm)]),Le 163 [[T n]]] (.one (I (aZ ns n))):=by
 have hn:(ns.map Pm).length =ns.length:=by simp
 refine sF f162 ?_
 (try(refine tX 0 ?_;try exact Zt))
 refine af (ι:=Nat) (λi=>i<=ns.length/\n∉ns.take i) (λi=>ns.length -i) (λi=>⟨[(0,some (.val (false,[.st (.view (ns.map Pm))]))),(1,vF 163 [[T n]]),(7,vI ns.length),(8,vI i)],[],0⟩) 0 (ai PD) ⟨dM _,by simp⟩ ?_;rintro i ⟨hi,dy⟩;by_cases ak:i<ns.length
 ·have he:=bg (f:=Pm) ak [];have nM:=λe=>mK (l:=ns) (x:=n) (i:=i) ak e dy;have FP:=iM (l:=ns) (i:=i) (x:=n) ak;have hp1:=VY (ns.getD i []) n;generalize ns.getD i []=m at*;by_cases hx:m=n
  ·rw[fG hx]at hp1;rw[nM hx];exact tA
  ·rw[eU hx]at hp1;repeat' ((first|refine tX 0 ?_|exact Zt|refine bR ?_ ?_<;>intro h)<;>(try conv=>whnf))
   all_goals first|exact Zo|exact⟨i+1,⟨ak,λhm=>(FP.1 hm).elim dy λe=>hx e.symm⟩,by omega,Zc⟩
 ·obtain rfl:i=ns.length:=by omega
  rw[o0 (dz _)]at dy;exact acf
end Go.Proofs.Tryz
namespace Go.Proofs.Tryz
open Go Go.RowKit Go.Fw Go.Lib Go.Plain
def ZS {mv mr:Mem}{a:Option Addr}{m cap:Nat}{c:SC}(h:dw mv mr (.slice a m cap) c)(hm:0<m)(hv:c.ao=true:=by rfl): ∃b o,a=some ⟨b,o,none⟩:=by
 generalize hs:Value.slice a m cap=v0 at h
 cases h with
 |empty a' jG Ps h0=>simp only[Value.slice.injEq]at hs;omega
 |view b9 o jG z f Ps fN hz fX hl2 hcc Ut=>simp only[Value.slice.injEq]at hs;exact⟨b9,o,hs.1⟩
 |_=>first|(simp[SC.ao]at hv;done)|cases hs
set_option maxHeartbeats 4000000 in
set_option maxRecDepth 1000000 in
def ZT (ns:List aj)(n:aj)(hl:ns.length<=1000)(b:Nat)(a:Option Addr)(cap:Nat)(w:World)(hG: ∀w1,Below w.heap.size w w1->eQ cx.gl (rd w1))(hc:w.cell? ⟨b,12,none⟩=some (.slice a ns.length cap))
  (hr:dw (rd w) (rd w) (.slice a ns.length cap) (.view (ns.map Pm)))(hb:b<w.heap.size):
  Calls prog 89 #[.pointer (some ⟨b,0,none⟩),.string (B n)] w λe w'=>Below w.heap.size w w'/\
   ∃v,e= .returned v/\((aZ ns n<0/\v= .pointer none)\/∃b9 o,0<=aZ ns n/\a=some ⟨b9,o,none⟩/\v= .pointer (some ⟨b9,o+(aZ ns n).toNat *17,none⟩)):=by
 go_enter Tryz.func89,Tryz.ntmps89
 go_wp2_with fail
 have KT:Below w.heap.size w (w.alloc (.cells #[.string (B n)] 9)):=by
  refine⟨rfl,rfl,rfl,?_,λc hc=>?_⟩
  ·show w.heap.size<=(w.heap.push _).size;simp
  ·show(w.heap.push _)[c]? =w.heap[c]?;rw[Array.getElem?_push];rw[if_neg K0]
 have nh:rd (w.alloc (.cells #[.string (B n)] 9)) w.heap.size 0=some (.string (B n)):=by
  have h:(w.alloc (.cells #[.string (B n)] 9)).heap[w.heap.size]? =some (.cells #[.string (B n)] 9):=by
   show(w.heap.push _)[w.heap.size]? =_;rw[Array.getElem?_push,if_pos rfl]
  show World.cell? _ _=_;unfold World.cell?;dsimp only;rw[h];rfl
 have eB:(rd w).le (rd (w.alloc (.cells #[.string (B n)] 9))):=λb o v h=>by
  have ak:b<w.heap.size:=IS _ _ h;have:rd (w.alloc (.cells #[.string (B n)] 9)) b o=rd w b o:=Px (a:=⟨b,o,none⟩) (KT.block b ak);rw[this];exact h
 generalize sR:w.alloc (.cells #[.string (B n)] 9)=w1 at*;have np:w.heap.size<=w1.heap.size:=KT.size
 have xi:o4 (rd w1) (rd w1) #[.slice a ns.length cap,.func (.func 163) #[] #[.pointer (some ⟨w.heap.size,0,none⟩)]] [(false,[.view (ns.map Pm)]),Le 163 [[T n]]]:=by
  refine⟨rfl,λk x hk=>?_⟩
  match k,hk with
  |0,hk=>cases hk;exact⟨_,rfl,hr.mono eB eB⟩
  |1,hk=>
   cases hk;refine⟨_,rfl,?_⟩;refine .fn #[] #[.pointer (some ⟨w.heap.size,0,none⟩)] (λ_=> #[]) rfl rfl (λj c h=>by simp at h) (λj c h=>by simp at h) (λj c h=>by simp at h) (λj c k x h=>by simp at h) λj cs h=>?_
   match j,h with
   |0,h=>
    cases h;refine .ref w.heap.size 0 (λ_=>.string (B n)) (λk hk=>?_) λk x hx=>?_
    ·have:k=0:=by simpa using hk
     subst this;exact nh
    ·match k,hx with
     |0,hx=>cases hx;exact .lit rfl
 refine((Nt ns n hl).pure.2 (rd w1) w1 _ (Mem.le_refl _) (hG w1 KT) xi).mono λe w2 he=>?_;obtain⟨v,rfl,hB2,lD⟩:=he
 have hv:v= .int .i64 (aZ ns n):=by
  obtain⟨c,hc1,Xv⟩:=lD;simp only[BL,sl]at hc1;subst hc1;exact gd Xv
 subst hv
 have Xv:w2.cell? ⟨b,12,none⟩=some (.slice a ns.length cap):=by
  have h1:w1.cell? ⟨b,12,none⟩=w.cell? ⟨b,12,none⟩:=Px (KT.block b hb);have h2:w2.cell? ⟨b,12,none⟩=w1.cell? ⟨b,12,none⟩:=Px (hB2.block b K0);rw[h2,h1];exact hc
 have hB:Below w.heap.size w w2:=⟨hB2.os.trans KT.os,hB2.tape.trans KT.tape,hB2.output.trans KT.output,o3 np hB2.size,λc hc=>(hB2.block c K0).trans (KT.block c hc)⟩;by_cases La:aZ ns n<0
 ·have e1:decide (aZ ns n<0)=true:=fG La
  go_wp2_with fail
  go_ret
  exact⟨hB,_,rfl,.inl ⟨La,rfl⟩⟩
 ·have e1:decide (aZ ns n<0)=false:=eU La
  have B8:n∈ns:=by
   apply Pw;intro h;rw[eN h]at La;omega
  obtain⟨k,hk,hke⟩:=k7 B8;obtain⟨b9,o,rfl⟩: ∃b9 o,a=some ⟨b9,o,none⟩:=by exact ZS hr K0
  have e2:(Instr.indexAt 56 (.slice (some ⟨b9,o,none⟩) ns.length cap) (.int .i64 (aZ ns n))).run prog w2= .ok (.pointer (some ⟨b9,o+(aZ ns n).toNat *17,none⟩)) w2:=
   HK (C:=cx) (w:=w2) (b:=b9) (o:=o) (n:=ns.length) (cap:=cap) (k:=aZ ns n) lH (T:=56) rfl rfl rfl K0 (by rw[hke];omega)
  go_wp2_with fail
  go_ret
  exact⟨hB,_,rfl,.inr ⟨b9,o,by omega,rfl,by rw[hke,p8];rfl⟩⟩
end Go.Proofs.Tryz
namespace Go.Proofs.Tryz
open Go Go.RowKit Go.Fw Go.Plain
structure Wk (H:HF) (id:Nat) (ns:List aj):Prop where
 box: ∃t cs,H id=some (.box t cs)/\cs[12]? =some (.own 9)
 row: ∃l,H 9=some (.aG 17 l)/\l.length=ns.length/\∀(i:Nat) (e:List DC),l[i]? =some e->e.length=17/\e[0]? =some (.st (T (ns.getD i [])))
 len:ns.length<=1000
def Eu {H:HF}{id fid:Nat}{ns:List aj}(n:aj)(hw:Wk H id ns){r:DC}(hr:(aZ ns n<0/\r= .st (.lit (.pointer none)))\/(0<=aZ ns n/\r= .cE 9 17 (aZ ns n).toNat 0)):
  bW cx fid 89 [(false,[.ptr id 0]),(false,[.st (T n)])] H (bm r) [] [id,9]:=by
 obtain⟨⟨t,cs,h1,hc⟩,⟨l,h9,uF,IH⟩,hl⟩:=hw;refine⟨by kernel_rfl,λF β N H' w vs UC hG hR hf np hv=>?_⟩;have e1:H' id=some (.box t cs):=(UC id (by simp)).trans h1;have e9:H' 9=some (.aG 17 l):=(UC 9 (by simp)).trans h9;obtain⟨_,b,arr,T',xA,hb2,hb3,hb4,hb5⟩:=hR.rel id _ e1;obtain⟨hN9,_⟩:=hR.rel 9 _ e9;have hbl:=(FT.1 hb3).1;have a0:=hv 0 _ rfl;have a1:=hv 1 _ rfl;obtain⟨_,b',jV,hv0⟩:=aq.al a0;obtain rfl:b'=b:=wz (jV.symm.trans xA);have hv1:vs.getD 1 undef= .string (B n):=gd (aq.al a1);have h12:12<arr.size:=by rw[hb4];exact(kp.1 hc).1
 have d12:=hb5 12 _ hc
 have IE:w.cell? ⟨b',12,none⟩=some (arr.getD 12 undef):=by
  unfold World.cell?;dsimp only;rw[hb3];simp[h12]
 have ij:dw (rd w) (rd w) (arr.getD 12 undef) (.view (ns.map Pm)):=by
  refine DD (H:=H') (R:=[9]) hG hR (λ_ _=>rfl) (.aG (by simp) e9 (by rw[jf,uF]) (λi e e' he CC=>?_) (λi e e' k d c he CC hd IK=>?_) (λi e' k c CC IK=>?_)) d12
  ·obtain⟨q1,_⟩:=IH i e he;rw[gq,my]at CC;obtain⟨m,_,rfl⟩:=CC;rw[q1];rfl
  ·obtain⟨q1,q2⟩:=IH i e he;rw[gq,my]at CC;obtain⟨m,hm,rfl⟩:=CC;have hmd:ns.getD i []=m:=by rw[jP,hm];rfl
   rw[hmd]at q2
   cases k with
   |zero=>
    rw[q2]at hd;cases hd;cases IK;exact .st _
   |succ k=>
    have:c= .any :=by
     have hk:k<16:=by exact ajn
     have Xv:(List.replicate 16 SC.any)[k]? =some c:=IK;rw[List.getElem?_replicate,if_pos hk]at Xv;exact(wz Xv).symm
    subst this;exact .any _
  ·rw[gq,my]at CC;obtain⟨m,hm,rfl⟩:=CC
   cases k with
   |zero=>cases IK;rfl
   |succ k=>
    have hk:k<16:=by exact ajn
    have Xv:(List.replicate 16 SC.any)[k]? =some c:=IK;rw[List.getElem?_replicate,if_pos hk]at Xv;rw[<- wz Xv];rfl
 obtain⟨_,_,jq⟩:=d12;have jq:=jq _ 17 l.length e9 rfl
 have xi:vs= #[.pointer (some ⟨b',0,none⟩),.string (B n)]:=by
  apply AV
  ·rw[np];rfl
  ·intro i h1 h2;have h2:i<2:=h2;have hg:vs.getD i undef=vs[i]:=by simp[sE,h1]
   match i,h2 with
   |0,_=>rw[<- hg];exact hv0
   |1,_=>rw[<- hg];exact hv1
 have hGl: ∀w1,Below w.heap.size w w1->eQ cx.gl (rd w1):=λw1 hB=>eQ.later hG (hR.grow hB)
 have fin: ∀ {a:Option Addr} {cap:Nat},w.cell? ⟨b',12,none⟩=some (.slice a ns.length cap)->dw (rd w) (rd w) (.slice a ns.length cap) (.view (ns.map Pm))->(∀b9 o,a=some ⟨b9,o,none⟩->β 9=some b9/\o=0)->
   Calls cx.P 89 vs w λe w'=>∃v cM,e= .returned v/\Tr F β N H' w cM (bf N fid) (Hp.on [] H') w'/\ad F cM (bf N fid) (Hp.on [] H') w'/\cj F cM (bf N fid) (Hp.on [] H') w' v (bm r):=by
  intro a cap jd hrp ha;rw[xi];refine(ZT ns n hl b' a cap w hGl jd hrp hbl).mono λe w' he=>?_;obtain⟨hB,v,rfl,lD⟩:=he;refine⟨v,β,rfl,(Tr.grow hR hB).bf,(hR.grow hB).bf,cj.bf ?_⟩;show aq _ _ _ _ _ _ (false,[r])
  rcases hr with⟨La,rfl⟩|⟨fN,rfl⟩
  ·rcases lD with⟨_,rfl⟩|⟨b9,o,h0,rfl,rfl⟩
   ·exact⟨_,rfl,.lit rfl⟩
   ·omega
  ·rcases lD with⟨hn,_⟩|⟨b9,o,h0,rfl,rfl⟩
   ·omega
   ·obtain⟨q1,rfl⟩:=ha b9 o rfl;refine⟨_,rfl,hN9,b9,q1,by simp⟩
 rcases jq with⟨_,h0,hs⟩|⟨b9,cap,arr9,T9,q1,hs,_,_⟩
 ·rw[hs]at IE ij;have hz:ns.length=0:=by omega
  refine fin (a:=none) (cap:=0) (by rw[hz];exact IE) (by rw[hz];exact ij) λb9 o h=>by cases h
 ·rw[hs,uF]at IE ij;exact fin IE ij λb9' o h=>by cases h;exact⟨q1,rfl⟩
end Go.Proofs.Tryz
namespace Go.Proofs.Tryz
open Go.Fw Go.IntWalk Go.Plain
abbrev wS (a:List aj)(n:List Int)(r:aj):SV:=(true,[.view (ab a),.ints n,T r])
inductive im:Hp->Hp->Prop
 |base (R:Hp):im R R
 |step {k:Nat} {b:Option cB} {H R:Hp} (h:JH k=true) (e:im H R):im ((k,b)::H) R
theorem im.get {H R:Hp}(h:im H R)(hT:BT R): ∀k∈ah R,H.get k=R.get k:=by
 induction h with
 |base=>exact λ_ _=>rfl
 |step h e ih=>
  intro k hk;rw[Hp.kJ (λe=>by subst e;exact hT.not h hk)];exact ih hT k hk
def H6 {us:List Un}{m:List (Nat × Nat)}(hm:Go.Fw.IQ m=true):fH (m++mT (br 0 us)) (aA 0 us)=some (aA 0 us)\/1000<us.length:=by
 by_cases hl:us.length<=1000
 ·refine .inl (Ad λx hx=>?_);have hT:=gZ hl
  have key: ∀d∈x,m7 (m++mT (br 0 us)) d=some d:=λd hd=>by
   have hme:=lV hx d hd;exact K79
  exact ain
 ·exact .inr K0
theorem cC {o n k:Nat}{m:List (Nat × Nat)}(h:k≠o):bO ((o,n)::m) k=bO m k:=by
 have e':Nat.beq k o=false:=by
  cases hb:Nat.beq k o
  ·rfl
  ·exact absurd (o7 hb) h
 show(match Nat.beq k o with|true=>some n|false=>bO m k)=_;rw[e']
theorem mL {n k:Nat}{m:List (Nat × Nat)}:bO ((k,n)::m) k=some n:=by
 show(match Nat.beq k k with|true=>some n|false=>bO m k)=_;rw[Nat.beq_refl]
def ZU (fn:Func)(p:Pl)(log:List En)(s:bQ)(r:DV)(S:St):Prop:=∃lg op lt,
 S.env.get 0=some (.val (false,[.ptr 1 0]))/\S.hp.get 1=some (.box 126 [.st (.view (p.ae.map na)),.st (.view (ab p.ap)),.st (.view (p.aa.map fq)),.st (.view (p.parts.map mh)),.st (J p.dY),.st (J p.eH),.own lg,.st (K s.volt),.st (K s.earth),.own op,.st (T s.hall),.own lt,.own 9])/\
 S.hp.get lg=some (.row true 3 (.view (log.map cY)))/\S.hp.get op=some (.row true 1 (.view (ab s.opens)))/\S.hp.get lt=some (.row true 1 (.view (ab s.lots)))/\S.hp.get 9=some (.aG 17 (aA 0 s.units))/\
 Go.Fw.IQ [(9,9),(1,1),(lg,3),(op,5),(lt,7)]=true/\im S.hp (br 0 s.units)/\eA cx S.hp.get S.env.get fn.results.toList λys=>∃zs,kV ([(9,9),(1,1),(lg,3),(op,5),(lt,7)]++mT (br 0 s.units)) ys=some zs/\pg zs=r
def agF {a b c:Nat}(h:Go.Fw.IQ [(9,9),(1,1),(a,3),(b,5),(c,7)]=true):(a≠9/\a≠1)/\(b≠9/\b≠1/\b≠a)/\c≠9/\c≠1/\c≠a/\c≠b:=by
 unfold Go.Fw.IQ at h;simp only[sG]at h;have:=bX h.1.1;simp only[jw,CP,zP,dh,mV,mY,not_or]at this;obtain⟨⟨_,h1,h2,h3⟩,⟨h4,h5,h6⟩,⟨h7,h8⟩,h9,_⟩:=this;exact⟨⟨oh h1,oh h4⟩,⟨oh h2,oh h5,oh h7⟩,oh h3,oh h6,oh h8,oh h9⟩
def Nu {fn:Func}{p:Pl}{log:List En}{s:bQ}{r:DV}{S:St}(hl:s.units.length<=1000)(h:ZU fn p log s r S):
  ∃m:List (Nat × Nat),cW m S.hp.get (form p log s).get /\(∀q∈[(0,1)],∃o off,S.env.get q.1=some (.val (false,[.ptr o off]))/\(o,q.2)∈m)/\
   eA cx S.hp.get S.env.get fn.results.toList λys=>∃zs,kV m ys=some zs/\pg zs=r:=by
 obtain⟨lg,op,lt,h0,h1,h2,h3,h4,h9,hm,hE,hr⟩:=h;have hT:=gZ hl;have iF:=(H6 (us:=s.units) hm).resolve_right K0;obtain⟨⟨n1,n2⟩,⟨n3,n4,n5⟩,n6,n7,n8,n9⟩:=agF hm;refine⟨_,cW.form (Y:=hd p log s) hT hm h9 iF ?_ rfl (hE.get hT),λq hq=>?_,hr⟩
 ·have id1:bO ((9,9)::[(1,1),(lg,3),(op,5),(lt,7)]++mT (br 0 s.units)) lg=some 3:=by
   simp only[qR];rw[cC n1,cC n2,mL]
  have id2:bO ((9,9)::[(1,1),(lg,3),(op,5),(lt,7)]++mT (br 0 s.units)) op=some 5:=by simp only[qR];rw[cC n3,cC n4,cC n5,mL]
  have id3:bO ((9,9)::[(1,1),(lg,3),(op,5),(lt,7)]++mT (br 0 s.units)) lt=some 7:=by simp only[qR];rw[cC n6,cC n7,cC n8,cC n9,mL]
  have id4:bO ((9,9)::[(1,1),(lg,3),(op,5),(lt,7)]++mT (br 0 s.units)) 9=some 9:=rfl;simp only[jW,h1,h2,h3,h4,fp,eZ,m7,id1,id2,id3,id4];rfl
 ·rw[lz]at hq;subst hq;exact⟨1,0,h0,by simp⟩
def gF {f:FuncId}{c:Code}{p:Pl}{log si:List En}{s s':bQ}{ys:List SV}{y:SV}(fn:Func)(hl:s'.units.length<=1000)(h:m6 cx c ⟨iz 0 ((false,[.ptr 1 0])::ys.map dyn),form p log s,1⟩ (ZU fn p si s' (.val (dyn y))) (λ_ _=>False) (ZU fn p si s' (.val (dyn y))))
  (h1:iH cx.P f=true:=by kernel_rfl)(h2:cx.P.funcs[f]? =some fn:=by kernel_rfl)(h3:fn.body=some c:=by rfl)(h4:bM fn.ntmps c=true:=by kernel_rfl)(h5:ys.length+1<=fn.ntmps:=by exact fO rfl)(h6:aM [0] c=true:=by kernel_rfl):
  bt cx f 1 ((false,[.ptr 1 0])::ys.map dyn) (form p log s) [1] (.val (dyn y)) (form p si s'):=
 fA lH h1 h2 h3 h4 agd [(0,1)] (λp hp=>by rw[lz]at hp;subst hp;exact⟨0,rfl⟩) h6 (λS hS=>Nu hl hS) h
def qC (l:List aj)(x:aj):ab (l++[x])=ab l++[[T x]]:=by simp[ab]
def Er {p:Prop}(h:p:=by first|rfl|(rw[qC];rfl)|(rw[wx];rfl)):p:=h
def Ew {p:Prop}(h:p:=by
 refine⟨_,_,_,rfl,rfl,Er,Er,Er,rfl,rfl,?_,_,rfl,rfl⟩
 repeat(first|exact im.base _|refine im.step rfl ?_)):p:=h
def ac4 (p:Pl)(log:List En)(s:bQ)(hl:s.units.length<=1000)(a:List aj)(n:List Int)(r:aj):
  bt cx 123 1 ((false,[.ptr 1 0])::[wS a n r].map dyn) (form p log s) [1] (.val (dyn (I (if s.volt then 0 else 20)))) (form p log (if s.volt then {s with volt:=false}else s)):=by
 obtain⟨volt,earth,opens,hall,lots,units⟩:=s;cases volt
 ·refine gF f123 hl ?_;exact afA
 ·refine gF f123 hl ?_;exact afA
def QE (p:Pl)(q:aj × List aj)(hl:p.aa.length<=1000)(hq:q.2.length<=1000)(hn: ∀i<p.aa.length,(p.aa.getD i dk).bu.length <=1000):
  ac 205 [(true,bU p),(true,mh q)] (.own 1 (.view (ab (jk p.aa q.2)))):=by
 have hn1:(p.aa.map fq).length =p.aa.length:=by simp
 refine sF f205 ?_
 (try(refine tX 0 ?_;try exact Zt))
 refine af (ι:=Nat) (λi=>i<=p.aa.length) (λi=>p.aa.length -i) (λi=>⟨[(3,pP 0),(5,pP 1),(10,some (.val (false,[.st (.view (p.aa.map fq))]))),(11,vI p.aa.length),(12,vI i)],[(0,some (.box 106 [.st (T q.1),.st (.view (ab q.2))])),(1,some (.box 23 [.own 2])),(2,some (.row true 1 (.view (ab (jk (p.aa.take i) q.2)))))],3⟩) 0
  (bs.trans (iK 6 0 1 (.view []) (T:=23) (cs:=[.nil]) K9 rfl rfl rfl rfl) (ai (by rw[<- hn1];kernel_rfl))) (dM _) ?_
 intro i hi;by_cases ak:i<p.aa.length
 ·have he:=iO ak;have xu:=Bq (voids:=q.2) ak;have Xo:=rF (p.aa.take i) q.2;have hnn:=hn i ak;have anZ:(p.aa.take i).length =i:=by simp;omega
  have hc:=bD q.2 (p.aa.getD i dk).name K0;unfold HO at xu;generalize jk (p.aa.take i) q.2=out at*;generalize p.aa.getD i dk=t at*
  rcases t with⟨nm,kd,nd,ru,lo,kH⟩;have he:(p.aa.map fq)[i]? =some [T nm,J kd,.view (ab nd),T ru,J lo,J kH]:=he;dsimp only at xu hnn hc;have hol:(ab out).length =out.length:=by simp
  by_cases h1: ∃n∈nd,n∈out
  ·rw[if_pos (.inr h1)]at xu;repeat((first|(refine kO 7 rfl ?_;first|refine ii (λ_ z=>⟨_,_,_,ac2 (t:=23) h1 K0 K0 rfl rfl,z⟩) ?_)|refine tX 3 ?_|exact Zt);(try conv=>whnf))
   exact K22
  ·by_cases h2:nm∈q.2
   ·rw[if_pos (.inl h2)]at xu;rw[fG h2]at hc;repeat((first|(refine kO 7 rfl ?_;first|refine ii (λ_ z=>⟨_,_,_,TQ (t:=23) h1 K0 K0 rfl rfl,z⟩) ?_)|refine tX 3 ?_|exact Zt);(try conv=>whnf))
    exact K22
   ·rw[if_neg (by rintro(h|h);exact h2 h;exact h1 h)]at xu;rw[eU h2]at hc;repeat((first|(refine kO 7 rfl ?_;first|refine ii (λ_ z=>⟨_,_,_,TQ (t:=23) h1 K0 K0 rfl rfl,z⟩) ?_)|refine tX 3 ?_|exact Zt);(try conv=>whnf))
    exact K30
 ·exact ai6
end Go.Proofs.Tryz
