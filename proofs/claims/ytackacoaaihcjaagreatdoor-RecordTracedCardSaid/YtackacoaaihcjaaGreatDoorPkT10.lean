import Derived.Test.YtackacoaaihcjaaGreatDoorPkT5
import Derived.Test.YtackacoaaihcjaaGreatDoorPkT7
import Derived.Lib.Walk
import Derived.Deep.RegionLaw
import Derived.Lib.SliceRun
import Derived.Laws.IdiomCopy
set_option linter.all false
set_option maxRecDepth 100000
set_option maxHeartbeats 8000000
namespace Go.Proofs.Tryz
open Go.Fw Go.IntWalk Go.Plain
def jK (s:aj):Int:=(iD (eC (av 59 s))).2
abbrev TsL (l:List Ts):SV:=(false,[.view (l.map fC)])
def iN {l:List Ts}{k:Nat}(h:k<l.length):(l.map fC)[k]? =some (fC (l.getD k dt)):=bg (f:=fC) h dt
theorem k6 {l:List aj}{x:aj}(h:x∈l): ∃k,k<l.length/\aZ l x=(k:Int):=by
 refine⟨l.idxOf x,R5 h,?_⟩;unfold aZ;grind
def Es {l all:List aj}(h:jP l all=0)(i:Nat)(hi:i<l.length):l.getD i []∈all/\l.getD i []∉l.take i:=by
 have:=oG (f:=D3 l all) h i hi;unfold D3 at this
 grind
def ae3 {re:aj->Int}{l:List Ts}{i:Nat}(h: ¬(0<=(l.getD i dt).kind /\(l.getD i dt).kind <=3)):Vp re l i=15:=by
 show jp (if _ then 0 else 15) _=15;rw[if_neg h,eR K9]
def ae4 {re:aj->Int}{l:List Ts}{i:Nat}(h:0<=(l.getD i dt).kind /\(l.getD i dt).kind <=3)(ha:jP (l.getD i dt).bu ((cO l).take i)≠0):Vp re l i=jP (l.getD i dt).bu ((cO l).take i):=by
 show jp (if _ then 0 else 15) (jp _ _)=_;rw[if_pos h,ji,eR ha]
def ae5 {re:aj->Int}{l:List Ts}{i:Nat}(h:0<=(l.getD i dt).kind /\(l.getD i dt).kind <=3)(ha:jP (l.getD i dt).bu ((cO l).take i)=0)(hc:Qb l (l.getD i dt)≠0):Vp re l i=Qb l (l.getD i dt):=by
 show jp (if _ then 0 else 15) (jp _ (jp _ _))=_;rw[if_pos h,ji,ha,ji,eR hc]
def ae6 {re:aj->Int}{l:List Ts}{i:Nat}(h:0<=(l.getD i dt).kind /\(l.getD i dt).kind <=3)(ha:jP (l.getD i dt).bu ((cO l).take i)=0)(hc:Qb l (l.getD i dt)=0):
  Vp re l i=jp (if sf (l.getD i dt).kind then re (l.getD i dt).rules else if(l.getD i dt).rules = []then 0 else 7) (Y2 (l.getD i dt).lo (l.getD i dt).hi):=by
 show jp (if _ then 0 else 15) (jp _ (jp _ _))=_;rw[if_pos h,ji,ha,ji,hc,ji]
def Nh (a b c:Int):ad 52 [(false,[.ints [a,b,c]])] (.one (I (fs [a,b,c]))):=oI [a,b,c] (fP rfl)
def Et (e lo hi:Int):fs [e,if((-1000000000000000<=lo/\lo<=1000000000000000)/\ -1000000000000000<=hi/\hi<=1000000000000000)then 0 else 2,if lo<=hi then 0 else 9]=jp e (Y2 lo hi):=by grind[jp,Y2,fs]
section
variable (l:List Ts)(i:Nat)(hl:l.length<=1000)(ak:i<l.length)(hn:(l.getD i dt).bu.length <=1000)(hr:(l.getD i dt).rules.length <=10000)
include hl ak hn hr
theorem Ni:ad 179 [TsL l,I i] (.one (I (Vp jK l i))):=by
 have he:=iN ak;have zx:(l.map fC).take i=(l.take i).map fC:=by rw[List.map_take]
 have hmt:=tR (l.take i) wG;rw[Y3]at hmt;have hmf:=tR l hl;have ham:=HS (l.getD i dt).bu ((cO l).take i) hn (by simp[cO];omega);have ta:=ae3 (re:=jK) (l:=l) (i:=i);have tb:=ae4 (re:=jK) (l:=l) (i:=i);have tc:=ae5 (re:=jK) (l:=l) (i:=i);have td:=ae6 (re:=jK) (l:=l) (i:=i);have zA:=nf (l.getD i dt).rules hr;have hre:(iD (eC (av 59 (l.getD i dt).rules))).2=jK (l.getD i dt).rules :=rfl;have hz:=Es (l:=(l.getD i dt).bu) (all:=(cO l).take i);have BG:Qb l (l.getD i dt)=if(l.getD i dt).kind =2 then(if(l.getD i dt).bu.length =0 then 10 else if(l.getD (aZ (cO l) ((l.getD i dt).bu.getD 0 [])).toNat dt).kind =1 then 0 else 3)else 0:=rfl
 have hu: ∀e∈l.map fC,e.length=6:=by intro e he;obtain⟨t,_,rfl⟩:=dN.1 he;rfl
 generalize ht:l.getD i dt=t at*;generalize hA:jP t.bu ((cO l).take i)=A at*
 rcases t with⟨nm,kd,nd,ru,lo,hi⟩;dsimp only at*;have he:(l.map fC)[i]? =some [T nm,J kd,.view (ab nd),T ru,J lo,J hi]:=he;have AM:(ab nd).length =nd.length:=by simp
 have vN:(l.map fC).length =l.length:=by simp
 by_cases h1:0<=kd/\kd<=3
 ·by_cases h2:A=0
  ·have hA0:=h2;subst h2;by_cases h3:kd=2
   ·rw[if_pos h3]at BG;by_cases h4:nd.length=0
    ·rw[if_pos h4]at BG;rw[tc h1 rfl (by rw[BG];decide),BG];exact K45
    ·have abl:0<nd.length:=by omega
     obtain⟨OR,_⟩:=hz hA0 0 abl;have RS:=sA abl;obtain⟨k0,Xi,hk0⟩:=k6 (FU OR);have W0:=Ah (cO l) (nd.getD 0 []) (by simp[cO];omega);rw[hk0]at W0;have RL:=iN (l:=l) (k:=k0) (by simpa [cO]using Xi);have uD:k0<l.length:=by simpa [cO]using Xi
     rw[if_neg h4,hk0,sB]at BG;generalize nd.getD 0 []=n0 at*;generalize l.getD k0 dt=t0 at*
     rcases t0 with⟨nm0,kd0,nd0,ru0,lo0,zE⟩;have RL:(l.map fC)[k0]? =some [T nm0,J kd0,.view (ab nd0),T ru0,J lo0,J zE]:=RL;dsimp only at BG;by_cases h5:kd0=1
     ·rw[if_pos h5]at BG;rw[td h1 rfl BG];by_cases hi1:sf kd
      ·rw[if_pos hi1];have him:=kW kd;rw[fH hi1]at him;refine sF f179 ?_;repeat((first|(refine kO 7 rfl ?_;first|refine rG (λ_ z=>⟨_,aN h1 _,z⟩) ?_)|refine tX 0 ?_|exact Zt);(try conv=>whnf))
       refine JG hu rfl rfl rfl rfl rfl rfl wG ?_;conv=>whnf
       rw[zx];repeat' ((first|(refine kO 7 rfl ?_;first|refine rG (λ_ z=>⟨_,aN h1 _,z⟩) ?_|refine Rq (bX _ _) ?_|refine rG (λ_ z=>⟨_,kV _ _ K0,z⟩) ?_|refine Rq (Nh _ _ _) ?_)|refine tX 0 ?_|exact Zt|refine bR ?_ ?_<;>intro h)<;>(try conv=>whnf))
       all_goals first|exact Zo|(exact mH abN)|(exact mH (by rw[<- Et];simp_all))
      ·rw[if_neg hi1];have him:=kW kd;rw[eT hi1]at him;refine sF f179 ?_;repeat((first|(refine kO 7 rfl ?_;first|refine rG (λ_ z=>⟨_,aN h1 _,z⟩) ?_)|refine tX 0 ?_|exact Zt);(try conv=>whnf))
       refine JG hu rfl rfl rfl rfl rfl rfl wG ?_;conv=>whnf
       rw[zx];repeat' ((first|(refine kO 7 rfl ?_;first|refine rG (λ_ z=>⟨_,aN h1 _,z⟩) ?_|refine Rq (bX _ _) ?_|refine rG (λ_ z=>⟨_,kV _ _ K0,z⟩) ?_|refine Rq (Nh _ _ _) ?_)|refine tX 0 ?_|exact Zt|refine bR ?_ ?_<;>intro h)<;>(try conv=>whnf))
       all_goals first|exact Zo|(exact mH abN)|(exact mH (by rw[<- Et];simp_all))
     ·rw[if_neg h5]at BG;rw[tc h1 rfl (by rw[BG];decide),BG];exact K45
   ·rw[if_neg h3]at BG;rw[td h1 rfl BG];by_cases hi1:sf kd
    ·rw[if_pos hi1];have him:=kW kd;rw[fH hi1]at him;refine sF f179 ?_;repeat((first|(refine kO 7 rfl ?_;first|refine rG (λ_ z=>⟨_,aN h1 _,z⟩) ?_)|refine tX 0 ?_|exact Zt);(try conv=>whnf))
     refine JG hu rfl rfl rfl rfl rfl rfl wG ?_;conv=>whnf
     rw[zx];repeat' ((first|(refine kO 7 rfl ?_;first|refine rG (λ_ z=>⟨_,aN h1 _,z⟩) ?_|refine Rq (bX _ _) ?_|refine rG (λ_ z=>⟨_,kV _ _ K0,z⟩) ?_|refine Rq (Nh _ _ _) ?_)|refine tX 0 ?_|exact Zt|refine bR ?_ ?_<;>intro h)<;>(try conv=>whnf))
     all_goals first|exact Zo|(exact mH abN)|(exact mH (by rw[<- Et];simp_all))
    ·rw[if_neg hi1];have him:=kW kd;rw[eT hi1]at him;refine sF f179 ?_;repeat((first|(refine kO 7 rfl ?_;first|refine rG (λ_ z=>⟨_,aN h1 _,z⟩) ?_)|refine tX 0 ?_|exact Zt);(try conv=>whnf))
     refine JG hu rfl rfl rfl rfl rfl rfl wG ?_;conv=>whnf
     rw[zx];repeat' ((first|(refine kO 7 rfl ?_;first|refine rG (λ_ z=>⟨_,aN h1 _,z⟩) ?_|refine Rq (bX _ _) ?_|refine rG (λ_ z=>⟨_,kV _ _ K0,z⟩) ?_|refine Rq (Nh _ _ _) ?_)|refine tX 0 ?_|exact Zt|refine bR ?_ ?_<;>intro h)<;>(try conv=>whnf))
     all_goals first|exact Zo|(exact mH abN)|(exact mH (by rw[<- Et];simp_all))
  ·rw[tb h1 h2];exact K45
 ·rw[ta h1];refine sF f179 ?_;repeat((first|(refine kO 7 rfl ?_;first|refine rG (λ_ z=>⟨_,bG h1 _,z⟩) ?_|refine rG (λ_ z=>⟨_,MM (show(15:Int)≠0 by decide),z⟩) ?_)|refine tX 0 ?_|exact Zt);(try conv=>whnf))
  refine JG hu rfl rfl rfl rfl rfl rfl wG ?_;conv=>whnf
  rw[zx];exact tL
end
def VH (x:aj × List aj)(n:aj):ad 255 [(true,mi x),(false,[.ref [T n]])] (.one (Bo (decide (x.1=n)))):=by
 refine sF f255 ?_;exact tL
def mM {l:List aj}{x:aj}{i:Nat}(h:i<l.length)(e:l.getD i []=x)(dx:x∉l.take i):aZ l x=i:=Tm h (by rw[<- getD_at h (d:=[])];exact e) dx
def Nj (ps:List (aj × List aj))(n:aj)(hl:ps.length<=1000):ad 254 [(false,[.view (ps.map mi)]),KX 255 [[T n]]] (.one (I (aZ (ps.map Prod.fst) n))):=by
 have hn:(ps.map mi).length =ps.length:=by simp
 have zI:(ps.map Prod.fst).length =ps.length:=by simp
 refine sF f254 ?_
 (try(refine tX 0 ?_;try exact Zt))
 refine af (ι:=Nat) (λi=>i<=ps.length/\n∉(ps.map Prod.fst).take i) (λi=>ps.length -i) (λi=>⟨[(0,some (.val (false,[.st (.view (ps.map mi))]))),(1,vF 255 [[T n]]),(7,vI ps.length),(8,vI i)],[],0⟩) 0 (ai Pv) ⟨dC _,by simp⟩ ?_;rintro i ⟨hi,dx⟩;by_cases ak:i<ps.length
 ·have he:=bg (f:=mi) ak ([],[]);have hg:(ps.map Prod.fst).getD i []=(ps.getD i ([],[])).1:=by rw[getD_at ak,getD_at K0];simp
  have nK:=λe=>mM (l:=ps.map Prod.fst) (x:=n) (i:=i) K0 e dx;have FF:=iL (l:=ps.map Prod.fst) (i:=i) (x:=n) K0;rw[hg]at nK FF;have hp1:=VH (ps.getD i ([],[])) n;by_cases hx:(ps.getD i ([],[])).1=n
  ·exact afT
  ·exact afZ
 ·obtain rfl:i=ps.length:=by omega
  rw[o0 K0]at dx;rw[fp dx];exact tL
def nj (p:Pl)(n:aj):aj × List aj:=if n∈p.bd then p.parts.getD (aZ p.bd n).toNat ([],[])else([],[])
def Qw (p:Pl)(n:aj)(hl:p.parts.length<=1000):ad 204 [(true,bU p),SS n] (.aJ [(true,mi (nj p n)),Bo (decide (n∈p.bd))]):=by
 have W0:=Nj p.parts n hl;have hq:p.parts.map Prod.fst=p.bd:=rfl;have pE:(p.parts.map mi).length =p.parts.length:=by simp
 rw[hq]at W0;by_cases h:n∈p.bd
 ·obtain⟨k,hk,e⟩:=k6 h;have uD:k<p.parts.length:=by simpa [Pl.bd]using hk
  have hd:nj p n=p.parts.getD k ([],[]):=by unfold nj;rw[if_pos h,e,sB]
  have RL:=bg (f:=mi) uD ([],[]);rw[e]at W0;rw[hd,fH h];refine sF f204 ?_;exact tL
 ·have hd:nj p n=([],[]):=by unfold nj;rw[if_neg h]
  rw[fp h]at W0;rw[hd,eT h];refine sF f204 ?_;exact tL
def VI (s:aj)(out:List aj)(hl:out.length<=1000):ad 256 [SS s,(false,[.ref [.view (ab out)]])] (.one (Bo (decide (s∈out)))):=by
 have hc:=bD out s K0;refine sF f256 ?_;exact tL
def inE (l out:List aj)(i:Nat):Int:=if l.getD i []∈out then 1 else 0
def Gm (l out:List aj):Int:=if(cM (inE l out) l.length).2=0 then -1 else(cM (inE l out) l.length).1
def Nk (l out:List aj)(hl:l.length<=1000)(ho:out.length<=1000):ad 226 [V1 l,KX 256 [[.view (ab out)]]] (.one (I (Gm l out))):=by
 have hn:(ab l).length =l.length:=by simp
 refine sF f226 ?_
 (try(refine tX 0 ?_;try exact Zt))
 refine af (ι:=Nat) (λi=>i<=l.length/\∀j<i,inE l out j=0) (λi=>l.length -i) (λi=>⟨[(0,some (.val (false,[.st (.view (ab l))]))),(1,vF 256 [[.view (ab out)]]),(7,vI l.length),(8,vI i)],[],0⟩) 0 (ai Pv) ⟨dC _,λj hj=>by omega⟩ ?_;rintro i ⟨hi,hp⟩;by_cases ak:i<l.length
 ·have he:=sA ak;have hv:=VI (l.getD i []) out ho;have kF:inE l out i=if l.getD i []∈out then 1 else 0:=rfl
  have eL:=λ(h:inE l out i≠0)=>fK (f:=inE l out) ak hp h;have iT:=λ(h:inE l out i=0)=>all_succ hp h;by_cases hx:l.getD i []∈out
  ·rw[if_pos hx]at kF;rw[fH hx]at hv;have hr:=eL af5;rw[kF]at hr;have hf:Gm l out=i:=by unfold Gm;rw[hr];rfl
   rw[hf];exact tL
  ·rw[if_neg hx]at kF;rw[eT hx]at hv;exact tL
 ·obtain rfl:i=l.length:=by omega
  have hf:Gm l out= -1:=by unfold Gm;rw[gT hp];rfl
  rw[hf];exact tL
def ZD (l out:List aj):0<=Gm l out↔∃n∈l,n∈out:=by
 rcases tM (inE l out) l.length with h|⟨k,h1,h2,h3⟩
 ·have:Gm l out= -1:=by unfold Gm;rw[gT h];rfl
  rw[this];refine⟨λe=>absurd e K9,λ⟨n,hn,ho⟩=>?_⟩;obtain⟨j,hj,rfl⟩:=zN.1 hn;have:=h j hj;unfold inE at this;rw[getD_at hj,if_pos ho]at this;cases this
 ·have:Gm l out=k:=by
   unfold Gm;rw[fK h1 h2 h3,if_neg h3]
  rw[this];refine⟨λ_=>?_,λ_=>by omega⟩;unfold inE at h3;by_cases hx:l.getD k []∈out
  ·rw[getD_at h1]at hx;exact⟨_,oh h1,hx⟩
  ·rw[if_neg hx]at h3;exact absurd rfl h3
def VJ (l out:List aj)(hl:l.length<=1000)(ho:out.length<=1000):ad 227 [V1 l,KX 256 [[.view (ab out)]]] (.one (Bo (decide (∃n∈l,n∈out)))):=by
 have hi:=Nk l out hl ho;have hp:=ZD l out;refine sF f227 ?_;exact tL
def Eu {fid:Nat}{H:HF}{t:TypeId}{l out:List aj}(hl:l.length<=1000)(ho:out.length<=1000)(h1:H 1=some (.box t [.own 2]))(h2:H 2=some (.row true 1 (.view (ab out)))):
  bN cx fid 227 [(false,[.st (.view (ab l))]),(false,[.sv 256 1])] H (.val (dyn (Bo (decide (∃n∈l,n∈out))))) [] [1,2]:=by
 refine iI (l:=[V1 l,KX 256 [[.view (ab out)]]]) ⟨rfl,λk x y hx hy=>?_⟩ (VJ l out hl ho) rfl ⟨rfl,rfl,rfl⟩
 match k with
 |0=>
  cases hx;cases hy;refine⟨rfl,rfl,λk d c hd hc=>?_⟩
  match k with
  |0=>cases hd;cases hc;exact .st _
  |k+1=>simp at hd
 |1=>
  cases hx;cases hy;refine⟨rfl,rfl,λk d c hd hc=>?_⟩
  match k with
  |0=>
   cases hd;cases hc;refine .sv (by simp) h1 rfl λk d c hd hc=>?_
   match k with
   |0=>cases hd;cases hc;exact .row (by simp) h2
   |k+1=>simp at hd
  |k+1=>simp at hd
 |k+2=>simp at hx
def acW {fid:Nat}{H:HF}{t:TypeId}{l out:List aj}(h: ∃n∈l,n∈out)(hl:l.length<=1000)(ho:out.length<=1000)(h1:H 1=some (.box t [.own 2]))(h2:H 2=some (.row true 1 (.view (ab out)))):
  bN cx fid 227 [(false,[.st (.view (ab l))]),(false,[.sv 256 1])] H (.val (dyn (Bo true))) [] [1,2]:=by
 have:=Eu (fid:=fid) hl ho h1 h2;rwa [fH h]at this
def TE {fid:Nat}{H:HF}{t:TypeId}{l out:List aj}(h: ¬ ∃n∈l,n∈out)(hl:l.length<=1000)(ho:out.length<=1000)(h1:H 1=some (.box t [.own 2]))(h2:H 2=some (.row true 1 (.view (ab out)))):
  bN cx fid 227 [(false,[.st (.view (ab l))]),(false,[.sv 256 1])] H (.val (dyn (Bo false))) [] [1,2]:=by
 have:=Eu (fid:=fid) hl ho h1 h2;rwa [eT h]at this
abbrev Pd (n:aj):List SC:=[T n,.any,.any,.any,.any,.any,.any,.any,.any,.any,.any,.any,.any,.any,.any,.any,.any]
def VK (m n:aj):ad 163 [(true,Pd m),(false,[.ref [T n]])] (.one (Bo (decide (m=n)))):=by
 refine sF f163 ?_;exact K1
def Nl (ns:List aj)(n:aj)(hl:ns.length<=1000):ad 162 [(false,[.view (ns.map Pd)]),KX 163 [[T n]]] (.one (I (aZ ns n))):=by
 have hn:(ns.map Pd).length =ns.length:=by simp
 refine sF f162 ?_
 (try(refine tX 0 ?_;try exact Zt))
 refine af (ι:=Nat) (λi=>i<=ns.length/\n∉ns.take i) (λi=>ns.length -i) (λi=>⟨[(0,some (.val (false,[.st (.view (ns.map Pd))]))),(1,vF 163 [[T n]]),(7,vI ns.length),(8,vI i)],[],0⟩) 0 (ai Pv) ⟨dC _,by simp⟩ ?_;rintro i ⟨hi,dx⟩;by_cases ak:i<ns.length
 ·have he:=bg (f:=Pd) ak [];have nK:=λe=>mM (l:=ns) (x:=n) (i:=i) ak e dx;have FF:=iL (l:=ns) (i:=i) (x:=n) ak;have hp1:=VK (ns.getD i []) n;generalize ns.getD i []=m at*;by_cases hx:m=n
  ·rw[fH hx]at hp1;rw[nK hx];exact tA
  ·rw[eT hx]at hp1;repeat' ((first|refine tX 0 ?_|exact Zt|refine bR ?_ ?_<;>intro h)<;>(try conv=>whnf))
   all_goals first|exact Zo|exact⟨i+1,⟨ak,λhm=>(FF.1 hm).elim dx λe=>hx e.symm⟩,by omega,Zc⟩
 ·obtain rfl:i=ns.length:=by omega
  rw[o0 (dw _)]at dx;exact ab8
end Go.Proofs.Tryz
namespace Go.Proofs.Tryz
open Go Go.RowKit Go.Fw Go.Lib Go.Plain
def ZE {mv mr:Mem}{a:Option Addr}{m cap:Nat}{c:SC}(h:dq mv mr (.slice a m cap) c)(hm:0<m)(hv:c.ao=true:=by rfl): ∃b o,a=some ⟨b,o,none⟩:=by
 generalize hs:Value.slice a m cap=v0 at h
 cases h with
 |empty a' jD Pf h0=>simp only[Value.slice.injEq]at hs;omega
 |view b9 o jD z f Pf fO hz gc hl2 hcc O1=>simp only[Value.slice.injEq]at hs;exact⟨b9,o,hs.1⟩
 |_=>first|(simp[SC.ao]at hv;done)|cases hs
set_option maxHeartbeats 4000000 in
set_option maxRecDepth 1000000 in
def ZF (ns:List aj)(n:aj)(hl:ns.length<=1000)(b:Nat)(a:Option Addr)(cap:Nat)(w:World)(hG: ∀w1,Below w.heap.size w w1->eP cx.gl (rd w1))(hc:w.cell? ⟨b,12,none⟩=some (.slice a ns.length cap))
  (hr:dq (rd w) (rd w) (.slice a ns.length cap) (.view (ns.map Pd)))(hb:b<w.heap.size):
  Calls prog 89 #[.pointer (some ⟨b,0,none⟩),.string (B n)] w λe w'=>Below w.heap.size w w'/\
   ∃v,e= .returned v/\((aZ ns n<0/\v= .pointer none)\/∃b9 o,0<=aZ ns n/\a=some ⟨b9,o,none⟩/\v= .pointer (some ⟨b9,o+(aZ ns n).toNat *17,none⟩)):=by
 go_enter Tryz.func89,Tryz.ntmps89
 go_wp2_with fail
 have KQ:Below w.heap.size w (w.alloc (.cells #[.string (B n)] 9)):=by
  refine⟨rfl,rfl,rfl,?_,λc hc=>?_⟩
  ·show w.heap.size<=(w.heap.push _).size;simp
  ·show(w.heap.push _)[c]? =w.heap[c]?;rw[Array.getElem?_push];rw[if_neg K0]
 have nh:rd (w.alloc (.cells #[.string (B n)] 9)) w.heap.size 0=some (.string (B n)):=by
  have h:(w.alloc (.cells #[.string (B n)] 9)).heap[w.heap.size]? =some (.cells #[.string (B n)] 9):=by
   show(w.heap.push _)[w.heap.size]? =_;rw[Array.getElem?_push,if_pos rfl]
  show World.cell? _ _=_;unfold World.cell?;dsimp only;rw[h];rfl
 have eu:(rd w).le (rd (w.alloc (.cells #[.string (B n)] 9))):=λb o v h=>by
  have ak:b<w.heap.size:=IS _ _ h;have:rd (w.alloc (.cells #[.string (B n)] 9)) b o=rd w b o:=Po (a:=⟨b,o,none⟩) (KQ.block b ak);rw[this];exact h
 generalize sQ:w.alloc (.cells #[.string (B n)] 9)=w1 at*;have nn:w.heap.size<=w1.heap.size:=KQ.size
 have xw:o4 (rd w1) (rd w1) #[.slice a ns.length cap,.func (.func 163) #[] #[.pointer (some ⟨w.heap.size,0,none⟩)]] [(false,[.view (ns.map Pd)]),KX 163 [[T n]]]:=by
  refine⟨rfl,λk x hk=>?_⟩
  match k,hk with
  |0,hk=>cases hk;exact⟨_,rfl,hr.mono eu eu⟩
  |1,hk=>
   cases hk;refine⟨_,rfl,?_⟩;refine .fn #[] #[.pointer (some ⟨w.heap.size,0,none⟩)] (λ_=> #[]) rfl rfl (λj c h=>by simp at h) (λj c h=>by simp at h) (λj c h=>by simp at h) (λj c k x h=>by simp at h) λj cs h=>?_
   match j,h with
   |0,h=>
    cases h;refine .ref w.heap.size 0 (λ_=>.string (B n)) (λk hk=>?_) λk x hx=>?_
    ·have:k=0:=by simpa using hk
     subst this;exact nh
    ·match k,hx with
     |0,hx=>cases hx;exact .lit rfl
 refine((Nl ns n hl).pure.2 (rd w1) w1 _ (Mem.le_refl _) (hG w1 KQ) xw).mono λe w2 he=>?_;obtain⟨v,rfl,hB2,lC⟩:=he
 have hv:v= .int .i64 (aZ ns n):=by
  obtain⟨c,hc1,Xm⟩:=lC;simp only[BI,r9]at hc1;subst hc1;exact gh Xm
 subst hv
 have Xm:w2.cell? ⟨b,12,none⟩=some (.slice a ns.length cap):=by
  have h1:w1.cell? ⟨b,12,none⟩=w.cell? ⟨b,12,none⟩:=Po (KQ.block b hb);have h2:w2.cell? ⟨b,12,none⟩=w1.cell? ⟨b,12,none⟩:=Po (hB2.block b K0);rw[h2,h1];exact hc
 have hB:Below w.heap.size w w2:=⟨hB2.os.trans KQ.os,hB2.tape.trans KQ.tape,hB2.output.trans KQ.output,o3 nn hB2.size,λc hc=>(hB2.block c K0).trans (KQ.block c hc)⟩;by_cases KU:aZ ns n<0
 ·have e1:decide (aZ ns n<0)=true:=fH KU
  go_wp2_with fail
  go_ret
  exact⟨hB,_,rfl,.inl ⟨KU,rfl⟩⟩
 ·have e1:decide (aZ ns n<0)=false:=eT KU
  have zJ:n∈ns:=by
   apply Pn;intro h;rw[fp h]at KU;omega
  obtain⟨k,hk,hke⟩:=k6 zJ;obtain⟨b9,o,rfl⟩: ∃b9 o,a=some ⟨b9,o,none⟩:=by exact ZE hr K0
  have e2:(Instr.indexAt 56 (.slice (some ⟨b9,o,none⟩) ns.length cap) (.int .i64 (aZ ns n))).run prog w2= .ok (.pointer (some ⟨b9,o+(aZ ns n).toNat *17,none⟩)) w2:=
   HI (C:=cx) (w:=w2) (b:=b9) (o:=o) (n:=ns.length) (cap:=cap) (k:=aZ ns n) lG (T:=56) rfl rfl rfl K0 (by rw[hke];omega)
  go_wp2_with fail
  go_ret
  exact⟨hB,_,rfl,.inr ⟨b9,o,by omega,rfl,by rw[hke,sB];rfl⟩⟩
end Go.Proofs.Tryz
namespace Go.Proofs.Tryz
open Go Go.RowKit Go.Fw Go.Plain
structure Wk (H:HF) (id:Nat) (ns:List aj):Prop where
 box: ∃t cs,H id=some (.box t cs)/\cs[12]? =some (.own 9)
 row: ∃l,H 9=some (.aA 17 l)/\l.length=ns.length/\∀(i:Nat) (e:List DC),l[i]? =some e->e.length=17/\e[0]? =some (.st (T (ns.getD i [])))
 len:ns.length<=1000
def Ev {H:HF}{id fid:Nat}{ns:List aj}(n:aj)(hw:Wk H id ns){r:DC}(hr:(aZ ns n<0/\r= .st (.lit (.pointer none)))\/(0<=aZ ns n/\r= .cF 9 17 (aZ ns n).toNat 0)):
  bN cx fid 89 [(false,[.ptr id 0]),(false,[.st (T n)])] H (bm r) [] [id,9]:=by
 obtain⟨⟨t,cs,h1,hc⟩,⟨l,h9,vN,IF⟩,hl⟩:=hw;refine⟨by kernel_rfl,λF β N H' w vs Ud hG hR hf nn hv=>?_⟩;have e1:H' id=some (.box t cs):=(Ud id (by simp)).trans h1;have e9:H' 9=some (.aA 17 l):=(Ud 9 (by simp)).trans h9;obtain⟨_,b,arr,T',xz,hb2,hb3,hb4,hb5⟩:=hR.rel id _ e1;obtain⟨hN9,_⟩:=hR.rel 9 _ e9;have hbl:=(FT.1 hb3).1;have a0:=hv 0 _ rfl;have a1:=hv 1 _ rfl;obtain⟨_,b',jS,hv0⟩:=aq.am a0;obtain rfl:b'=b:=wE (jS.symm.trans xz);have hv1:vs.getD 1 undef= .string (B n):=gh (aq.am a1);have h12:12<arr.size:=by rw[hb4];exact(kl.1 hc).1
 have d12:=hb5 12 _ hc
 have IJ:w.cell? ⟨b',12,none⟩=some (arr.getD 12 undef):=by
  unfold World.cell?;dsimp only;rw[hb3];simp[h12]
 have il:dq (rd w) (rd w) (arr.getD 12 undef) (.view (ns.map Pd)):=by
  refine DE (H:=H') (R:=[9]) hG hR (λ_ _=>rfl) (.aA (by simp) e9 (by rw[ja,vN]) (λi e e' he Cy=>?_) (λi e e' k d c he Cy hd IC=>?_) (λi e' k c Cy IC=>?_)) d12
  ·obtain⟨q1,_⟩:=IF i e he;rw[gr,my]at Cy;obtain⟨m,_,rfl⟩:=Cy;rw[q1];rfl
  ·obtain⟨q1,q2⟩:=IF i e he;rw[gr,my]at Cy;obtain⟨m,hm,rfl⟩:=Cy;have hmd:ns.getD i []=m:=by rw[jE,hm];rfl
   rw[hmd]at q2
   cases k with
   |zero=>
    rw[q2]at hd;cases hd;cases IC;exact .st _
   |succ k=>
    have:c= .any :=by
     have hk:k<16:=by exact ajm
     have Xm:(List.replicate 16 SC.any)[k]? =some c:=IC;rw[List.getElem?_replicate,if_pos hk]at Xm;exact(wE Xm).symm
    subst this;exact .any _
  ·rw[gr,my]at Cy;obtain⟨m,hm,rfl⟩:=Cy
   cases k with
   |zero=>cases IC;rfl
   |succ k=>
    have hk:k<16:=by exact ajm
    have Xm:(List.replicate 16 SC.any)[k]? =some c:=IC;rw[List.getElem?_replicate,if_pos hk]at Xm;rw[<- wE Xm];rfl
 obtain⟨_,_,jo⟩:=d12;have jo:=jo _ 17 l.length e9 rfl
 have xw:vs= #[.pointer (some ⟨b',0,none⟩),.string (B n)]:=by
  apply AS
  ·rw[nn];rfl
  ·intro i h1 h2;have h2:i<2:=h2;have hg:vs.getD i undef=vs[i]:=by simp[sw,h1]
   match i,h2 with
   |0,_=>rw[<- hg];exact hv0
   |1,_=>rw[<- hg];exact hv1
 have hGl: ∀w1,Below w.heap.size w w1->eP cx.gl (rd w1):=λw1 hB=>eP.later hG (hR.grow hB)
 have fin: ∀ {a:Option Addr} {cap:Nat},w.cell? ⟨b',12,none⟩=some (.slice a ns.length cap)->dq (rd w) (rd w) (.slice a ns.length cap) (.view (ns.map Pd))->(∀b9 o,a=some ⟨b9,o,none⟩->β 9=some b9/\o=0)->
   Calls cx.P 89 vs w λe w'=>∃v cL,e= .returned v/\Tr F β N H' w cL (bf N fid) (Hp.on [] H') w'/\ac F cL (bf N fid) (Hp.on [] H') w'/\b8 F cL (bf N fid) (Hp.on [] H') w' v (bm r):=by
  intro a cap jd hrp ha;rw[xw];refine(ZF ns n hl b' a cap w hGl jd hrp hbl).mono λe w' he=>?_;obtain⟨hB,v,rfl,lC⟩:=he;refine⟨v,β,rfl,(Tr.grow hR hB).bf,(hR.grow hB).bf,b8.bf ?_⟩;show aq _ _ _ _ _ _ (false,[r])
  rcases hr with⟨KU,rfl⟩|⟨fO,rfl⟩
  ·rcases lC with⟨_,rfl⟩|⟨b9,o,h0,rfl,rfl⟩
   ·exact⟨_,rfl,.lit rfl⟩
   ·omega
  ·rcases lC with⟨hn,_⟩|⟨b9,o,h0,rfl,rfl⟩
   ·omega
   ·obtain⟨q1,rfl⟩:=ha b9 o rfl;refine⟨_,rfl,hN9,b9,q1,by simp⟩
 rcases jo with⟨_,h0,hs⟩|⟨b9,cap,arr9,T9,q1,hs,_,_⟩
 ·rw[hs]at IJ il;have hz:ns.length=0:=by omega
  refine fin (a:=none) (cap:=0) (by rw[hz];exact IJ) (by rw[hz];exact il) λb9 o h=>by cases h
 ·rw[hs,vN]at IJ il;exact fin IJ il λb9' o h=>by cases h;exact⟨q1,rfl⟩
end Go.Proofs.Tryz
namespace Go.Proofs.Tryz
open Go.Fw Go.IntWalk Go.Plain
abbrev wX (a:List aj)(n:List Int)(r:aj):SV:=(true,[.view (ab a),.ints n,T r])
inductive ib:Hp->Hp->Prop
 |base (R:Hp):ib R R
 |step {k:Nat} {b:Option co} {H R:Hp} (h:JF k=true) (e:ib H R):ib ((k,b)::H) R
theorem ib.get {H R:Hp}(h:ib H R)(hT:BQ R): ∀k∈ah R,H.get k=R.get k:=by
 induction h with
 |base=>exact λ_ _=>rfl
 |step h e ih=>
  intro k hk;rw[Hp.kI (λe=>by subst e;exact hT.not h hk)];exact ih hT k hk
def H4 {us:List Un}{m:List (Nat × Nat)}(hm:Go.Fw.IM m=true):fI (m++mW (bq 0 us)) (az 0 us)=some (az 0 us)\/1000<us.length:=by
 by_cases hl:us.length<=1000
 ·refine .inl (Ac λx hx=>?_);have hT:=fX hl
  have key: ∀d∈x,m7 (m++mW (bq 0 us)) d=some d:=λd hd=>by
   have hme:=lU hx d hd;exact K79
  exact aik
 ·exact .inr K0
theorem cB {o n k:Nat}{m:List (Nat × Nat)}(h:k≠o):bO ((o,n)::m) k=bO m k:=by
 have e':Nat.beq k o=false:=by
  cases hb:Nat.beq k o
  ·rfl
  ·exact absurd (o8 hb) h
 show(match Nat.beq k o with|true=>some n|false=>bO m k)=_;rw[e']
theorem mN {n k:Nat}{m:List (Nat × Nat)}:bO ((k,n)::m) k=some n:=by
 show(match Nat.beq k k with|true=>some n|false=>bO m k)=_;rw[Nat.beq_refl]
def ZG (fn:Func)(p:Pl)(log:List En)(s:bK)(r:DV)(S:St):Prop:=∃lg op lt,
 S.env.get 0=some (.val (false,[.ptr 1 0]))/\S.hp.get 1=some (.box 126 [.st (.view (p.ae.map m9)),.st (.view (ab p.ap)),.st (.view (p.aa.map fC)),.st (.view (p.parts.map mi)),.st (J p.dW),.st (J p.eH),.own lg,.st (K s.volt),.st (K s.earth),.own op,.st (T s.hall),.own lt,.own 9])/\
 S.hp.get lg=some (.row true 3 (.view (log.map df)))/\S.hp.get op=some (.row true 1 (.view (ab s.opens)))/\S.hp.get lt=some (.row true 1 (.view (ab s.lots)))/\S.hp.get 9=some (.aA 17 (az 0 s.units))/\
 Go.Fw.IM [(9,9),(1,1),(lg,3),(op,5),(lt,7)]=true/\ib S.hp (bq 0 s.units)/\er cx S.hp.get S.env.get fn.results.toList λys=>∃zs,kS ([(9,9),(1,1),(lg,3),(op,5),(lt,7)]++mW (bq 0 s.units)) ys=some zs/\ph zs=r
def agB {a b c:Nat}(h:Go.Fw.IM [(9,9),(1,1),(a,3),(b,5),(c,7)]=true):(a≠9/\a≠1)/\(b≠9/\b≠1/\b≠a)/\c≠9/\c≠1/\c≠a/\c≠b:=by
 unfold Go.Fw.IM at h;simp only[sC]at h;have:=bW h.1.1;simp only[ju,CO,zO,cQ,mA,mB,not_or]at this;obtain⟨⟨_,h1,h2,h3⟩,⟨h4,h5,h6⟩,⟨h7,h8⟩,h9,_⟩:=this;exact⟨⟨ol h1,ol h4⟩,⟨ol h2,ol h5,ol h7⟩,ol h3,ol h6,ol h8,ol h9⟩
def Nn {fn:Func}{p:Pl}{log:List En}{s:bK}{r:DV}{S:St}(hl:s.units.length<=1000)(h:ZG fn p log s r S):
  ∃m:List (Nat × Nat),cW m S.hp.get (form p log s).get /\(∀q∈[(0,1)],∃o off,S.env.get q.1=some (.val (false,[.ptr o off]))/\(o,q.2)∈m)/\
   er cx S.hp.get S.env.get fn.results.toList λys=>∃zs,kS m ys=some zs/\ph zs=r:=by
 obtain⟨lg,op,lt,h0,h1,h2,h3,h4,h9,hm,hE,hr⟩:=h;have hT:=fX hl;have iE:=(H4 (us:=s.units) hm).resolve_right K0;obtain⟨⟨n1,n2⟩,⟨n3,n4,n5⟩,n6,n7,n8,n9⟩:=agB hm;refine⟨_,cW.form (Y:=hd p log s) hT hm h9 iE ?_ rfl (hE.get hT),λq hq=>?_,hr⟩
 ·have id1:bO ((9,9)::[(1,1),(lg,3),(op,5),(lt,7)]++mW (bq 0 s.units)) lg=some 3:=by
   simp only[qK];rw[cB n1,cB n2,mN]
  have id2:bO ((9,9)::[(1,1),(lg,3),(op,5),(lt,7)]++mW (bq 0 s.units)) op=some 5:=by simp only[qK];rw[cB n3,cB n4,cB n5,mN]
  have id3:bO ((9,9)::[(1,1),(lg,3),(op,5),(lt,7)]++mW (bq 0 s.units)) lt=some 7:=by simp only[qK];rw[cB n6,cB n7,cB n8,cB n9,mN]
  have id4:bO ((9,9)::[(1,1),(lg,3),(op,5),(lt,7)]++mW (bq 0 s.units)) 9=some 9:=rfl;simp only[jT,h1,h2,h3,h4,fm,eX,m7,id1,id2,id3,id4];rfl
 ·rw[lq]at hq;subst hq;exact⟨1,0,h0,by simp⟩
def gF {f:FuncId}{c:Code}{p:Pl}{log rZ:List En}{s s':bK}{ys:List SV}{y:SV}(fn:Func)(hl:s'.units.length<=1000)(h:m6 cx c ⟨iz 0 ((false,[.ptr 1 0])::ys.map dyn),form p log s,1⟩ (ZG fn p rZ s' (.val (dyn y))) (λ_ _=>False) (ZG fn p rZ s' (.val (dyn y))))
  (h1:iG cx.P f=true:=by kernel_rfl)(h2:cx.P.funcs[f]? =some fn:=by kernel_rfl)(h3:fn.body=some c:=by rfl)(h4:bM fn.ntmps c=true:=by kernel_rfl)(h5:ys.length+1<=fn.ntmps:=by exact fP rfl)(h6:aM [0] c=true:=by kernel_rfl):
  bt cx f 1 ((false,[.ptr 1 0])::ys.map dyn) (form p log s) [1] (.val (dyn y)) (form p rZ s'):=
 fw lG h1 h2 h3 h4 af9 [(0,1)] (λp hp=>by rw[lq]at hp;subst hp;exact⟨0,rfl⟩) h6 (λS hS=>Nn hl hS) h
def qx (l:List aj)(x:aj):ab (l++[x])=ab l++[[T x]]:=by simp[ab]
def Er {p:Prop}(h:p:=by first|rfl|(rw[qx];rfl)|(rw[wD];rfl)):p:=h
def Ew {p:Prop}(h:p:=by
 refine⟨_,_,_,rfl,rfl,Er,Er,Er,rfl,rfl,?_,_,rfl,rfl⟩
 repeat(first|exact ib.base _|refine ib.step rfl ?_)):p:=h
def acY (p:Pl)(log:List En)(s:bK)(hl:s.units.length<=1000)(a:List aj)(n:List Int)(r:aj):
  bt cx 123 1 ((false,[.ptr 1 0])::[wX a n r].map dyn) (form p log s) [1] (.val (dyn (I (if s.volt then 0 else 20)))) (form p log (if s.volt then {s with volt:=false}else s)):=by
 obtain⟨volt,earth,opens,hall,lots,units⟩:=s;cases volt
 ·refine gF f123 hl ?_;exact afx
 ·refine gF f123 hl ?_;exact afx
def Qx (p:Pl)(q:aj × List aj)(hl:p.aa.length<=1000)(hq:q.2.length<=1000)(hn: ∀i<p.aa.length,(p.aa.getD i dt).bu.length <=1000):
  ad 205 [(true,bU p),(true,mi q)] (.own 1 (.view (ab (jj p.aa q.2)))):=by
 have hn1:(p.aa.map fC).length =p.aa.length:=by simp
 refine sF f205 ?_
 (try(refine tX 0 ?_;try exact Zt))
 refine af (ι:=Nat) (λi=>i<=p.aa.length) (λi=>p.aa.length -i) (λi=>⟨[(3,pP 0),(5,pP 1),(10,some (.val (false,[.st (.view (p.aa.map fC))]))),(11,vI p.aa.length),(12,vI i)],[(0,some (.box 106 [.st (T q.1),.st (.view (ab q.2))])),(1,some (.box 23 [.own 2])),(2,some (.row true 1 (.view (ab (jj (p.aa.take i) q.2)))))],3⟩) 0
  (bs.trans (iJ 6 0 1 (.view []) (T:=23) (cs:=[.nil]) K9 rfl rfl rfl rfl) (ai (by rw[<- hn1];kernel_rfl))) (dC _) ?_
 intro i hi;by_cases ak:i<p.aa.length
 ·have he:=iN ak;have xB:=Bl (voids:=q.2) ak;have WZ:=rq (p.aa.take i) q.2;have hnn:=hn i ak;have an9:(p.aa.take i).length =i:=by simp;omega
  have hc:=bD q.2 (p.aa.getD i dt).name K0;unfold HM at xB;generalize jj (p.aa.take i) q.2=out at*;generalize p.aa.getD i dt=t at*
  rcases t with⟨nm,kd,nd,ru,lo,kA⟩;have he:(p.aa.map fC)[i]? =some [T nm,J kd,.view (ab nd),T ru,J lo,J kA]:=he;dsimp only at xB hnn hc;have hol:(ab out).length =out.length:=by simp
  by_cases h1: ∃n∈nd,n∈out
  ·rw[if_pos (.inr h1)]at xB;repeat((first|(refine kO 7 rfl ?_;first|refine ij (λ_ z=>⟨_,_,_,acW (t:=23) h1 K0 K0 rfl rfl,z⟩) ?_)|refine tX 3 ?_|exact Zt);(try conv=>whnf))
   exact K22
  ·by_cases h2:nm∈q.2
   ·rw[if_pos (.inl h2)]at xB;rw[fH h2]at hc;repeat((first|(refine kO 7 rfl ?_;first|refine ij (λ_ z=>⟨_,_,_,TE (t:=23) h1 K0 K0 rfl rfl,z⟩) ?_)|refine tX 3 ?_|exact Zt);(try conv=>whnf))
    exact K22
   ·rw[if_neg (by rintro(h|h);exact h2 h;exact h1 h)]at xB;rw[eT h2]at hc;repeat((first|(refine kO 7 rfl ?_;first|refine ij (λ_ z=>⟨_,_,_,TE (t:=23) h1 K0 K0 rfl rfl,z⟩) ?_)|refine tX 3 ?_|exact Zt);(try conv=>whnf))
    exact K30
 ·exact ai3
end Go.Proofs.Tryz
