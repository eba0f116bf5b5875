import Derived.Test.YtolnfpljgjpbpaaGreatDoorPk5
import Derived.Test.YtolnfpljgjpbpaaGreatDoorPk6
import Derived.IntWalk
set_option linter.all false
set_option maxRecDepth 100000
set_option maxHeartbeats 8000000
namespace Go.Proofs.Tryz
open Go.Fw Go.IntWalk Go.Plain
abbrev LC (f:Nat)(bM:List (List SC)):SV:=(false,[.fn f [] bM])
abbrev vF (f:Nat)(bM:List (List SC)):Option DV:=some (.val (false,[.st (.fn f [] bM)]))
abbrev vM (id:Nat):Option DV:=some (.val (false,[.mp id]))
def aeW (e:Int):ac 44 [Bo false,I e] (.one (I e)):=bZ false e
def aeX (e:Int):ac 44 [Bo true,I e] (.one (I 0)):=bZ true e
def Nn {a b:Int}(h:a≠0):ac 42 [(false,[.ints [a,b]])] (.one (I a)):=by
 have:=oS [a,b] (fM rfl)
 grind[fs]
def ak6 (b:Int):ac 42 [(false,[.ints [0,b]])] (.one (I b)):=by
 have:=oS [0,b] (fM rfl)
 grind[fs]
def kn (l:List aj):List (ByteArray × SV):=l.map λs=>(B s,(false,[.lit (.bool true)]))
theorem ZH (a b:aj):(B a==B b)=decide (a=b):=by
 by_cases h:a=b
 ·subst h;rw[fh rfl];show((B a).data ==(B a).data)=true;simp
 ·rw[eJ h];show((B a).data ==(B b).data)=false;simpa [B]using h
def TU (l:List aj)(s:aj):iZ (kn l) (B s)=if s∈l then some (false,[.lit (.bool true)])else none:=by
 induction l with
 |nil=>rfl
 |cons a l ih=>
  show(match(B s==B a)with|true=>some ((false,[SC.lit (.bool true)]):SV)|false=>iZ (kn l) (B s))=_
  grind[ZH]
def pB {l:List aj}{s:aj}(h:s∈l):vj (iZ (kn l) (B s)) (false,[.lit (.bool false)]) false=lit (.bool true):=by rw[TU,if_pos h];rfl
def pC {l:List aj}{s:aj}(h:s∉l):vj (iZ (kn l) (B s)) (false,[.lit (.bool false)]) false=lit (.bool false):=by rw[TU,if_neg h];rfl
def Kg {l:List aj}{s:aj}(h:s∉l):Ar (kn l) (B s) (false,[.lit (.bool true)])=kn (l++[s]):=by
 induction l with
 |nil=>rfl
 |cons a l ih=>
  simp only[cF,not_or]at h
  grind[Ar,kn,ZH]
def take_succ {l:List aj}{i:Nat}(h:i<l.length):l.take (i+1)=l.take i++[l.getD i []]:=by simp_all
noncomputable def _root_.Go.Plain.Pl.xU (p:Pl)(i:Nat):Int:=jp (gQ p.ap i) 0
abbrev kg (r:Rs):List SC:=[T r.test,J r.ans,J r.entry,K r.void]
abbrev tp (g:Gs):List SC:=[J g.h,J g.m,J g.e,J g.y,J g.a]
abbrev cd (e:En):List SC:=[J e.t,T e.lz,T e.text]
abbrev fB (t:Ts):List SC:=[T t.name,J t.kind,.view (ab t.bv),T t.rules,J t.lo,J t.hi]
abbrev mj (q:aj × List aj):List SC:=[T q.1,.view (ab q.2)]
abbrev nh (q:aj × Int):List SC:=[T q.1,J q.2]
abbrev bL (p:Pl):List SC:=[.view (p.ae.map nh),.view (ab p.ap),.view (p.aa.map fB),.view (p.parts.map mj),J p.dY,J p.eH]
def aZ {α:Type}{f:α->List SC}{l:List α}{i:Nat}(h:i<l.length)(d:α):(l.map f)[i]? =some (f (l.getD i d)):=by grind
def VM (x:aj × Int):ac 69 [(true,nh x)] (.one (SS x.1)):=by
 refine sF f69 ?_;exact tL
def QI (p:Pl)(hl:p.ae.length<=1000)(hs: ∀i<p.ae.length,((p.ae.getD i ([],0)).1).length <=1000)
  (hc: ∀i<p.ae.length,ac 70 [I (i:Int),(false,[.ref (bL p)])] (.one (I (if 0<=(p.ae.getD i ([],0)).2/\(p.ae.getD i ([],0)).2<=3 then 0 else 15)))):
  ac 68 [(false,[.view (p.ae.map nh)]),LC 69 [],LC 70 [bL p]] (.aI [I (cR (p.du) p.ae.length).1,I (cR (p.du) p.ae.length).2]):=by
 have Bf:p.ax.length=p.ae.length:=by simp[Pl.ax]
 have hrl:(p.ae.map nh).length =p.ae.length:=by simp
 refine sF f68 ?_
 (try(refine tX 0 ?_;try exact Zt))
 refine af (ι:=Nat) (λi=>i<=p.ae.length/\∀j<i,(p.du) j=0) (λi=>p.ae.length -i) (λi=>⟨[(1,vF 69 []),(2,vF 70 [bL p]),(8,vM 0),(14,some (.val (false,[.st (.view (p.ae.map nh))]))),(15,vI p.ae.length),(16,vI i)],[(0,some (.map (kn (p.ax.take i))))],1⟩) 0 (fA (ks:=[1,2,8,14,15,16]) (m:=[(4,0)]) (n:=1) U1) ⟨dz _,λj hj=>by omega⟩ ?_;rintro i ⟨hi,hp⟩;by_cases al:i<p.ae.length
 ·have he:=aZ (f:=nh) al ([],0);have hgn:p.ax.getD i []=(p.ae.getD i ([],0)).1:=by grind[Pl.ax]
  have wq:=take_succ (l:=p.ax) (i:=i) bw;have hcc:=hc i al;have Pn:=hs i al;have kI:(p.du) i=jp (jp (jF (p.ax.getD i [])) (if p.ax.getD i []∈p.ax.take i then 5 else 0)) (if 0<=(p.ae.getD i ([],0)).2/\(p.ae.getD i ([],0)).2<=3 then 0 else 15):=rfl;have eL:=λ(h:(p.du) i≠0)=>fG (f:=p.du) al hp h;have io:=λ(h:(p.du) i=0)=>all_succ hp h;rw[hgn]at kI wq;have gk:=gg ((p.ae.getD i ([],0)).1) K0;have hnm:=VM (p.ae.getD i ([],0));generalize p.ax.take i=M at*;by_cases h1:jJ ((p.ae.getD i ([],0)).1)
  ·have e1:jF ((p.ae.getD i ([],0)).1)=0:=if_pos h1;rw[e1]at gk;rw[e1,jj]at kI;by_cases h2:(p.ae.getD i ([],0)).1∈M
   ·rw[if_pos h2,eS bX]at kI;have vW:=pB h2;rw[eL bw,kI]
    (try(refine tX 0 ?_;try exact Zt))
    rw[vW];exact K1
   ·rw[if_neg h2,jj]at kI;have vW:=pC h2;have hpk:=Kg h2;by_cases h3:((if 0<=(p.ae.getD i ([],0)).2/\(p.ae.getD i ([],0)).2<=3 then 0 else 15):Int)=0
    ·exact K27
    ·rw[eL ab9,kI]
     (try(refine tX 0 ?_;try exact Zt))
     rw[vW];exact K20
  ·have e1:jF ((p.ae.getD i ([],0)).1)=4:=if_neg h1;rw[e1]at gk;rw[e1,eS (show(4:Int)≠0 by decide),eS (show(4:Int)≠0 by decide)]at kI;rw[eL bw,kI];by_cases h2:(p.ae.getD i ([],0)).1∈M
   ·have vW:=pB h2;exact K4
   ·have vW:=pC h2;exact K4
 ·obtain rfl:i=p.ae.length:=by omega
  rw[gP hp];exact K20
def VN (x:aj):ac 74 [SS x] (.one (SS x)):=by
 refine sF f74 ?_;exact tL
def ZI (i:Int):ac 75 [I i] (.one (I 0)):=by
 refine sF f75 ?_;exact tL
def QJ (p:Pl)(hl:p.ap.length<=1000)(hs: ∀i<p.ap.length,(p.ap.getD i []).length <=1000)
  (hc: ∀i<p.ap.length,ac 75 [I (i:Int)] (.one (I 0))):
  ac 73 [(false,[.view (ab p.ap)]),LC 74 [],LC 75 []] (.aI [I (cR (p.xU) p.ap.length).1,I (cR (p.xU) p.ap.length).2]):=by
 have Bf:p.ap.length=p.ap.length:=rfl;have hrl:(ab p.ap).length =p.ap.length:=by simp
 refine sF f73 ?_
 (try(refine tX 0 ?_;try exact Zt))
 refine af (ι:=Nat) (λi=>i<=p.ap.length/\∀j<i,(p.xU) j=0) (λi=>p.ap.length -i) (λi=>⟨[(1,vF 74 []),(2,vF 75 []),(8,vM 0),(14,some (.val (false,[.st (.view (ab p.ap))]))),(15,vI p.ap.length),(16,vI i)],[(0,some (.map (kn (p.ap.take i))))],1⟩) 0 (fA (ks:=[1,2,8,14,15,16]) (m:=[(4,0)]) (n:=1) U1) ⟨dz _,λj hj=>by omega⟩ ?_;rintro i ⟨hi,hp⟩;by_cases al:i<p.ap.length
 ·have he:=sA al;have hgn:p.ap.getD i []=p.ap.getD i []:=rfl;have wq:=take_succ (l:=p.ap) (i:=i) bw;have hcc:=hc i al;have Pn:=hs i al;have kI:(p.xU) i=jp (jp (jF (p.ap.getD i [])) (if p.ap.getD i []∈p.ap.take i then 5 else 0)) 0:=rfl;have eL:=λ(h:(p.xU) i≠0)=>fG (f:=p.xU) al hp h;have io:=λ(h:(p.xU) i=0)=>all_succ hp h;rw[hgn]at kI wq;have gk:=gg (p.ap.getD i []) K0;have hnm:=VN (p.ap.getD i []);generalize p.ap.take i=M at*;by_cases h1:jJ (p.ap.getD i [])
  ·have e1:jF (p.ap.getD i [])=0:=if_pos h1;rw[e1]at gk;rw[e1,jj]at kI;by_cases h2:p.ap.getD i []∈M
   ·rw[if_pos h2,eS bX]at kI;have vW:=pB h2;rw[eL bw,kI]
    (try(refine tX 0 ?_;try exact Zt))
    rw[vW];exact K1
   ·rw[if_neg h2,jj]at kI;have vW:=pC h2;have hpk:=Kg h2;by_cases h3:(0:Int)=0
    ·exact K27
    ·rw[eL ab9,kI]
     (try(refine tX 0 ?_;try exact Zt))
     rw[vW];exact K20
  ·have e1:jF (p.ap.getD i [])=4:=if_neg h1;rw[e1]at gk;rw[e1,eS (show(4:Int)≠0 by decide),eS (show(4:Int)≠0 by decide)]at kI;rw[eL bw,kI];by_cases h2:p.ap.getD i []∈M
   ·have vW:=pB h2;exact K4
   ·have vW:=pC h2;exact K4
 ·obtain rfl:i=p.ap.length:=by omega
  rw[gP hp];exact K20
def VO (x:Ts):ac 79 [(true,fB x)] (.one (SS x.name)):=by
 refine sF f79 ?_;exact tL
def QK (p:Pl)(re:aj->Int)(hl:p.aa.length<=1000)(hs: ∀i<p.aa.length,((p.aa.getD i dl).name).length <=1000)
  (hc: ∀i<p.aa.length,ac 80 [I (i:Int),(false,[.ref (bL p)])] (.one (I (VK re p.aa i)))):
  ac 78 [(false,[.view (p.aa.map fB)]),LC 79 [],LC 80 [bL p]] (.aI [I (cR (p.gE re) p.aa.length).1,I (cR (p.gE re) p.aa.length).2]):=by
 have Bf:(cU p.aa).length =p.aa.length:=by simp[cU]
 have hrl:(p.aa.map fB).length =p.aa.length:=by simp
 refine sF f78 ?_
 (try(refine tX 0 ?_;try exact Zt))
 refine af (ι:=Nat) (λi=>i<=p.aa.length/\∀j<i,(p.gE re) j=0) (λi=>p.aa.length -i) (λi=>⟨[(1,vF 79 []),(2,vF 80 [bL p]),(8,vM 0),(14,some (.val (false,[.st (.view (p.aa.map fB))]))),(15,vI p.aa.length),(16,vI i)],[(0,some (.map (kn ((cU p.aa).take i))))],1⟩) 0 (fA (ks:=[1,2,8,14,15,16]) (m:=[(4,0)]) (n:=1) U1) ⟨dz _,λj hj=>by omega⟩ ?_;rintro i ⟨hi,hp⟩;by_cases al:i<p.aa.length
 ·have he:=aZ (f:=fB) al dl;have hgn:(cU p.aa).getD i []=(p.aa.getD i dl).name :=rN al;have wq:=take_succ (l:=(cU p.aa)) (i:=i) bw;have hcc:=hc i al;have Pn:=hs i al;have kI:(p.gE re) i=jp (jp (jF ((cU p.aa).getD i [])) (if(cU p.aa).getD i []∈(cU p.aa).take i then 5 else 0)) (VK re p.aa i):=rfl;have eL:=λ(h:(p.gE re) i≠0)=>fG (f:=p.gE re) al hp h;have io:=λ(h:(p.gE re) i=0)=>all_succ hp h;rw[hgn]at kI wq;have gk:=gg ((p.aa.getD i dl).name) K0;have hnm:=VO (p.aa.getD i dl);generalize (cU p.aa).take i=M at*;by_cases h1:jJ ((p.aa.getD i dl).name)
  ·have e1:jF ((p.aa.getD i dl).name)=0:=if_pos h1;rw[e1]at gk;rw[e1,jj]at kI;by_cases h2:(p.aa.getD i dl).name ∈M
   ·rw[if_pos h2,eS bX]at kI;have vW:=pB h2;rw[eL bw,kI]
    (try(refine tX 0 ?_;try exact Zt))
    rw[vW];exact K1
   ·rw[if_neg h2,jj]at kI;have vW:=pC h2;have hpk:=Kg h2;by_cases h3:((VK re p.aa i):Int)=0
    ·exact K27
    ·rw[eL ab9,kI]
     (try(refine tX 0 ?_;try exact Zt))
     rw[vW];exact K20
  ·have e1:jF ((p.aa.getD i dl).name)=4:=if_neg h1;rw[e1]at gk;rw[e1,eS (show(4:Int)≠0 by decide),eS (show(4:Int)≠0 by decide)]at kI;rw[eL bw,kI];by_cases h2:(p.aa.getD i dl).name ∈M
   ·have vW:=pB h2;exact K4
   ·have vW:=pC h2;exact K4
 ·obtain rfl:i=p.aa.length:=by omega
  rw[gP hp];exact K20
def VP (x:aj × List aj):ac 85 [(true,mj x)] (.one (SS x.1)):=by
 refine sF f85 ?_;exact tL
def QL (p:Pl)(hl:p.parts.length<=1000)(hs: ∀i<p.parts.length,((p.parts.getD i ([],[])).1).length <=1000)
  (hc: ∀i<p.parts.length,ac 86 [I (i:Int),(false,[.ref (bL p)])] (.one (I (jS (p.parts.getD i ([],[])).2 (cU p.aa))))):
  ac 84 [(false,[.view (p.parts.map mj)]),LC 85 [],LC 86 [bL p]] (.aI [I (cR (p.jd) p.parts.length).1,I (cR (p.jd) p.parts.length).2]):=by
 have Bf:p.ba.length=p.parts.length:=by simp[Pl.ba]
 have hrl:(p.parts.map mj).length =p.parts.length:=by simp
 refine sF f84 ?_
 (try(refine tX 0 ?_;try exact Zt))
 refine af (ι:=Nat) (λi=>i<=p.parts.length/\∀j<i,(p.jd) j=0) (λi=>p.parts.length -i) (λi=>⟨[(1,vF 85 []),(2,vF 86 [bL p]),(8,vM 0),(14,some (.val (false,[.st (.view (p.parts.map mj))]))),(15,vI p.parts.length),(16,vI i)],[(0,some (.map (kn (p.ba.take i))))],1⟩) 0 (fA (ks:=[1,2,8,14,15,16]) (m:=[(4,0)]) (n:=1) U1) ⟨dz _,λj hj=>by omega⟩ ?_;rintro i ⟨hi,hp⟩;by_cases al:i<p.parts.length
 ·have he:=aZ (f:=mj) al ([],[]);have hgn:p.ba.getD i []=(p.parts.getD i ([],[])).1:=by grind[Pl.ba]
  have wq:=take_succ (l:=p.ba) (i:=i) bw;have hcc:=hc i al;have Pn:=hs i al;have kI:(p.jd) i=jp (jp (jF (p.ba.getD i [])) (if p.ba.getD i []∈p.ba.take i then 5 else 0)) (jS (p.parts.getD i ([],[])).2 (cU p.aa)):=rfl;have eL:=λ(h:(p.jd) i≠0)=>fG (f:=p.jd) al hp h;have io:=λ(h:(p.jd) i=0)=>all_succ hp h;rw[hgn]at kI wq;have gk:=gg ((p.parts.getD i ([],[])).1) K0;have hnm:=VP (p.parts.getD i ([],[]));generalize p.ba.take i=M at*;by_cases h1:jJ ((p.parts.getD i ([],[])).1)
  ·have e1:jF ((p.parts.getD i ([],[])).1)=0:=if_pos h1;rw[e1]at gk;rw[e1,jj]at kI;by_cases h2:(p.parts.getD i ([],[])).1∈M
   ·rw[if_pos h2,eS bX]at kI;have vW:=pB h2;rw[eL bw,kI]
    (try(refine tX 0 ?_;try exact Zt))
    rw[vW];exact K1
   ·rw[if_neg h2,jj]at kI;have vW:=pC h2;have hpk:=Kg h2;by_cases h3:((jS (p.parts.getD i ([],[])).2 (cU p.aa)):Int)=0
    ·exact K27
    ·rw[eL ab9,kI]
     (try(refine tX 0 ?_;try exact Zt))
     rw[vW];exact K20
  ·have e1:jF ((p.parts.getD i ([],[])).1)=4:=if_neg h1;rw[e1]at gk;rw[e1,eS (show(4:Int)≠0 by decide),eS (show(4:Int)≠0 by decide)]at kI;rw[eL bw,kI];by_cases h2:(p.parts.getD i ([],[])).1∈M
   ·have vW:=pB h2;exact K4
   ·have vW:=pC h2;exact K4
 ·obtain rfl:i=p.parts.length:=by omega
  rw[gP hp];exact K20
abbrev jB (u:Un):List SC:=[T u.name,J u.win.k1,J u.win.t1,J u.win.s1,K u.win.r1,J u.win.k2,J u.win.t2,J u.win.s2,K u.win.r2,J u.win.st,.view (ab u.lots),.view (u.res.map kg),K u.failed,K u.rel,K u.shaken,J u.used,.view (u.gas.map tp)]
abbrev tq (s:bV):List SC:=[K s.volt,K s.earth,.view (ab s.opens),T s.hall,.view (ab s.lots),.view (s.units.map jB)]
def cV (u:Un)(a b c:Nat):List DC:=[.st (T u.name),.st (J u.win.k1),.st (J u.win.t1),.st (J u.win.s1),.st (K u.win.r1),.st (J u.win.k2),.st (J u.win.t2),.st (J u.win.s2),.st (K u.win.r2),.st (J u.win.st),.own a,.own b,.st (K u.failed),.st (K u.rel),.st (K u.shaken),.st (J u.used),.own c]
def lC (u:Un)(a b c:Nat):Hp:=[(a,some (.row true 1 (.view (ab u.lots)))),(b,some (.row true 4 (.view (u.res.map kg)))),(c,some (.row true 5 (.view (u.gas.map tp))))]
def ay:Nat->List Un->List (List DC)
 |_,[]=>[]
 |k,u::us=>cV u (17+6*k) (19+6*k) (21+6*k)::ay (k+1) us
def bt:Nat->List Un->Hp
 |_,[]=>[]
 |k,u::us=>lC u (17+6*k) (19+6*k) (21+6*k)++bt (k+1) us
theorem eN: ∀(k:Nat) (us:List Un),(ay k us).length =us.length
 |_,[]=>rfl
 |k,u::us=>by simp[ay,eN (k+1) us]
def vu: ∀ {k:Nat} {us:List Un} {i:Nat} {u:Un},us[i]? =some u->(ay k us)[i]? =some (cV u (17+6*(k+i)) (19+6*(k+i)) (21+6*(k+i)))
 |k,[],i,u,h=>by simp at h
 |k,v::us,0,u,h=>by simp at h;subst h;rfl
 |k,v::us,i+1,u,h=>by
  have:=vu (k:=k+1) (us:=us) (i:=i) (u:=u) bw
  grind[ay]
def Iq: ∀ {k:Nat} {us:List Un} {i:Nat} {u:Un},i<us.length->ay k (us.set i u)=(ay k us).set i (cV u (17+6*(k+i)) (19+6*(k+i)) (21+6*(k+i)))
 |k,[],i,u,h=>by simp at h
 |k,v::us,0,u,h=>rfl
 |k,v::us,i+1,u,h=>by
  have:=Iq (k:=k+1) (us:=us) (i:=i) (u:=u) bw
  grind[ay]
def yZ: ∀(k:Nat) (a b:List Un),bt k (a++b)=bt k a++bt (k+a.length) b
 |k,[],b=>by simp[bt]
 |k,u::a,b=>by
  simp only[qX,bt,yZ (k+1) a b,HB,kH]
  grind
theorem gh: ∀ {k:Nat} {us:List Un} {n:Nat},n∈ah (bt k us)->∃j,k<=j/\j<k+us.length/\(n=17+6*j\/n=19+6*j\/n=21+6*j)
 |k,[],n,h=>by cases h
 |k,u::us,n,h=>by
  have h:n∈(17+6*k)::(19+6*k)::(21+6*k)::ah (bt (k+1) us):=by simpa [bt,lC,ah]using h
  rcases cF.1 h with rfl|h
  ·exact⟨k,dG _,by simp,.inl rfl⟩
  rcases cF.1 h with rfl|h
  ·exact⟨k,dG _,by simp,.inr (.inl rfl)⟩
  rcases cF.1 h with rfl|h
  ·exact⟨k,dG _,by simp,.inr (.inr rfl)⟩
  obtain⟨j,h1,h2,h3⟩:=gh h;exact⟨j,by omega,by grind,h3⟩
theorem y6: ∀(k:Nat) (us:List Un),(ah (bt k us)).Nodup
 |_,[]=>Me
 |k,u::us=>by
  have e:ah (bt k (u::us))=(17+6*k)::(19+6*k)::(21+6*k)::ah (bt (k+1) us):=by exact acs
  have hn: ∀n,n∈ah (bt (k+1) us)->22+6*k<=n:=λn h=>by grind[gh]
  rw[e,Ah,Ah,Ah];refine⟨λh=>?_,λh=>?_,λh=>?_,y6 (k+1) us⟩
  grind
  grind
  grind
theorem uB: ∀ {k:Nat} {us:List Un} {n:Nat} {b:cC},(bt k us).get n=some b->∃m z c,b= .row m z c
 |k,[],n,b,h=>by grind[bt,Hp.get]
 |k,u::us,n,b,h=>by
  have h:Hp.get ((17+6*k,some (.row true 1 (.view (ab u.lots))))::(19+6*k,some (.row true 4 (.view (u.res.map kg))))::(21+6*k,some (.row true 5 (.view (u.gas.map tp))))::bt (k+1) us) n=some b:=h;rw[Hp.au,Hp.au,Hp.au]at h;by_cases h1:n=17+6*k
  grind[an]
  rw[aG _ _ _ h1]at h;by_cases h2:n=19+6*k
  grind[an]
  rw[aG _ _ _ h2]at h;by_cases h3:n=21+6*k
  grind[an]
  rw[aG _ _ _ h3]at h;exact uB h
def fW {us:List Un}(h:us.length<=1000):Cj (bt 0 us):=
 ⟨y6 0 us,λn hn=>by grind[gh],λn b e=>uB e⟩
def wkB (p:Pl)(s:bV):cC:=.box 81 [.st (.view (p.ae.map nh)),.st (.view (ab p.ap)),.st (.view (p.aa.map fB)),.st (.view (p.parts.map mj)),.st (J p.dY),.st (J p.eH),.own 3,.st (K s.volt),.st (K s.earth),.own 5,.st (T s.hall),.own 7,.own 9]
def hd (p:Pl)(log:List En)(s:bV):Hp:=[(1,some (wkB p s)),(3,some (.row true 3 (.view (log.map cd)))),(5,some (.row true 1 (.view (ab s.opens)))),(7,some (.row true 1 (.view (ab s.lots))))]
def form (p:Pl)(log:List En)(s:bV):Hp:=(9,some (.az 17 (ay 0 s.units)))::hd p log s++bt 0 s.units
def ep (p:Pl)(log:List En)(s:bV)(u:Un)(l:List (List DC))(R:Hp):Hp:=(9,some (.az 17 l))::(hd p log s++lC u 11 13 15)++R
def qy (i k:Nat):Nat:=if k=17+6*i then 11 else if k=19+6*i then 13 else if k=21+6*i then 15 else k
def Ir (i k:Nat):Nat:=if k=11 then 17+6*i else if k=13 then 19+6*i else if k=15 then 21+6*i else k
theorem pU {i k:Nat}(h1:k≠17+6*i)(h2:k≠19+6*i)(h3:k≠21+6*i):qy i k=k:=by unfold qy;grind
def aeY (i:Nat):qy i (17+6*i)=11:=by unfold qy;grind
def aeZ (i:Nat):qy i (19+6*i)=13:=by unfold qy;grind
def ae0 (i:Nat):qy i (21+6*i)=15:=by unfold qy;grind
theorem Kh {i k:Nat}(h1:k≠11)(h2:k≠13)(h3:k≠15):Ir i k=k:=by unfold Ir;grind
def ZJ (ρ:Nat->Nat)(u:Un)(a b c:Nat):(cV u a b c).map (DC.rn ρ)=cV u (ρ a) (ρ b) (ρ c):=rfl
theorem qz (ρ:Nat->Nat)(a b:Hp):cT ρ (a++b)=cT ρ a++cT ρ b:=by simp[cT]
theorem vw {ρ:Nat->Nat}: ∀ {k:Nat} {us:List Un},(∀n∈ah (bt k us),ρ n=n)->cT ρ (bt k us)=bt k us
 |k,[],_=>rfl
 |k,u::us,h=>by
  have e:ah (bt k (u::us))=(17+6*k)::(19+6*k)::(21+6*k)::ah (bt (k+1) us):=by exact acs
  rw[e]at h;have h1:=h (17+6*k) (by simp);have h2:=h (19+6*k) (by simp);have h3:=h (21+6*k) (by simp);rw[show bt k (u::us)=lC u (17+6*k) (19+6*k) (21+6*k)++bt (k+1) us from rfl,qz,vw λn hn=>h n bw];congr 1;show [(ρ (17+6*k),_),(ρ (19+6*k),_),(ρ (21+6*k),_)]=_;rw[h1,h2,h3];rfl
def y7 {ρ:Nat->Nat}: ∀ {k:Nat} {us:List Un},(∀n∈ah (bt k us),ρ n=n)->(ay k us).map (λe=>e.map (DC.rn ρ))=ay k us
 |k,[],_=>rfl
 |k,u::us,h=>by
  have e:ah (bt k (u::us))=(17+6*k)::(19+6*k)::(21+6*k)::ah (bt (k+1) us):=by exact acs
  rw[e]at h;have h1:=h (17+6*k) (by simp);have h2:=h (19+6*k) (by simp);have h3:=h (21+6*k) (by simp);rw[show ay k (u::us)=cV u (17+6*k) (19+6*k) (21+6*k)::ay (k+1) us from rfl,ju,y7 λn hn=>h n bw,ZJ,h1,h2,h3]
def vz: ∀(k:Nat) (a b:List Un),ay k (a++b)=ay k a++ay (k+a.length) b
 |k,[],b=>by simp[ay]
 |k,u::a,b=>by
  simp only[qX,ay,vz (k+1) a b,kH]
  grind
def qA {A F' B:Hp}(h: ∀n∈ah F',n∉ah A):Hp.get (A++(F'++B))=Hp.get (F'++(A++B)):=by
 funext n;rw[Hp.get_append,Hp.get_append,Hp.get_append,Hp.get_append,oI,oI,oI,oI]
 grind
theorem bA.congr {C:bS}{f:FuncId}{nx:Nat}{xs:List DX}{Hs Hs2 mq alJ:Hp}{fI:List Nat}{r:DV}(h:bA C f nx xs Hs fI r mq)(e:Hs.get=Hs2.get)(e':mq.get=alJ.get):bA C f nx xs Hs2 fI r alJ:=by
 unfold bA at*
 grind
abbrev av (us:List Un)(i:Nat):Hp:=bt 0 (us.take i)++bt (i+1) (us.drop (i+1))
def qB {us:List Un}{i:Nat}{u:Un}(h:us[i]? =some u):us=us.take i++u::us.drop (i+1)/\(us.take i).length =i:=by grind[List.getElem_cons_drop,List.take_append_drop]
def xh {us:List Un}{i n:Nat}{u:Un}(h:us[i]? =some u)(hn:n∈ah (av us i)):17<=n/\n≠17+6*i/\n≠19+6*i/\n≠21+6*i/\n<23+6*us.length/\n%2=1:=by
 obtain⟨h1,h2⟩:=kF.1 h;have hn:n∈ah (bt 0 (us.take i))++ah (bt (i+1) (us.drop (i+1))):=by grind
 grind[gh]
def VQ {us:List Un}{i:Nat}{u:Un}(h:us[i]? =some u):(ay 0 us).map (λe=>e.map (DC.rn (qy i)))=(ay 0 us).set i (cV u 11 13 15):=by
 obtain⟨h1,h2⟩:=qB h;generalize us.take i=A at*;generalize us.drop (i+1)=B at*;subst h1;rw[vz,Aj,h2,j9];rw[show ay i (u::B)=cV u (17+6*i) (19+6*i) (21+6*i)::ay (i+1) B from rfl,ju,ZJ,aeY,aeZ,ae0];rw[y7 λn hn=>by grind[gh,pU]];rw[y7 λn hn=>by grind[gh,pU]];rw[SD _ _ (by grind[eN]),eN,h2,HI,SQ]
def VR {us:List Un}{i:Nat}{u':Un}(h:i<us.length):((ay 0 us).set i (cV u' 11 13 15)).map (λe=>e.map (DC.rn (Ir i)))=ay 0 (us.set i u'):=by
 rw[Tb,y7 λn hn=>by grind[gh,Kh],Iq h,j9];rfl
def ZK {us:List Un}{i:Nat}{u:Un}(h:us[i]? =some u):cT (qy i) (bt 0 us)=bt 0 (us.take i)++(lC u 11 13 15++bt (i+1) (us.drop (i+1))):=by
 obtain⟨h1,h2⟩:=qB h;generalize us.take i=A at*;generalize us.drop (i+1)=B at*;subst h1;rw[yZ,h2,j9,qz,show bt i (u::B)=lC u (17+6*i) (19+6*i) (21+6*i)++bt (i+1) B from rfl,qz];rw[vw λn hn=>by grind[gh,pU]];rw[vw λn hn=>by grind[gh,pU]];congr 2;show [(qy i (17+6*i),_),(qy i (19+6*i),_),(qy i (21+6*i),_)]=_;rw[aeY,aeZ,ae0];rfl
def ZL {us:List Un}{i:Nat}{u u':Un}(h:us[i]? =some u):bt 0 (us.set i u')=bt 0 (us.take i)++(lC u' (17+6*i) (19+6*i) (21+6*i)++bt (i+1) (us.drop (i+1))):=by
 obtain⟨h1,h2⟩:=qB h;generalize us.take i=A at*;generalize us.drop (i+1)=B at*;subst h1;rw[SD _ _ K0,h2,HI,SQ,yZ,h2,j9];rfl
def lV: ∀ {k:Nat} {us:List Un} {e:List DC},e∈ay k us->∀d∈e,d.dQ (· ∈ah (bt k us))
 |k,[],e,h=>by cases h
 |k,u::us,e,h=>by
  have hk:ah (bt k (u::us))=(17+6*k)::(19+6*k)::(21+6*k)::ah (bt (k+1) us):=by exact acs
  rw[hk];rcases cF.1 h with rfl|h
  ·intro d hd;exact K96
  ·intro d hd;exact DC.dN (λn hn=>by grind) (lV h d hd)
theorem Is {k:Nat}(h:k%2=1)(h':k<4294967296):tag k=0:=by grind[J1]
def qC (p:Pl)(log:List En)(s:bV):ah (form p log s)=9::1::3::5::7::ah (bt 0 s.units):=by simp[form,hd,ah]
def xi (p:Pl)(log:List En)(s:bV)(u:Un)(l:List (List DC))(R:Hp):ah (ep p log s u l R)=9::1::3::5::7::11::13::15::ah R:=by simp[ep,hd,lC,ah]
def ak7 {L R:List Nat}(h:L.Nodup)(h':R.Nodup)(hL: ∀k∈L,k<17)(hR: ∀k∈R,17<=k):(L++R).Nodup :=by grind
def cN (p:Pl)(log:List En){s:bV}(h:s.units.length<=1000):LB (form p log s) 1:=by
 have hk:=qC p log s;have hr: ∀n∈ah (bt 0 s.units),17<=n/\n<4294967296/\n%2=1:=(fW h).key;refine⟨?_,λk qU=>?_,λk b e=>?_,⟨_,_,rfl⟩⟩
 grind[y6]
 grind[Is]
 ·rw[hk];unfold form hd at e;simp only[qX,Md]at e;rw[Hp.au,Hp.au,Hp.au,Hp.au,Hp.au]at e;by_cases h9:k=9
  ·subst h9;rw[an]at e;cases e;exact λx hx d hd=>DC.dN (λn hn=>by grind) (lV hx d hd)
  rw[aG _ _ _ h9]at e;by_cases h1:k=1
  ·exact K87
  rw[aG _ _ _ h1]at e;by_cases h3:k=3
  ·exact aj9
  rw[aG _ _ _ h3]at e;by_cases h5:k=5
  ·exact aj7
  rw[aG _ _ _ h5]at e;by_cases h7:k=7
  ·exact aj8
  rw[aG _ _ _ h7]at e;obtain⟨m,z,c,rfl⟩:=uB e;trivial
def vA {us:List Un}{i:Nat}{u:Un}(h:us[i]? =some u)(X:List DC):(ay 0 us).set i X=ay 0 (us.take i)++X::ay (i+1) (us.drop (i+1)):=by
 obtain⟨h1,h2⟩:=qB h;generalize us.take i=A at*;generalize us.drop (i+1)=B at*;subst h1;rw[vz,h2,j9,SD _ _ (by grind[eN]),eN,h2,HI];rfl
def oc (p:Pl)(log:List En)(s:bV){us:List Un}{i:Nat}{u u':Un}(hi:us[i]? =some u)(h:us.length<=1000):LB (ep p log s u' ((ay 0 us).set i (cV u' 11 13 15)) (av us i)) 1:=by
 have hk:=xi p log s u' ((ay 0 us).set i (cV u' 11 13 15)) (av us i);have hr:=λn (hn:n∈ah (av us i))=>xh hi hn;refine⟨?_,λk qU=>?_,λk b e=>?_,⟨_,_,rfl⟩⟩
 ·rw[hk];refine ak7 (L:=[9,1,3,5,7,11,13,15]) bX ?_ bX λk hk=>(hr k hk).1;have hn:=y6 0 us;obtain⟨h1,h2⟩:=qB hi;have e:ah (bt 0 us)=ah (bt 0 (us.take i))++(ah (lC u (17+6*i) (19+6*i) (21+6*i))++ah (bt (i+1) (us.drop (i+1)))):=ahH;rw[e]at hn;have e2:ah (av us i)=ah (bt 0 (us.take i))++ah (bt (i+1) (us.drop (i+1))):=by grind
  show(ah (av us i)).Nodup;rw[e2];rw[LZ]at hn ⊢
  grind
 ·rw[hk]at qU;simp only[cF]at qU;rcases qU with rfl|rfl|rfl|rfl|rfl|rfl|rfl|rfl|h'
  ·decide
  ·decide
  ·decide
  ·decide
  ·decide
  ·decide
  ·decide
  ·decide
  grind[Is]
 ·rw[hk];unfold ep hd lC at e;simp only[qX,Md]at e;rw[Hp.au,Hp.au,Hp.au,Hp.au,Hp.au,Hp.au,Hp.au,Hp.au]at e;by_cases h9:k=9
  ·subst h9;rw[an]at e;cases e;have up: ∀ {n:Nat},n∈ah (av us i)->n∈9::1::3::5::7::11::13::15::ah (av us i):=λhn=>by grind
   intro x hx d hd;rw[vA hi]at hx;rcases ig.1 hx with hx|hx
   ·exact DC.dN (λn hn=>up bw) (lV hx d hd)
   rcases cF.1 hx with rfl|hx;rotate_left
   ·exact DC.dN (λn hn=>up bw) (lV hx d hd)
   ·exact K96
  rw[aG _ _ _ h9]at e;by_cases h1:k=1
  ·exact K87
  rw[aG _ _ _ h1]at e;by_cases h3:k=3
  ·exact aj9
  rw[aG _ _ _ h3]at e;by_cases h5:k=5
  ·exact aj7
  rw[aG _ _ _ h5]at e;by_cases h7:k=7
  ·exact aj8
  rw[aG _ _ _ h7]at e;by_cases h11:k=11
  ·subst h11;rw[an]at e;cases e;trivial
  rw[aG _ _ _ h11]at e;by_cases h13:k=13
  ·subst h13;rw[an]at e;cases e;trivial
  rw[aG _ _ _ h13]at e;by_cases h15:k=15
  ·subst h15;rw[an]at e;cases e;trivial
  rw[aG _ _ _ h15]at e;rw[Hp.get_append,oI]at e;split at e
  ·exact aj3
  ·exact aj3
def It {X L L':Hp}(h:L.get=L'.get):(X++L).get =(X++L').get :=by grind[Hp.get_append]
def ZM (p:Pl)(log:List En){s:bV}{i:Nat}{u:Un}(h:s.units[i]? =some u):(cT (qy i) (form p log s)).get =(ep p log s u ((ay 0 s.units).set i (cV u 11 13 15)) (av s.units i)).get :=by
 have h3:qy i 3=3:=pU K0 K0 K0;have h5:qy i 5=5:=pU K0 K0 K0;have h7:qy i 7=7:=pU K0 K0 K0;have h9:qy i 9=9:=pU K0 K0 K0;have h1:qy i 1=1:=pU K0 K0 K0
 have e:cT (qy i) (form p log s)=((9,some (.az 17 ((ay 0 s.units).set i (cV u 11 13 15))))::hd p log s)++(bt 0 (s.units.take i)++(lC u 11 13 15++bt (i+1) (s.units.drop (i+1)))):=by
  unfold form;rw[qz,ZK h];congr 1;show [(qy i 9,some (cC.az 17 ((ay 0 s.units).map λe=>e.map (DC.rn (qy i))))),(qy i 1,some (.box _ [_,_,_,_,_,_,.own (qy i 3),_,_,.own (qy i 5),_,.own (qy i 7),.own (qy i 9)])),(qy i 3,_),(qy i 5,_),(qy i 7,_)]=_;rw[VQ h,h1,h3,h5,h7,h9];rfl
 rw[e,show ep p log s u ((ay 0 s.units).set i (cV u 11 13 15)) (av s.units i)=((9,some (.az 17 ((ay 0 s.units).set i (cV u 11 13 15))))::hd p log s)++(lC u 11 13 15++av s.units i)by simp[ep]];refine It (qA λn hn hm=>?_);obtain⟨j,q1,q2,q3⟩:=gh hm;have:n=11\/n=13\/n=15:=by simpa [lC,ah]using hn
 omega
theorem No (p:Pl)(log:List En)(s:bV){us:List Un}{i:Nat}{u u':Un}(h:us[i]? =some u)(hs:s.units=us.set i u'):(cT (Ir i) (ep p log s u' ((ay 0 us).set i (cV u' 11 13 15)) (av us i))).get =(form p log s).get :=by
 have al:=(kF.1 h).1
 have e:cT (Ir i) (ep p log s u' ((ay 0 us).set i (cV u' 11 13 15)) (av us i))=((9,some (.az 17 (ay 0 s.units)))::hd p log s)++(lC u' (17+6*i) (19+6*i) (21+6*i)++av us i):=by
  have e1:cT (Ir i) (av us i)=av us i:=by grind[qz,vw,gh,Kh]
  have e2:cT (Ir i) ((9,some (cC.az 17 ((ay 0 us).set i (cV u' 11 13 15))))::(hd p log s++lC u' 11 13 15))=((9,some (.az 17 (ay 0 s.units)))::hd p log s)++lC u' (17+6*i) (19+6*i) (21+6*i):=by
   show(9,some (cC.az 17 (((ay 0 us).set i (cV u' 11 13 15)).map λe=>e.map (DC.rn (Ir i)))))::_=_;rw[VR al,hs];rfl
  show cT (Ir i) (((9,some (cC.az 17 ((ay 0 us).set i (cV u' 11 13 15))))::(hd p log s++lC u' 11 13 15))++av us i)=_
  grind[qz]
 rw[e,show form p log s=((9,some (.az 17 (ay 0 s.units)))::hd p log s)++bt 0 s.units by simp[form],hs,ZL h];refine It (qA λn hn hm=>?_).symm;obtain⟨j,q1,q2,q3⟩:=gh hm;have:n=17+6*i\/n=19+6*i\/n=21+6*i:=by simpa [lC,ah]using hn
 grind
def focus {f:FuncId}{ys:List SV}{p:Pl}{log sB:List En}{s s':bV}{i:Nat}{u u':Un}{y:SV}(hi:s.units[i]? =some u)(hl:s.units.length<=1000)
  (h:bA cx f 1 ((false,[.ptr 1 0])::ys.map dyn) (ep p log s u ((ay 0 s.units).set i (cV u 11 13 15)) (av s.units i)) [1] (.val (dyn y)) (ep p sB s' u' ((ay 0 s.units).set i (cV u' 11 13 15)) (av s.units i)))
  (hs:s'.units=s.units.set i u'):bA cx f 1 ((false,[.ptr 1 0])::ys.map dyn) (form p log s) [1] (.val (dyn y)) (form p sB s'):=by
 have hk:=qC p log s;have hT:=cN p log hl;have eP:=oc p sB s' (u':=u') hi hl;have gC: ∀n∈ah (bt 0 s.units),17<=n:=λn hn=>by grind[gh]
 have anT: ∀k∈ah (form p log s),k≠11/\k≠13/\k≠15:=λk qU=>by grind
 have alB: ∀a∈ah (form p log s),∀b∈ah (form p log s),qy i a=qy i b->a=b:=λa ha b hb e=>by grind[qy]
 have alR: ∀k∈ah (ep p sB s' u' ((ay 0 s.units).set i (cV u' 11 13 15)) (av s.units i)),k≠17+6*i/\k≠19+6*i/\k≠21+6*i:=λk qU=>by exact K95
 have ahq: ∀a∈ah (ep p sB s' u' ((ay 0 s.units).set i (cV u' 11 13 15)) (av s.units i)),∀b∈ah (ep p sB s' u' ((ay 0 s.units).set i (cV u' 11 13 15)) (av s.units i)),Ir i a=Ir i b->a=b:=λa ha b hb e=>by grind[Ir]
 have f1:qy i 1=1:=pU K0 K0 K0;have u1:Ir i 1=1:=Kh K0 K0 K0
 have Cv:((false,[DC.ptr 1 0])::ys.map dyn).map (GR (qy i))=(false,[.ptr 1 0])::ys.map dyn:=by
  rw[ju,Ak];refine congr (aP List.cons ?_) ?_
  ·show(false,[DC.ptr (qy i 1) 0])=_;rw[f1]
  ·refine LW λx _=>?_;show((dyn x).1,(dyn x).2.map (DC.rn (qy i)))=dyn x;exact afQ
 have g1:bA cx f 1 (((false,[DC.ptr 1 0])::ys.map dyn).map (GR (qy i))) (cT (qy i) (form p log s)) [1] (.val (dyn y)) (ep p sB s' u' ((ay 0 s.units).set i (cV u' 11 13 15)) (av s.units i)):=by rw[Cv];exact bA.congr h (ZM p log hi).symm rfl
 have Pw: ∀x∈((false,[DC.ptr 1 0])::ys.map dyn),ec (· ∈ah (form p log s)) x:=by
  intro x hx;rcases cF.1 hx with rfl|hx
  ·intro d hd;rw[mA]at hd;subst hd;show(1:Nat)∈ah _
   grind
  ·obtain⟨z,_,rfl⟩:=dC.1 hx;exact afL
 have g2:=g1.inn (nx0:=1) (nf.hp hT alB) (λo b e=>⟨Hp.dU e,by rw[jQ alB o (Hp.dU e),e];rfl⟩) (λk qU=>by
   have h1:=(hT.lt k qU).2
   have:tag (qy i k)=0:=by
    unfold qy;split
    ·rfl
    ·split
     ·rfl
     ·split
      ·rfl
      grind
   omega) Pw (λid hid=>by grind)
 have g3:=g2.out (nf.hp eP ahq) (by
   show lH _ (.val (dyn y));intro d hd;obtain⟨c,_,rfl⟩:=dC.1 hd
   trivial) (λid hid=>by rw[mA]at hid;subst hid;exact⟨eP.xW,u1⟩)
 have hr:LA (Ir i) (.val (dyn y))= .val (dyn y):=by
  show DV.val ((dyn y).1,(dyn y).2.map (DC.rn (Ir i)))=_;exact afQ
 grind[bA.congr,No]
def lW (l:List aj)(x:aj):ab (l++[x])=ab l++[[.lit (.string (B x))]]:=by simp
def kY (n m:Int)(h: -9223372036854775807<=m/\m<=9223372036854775807):ac 128 [I n,I m] (.one (Bo (decide (-m<=n)&&decide (n<=m)))):=by
 refine sF f128 ?_;exact K1
def kZ (k:Int):ac 126 [I k] (.one (Bo (decide (sI k)))):=by
 refine sF f126 ?_;repeat' ((first|refine tX 0 ?_|exact Zt|refine bR ?_ ?_<;>intro h)<;>(try conv=>whnf))
 all_goals exact gS (by rw[vY];simp;unfold sI;omega)
def Iw (l all:List aj)(hl:l.length<=1000)(ha:all.length<=1000):ac 87 [V1 l,V1 all] (.one (I (jS l all))):=by
 have hn:(ab l).length =l.length:=by simp
 refine sF f87 ?_
 (try(refine tX 0 ?_;try exact Zt))
 refine af (ι:=Nat) (λi=>i<=l.length/\∀j<i,Ez l all j=0) (λi=>l.length -i) (λi=>⟨[(0,some (.val (false,[.st (.view (ab l))]))),(1,some (.val (false,[.st (.view (ab all))]))),(8,some (.val (false,[.st (.view (ab l))]))),(9,vI l.length),(10,vI i)],[],0⟩) 0 (ai P3) ⟨dz _,λj hj=>by omega⟩ ?_;rintro i ⟨hi,hp⟩;by_cases al:i<l.length
 ·have he:=sA al;have kI:Ez l all i=if l.getD i []∈all then(if l.getD i []∈l.take i then 23 else 0)else 6:=rfl
  have eL:=λ(h:Ez l all i≠0)=>fG (f:=Ez l all) al hp h;have io:=λ(h:Ez l all i=0)=>all_succ hp h;have hra:jS l all=(cR (Ez l all) l.length).2:=rfl;have c1:=bG all (l.getD i []) K0;have c2:=bG (l.take i) (l.getD i []) wY;have z6:(ab l).take i=ab (l.take i):=by simp
  generalize l.getD i []=s at*;by_cases h1:s∈all
  ·rw[fh h1]at c1;rw[if_pos h1]at kI;by_cases h2:s∈l.take i
   ·rw[fh h2]at c2;rw[if_pos h2]at kI;rw[hra,eL afZ,kI];exact tA
   ·rw[eJ h2]at c2;rw[if_neg h2]at kI;repeat' ((first|refine tX 0 ?_|exact Zt|refine bR ?_ ?_<;>intro h)<;>(try conv=>whnf))
    all_goals first|exact Zo|exact⟨i+1,⟨al,io kI⟩,by omega,Zc⟩
  ·rw[eJ h1]at c1;rw[if_neg h1]at kI;rw[hra,eL afZ,kI];by_cases h2:s∈l.take i
   ·rw[fh h2]at c2;exact K97
   ·rw[eJ h2]at c2;exact K97
 ·obtain rfl:i=l.length:=by omega
  have hra:jS l all=0:=by unfold jS;rw[gP hp]
  rw[hra];exact tA
def uC (l:List Ts)(hl:l.length<=1000):ac 88 [(false,[.view (l.map fB)])] (.own 1 (.view (ab (cU l)))):=by
 have hn:(l.map fB).length =l.length:=by simp
 have Bf:(cU l).length =l.length:=by simp[cU]
 refine sF f88 ?_
 (try(refine tX 0 ?_;try exact Zt))
 refine af (ι:=Nat) (λi=>i<=l.length) (λi=>l.length -i) (λi=>⟨[(3,pO 0),(6,some (.val (false,[.st (.view (l.map fB))]))),(7,vI l.length),(8,vI i)],[(0,some (.row true 1 (.view (ab ((cU l).take i)))))],1⟩) 0 (bu.trans (jz 3 1 (.view []) bX rfl rfl rfl) (ai P3)) (dz _) ?_;intro i hi;by_cases al:i<l.length
 ·have he:=aZ (f:=fB) al dl;have wq:=take_succ (l:=cU l) (i:=i) K0;rw[rN al]at wq;have wu:(ab ((cU l).take i)).length <=1000:=by simp;omega
  repeat' ((first|refine tX 0 ?_|exact Zt|refine bR ?_ ?_<;>intro h)<;>(try conv=>whnf))
  all_goals first|exact Zo|exact⟨i+1,al,by omega,ai ab1⟩
 ·obtain rfl:i=l.length:=by omega
  rw[pc K0];exact tA
def adj (fn:Func)(r:DV)(T':Hp)(S:St):Prop:=∃m:List (Nat × Nat),cZ m S.hp.get T'.get/\eu cx S.hp.get S.env.get fn.results.toList λys=>∃zs,kV m ys=some zs/\pv zs=r
def gR {f:FuncId}{c:Code}{xs:List DX}{r:DV}{T':Hp}(fn:Func)(h:m9 cx c ⟨iz 0 xs,[],1⟩ (adj fn r T') (λ_ _=>False) (adj fn r T'))
  (h1:iI cx.P f=true:=by kernel_rfl)(h2:cx.P.funcs[f]? =some fn:=by kernel_rfl)(h3:fn.body=some c:=by rfl)(h4:bQ fn.ntmps c=true:=by kernel_rfl)(h5:xs.length<=fn.ntmps:=by exact fM rfl)(h6:aJ [] c=true:=by kernel_rfl):
  bA cx f 1 xs [] [] r T':=
 fw kz h1 h2 h3 h4 h5 [] (λ_ h=>by cases h) h6 (λS hS=>by
  obtain⟨m,g1,g2⟩:=hS
  exact⟨m,g1,(λ_ h=>by cases h),g2⟩) h
def IG (H:HF):cZ [] H (Hp.get []):=⟨by simp,by simp,λn b' e=>by simp[Hp.get]at e⟩
def We (es:List (List SC))(H:Hp)(fid:Nat):bI cx fid 151 [(false,[.st (.view es)])] H.get (bh (.st (.fn 195 [] [[.view es]]))) [] []:=by
 refine mw (nx:=1) (T':=[]) (r:=bh (.st (.fn 195 [] [[.view es]]))) ?_ ⟨by simp,(λk hk=>by cases hk),(λk b e=>by simp[Hp.get]at e)⟩ (λx hx=>?_) (λd hd=>?_)
 ·refine gR f151 ?_
  (try(refine tX 0 ?_;try exact Zt))
  exact⟨[],IG _,_,rfl,rfl⟩
 ·rw[mA]at hx;subst hx;exact K84
 ·rw[mA]at hd;subst hd;trivial
def agw {l:List Rs}{j:Nat}(h:j<l.length):(l.map kg).getD (l.length -1 -j) []=kg (l.reverse.getD j AC):=by
 have h1:l.length -1 -j<l.length:=by omega
 simp[jX,h,h1,List.getElem?_reverse]
def Wf {l:List Rs}{t:aj}(h: ∀j,j<l.length->sY t (l.reverse.getD j AC)=false):iO l t=none:=by
 unfold iO;rw[List.find?_eq_none];intro x hx;obtain⟨j,hj,rfl⟩:=SO hx;have:=h j (by simpa using hj);rw[jX,o8 hj,vX]at this;rw[this];decide
def Wg {l:List Rs}{t:aj}{i:Nat}(hi:i<l.length)(h: ∀j,j<i->sY t (l.reverse.getD j AC)=false)(hh:sY t (l.reverse.getD i AC)=true):iO l t=some (l.reverse.getD i AC):=by
 have lA:i<l.reverse.length:=by simpa using hi
 unfold iO;rw[List.find?_eq_some_iff_getElem];have e:l.reverse.getD i AC=l.reverse[i]:=by rw[jX,o8 lA,vX]
 refine⟨hh,i,lA,e.symm,λj hj=>?_⟩;have:=h j hj;rw[jX,o8 K0,vX]at this;rw[this];rfl
def NV (c0 c1 c2 c3 c4 c5 c6 c7 c8 c9 c10:SC)(res:List Rs)(tl:List SC)(t:aj)(hl:res.length<=1000000):
  ac 125 [(false,[.ref (c0::c1::c2::c3::c4::c5::c6::c7::c8::c9::c10:: .view (res.map kg)::tl)]),SS t] (.aI [(true,kg ((iO res t).getD AC)),Bo (iO res t).isSome]):=by
 have hit:=adc (res.map kg) af2 (λe he=>by obtain⟨r,_,rfl⟩:=dC.1 he;rfl);rw[jf]at hit;refine sF f125 ?_;refine aS ?_;(refine aR ?_;conv=>whnf);(try(refine tX 2 ?_;try exact Zt));refine aS ?_;refine aM ?_;(refine aR ?_;conv=>whnf);repeat((first|(refine kO 7 rfl ?_;first|refine Rh (We _ _ _) ?_)|refine tX 2 ?_|exact Zt);(try conv=>whnf))
 refine⟨⟨[(3,pP 0),(4,pP 1),(5,pP 2),(12,some (.val (false,[.st (.fn 195 [] [[.view (res.map kg)]])])))],
  [(0,some (.box 9 [.st (T t)])),(1,some (.box 115 [.st (T []),.st (J 0),.st (J 0),.st (K false)])),(2,some (.box 4 [.st (K false)]))],3⟩,Zc,?_⟩
 refine aB ?_
 refine aF rfl _ (λ_=>[(0,some (.box 9 [.st (T t)])),(1,some (.box 115 [.st (T []),.st (J 0),.st (J 0),.st (K false)])),(2,some (.box 4 [.st (K false)]))]) 3
  (λi=>∀j,j<i->sY t (res.reverse.getD j AC)=false) hit (λr hr=>by obtain⟨c,_,rfl⟩:=dC.1 hr;rfl) dy (λ_=>rfl) (bu.refl _) (λj hj=>by omega) ?_ ?_
 ·intro i r hr Pz;have hi:i<res.length:=by have:=(kF.1 hr).1;simpa using this
  rw[gA,List.getElem?_range hi,ya,lM,agw hi]at hr;subst hr;have e1:sY t (res.reverse.getD i AC)=true->iO res t=some (res.reverse.getD i AC):=λh=>Wg hi Pz h
  have e2:sY t (res.reverse.getD i AC)=false->∀j,j<i+1->sY t (res.reverse.getD j AC)=false:=λh j hj=>by
   rcases C7.1 hj with h'|rfl
   ·exact Pz j h'
   ·exact h
  generalize res.reverse.getD i AC=r at e1 e2;show m9 cx _ ⟨(14,_)::(13,_)::_,_,_⟩ _ _ _
  (refine aR ?_;conv=>whnf)
  repeat' ((first|refine tX 0 ?_|exact Zt|refine bR ?_ ?_<;>intro h)<;>(try conv=>whnf))
  ·rename_i h1;have hh:sY t r=true:=by unfold sY;simp[h1,h]
   rw[e1 hh];exact⟨[(0,some (.box 9 [.st (T t)])),(1,some (.box 115 ((kg r).map .st))),(2,some (.box 4 [.st (K true)]))],3,by kernel_rfl,Zc,rfl⟩
  ·rename_i h1;have hh:sY t r=false:=by unfold sY;simp at h;simp[h1,h]
   exact⟨e2 hh,Zc⟩
  ·have hh:sY t r=false:=by unfold sY;simp[h]
   exact⟨e2 hh,Zc⟩
 ·intro Pz;rw[jf,List.length_range]at Pz;rw[Wf Pz];conv=>whnf
  exact K1
def pH (n lo hi:Int):ac 219 [I n,I lo,I hi] (.one (Bo (decide (lo<=n)&&decide (n<=hi)))):=by
 refine sF f219 ?_;repeat' ((first|refine tX 0 ?_|exact Zt|refine bR ?_ ?_<;>intro h)<;>(try conv=>whnf))
 all_goals exact gS wY
def Wh (b:Bool)(e:Int):ac 218 [Bo b,I e] (.one (I (if b=true then 0 else e))):=by
 refine sF f218 ?_
 (try(refine tX 0 ?_;try exact Zt))
 cases b
 ·exact K1
 ·exact K1
def AM {b:Bool}{p:Prop} [BP b p] [Decidable p](e:Int):ac 218 [Bo b,I e] (.one (I (if p then 0 else e))):=by
 have h:=Wh b e;exact afx
def E6 (l:List Int)(hl:l.length<=1000000):ac 216 [(false,[.ints l])] (.one (I (fs l))):=by
 have hd: ∀i,i<l.length->fs (l.drop i)=if l.getD i 0≠0 then l.getD i 0 else fs (l.drop (i+1)):=λi hi=>by exact ah1
 refine sF f216 ?_
 (try(refine tX 0 ?_;try exact Zt))
 refine af (ι:=Nat) (λi=>i<=l.length/\fs (l.drop i)=fs l) (λi=>l.length -i) (λi=>⟨[(5,some (.val (false,[.st (.ints l)]))),(6,vI l.length),(7,vI i)],[],0⟩) 0 Zc ⟨dz _,rfl⟩ ?_;rintro i ⟨hi,he⟩;by_cases al:i<l.length
 ·have h1:=hd i al;by_cases hz:l.getD i 0=0
  ·rw[if_neg K0]at h1;exact K59
  ·rw[if_pos hz]at h1;repeat' ((first|refine tX 0 ?_|exact Zt|refine bR ?_ ?_<;>intro h)<;>(try conv=>whnf))
   all_goals first
    |(exfalso;omega)
    |exact mH K0
 ·exact K51
abbrev wdC (w:PX):List SC:=[J w.k,J w.t,J w.s,K w.r]
abbrev Wi (w:Win):List SC:=[J w.k1,J w.t1,J w.s1,K w.r1,J w.k2,J w.t2,J w.s2,K w.r2,J w.st]
def Oa (s:aj)(c:UInt8):ac 245 [SS s,SS [c]] (.one (Bo (decide (s.head?=some c)))):=by
 cases s with
 |nil=>
  refine sF f245 ?_;exact tL
 |cons a r=>
  refine sF f245 ?_;repeat' ((first|refine tX 0 ?_|exact Zt|refine bR ?_ ?_<;>intro h)<;>(try conv=>whnf))
  all_goals first|(exfalso;simp only[kH,Ai]at h;omega)|(exact gS (by simp))
def Q4 (s:aj)(c:UInt8):ac 215 [SS s,SS [c]] (.one (Bo (decide (s.head?=some c)))):=by
 have h:=Oa s c;refine sF f215 ?_;exact tL
def AN (s:aj)(l:UInt8)(a b c:Int):ac 214 [(true,[T [l],J a,J b,J c]),(false,[.ref [T s]])] (.one (Bo (decide (s.head?=some l)))):=by
 have h:=Q4 s l;refine sF f214 ?_;exact tL
def adl (s:aj):Int:=if s.head?=some 121 then 0 else if s.head?=some 100 then 1 else if s.head?=some 122 then 2 else -1
def Wj (s:aj):adl s=if lK (s.getD 0 0).toNat =3 then(-1:Int)else((lK (s.getD 0 0).toNat :Nat):Int):=by
 cases s with
 |nil=>rfl
 |cons a r=>
  have h1:(a=121)↔a.toNat=121:=⟨λh=>by rw[h];rfl,λh=>HE.1 h⟩;have h2:(a=100)↔a.toNat=100:=⟨λh=>by rw[h];rfl,λh=>HE.1 h⟩;have h3:(a=122)↔a.toNat=122:=⟨λh=>by rw[h];rfl,λh=>HE.1 h⟩;show(if some a=some 121 then(0:Int)else if some a=some 100 then 1 else if some a=some 122 then 2 else -1)=if lK a.toNat=3 then(-1:Int)else((lK a.toNat:Nat):Int)
  grind[lK]
def alb:List (List SC):=[[T [121],J 1,J (-1),J 0],[T [100],J 1,J 0,J 0],[T [122],J 1,J (-2),J 1]]
def Q5 (s:aj):ac 213 [(false,[.view alb]),(false,[.fn 214 [] [[T s]]])] (.one (I (adl s))):=by
 have c0:=AN s 121 1 (-1) 0;have c1:=AN s 100 1 0 0;have c2:=AN s 122 1 (-2) 1;unfold adl;by_cases h0:s.head?=some 121
 ·rw[fh h0]at c0;rw[if_pos h0];refine sF f213 ?_
  (try(refine tX 0 ?_;try exact Zt))
  refine aA ?_;exact tL
 rw[eJ h0]at c0;rw[if_neg h0];by_cases h1:s.head?=some 100
 ·rw[fh h1]at c1;rw[if_pos h1];refine sF f213 ?_;exact K91
 rw[eJ h1]at c1;rw[if_neg h1];by_cases h2:s.head?=some 122
 ·rw[fh h2]at c2;rw[if_pos h2];refine sF f213 ?_
  (try(refine tX 0 ?_;try exact Zt))
  refine aA ?_;exact K91
 ·rw[eJ h2]at c2;rw[if_neg h2];refine sF f213 ?_
  (try(refine tX 0 ?_;try exact Zt))
  refine aA ?_
  (try(refine tX 0 ?_;try exact Zt))
  refine aA ?_;exact K91
def Z9 {s:aj}{d:Nat}(hd:d<=18){n:Int}(h:wN false d s=some n):s.length<=d:=by
 obtain⟨h0,h9⟩:=iA h;have h3:=(fV hd h0).2.2.1;have hs:=qx h0
 cases s with
 |nil=>simp
 |cons a r=>
  grind[Ek]
def mP (s:aj)(hl:s.length<=1000000): ∃v,ac 172 [SS s] (.aI [I v,Bo (wN false 4 s).isSome])/\∀n,wN false 4 s=some n->n=v:=by
 by_cases e8: ∀v,Lib.atoiAll s≠ .ok v
 ·obtain⟨v,c1⟩:=pD s hl e8
  have e:wN false 4 s=none:=by
   cases h:wN false 4 s with
   |none=>rfl
   |some n=>exact absurd (fV bX (iA h).1).1 (e8 n)
  rw[e];refine⟨v,?_,λn h=>by cases h⟩;refine sF f172 ?_;exact tL
 ·simp only[ne_eq,SL,L8]at e8;obtain⟨v,hv⟩:=e8;have h4:=SE hv;have c1:=uE s hl hv;have c2:=uD v h4
  have hn: ∀n,wN false 4 s=some n->n=v:=λn h=>by
   have:=(fV bX (iA h).1).1
   grind
  have key:(wN false 4 s).isSome =decide ((0<=v/\Lib.itoa v=s)/\s.length<=4):=by
   rw[vY,wX];constructor
   ·intro h;obtain⟨n,e⟩:=qW.1 h;obtain rfl:=hn n e;have h9:=(iA e).2;exact⟨⟨by grind,(fV bX (iA e).1).2.1⟩,Z9 bX e⟩
   ·rintro⟨⟨h1,h2⟩,h3⟩;have h5:=vn (d:=4) (n:=v) (by grind[Zy]);rw[h2]at h5;unfold wN;simp_all
  refine⟨v,?_,hn⟩;rw[key];by_cases hp:Lib.itoa v=s
  ·rw[hp]at c2;have e2:decide ((0<=v/\Lib.itoa v=s)/\s.length<=4)=decide (0<=v/\s.length<=4):=by grind
   rw[e2];refine sF f172 ?_;repeat' ((first|refine tX 0 ?_|exact Zt|refine bR ?_ ?_<;>intro h)<;>(try conv=>whnf))
   all_goals first|exact Zo|(exact mI afF)|(exact mI (eJ K0).symm)|(exact absurd rfl h)
  ·have e2:decide ((0<=v/\Lib.itoa v=s)/\s.length<=4)=false:=by grind
   rw[e2];generalize Lib.itoa v=y at*;refine sF f172 ?_;exact tL
def aaa (s:aj):ac 213 [(false,[.raw (.slice (some ⟨1,0,none⟩) 3 3)]),(false,[.fn 214 [] [[T s]]])] (.one (I (adl s))):=
 acP (es:=alb) (g:=1) (z:=4) (cap:=3) (cs:=[.lit (.string ⟨#[121]⟩),.lit (.int .i64 1),.lit (.int .i64 (-1)),.lit (.int .i64 0),.lit (.string ⟨#[100]⟩),.lit (.int .i64 1),.lit (.int .i64 0),.lit (.int .i64 0),.lit (.string ⟨#[122]⟩),.lit (.int .i64 1),.lit (.int .i64 (-2)),.lit (.int .i64 1)])
  (Q5 s) rfl (jH (i:=1) dy) bX bX bX bX (λi e j x he hx=>by
   have hi:=(kF.1 he).1
   match i,hi with
   |0,_=>cases he;have hj:=(kF.1 hx).1;match j,hj with|0,_=>exact hx|1,_=>exact hx|2,_=>exact hx|3,_=>exact hx
   |1,_=>cases he;have hj:=(kF.1 hx).1;match j,hj with|0,_=>exact hx|1,_=>exact hx|2,_=>exact hx|3,_=>exact hx
   |2,_=>cases he;have hj:=(kF.1 hx).1;match j,hj with|0,_=>exact hx|1,_=>exact hx|2,_=>exact hx|3,_=>exact hx)
def agx {a b c:Int}{x y p q:Bool}(h:x=y)(k:p=q):mc.aI [(true,[J a,J b,J c,K x]),Bo p]= .aI [(true,[J a,J b,J c,K y]),Bo q]:=by grind
def b45 (c:Nat):(((c:Nat):Int)==45)=decide (c=45):=by grind
def zi (s:aj)(hl:s.length<=1000000): ∃w:PX,ac 171 [SS s] (.aI [(true,wdC w),Bo (AL s).isSome])/\∀v,AL s=some v->v=w:=by
 have cp:=aaa s;rw[Wj]at cp;by_cases hb:BW s
 ·have e:AL s=none:=if_pos hb;rw[e];refine⟨⟨0,0,0,false⟩,?_,λv h=>by cases h⟩;unfold BW at hb;by_cases h3:lK (s.getD 0 0).toNat =3
  ·rw[if_pos h3]at cp;refine sF f171 ?_;exact tL
  ·rw[if_neg h3]at cp;generalize lK (s.getD 0 0).toNat =k at*;by_cases h2:s.length<2
   ·refine sF f171 ?_;exact tL
   ·refine sF f171 ?_;exact aiV
 ·have e:AL s=(vq (s.drop 2)).map λp=>⟨(lK (s.getD 0 0).toNat :Nat),p.2,p.1,decide ((s.getD 1 0).toNat =45)⟩:=if_neg hb;rw[e];unfold BW at hb;have h3:lK (s.getD 0 0).toNat ≠3:=by omega
  rw[if_neg h3]at cp;have hdl:(s.drop 2).length <=s.length:=by simp
  generalize lK (s.getD 0 0).toNat =k at*;have c1:=gT (s.drop 2) 47 K0
  rcases vp (s.drop 2) 47 with⟨h1,h2⟩|⟨a,b,h1,h2,h4,h5⟩
  ·rw[h1]at c1;obtain⟨v,c2,_⟩:=mP (s.drop 2) K0;obtain⟨u,c3,_⟩:=mP [] (by simp);have e2:vq (s.drop 2)=none:=yU h2;rw[e2];have e3:(wN false 4 []).isSome =false:=rfl;rw[e3]at c3;refine⟨⟨k,u,v,decide ((s.getD 1 0).toNat =45)⟩,?_,λp hp=>by cases hp⟩;generalize (wN false 4 (s.drop 2)).isSome =x at*;refine sF f171 ?_;repeat' ((first|refine tX 0 ?_|exact Zt|refine bR ?_ ?_<;>intro h)<;>(try conv=>whnf))
   all_goals first|exact Zo|(revert h;cases x<;>first|(intro _;exact agx (b45 _) rfl)|(intro h;exact absurd h (by decide)))
  ·rw[h1]at c1;obtain⟨v,c2,k2⟩:=mP a K0;obtain⟨u,c3,k3⟩:=mP b K0;have e2:vq (s.drop 2)=(wN false 4 a).bind λx=>(wN false 4 b).map λy=>(x,y):=yV (c:=47) (λs=>Kc (.inl rfl)) h2;rw[e2];refine⟨⟨k,u,v,decide ((s.getD 1 0).toNat =45)⟩,?_,λp hp=>?_⟩
   ·rw[SZ,oM.1];clear e2 k2 k3;generalize (wN false 4 a).isSome =x at*;generalize (wN false 4 b).isSome =y at*;refine sF f171 ?_;repeat' ((first|refine tX 0 ?_|exact Zt|refine bR ?_ ?_<;>intro h)<;>(try conv=>whnf))
    all_goals first|exact Zo|(revert h;cases x<;>cases y<;>first|(intro _;exact agx (b45 _) rfl)|(intro h;exact absurd h bX))
   ·obtain⟨z,hz,rfl⟩:=m7.1 hp;obtain⟨h5,h6⟩:=oM.2 z hz
    grind
def mQ (b:Bool)(d:Nat)(hd:d<=18)(s:aj)(hl:s.length<=1000000): ∃v,ac 122 [SS s,I d,Bo b] (.aI [I v,Bo (wN b d s).isSome])/\∀n,wN b d s=some n->n=v:=by
 by_cases e8: ∀v,Lib.atoiAll s≠ .ok v
 ·obtain⟨v,c1⟩:=pD s hl e8
  have e:wN b d s=none:=by
   cases h:wN b d s with
   |none=>rfl
   |some n=>exact absurd (fV hd (iA h).1).1 (e8 n)
  rw[e];refine⟨v,?_,λn h=>by cases h⟩;cases b
  all_goals
   refine sF f122 ?_;exact K34
 ·simp only[ne_eq,SL,L8]at e8;obtain⟨v,hv⟩:=e8;have h4:=SE hv;have c1:=uE s hl hv;have c2:=uD v h4;have c3:=k5 s [45]
  have hn: ∀n,wN b d s=some n->n=v:=λn h=>by
   have:=(fV hd (iA h).1).1;rw[hv]at this;cases this;rfl
  have key:(wN b d s).isSome =decide ((Lib.itoa v=s/\(b=true\/0<=v))/\(Lib.trimPrefix s [45]).length <=d):=by
   rw[vY,wX];constructor
   ·intro h;obtain⟨n,e⟩:=qW.1 h;obtain rfl:=hn n e;obtain⟨h5,h6⟩:=iA e;have h7:=fV hd h5;exact⟨⟨h7.2.1,h6⟩,h7.2.2.1⟩
   ·rintro⟨⟨h2,h1⟩,h3⟩;have h5:=vn (d:=d) (n:=v) (by rw[h2];exact h3);exact ais
  refine⟨v,?_,hn⟩;rw[key];clear key hn;generalize Lib.trimPrefix s [45]=u at*;by_cases hp:Lib.itoa v=s
  ·rw[hp]at c2;have e2:decide ((Lib.itoa v=s/\(b=true\/0<=v))/\u.length<=d)=decide ((b=true\/0<=v)/\u.length<=d):=by simp[hp]
   rw[e2];cases b
   all_goals
    refine sF f122 ?_;repeat' ((first|refine tX 0 ?_|exact Zt|refine bR ?_ ?_<;>intro h)<;>(try conv=>whnf))
    all_goals first|exact Zo|(exact absurd rfl h)|(exact mI afF)|(exact mI wY)|(exact mI (by simp<;>fail ""))|(exact mI (by rw[vY];simp only[wX,tE,false_or,true_or,Do];omega))|(exact absurd rfl h)
  ·have e2:decide ((Lib.itoa v=s/\(b=true\/0<=v))/\u.length<=d)=false:=by simp[hp]
   rw[e2];clear e2;generalize Lib.itoa v=y at*;cases b
   all_goals
    refine sF f122 ?_;exact ahT
def s6 (s:aj)(i:Nat):Prop:=∀j<i,32<=(s.getD j 0).toNat /\(s.getD j 0).toNat <=126
def kD (s:aj)(hl:s.length<=1000000):ac 60 [SS s] (.one (Bo (decide (aU s)))):=by
 have hb:=vt s;refine sF f60 ?_
 (try(refine tX 0 ?_;try exact Zt))
 refine af (ι:=Nat) (λi=>i<=s.length/\s6 s i) (λi=>s.length -i) (λi=>⟨[(6,some (.val (false,[.st (.view (kS (B s)))]))),(7,vI s.length),(8,vI i)],[],0⟩) 0 (ai ab5) ⟨dz _,λj hj=>by omega⟩ ?_;rintro i ⟨hi,hp⟩;by_cases al:i<s.length
 ·have hg:=Kf al;have dm: ¬(32<=(s.getD i 0).toNat /\(s.getD i 0).toNat <=126)->¬aU s:=λh hh=>h (hh i al)
  have l6:32<=(s.getD i 0).toNat /\(s.getD i 0).toNat <=126->s6 s (i+1):=λh j hj=>by
   rcases C7.1 hj with h'|rfl
   ·exact hp j h'
   ·exact h
  have Gq:((s.getD i 0).toNat :Int)<=255:=by exact U3
  generalize (s.getD i 0).toNat =c at*;repeat' ((first|refine tX 0 ?_|exact Zt|refine bR ?_ ?_<;>intro h)<;>(try conv=>whnf))
  all_goals first
   |(exfalso;omega)
   |exact gS (eJ (dm K0)).symm
   |exact⟨i+1,⟨al,l6 K0⟩,by omega,Zc⟩
 ·obtain rfl:i=s.length:=by omega
  repeat' ((first|refine tX 0 ?_|exact Zt|refine bR ?_ ?_<;>intro h)<;>(try conv=>whnf))
  all_goals first
   |(exfalso;omega)
   |exact gS (fh (show aU s from hp)).symm
def rY (s:aj)(n:Nat)(hl:s.length<=1000000)(h1:1<=n)(hn:n<=1000000):ac 120 [SS s,SS [32],I n] (.own 1 (.view (ab (Jg n s 32)))):=Q3 abQ dy dy QN s 32 n hl h1 hn
def gB {f:FuncId}{c:Code}{T:TypeId}{cs xO:List SC}{ys:List SV}{y:SV}(fn:Func)(h:m9 cx c ⟨iz 0 ((false,[.ptr 1 0])::ys.map dyn),[(1,some (.box T (cs.map .st)))],1⟩ (acV cx fn T xO y) (λ_ _=>False) (acV cx fn T xO y))
  (h1:iI cx.P f=true:=by kernel_rfl)(h2:cx.P.funcs[f]? =some fn:=by kernel_rfl)(h3:fn.body=some c:=by rfl)(h4:bQ fn.ntmps c=true:=by kernel_rfl)(h5:ys.length+1<=fn.ntmps:=by exact fM rfl)(h6:aJ [0] c=true:=by kernel_rfl):
  bA cx f 1 ((false,[.ptr 1 0])::ys.map dyn) [(1,some (.box T (cs.map .st)))] [1] (.val (dyn y)) [(1,some (.box T (xO.map .st)))]:=akG kz h1 h2 h3 h4 h5 h6 h
def Ox (b:Bool)(s:aj)(hl:s.length<=1000000): ∃v,ac 265 [SS s,Bo b] (.aI [I v,Bo (wN b 13 s).isSome])/\∀n,wN b 13 s=some n->n=v:=by
 by_cases e8: ∀v,Lib.atoiAll s≠ .ok v
 ·obtain⟨v,c1⟩:=pD s hl e8
  have e:wN b 13 s=none:=by
   cases h:wN b 13 s with
   |none=>rfl
   |some n=>exact absurd (fV bX (iA h).1).1 (e8 n)
  rw[e];refine⟨v,?_,λn h=>by cases h⟩;cases b
  all_goals
   refine sF f265 ?_;exact K34
 ·simp only[ne_eq,SL,L8]at e8;obtain⟨v,hv⟩:=e8;have h4:=SE hv;have c1:=uE s hl hv;have c2:=uD v h4;have c3:=k5 s [45]
  have hn: ∀n,wN b 13 s=some n->n=v:=λn h=>by
   have:=(fV bX (iA h).1).1;rw[hv]at this;cases this;rfl
  have key:(wN b 13 s).isSome =decide ((Lib.itoa v=s/\(b=true\/0<=v))/\(Lib.trimPrefix s [45]).length <=13):=by
   rw[vY,wX];constructor
   ·intro h;obtain⟨n,e⟩:=qW.1 h;obtain rfl:=hn n e;obtain⟨h5,h6⟩:=iA e;have h7:=fV bX h5;exact⟨⟨h7.2.1,h6⟩,h7.2.2.1⟩
   ·rintro⟨⟨h2,h1⟩,h3⟩;have h5:=vn (d:=13) (n:=v) (by rw[h2];exact h3);exact ais
  refine⟨v,?_,hn⟩;rw[key];clear key hn;generalize Lib.trimPrefix s [45]=u at*;by_cases hp:Lib.itoa v=s
  ·rw[hp]at c2;have e2:decide ((Lib.itoa v=s/\(b=true\/0<=v))/\u.length<=13)=decide ((b=true\/0<=v)/\u.length<=13):=by simp[hp]
   rw[e2];cases b
   all_goals
    refine sF f265 ?_;repeat' ((first|refine tX 0 ?_|exact Zt|refine bR ?_ ?_<;>intro h)<;>(try conv=>whnf))
    all_goals first|exact Zo|(exact mI afF)|(exact mI wY)|(exact absurd rfl h)
  ·have e2:decide ((Lib.itoa v=s/\(b=true\/0<=v))/\u.length<=13)=false:=by simp[hp]
   rw[e2];clear e2;generalize Lib.itoa v=y at*;cases b
   all_goals
    refine sF f265 ?_;exact ahT
def gi (b:Bool)(s:aj)(hl:s.length<=1000000): ∃v,(∀fl:Bool,bA cx 222 1 ((false,[.ptr 1 0])::[SS s,Bo b].map dyn) [(1,some (.box 291 ([K fl].map .st)))] [1] (.val (dyn (I v))) [(1,some (.box 291 ([K (fl || !(wN b 13 s).isSome)].map .st)))])/\∀n,wN b 13 s=some n->n=v:=by
 obtain⟨v,c1,k1⟩:=Ox b s hl;refine⟨v,λfl=>?_,k1⟩;generalize (wN b 13 s).isSome =x at*;cases fl<;>cases x
 all_goals
  refine gB f222 ?_;repeat' ((first|refine tX 0 ?_|exact Zt|refine bR ?_ ?_<;>intro h)<;>(try conv=>whnf))
  all_goals exact⟨rfl,rfl,_,rfl,rfl⟩
abbrev G5 (h m e y a:Int):SV:=(true,[J h,J m,J e,J y,J a])
abbrev A3 (a b c:Int):SV:=(true,[J a,J b,J c])
abbrev A2 (a b:Int):SV:=(true,[J a,J b])
def gok (h m e y a:Int):Prop:=((0<=h/\h<=1000000)/\(0<=m/\m<=1000000))/\(0<=e/\e<=1000000)/\(0<=y/\y<=1000000)/\0<=a/\a<=1000000
instance (h m e y a:Int):Decidable (gok h m e y a):=by unfold gok;infer_instance
def WG (h m e y a:Int):Int:=if gok h m e y a then 0 else 2
def Ul {h m e y a:Int}(n: ¬gok h m e y a):WG h m e y a=2:=if_neg n
def KP {h m e y a:Int}(n:gok h m e y a):WG h m e y a=0:=if_pos n
def mS (n lo hi:Int):ac 53 [I n,I lo,I hi] (.one (Bo (decide (lo<=n)&&decide (n<=hi)))):=by
 refine sF f53 ?_;repeat' ((first|refine tX 0 ?_|exact Zt|refine bR ?_ ?_<;>intro h)<;>(try conv=>whnf))
 all_goals exact gS wY
section
variable (h m e y a:Int)
def wc (i:Nat):Prop:=(0<i->0<=h/\h<=1000000)/\(1<i->0<=m/\m<=1000000)/\(2<i->0<=e/\e<=1000000)/\(3<i->0<=y/\y<=1000000)/\(4<i->0<=a/\a<=1000000)
theorem Fu:ac 39 [G5 h m e y a] (.one (I (WG h m e y a))):=by
 refine sF f39 ?_
 (try(refine tX 0 ?_;try exact Zt))
 refine af (ι:=Nat) (λi=>i<=5/\wc h m e y a i) (λi=>5 -i) (λi=>⟨[(15,some (.val (true,[.st (J h),.st (J m),.st (J e),.st (J y),.st (J a)]))),(16,vI i)],[],0⟩) 0 Zc ⟨by omega,by unfold wc;omega⟩ ?_;rintro i ⟨hi,hp⟩;unfold wc at hp;rcases(show i=0\/i=1\/i=2\/i=3\/i=4\/i=5 by omega)with rfl|rfl|rfl|rfl|rfl|rfl;all_goals repeat' ((first|refine tX 0 ?_|exact Zt|refine bR ?_ ?_<;>intro h)<;>(try conv=>whnf))
 all_goals first
  |exact mH (Ul Yp).symm
  |exact mH (KP Yp).symm
  |exact⟨0+1,⟨by omega,by unfold wc;omega⟩,by omega,Zc⟩
  |exact⟨1+1,⟨by omega,by unfold wc;omega⟩,by omega,Zc⟩
  |exact⟨2+1,⟨by omega,by unfold wc;omega⟩,by omega,Zc⟩
  |exact⟨3+1,⟨by omega,by unfold wc;omega⟩,by omega,Zc⟩
  |exact⟨4+1,⟨by omega,by unfold wc;omega⟩,by omega,Zc⟩
theorem Hc:ac 210 [G5 h m e y a] (.one (I (WG h m e y a))):=by
 refine sF f210 ?_;repeat((first|(refine kO 7 rfl ?_;first|refine Rq (mS _ _ _) ?_)|refine tX 0 ?_|exact Zt);(try conv=>whnf))
 refine af (ι:=Nat) (λi=>i<=5/\wc h m e y a i) (λi=>5 -i) (λi=>⟨[(3,pO 0),(4,vI i)],[(0,some (.row true 1 (.ints [h,m,e,y,a])))],1⟩) 0 Zc ⟨by omega,by unfold wc;omega⟩ ?_;rintro i ⟨hi,hp⟩;unfold wc at hp;rcases(show i=0\/i=1\/i=2\/i=3\/i=4\/i=5 by omega)with rfl|rfl|rfl|rfl|rfl|rfl;all_goals repeat' ((first|(refine kO 7 rfl ?_;first|refine Rq (mS _ _ _) ?_)|refine tX 0 ?_|exact Zt|refine bR ?_ ?_<;>intro h)<;>(try conv=>whnf))
 all_goals try simp only[L6,SN]at*
 all_goals first
  |exact mH (Ul Yp).symm
  |exact mH (KP Yp).symm
  |exact⟨0+1,⟨by omega,by unfold wc;omega⟩,by omega,Zc⟩
  |exact⟨1+1,⟨by omega,by unfold wc;omega⟩,by omega,Zc⟩
  |exact⟨2+1,⟨by omega,by unfold wc;omega⟩,by omega,Zc⟩
  |exact⟨3+1,⟨by omega,by unfold wc;omega⟩,by omega,Zc⟩
  |exact⟨4+1,⟨by omega,by unfold wc;omega⟩,by omega,Zc⟩
end
def B5 (d t:Int):Prop:=(0<=d/\d<=200)/\0<=t/\t<=100000
instance (d t:Int):Decidable (B5 d t):=by unfold B5;infer_instance
def xy (d t:Int):Int:=if B5 d t then(if d<80 then 0 else 2^((d -80)/6).toNat *t)else 0
def WH (d t:Int):Int:=if B5 d t then 0 else 2
def aaJ {k:Nat}(hk:k<=20):(1:Int)<=2^k/\(2:Int)^k<=1048576:=by
 have h1:(2:Nat)^k<=2^20:=X0 K0 hk;have h2:0< (2:Nat)^k:=Nat.pow_pos K0;have e:((2^k:Nat):Int)=(2:Int)^k:=by simp
 omega
def xz {k:Nat}{t:Int}(hk:k<=20)(ht:0<=t/\t<=100000):0<=2^k*t/\2^k*t<=104857600000:=by
 obtain⟨h1,h2⟩:=aaJ hk;refine⟨De K0 ht.1,?_⟩
 calc 2^k*t<=1048576*t:=XI h2 ht.1
  _<=104857600000:=by omega
def aaK (d t:Int)(hn: ¬B5 d t):ac 24 [I d,I t] (.aI [I 0,I 2]):=by
 unfold B5 at hn;refine sF f24 ?_;exact tA
def WI (d t:Int)(hg:B5 d t)(hd:d<80):ac 24 [I d,I t] (.aI [I 0,I 0]):=by
 unfold B5 at hg;refine sF f24 ?_;exact tA
def Rv (d t:Int)(hg:B5 d t)(hd: ¬d<80):ac 24 [I d,I t] (.aI [I (2^((d -80)/6).toNat *t),I 0]):=by
 unfold B5 at hg;obtain⟨b1,b2⟩:=xz (k:=((d -80)/6).toNat) (t:=t) K0 hg.2
 have e:IntKind.i64.wrap (t*2^min ((d -80)/6).toNat IntKind.i64.bits)=2^((d -80)/6).toNat *t:=by
  rw[show min ((d -80)/6).toNat IntKind.i64.bits=((d -80)/6).toNat by show min _ 64=_;omega,Int.mul_comm];exact i64_in _ K0
 have hq:0<=(d -80)/6:=by omega
 refine sF f24 ?_;repeat' ((first|refine tX 0 ?_|exact Zt|refine bR ?_ ?_<;>intro h)<;>(try conv=>whnf))
 all_goals first|exact Zo|skip
 rw[e]
def WJ (d t:Int)(hn: ¬B5 d t):ac 209 [I d,I t] (.aI [I 0,I 2]):=by
 unfold B5 at hn;exact ahE
def Rx (d t:Int)(hg:B5 d t)(hd:d<80):ac 209 [I d,I t] (.aI [I 0,I 0]):=by
 unfold B5 at hg;exact ahE
def OI (d t:Int)(hg:B5 d t)(hd: ¬d<80):ac 209 [I d,I t] (.aI [I (2^((d -80)/6).toNat *t),I 0]):=by
 unfold B5 at hg;obtain⟨b1,b2⟩:=xz (k:=((d -80)/6).toNat) (t:=t) K0 hg.2;refine sF f209 ?_;repeat((first|(refine kO 7 rfl ?_;first|refine Rq (mS _ _ _) ?_)|refine tX 0 ?_|exact Zt);(try conv=>whnf))
 refine af (ι:=Nat) (λi=>(i:Int)<=(d -80)/6) (λi=>((d -80)/6).toNat -i) (λi=>⟨[(0,vI d),(1,vI t),(6,vI (2^i)),(7,vI i)],[],0⟩) 0 Zc (by simp only[Int.natCast_zero];omega) ?_;intro i hi;have hp:=aaJ (k:=i) K0;by_cases al:(i:Int)< (d -80)/6
 ·have e:(2:Int)^(i+1)=2*2^i:=by rw[Int.pow_succ];omega
  repeat' ((first|refine tX 0 ?_|exact Zt|refine bR ?_ ?_<;>intro h)<;>(try conv=>whnf))
  all_goals first|exact Zo|exact⟨i+1,by omega,by omega,ai (by rw[e];kernel_rfl)⟩
 ·obtain rfl:i=((d -80)/6).toNat :=by omega
  exact tA
def IU (d t:Int):ac 24 [I d,I t] (.aI [I (xy d t),I (WH d t)]):=by
 unfold xy WH;by_cases h:B5 d t
 ·rw[if_pos h,if_pos h];by_cases hd:d<80
  ·rw[if_pos hd];exact WI d t h hd
  ·rw[if_neg hd];exact Rv d t h hd
 ·rw[if_neg h,if_neg h];exact aaK d t h
def Ry (d t:Int):ac 209 [I d,I t] (.aI [I (xy d t),I (WH d t)]):=by
 unfold xy WH;by_cases h:B5 d t
 ·rw[if_pos h,if_pos h];by_cases hd:d<80
  ·rw[if_pos hd];exact Rx d t h hd
  ·rw[if_neg hd];exact OI d t h hd
 ·rw[if_neg h,if_neg h];exact WJ d t h
end Go.Proofs.Tryz
namespace Go.Proofs.Tryz
open Go.Fw Go.Plain
def vV {α:Type}{C:bS}{d:Nat}{t:TypeId}{f:α->List SC}{q:α->Prop}(hf: ∀e,sV C d t e->∃a,e=f a/\q a): ∀ {es:List (List SC)},(∀e∈es,sV C d t e)->∃l:List α,es=l.map f/\∀a∈l,q a
 | [],_=>⟨[],rfl,by simp⟩
 |e::es,h=>by
  obtain⟨a,rfl,ha⟩:=hf e (h e je);obtain⟨l,rfl,hl⟩:=vV hf λe he=>h e (jt _ he);refine⟨a::l,rfl,λb hb=>?_⟩;rcases cF.1 hb with rfl|hb
  ·exact ha
  ·exact hl b hb
def xD {d:Nat}{xs:List SC}(h:sV cx (d+1) 9 xs): ∃s:aj,xs= [T s]/\s.length<=maxLen:=by
 obtain⟨s,e1,h1⟩:=acM (by rfl) (by rfl) h;exact⟨s.data.toList,by rw[e1,T,acR],by simpa using h1⟩
def uZ {d:Nat}{xs:List SC}(h:sV cx (d+1) 3 xs): ∃n:Int,xs= [J n]/\qd n:=by
 obtain⟨n,e1,h1⟩:=acL (by rfl) (by rfl) h;exact⟨n,e1,h1⟩
def Ll {d:Nat}{xs:List SC}(h:sV cx (d+2) 23 xs): ∃l:List aj,xs= [.view (ab l)]/\l.length<=maxLen:=by
 obtain⟨es,rfl,hl,hes⟩:=uq (by rfl) (by rfl) (by rfl) h;obtain⟨l,rfl,_⟩:=vV (f:=λs:aj=>[T s]) (λe he=>xD he) hes;exact⟨l,rfl,by simpa using hl⟩
def R0 {d:Nat}{xs:List SC}(h:sV cx (d+2) 69 xs): ∃q:aj × Int,xs=nh q/\qd q.2:=by
 obtain⟨p1,q1,e1,h1,p2,q2,e2,h2,e3⟩:=lT (by rfl) (by rfl) h;obtain⟨s,rfl,_⟩:=xD h1;obtain⟨n,rfl,hn⟩:=uZ h2;exact⟨(s,n),by rw[e1,e2,e3];rfl,hn⟩
def Xd {d:Nat}{xs:List SC}(h:sV cx (d+2) 71 xs): ∃a b:Int,xs= [J a,J b]:=by
 obtain⟨p1,q1,e1,h1,p2,q2,e2,h2,e3⟩:=lT (by rfl) (by rfl) h;obtain⟨a,rfl,_⟩:=uZ h1;obtain⟨b,rfl,_⟩:=uZ h2;exact⟨a,b,by rw[e1,e2,e3];rfl⟩
def abp {d:Nat}{xs:List SC}(h:sV cx (d+3) 73 xs): ∃t:Ts,xs=fB t/\t.bv.length<=maxLen:=by
 obtain⟨p1,q1,e1,h1,p2,q2,e2,h2,p3,q3,e3,h3,p4,q4,e4,h4,p5,q5,e5,h5,e6⟩:=lT (by rfl) (by rfl) h;obtain⟨nm,rfl,_⟩:=xD h1;obtain⟨k,rfl,_⟩:=uZ h2;obtain⟨nd,rfl,hl⟩:=Ll h3;obtain⟨ru,rfl,_⟩:=xD h4;obtain⟨a,b,rfl⟩:=Xd h5;exact⟨⟨nm,k,nd,ru,a,b⟩,by rw[e1,e2,e3,e4,e5,e6];rfl,hl⟩
def abq {d:Nat}{xs:List SC}(h:sV cx (d+3) 76 xs): ∃q:aj × List aj,xs=mj q/\q.2.length<=maxLen:=by
 obtain⟨p1,q1,e1,h1,p2,q2,e2,h2,e3⟩:=lT (by rfl) (by rfl) h;obtain⟨s,rfl,_⟩:=xD h1;obtain⟨l,rfl,hl⟩:=Ll h2;exact⟨(s,l),by rw[e1,e2,e3];rfl,hl⟩
def I5 {d:Nat}{xs:List SC}(h:sV cx (d+2) 51 xs): ∃e:En,xs=cd e/\qd e.t:=by
 obtain⟨p1,q1,e1,h1,p2,q2,e2,h2,p3,q3,e3,h3,e4⟩:=lT (by rfl) (by rfl) h;obtain⟨n,rfl,hn⟩:=uZ h1;obtain⟨a,rfl,_⟩:=xD h2;obtain⟨b,rfl,_⟩:=xD h3;exact⟨⟨n,a,b⟩,by rw[e1,e2,e3,e4];rfl,hn⟩
def amY (p:Pl):Prop:=(p.ae.length<=9223372036854775807/\p.ap.length<=9223372036854775807/\p.aa.length<=9223372036854775807/\p.parts.length<=9223372036854775807)/\(∀t∈p.aa,t.bv.length<=9223372036854775807)/\∀q∈p.parts,q.2.length<=9223372036854775807
def Bb {d:Nat}{x:SV}(h:w9 cx (d+5) 27 x): ∃p:Pl,x=(true,bL p)/\amY p:=by
 obtain⟨e,h1⟩:=M5 rfl rfl h;obtain⟨p1,q1,e1,h1,p2,q2,e2,h2,p3,q3,e3,h3,p4,q4,e4,h4,p5,q5,e5,h5,p6,q6,e6,h6,e7⟩:=lT (by rfl) (by rfl) h1;obtain⟨es1,rfl,hl1,anf⟩:=uq (by rfl) (by rfl) (by rfl) h1;obtain⟨pe,rfl,_⟩:=vV (f:=nh) (λe he=>R0 he) anf;obtain⟨ga,rfl,hl2⟩:=Ll h2;obtain⟨es3,rfl,hl3,anb⟩:=uq (by rfl) (by rfl) (by rfl) h3;obtain⟨te,rfl,ht⟩:=vV (f:=fB) (λe he=>abp he) anb;obtain⟨es4,rfl,hl4,anl⟩:=uq (by rfl) (by rfl) (by rfl) h4;obtain⟨pa,rfl,hp⟩:=vV (f:=mj) (λe he=>abq he) anl;obtain⟨sh,rfl,_⟩:=uZ h5;obtain⟨li,rfl,_⟩:=uZ h6;refine⟨⟨pe,ga,te,pa,sh,li⟩,by rw[e,e1,e2,e3,e4,e5,e6,e7];rfl,⟨by rw[jf]at hl1;exact hl1,hl2,by rw[jf]at hl3;exact hl3,by rw[jf]at hl4;exact hl4⟩,ht,hp⟩
def Lm {d:Nat}{x:SV}(h:w9 cx (d+3) 28 x): ∃l:List En,x=(false,[.view (l.map cd)])/\l.length<=maxLen/\∀e∈l,qd e.t:=by
 obtain⟨e,h1⟩:=M4 rfl rfl h;obtain⟨es,e1,hl,hes⟩:=uq (by rfl) (by rfl) (by rfl) h1;obtain⟨l,rfl,hq⟩:=vV (f:=cd) (λe he=>I5 he) hes;exact⟨l,by rw[e,e1],by simpa using hl,hq⟩
def ad9 {d:Nat}{x:SV}(h:w9 cx (d+2) 51 x): ∃e:En,x=(true,cd e):=by
 obtain⟨e,h1⟩:=M5 rfl rfl h;obtain⟨a,e1,_⟩:=I5 h1;exact⟨a,by rw[e,e1]⟩
def TF {d:Nat}{x:SV}(h:w9 cx (d+1) 3 x): ∃n,x=I n:=by
 obtain⟨e,h1⟩:=M4 rfl rfl h;obtain⟨n,e1,_⟩:=uZ h1;exact⟨n,by rw[e,e1]⟩
def Bc {α:Type}{l:List α}{i:Nat}(h:i<l.length)(d:α):l.getD i d∈l:=by rw[jX,o8 h];exact pd h
end Go.Proofs.Tryz
