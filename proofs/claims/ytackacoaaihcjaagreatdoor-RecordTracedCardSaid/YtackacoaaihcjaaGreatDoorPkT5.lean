import Derived.Test.YtackacoaaihcjaaGreatDoorPkT2
import Derived.IntWalk
set_option linter.all false
set_option maxRecDepth 100000
set_option maxHeartbeats 8000000
namespace Go.Proofs.Tryz
open Go.Fw Go.IntWalk Go.Plain
def Qc (s:aj)(hl:s.length<=1000000):ad 92 [SS s] (.one (Bo (decide (eK s)))):=by
 have hb:=uU s;refine sF f92 ?_
 (try(refine tX 0 ?_;try exact Zt))
 refine af (ι:=Nat) (λi=>i<=s.length/\P9 s i) (λi=>s.length -i) (λi=>⟨[(0,lS s),(7,some (.val (false,[.st (.view (kP (B s)))]))),(8,vI s.length),(9,vI i)],[],0⟩) 0 (ai abO) ⟨dC _,λj hj=>by omega⟩ ?_;rintro i ⟨hi,hp⟩;by_cases ak:i<s.length
 ·have hg:=JQ ak;have dx:=λh=>Qa (s:=s) (i:=i) ak h;have ma:=λh=>Ag (s:=s) (i:=i) hp h;have FL:((s.getD i 0).toNat :Int)<=255:=by exact UG
  unfold okc at dx ma;generalize (s.getD i 0).toNat =c at*;repeat' ((first|refine tX 0 ?_|exact Zt|refine bR ?_ ?_<;>intro h)<;>(try conv=>whnf))
  all_goals first
   |(exfalso;omega)
   |exact gX (eT (dx K0)).symm
   |exact⟨i+1,⟨ak,ma K0⟩,by omega,Zc⟩
 ·obtain rfl:i=s.length:=by omega
  repeat' ((first|refine tX 0 ?_|exact Zt|refine bR ?_ ?_<;>intro h)<;>(try conv=>whnf))
  all_goals first
   |(exfalso;omega)
   |exact gX ah3
def gi (s:aj)(hl:s.length<=1000000):ad 53 [SS s] (.one (I (jG s))):=by
 refine sF f53 ?_;repeat((first|(refine kO 7 rfl ?_;first|refine rG (λ_ z=>⟨_,Qc s hl,z⟩) ?_|refine Rq (iR _) ?_)|refine tX 0 ?_|exact Zt);(try conv=>whnf))
 exact mH (by unfold jG;rfl)
def pl (s:aj)(hl:s.length<=1000000):ad 81 [SS s] (.one (Bo (decide (eK s)))):=by
 by_cases h12:1<=s.length/\s.length<=12
 ·refine sF f81 ?_
  (try(refine tX 0 ?_;try exact Zt))
  refine af (ι:=Nat) (λi=>i<=s.length/\P9 s i) (λi=>s.length -i) (λi=>⟨[(0,lS s),(3,vI i)],[],0⟩) 0 Zc ⟨dC _,λj hj=>by omega⟩ ?_;rintro i ⟨hi,hp⟩;by_cases ak:i<s.length
  ·have dx:=λh=>Qa (s:=s) (i:=i) ak h;have ma:=λh=>Ag (s:=s) (i:=i) hp h;unfold okc at dx ma
   (try(refine tX 0 ?_;try exact Zt))
   generalize (s.getD i 0).toNat =c at*;repeat' ((first|refine tX 0 ?_|exact Zt|refine bR ?_ ?_<;>intro h)<;>(try conv=>whnf))
   all_goals first
    |(exfalso;omega)
    |exact gX (eT (dx K0)).symm
    |exact⟨i+1,⟨ak,ma K0⟩,by omega,Zc⟩
  ·obtain rfl:i=s.length:=by omega
   repeat' ((first|refine tX 0 ?_|exact Zt|refine bR ?_ ?_<;>intro h)<;>(try conv=>whnf))
   all_goals first
    |(exfalso;omega)
    |exact gX (fH ⟨h12,hp⟩).symm
 ·refine sF f81 ?_;repeat' ((first|refine tX 0 ?_|exact Zt|refine bR ?_ ?_<;>intro h)<;>(try conv=>whnf))
  all_goals first
   |(exfalso;omega)
   |exact gX (eT λh=>h12 h.1).symm
abbrev KX (f:Nat)(bI:List (List SC)):SV:=(false,[.fn f [] bI])
abbrev vF (f:Nat)(bI:List (List SC)):Option DV:=some (.val (false,[.st (.fn f [] bI)]))
abbrev vM (id:Nat):Option DV:=some (.val (false,[.mp id]))
def aeY (e:Int):ad 54 [Bo false,I e] (.one (I e)):=bX false e
def aeZ (e:Int):ad 54 [Bo true,I e] (.one (I 0)):=bX true e
def MM {a b:Int}(h:a≠0):ad 52 [(false,[.ints [a,b]])] (.one (I a)):=by
 have:=oI [a,b] (fP rfl)
 grind[fs]
def alz (b:Int):ad 52 [(false,[.ints [0,b]])] (.one (I b)):=by
 have:=oI [0,b] (fP rfl)
 grind[fs]
def kn (l:List aj):List (ByteArray × SV):=l.map λs=>(B s,(false,[.lit (.bool true)]))
theorem Y9 (a b:aj):(B a==B b)=decide (a=b):=by
 by_cases h:a=b
 ·subst h;rw[fH rfl];show((B a).data ==(B a).data)=true;simp
 ·rw[eT h];show((B a).data ==(B b).data)=false;simpa [B]using h
def Tu (l:List aj)(s:aj):iY (kn l) (B s)=if s∈l then some (false,[.lit (.bool true)])else none:=by
 induction l with
 |nil=>rfl
 |cons a l ih=>
  show(match(B s==B a)with|true=>some ((false,[SC.lit (.bool true)]):SV)|false=>iY (kn l) (B s))=_
  grind[Y9]
def po {l:List aj}{s:aj}(h:s∈l):uM (iY (kn l) (B s)) (false,[.lit (.bool false)]) false=lit (.bool true):=by rw[Tu,if_pos h];rfl
def pp {l:List aj}{s:aj}(h:s∉l):uM (iY (kn l) (B s)) (false,[.lit (.bool false)]) false=lit (.bool false):=by rw[Tu,if_neg h];rfl
def JR {l:List aj}{s:aj}(h:s∉l):zZ (kn l) (B s) (false,[.lit (.bool true)])=kn (l++[s]):=by
 induction l with
 |nil=>rfl
 |cons a l ih=>
  simp only[cQ,not_or]at h
  grind[zZ,kn,Y9]
def take_succ {l:List aj}{i:Nat}(h:i<l.length):l.take (i+1)=l.take i++[l.getD i []]:=by simp_all
noncomputable def _root_.Go.Plain.Pl.xE (p:Pl)(i:Nat):Int:=jp (gW p.ap i) 0
abbrev kE (r:Rs):List SC:=[T r.test,J r.ans,J r.entry,K r.void]
abbrev uV (g:Gs):List SC:=[J g.h,J g.m,J g.e,J g.y,J g.a]
abbrev df (e:En):List SC:=[J e.t,T e.lk,T e.text]
abbrev fC (t:Ts):List SC:=[T t.name,J t.kind,.view (ab t.bu),T t.rules,J t.lo,J t.hi]
abbrev mi (q:aj × List aj):List SC:=[T q.1,.view (ab q.2)]
abbrev m9 (q:aj × Int):List SC:=[T q.1,J q.2]
abbrev bU (p:Pl):List SC:=[.view (p.ae.map m9),.view (ab p.ap),.view (p.aa.map fC),.view (p.parts.map mi),J p.dW,J p.eH]
def bg {α:Type}{f:α->List SC}{l:List α}{i:Nat}(h:i<l.length)(d:α):(l.map f)[i]? =some (f (l.getD i d)):=by grind
def Vr (x:aj × Int):ad 167 [(true,m9 x)] (.one (SS x.1)):=by
 refine sF f167 ?_;exact tL
def Qd (p:Pl)(hl:p.ae.length<=1000)(hs: ∀i<p.ae.length,((p.ae.getD i ([],0)).1).length <=1000)
  (hc: ∀i<p.ae.length,ad 168 [I (i:Int),(false,[.ref (bU p)])] (.one (I (if 0<=(p.ae.getD i ([],0)).2/\(p.ae.getD i ([],0)).2<=3 then 0 else 15)))):
  ad 166 [(false,[.view (p.ae.map m9)]),KX 167 [],KX 168 [bU p]] (.aJ [I (cM (p.dn) p.ae.length).1,I (cM (p.dn) p.ae.length).2]):=by
 have zI:p.ay.length=p.ae.length:=by simp[Pl.ay]
 have Xj:(p.ae.map m9).length =p.ae.length:=by simp
 refine sF f166 ?_
 (try(refine tX 0 ?_;try exact Zt))
 refine af (ι:=Nat) (λi=>i<=p.ae.length/\∀j<i,(p.dn) j=0) (λi=>p.ae.length -i) (λi=>⟨[(1,vF 167 []),(2,vF 168 [bU p]),(8,vM 0),(14,some (.val (false,[.st (.view (p.ae.map m9))]))),(15,vI p.ae.length),(16,vI i)],[(0,some (.map (kn (p.ay.take i))))],1⟩) 0 (fA (ks:=[1,2,8,14,15,16]) (m:=[(4,0)]) (n:=1) UE) ⟨dC _,λj hj=>by omega⟩ ?_;rintro i ⟨hi,hp⟩;by_cases ak:i<p.ae.length
 ·have he:=bg (f:=m9) ak ([],0);have hgn:p.ay.getD i []=(p.ae.getD i ([],0)).1:=by grind[Pl.ay]
  have vP:=take_succ (l:=p.ay) (i:=i) br;have hcc:=hc i ak;have O5:=hs i ak;have kF:(p.dn) i=jp (jp (jG (p.ay.getD i [])) (if p.ay.getD i []∈p.ay.take i then 5 else 0)) (if 0<=(p.ae.getD i ([],0)).2/\(p.ae.getD i ([],0)).2<=3 then 0 else 15):=rfl;have eL:=λ(h:(p.dn) i≠0)=>fK (f:=p.dn) ak hp h;have iT:=λ(h:(p.dn) i=0)=>all_succ hp h;rw[hgn]at kF vP;have e8:=gi ((p.ae.getD i ([],0)).1) K0;have hnm:=Vr (p.ae.getD i ([],0));generalize p.ay.take i=M at*;by_cases h1:eK ((p.ae.getD i ([],0)).1)
  ·have e1:jG ((p.ae.getD i ([],0)).1)=0:=if_pos h1;rw[e1]at e8;rw[e1,ji]at kF;by_cases h2:(p.ae.getD i ([],0)).1∈M
   ·rw[if_pos h2,eR K9]at kF;have vt:=po h2;rw[eL br,kF]
    (try(refine tX 0 ?_;try exact Zt))
    rw[vt];exact K1
   ·rw[if_neg h2,ji]at kF;have vt:=pp h2;have hpk:=JR h2;by_cases h3:((if 0<=(p.ae.getD i ([],0)).2/\(p.ae.getD i ([],0)).2<=3 then 0 else 15):Int)=0
    ·exact K32
    ·rw[eL abR,kF]
     (try(refine tX 0 ?_;try exact Zt))
     rw[vt];exact K24
  ·have e1:jG ((p.ae.getD i ([],0)).1)=4:=if_neg h1;rw[e1]at e8;rw[e1,eR (show(4:Int)≠0 by decide),eR (show(4:Int)≠0 by decide)]at kF;rw[eL br,kF];by_cases h2:(p.ae.getD i ([],0)).1∈M
   ·have vt:=po h2;exact K6
   ·have vt:=pp h2;exact K6
 ·obtain rfl:i=p.ae.length:=by omega
  rw[gT hp];exact K24
def Vs (x:aj):ad 172 [SS x] (.one (SS x)):=by
 refine sF f172 ?_;exact tL
def Za (i:Int):ad 173 [I i] (.one (I 0)):=by
 refine sF f173 ?_;exact tL
def Qe (p:Pl)(hl:p.ap.length<=1000)(hs: ∀i<p.ap.length,(p.ap.getD i []).length <=1000)
  (hc: ∀i<p.ap.length,ad 173 [I (i:Int)] (.one (I 0))):
  ad 171 [(false,[.view (ab p.ap)]),KX 172 [],KX 173 []] (.aJ [I (cM (p.xE) p.ap.length).1,I (cM (p.xE) p.ap.length).2]):=by
 have zI:p.ap.length=p.ap.length:=rfl;have Xj:(ab p.ap).length =p.ap.length:=by simp
 refine sF f171 ?_
 (try(refine tX 0 ?_;try exact Zt))
 refine af (ι:=Nat) (λi=>i<=p.ap.length/\∀j<i,(p.xE) j=0) (λi=>p.ap.length -i) (λi=>⟨[(1,vF 172 []),(2,vF 173 []),(8,vM 0),(14,some (.val (false,[.st (.view (ab p.ap))]))),(15,vI p.ap.length),(16,vI i)],[(0,some (.map (kn (p.ap.take i))))],1⟩) 0 (fA (ks:=[1,2,8,14,15,16]) (m:=[(4,0)]) (n:=1) UE) ⟨dC _,λj hj=>by omega⟩ ?_;rintro i ⟨hi,hp⟩;by_cases ak:i<p.ap.length
 ·have he:=sA ak;have hgn:p.ap.getD i []=p.ap.getD i []:=rfl;have vP:=take_succ (l:=p.ap) (i:=i) br;have hcc:=hc i ak;have O5:=hs i ak;have kF:(p.xE) i=jp (jp (jG (p.ap.getD i [])) (if p.ap.getD i []∈p.ap.take i then 5 else 0)) 0:=rfl;have eL:=λ(h:(p.xE) i≠0)=>fK (f:=p.xE) ak hp h;have iT:=λ(h:(p.xE) i=0)=>all_succ hp h;rw[hgn]at kF vP;have e8:=gi (p.ap.getD i []) K0;have hnm:=Vs (p.ap.getD i []);generalize p.ap.take i=M at*;by_cases h1:eK (p.ap.getD i [])
  ·have e1:jG (p.ap.getD i [])=0:=if_pos h1;rw[e1]at e8;rw[e1,ji]at kF;by_cases h2:p.ap.getD i []∈M
   ·rw[if_pos h2,eR K9]at kF;have vt:=po h2;rw[eL br,kF]
    (try(refine tX 0 ?_;try exact Zt))
    rw[vt];exact K1
   ·rw[if_neg h2,ji]at kF;have vt:=pp h2;have hpk:=JR h2;by_cases h3:(0:Int)=0
    ·exact K32
    ·rw[eL abR,kF]
     (try(refine tX 0 ?_;try exact Zt))
     rw[vt];exact K24
  ·have e1:jG (p.ap.getD i [])=4:=if_neg h1;rw[e1]at e8;rw[e1,eR (show(4:Int)≠0 by decide),eR (show(4:Int)≠0 by decide)]at kF;rw[eL br,kF];by_cases h2:p.ap.getD i []∈M
   ·have vt:=po h2;exact K6
   ·have vt:=pp h2;exact K6
 ·obtain rfl:i=p.ap.length:=by omega
  rw[gT hp];exact K24
def Vt (x:Ts):ad 177 [(true,fC x)] (.one (SS x.name)):=by
 refine sF f177 ?_;exact tL
def Qf (p:Pl)(re:aj->Int)(hl:p.aa.length<=1000)(hs: ∀i<p.aa.length,((p.aa.getD i dt).name).length <=1000)
  (hc: ∀i<p.aa.length,ad 178 [I (i:Int),(false,[.ref (bU p)])] (.one (I (Vp re p.aa i)))):
  ad 176 [(false,[.view (p.aa.map fC)]),KX 177 [],KX 178 [bU p]] (.aJ [I (cM (p.gK re) p.aa.length).1,I (cM (p.gK re) p.aa.length).2]):=by
 have zI:(cO p.aa).length =p.aa.length:=by simp[cO]
 have Xj:(p.aa.map fC).length =p.aa.length:=by simp
 refine sF f176 ?_
 (try(refine tX 0 ?_;try exact Zt))
 refine af (ι:=Nat) (λi=>i<=p.aa.length/\∀j<i,(p.gK re) j=0) (λi=>p.aa.length -i) (λi=>⟨[(1,vF 177 []),(2,vF 178 [bU p]),(8,vM 0),(14,some (.val (false,[.st (.view (p.aa.map fC))]))),(15,vI p.aa.length),(16,vI i)],[(0,some (.map (kn ((cO p.aa).take i))))],1⟩) 0 (fA (ks:=[1,2,8,14,15,16]) (m:=[(4,0)]) (n:=1) UE) ⟨dC _,λj hj=>by omega⟩ ?_;rintro i ⟨hi,hp⟩;by_cases ak:i<p.aa.length
 ·have he:=bg (f:=fC) ak dt;have hgn:(cO p.aa).getD i []=(p.aa.getD i dt).name :=rx ak;have vP:=take_succ (l:=(cO p.aa)) (i:=i) br;have hcc:=hc i ak;have O5:=hs i ak;have kF:(p.gK re) i=jp (jp (jG ((cO p.aa).getD i [])) (if(cO p.aa).getD i []∈(cO p.aa).take i then 5 else 0)) (Vp re p.aa i):=rfl;have eL:=λ(h:(p.gK re) i≠0)=>fK (f:=p.gK re) ak hp h;have iT:=λ(h:(p.gK re) i=0)=>all_succ hp h;rw[hgn]at kF vP;have e8:=gi ((p.aa.getD i dt).name) K0;have hnm:=Vt (p.aa.getD i dt);generalize (cO p.aa).take i=M at*;by_cases h1:eK ((p.aa.getD i dt).name)
  ·have e1:jG ((p.aa.getD i dt).name)=0:=if_pos h1;rw[e1]at e8;rw[e1,ji]at kF;by_cases h2:(p.aa.getD i dt).name ∈M
   ·rw[if_pos h2,eR K9]at kF;have vt:=po h2;rw[eL br,kF]
    (try(refine tX 0 ?_;try exact Zt))
    rw[vt];exact K1
   ·rw[if_neg h2,ji]at kF;have vt:=pp h2;have hpk:=JR h2;by_cases h3:((Vp re p.aa i):Int)=0
    ·exact K32
    ·rw[eL abR,kF]
     (try(refine tX 0 ?_;try exact Zt))
     rw[vt];exact K24
  ·have e1:jG ((p.aa.getD i dt).name)=4:=if_neg h1;rw[e1]at e8;rw[e1,eR (show(4:Int)≠0 by decide),eR (show(4:Int)≠0 by decide)]at kF;rw[eL br,kF];by_cases h2:(p.aa.getD i dt).name ∈M
   ·have vt:=po h2;exact K6
   ·have vt:=pp h2;exact K6
 ·obtain rfl:i=p.aa.length:=by omega
  rw[gT hp];exact K24
def Vu (x:aj × List aj):ad 183 [(true,mi x)] (.one (SS x.1)):=by
 refine sF f183 ?_;exact tL
def Qg (p:Pl)(hl:p.parts.length<=1000)(hs: ∀i<p.parts.length,((p.parts.getD i ([],[])).1).length <=1000)
  (hc: ∀i<p.parts.length,ad 184 [I (i:Int),(false,[.ref (bU p)])] (.one (I (jP (p.parts.getD i ([],[])).2 (cO p.aa))))):
  ad 182 [(false,[.view (p.parts.map mi)]),KX 183 [],KX 184 [bU p]] (.aJ [I (cM (p.je) p.parts.length).1,I (cM (p.je) p.parts.length).2]):=by
 have zI:p.bd.length=p.parts.length:=by simp[Pl.bd]
 have Xj:(p.parts.map mi).length =p.parts.length:=by simp
 refine sF f182 ?_
 (try(refine tX 0 ?_;try exact Zt))
 refine af (ι:=Nat) (λi=>i<=p.parts.length/\∀j<i,(p.je) j=0) (λi=>p.parts.length -i) (λi=>⟨[(1,vF 183 []),(2,vF 184 [bU p]),(8,vM 0),(14,some (.val (false,[.st (.view (p.parts.map mi))]))),(15,vI p.parts.length),(16,vI i)],[(0,some (.map (kn (p.bd.take i))))],1⟩) 0 (fA (ks:=[1,2,8,14,15,16]) (m:=[(4,0)]) (n:=1) UE) ⟨dC _,λj hj=>by omega⟩ ?_;rintro i ⟨hi,hp⟩;by_cases ak:i<p.parts.length
 ·have he:=bg (f:=mi) ak ([],[]);have hgn:p.bd.getD i []=(p.parts.getD i ([],[])).1:=by grind[Pl.bd]
  have vP:=take_succ (l:=p.bd) (i:=i) br;have hcc:=hc i ak;have O5:=hs i ak;have kF:(p.je) i=jp (jp (jG (p.bd.getD i [])) (if p.bd.getD i []∈p.bd.take i then 5 else 0)) (jP (p.parts.getD i ([],[])).2 (cO p.aa)):=rfl;have eL:=λ(h:(p.je) i≠0)=>fK (f:=p.je) ak hp h;have iT:=λ(h:(p.je) i=0)=>all_succ hp h;rw[hgn]at kF vP;have e8:=gi ((p.parts.getD i ([],[])).1) K0;have hnm:=Vu (p.parts.getD i ([],[]));generalize p.bd.take i=M at*;by_cases h1:eK ((p.parts.getD i ([],[])).1)
  ·have e1:jG ((p.parts.getD i ([],[])).1)=0:=if_pos h1;rw[e1]at e8;rw[e1,ji]at kF;by_cases h2:(p.parts.getD i ([],[])).1∈M
   ·rw[if_pos h2,eR K9]at kF;have vt:=po h2;rw[eL br,kF]
    (try(refine tX 0 ?_;try exact Zt))
    rw[vt];exact K1
   ·rw[if_neg h2,ji]at kF;have vt:=pp h2;have hpk:=JR h2;by_cases h3:((jP (p.parts.getD i ([],[])).2 (cO p.aa)):Int)=0
    ·exact K32
    ·rw[eL abR,kF]
     (try(refine tX 0 ?_;try exact Zt))
     rw[vt];exact K24
  ·have e1:jG ((p.parts.getD i ([],[])).1)=4:=if_neg h1;rw[e1]at e8;rw[e1,eR (show(4:Int)≠0 by decide),eR (show(4:Int)≠0 by decide)]at kF;rw[eL br,kF];by_cases h2:(p.parts.getD i ([],[])).1∈M
   ·have vt:=po h2;exact K6
   ·have vt:=pp h2;exact K6
 ·obtain rfl:i=p.parts.length:=by omega
  rw[gT hp];exact K24
abbrev jQ (u:Un):List SC:=[T u.name,J u.win.k1,J u.win.t1,J u.win.s1,K u.win.r1,J u.win.k2,J u.win.t2,J u.win.s2,K u.win.r2,J u.win.st,.view (ab u.lots),.view (u.res.map kE),K u.failed,K u.rel,K u.shaken,J u.used,.view (u.gas.map uV)]
abbrev vz (s:bK):List SC:=[K s.volt,K s.earth,.view (ab s.opens),T s.hall,.view (ab s.lots),.view (s.units.map jQ)]
def cP (u:Un)(a b c:Nat):List DC:=[.st (T u.name),.st (J u.win.k1),.st (J u.win.t1),.st (J u.win.s1),.st (K u.win.r1),.st (J u.win.k2),.st (J u.win.t2),.st (J u.win.s2),.st (K u.win.r2),.st (J u.win.st),.own a,.own b,.st (K u.failed),.st (K u.rel),.st (K u.shaken),.st (J u.used),.own c]
def lz (u:Un)(a b c:Nat):Hp:=[(a,some (.row true 1 (.view (ab u.lots)))),(b,some (.row true 4 (.view (u.res.map kE)))),(c,some (.row true 5 (.view (u.gas.map uV))))]
def az:Nat->List Un->List (List DC)
 |_,[]=>[]
 |k,u::us=>cP u (17+6*k) (19+6*k) (21+6*k)::az (k+1) us
def bq:Nat->List Un->Hp
 |_,[]=>[]
 |k,u::us=>lz u (17+6*k) (19+6*k) (21+6*k)++bq (k+1) us
theorem eN: ∀(k:Nat) (us:List Un),(az k us).length =us.length
 |_,[]=>rfl
 |k,u::us=>by simp[az,eN (k+1) us]
def uW: ∀ {k:Nat} {us:List Un} {i:Nat} {u:Un},us[i]? =some u->(az k us)[i]? =some (cP u (17+6*(k+i)) (19+6*(k+i)) (21+6*(k+i)))
 |k,[],i,u,h=>by simp at h
 |k,v::us,0,u,h=>by simp at h;subst h;rfl
 |k,v::us,i+1,u,h=>by
  have:=uW (k:=k+1) (us:=us) (i:=i) (u:=u) br
  grind[az]
def HN: ∀ {k:Nat} {us:List Un} {i:Nat} {u:Un},i<us.length->az k (us.set i u)=(az k us).set i (cP u (17+6*(k+i)) (19+6*(k+i)) (21+6*(k+i)))
 |k,[],i,u,h=>by simp at h
 |k,v::us,0,u,h=>rfl
 |k,v::us,i+1,u,h=>by
  have:=HN (k:=k+1) (us:=us) (i:=i) (u:=u) br
  grind[az]
def yI: ∀(k:Nat) (a b:List Un),bq k (a++b)=bq k a++bq (k+a.length) b
 |k,[],b=>by simp[bq]
 |k,u::a,b=>by
  simp only[qK,bq,yI (k+1) a b,GY,kD]
  grind
theorem gj: ∀ {k:Nat} {us:List Un} {n:Nat},n∈ah (bq k us)->∃j,k<=j/\j<k+us.length/\(n=17+6*j\/n=19+6*j\/n=21+6*j)
 |k,[],n,h=>by cases h
 |k,u::us,n,h=>by
  have h:n∈(17+6*k)::(19+6*k)::(21+6*k)::ah (bq (k+1) us):=by simpa [bq,lz,ah]using h
  rcases cQ.1 h with rfl|h
  ·exact⟨k,dw _,by simp,.inl rfl⟩
  rcases cQ.1 h with rfl|h
  ·exact⟨k,dw _,by simp,.inr (.inl rfl)⟩
  rcases cQ.1 h with rfl|h
  ·exact⟨k,dw _,by simp,.inr (.inr rfl)⟩
  obtain⟨j,h1,h2,h3⟩:=gj h;exact⟨j,by omega,by grind,h3⟩
theorem yJ: ∀(k:Nat) (us:List Un),(ah (bq k us)).Nodup
 |_,[]=>G0
 |k,u::us=>by
  have e:ah (bq k (u::us))=(17+6*k)::(19+6*k)::(21+6*k)::ah (bq (k+1) us):=by exact acd
  have hn: ∀n,n∈ah (bq (k+1) us)->22+6*k<=n:=λn h=>by grind[gj]
  rw[e,zO,zO,zO];refine⟨λh=>?_,λh=>?_,λh=>?_,yJ (k+1) us⟩
  grind
  grind
  grind
theorem tQ: ∀ {k:Nat} {us:List Un} {n:Nat} {b:co},(bq k us).get n=some b->∃m z c,b= .row m z c
 |k,[],n,b,h=>by grind[bq,Hp.get]
 |k,u::us,n,b,h=>by
  have h:Hp.get ((17+6*k,some (.row true 1 (.view (ab u.lots))))::(19+6*k,some (.row true 4 (.view (u.res.map kE))))::(21+6*k,some (.row true 5 (.view (u.gas.map uV))))::bq (k+1) us) n=some b:=h;rw[Hp.ar,Hp.ar,Hp.ar]at h;by_cases h1:n=17+6*k
  grind[an]
  rw[aH _ _ _ h1]at h;by_cases h2:n=19+6*k
  grind[an]
  rw[aH _ _ _ h2]at h;by_cases h3:n=21+6*k
  grind[an]
  rw[aH _ _ _ h3]at h;exact tQ h
def fX {us:List Un}(h:us.length<=1000):BQ (bq 0 us):=
 ⟨yJ 0 us,λn hn=>by grind[gj],λn b e=>tQ e⟩
def wkB (p:Pl)(s:bK):co:=.box 126 [.st (.view (p.ae.map m9)),.st (.view (ab p.ap)),.st (.view (p.aa.map fC)),.st (.view (p.parts.map mi)),.st (J p.dW),.st (J p.eH),.own 3,.st (K s.volt),.st (K s.earth),.own 5,.st (T s.hall),.own 7,.own 9]
def hd (p:Pl)(log:List En)(s:bK):Hp:=[(1,some (wkB p s)),(3,some (.row true 3 (.view (log.map df)))),(5,some (.row true 1 (.view (ab s.opens)))),(7,some (.row true 1 (.view (ab s.lots))))]
def form (p:Pl)(log:List En)(s:bK):Hp:=(9,some (.aA 17 (az 0 s.units)))::hd p log s++bq 0 s.units
def eh (p:Pl)(log:List En)(s:bK)(u:Un)(l:List (List DC))(R:Hp):Hp:=(9,some (.aA 17 l))::(hd p log s++lz u 11 13 15)++R
def qj (i k:Nat):Nat:=if k=17+6*i then 11 else if k=19+6*i then 13 else if k=21+6*i then 15 else k
def HO (i k:Nat):Nat:=if k=11 then 17+6*i else if k=13 then 19+6*i else if k=15 then 21+6*i else k
theorem pJ {i k:Nat}(h1:k≠17+6*i)(h2:k≠19+6*i)(h3:k≠21+6*i):qj i k=k:=by unfold qj;grind
def ae0 (i:Nat):qj i (17+6*i)=11:=by unfold qj;grind
def ae1 (i:Nat):qj i (19+6*i)=13:=by unfold qj;grind
def ae2 (i:Nat):qj i (21+6*i)=15:=by unfold qj;grind
theorem JS {i k:Nat}(h1:k≠11)(h2:k≠13)(h3:k≠15):HO i k=k:=by unfold HO;grind
def Zh (ρ:Nat->Nat)(u:Un)(a b c:Nat):(cP u a b c).map (DC.rn ρ)=cP u (ρ a) (ρ b) (ρ c):=rfl
theorem qk (ρ:Nat->Nat)(a b:Hp):cN ρ (a++b)=cN ρ a++cN ρ b:=by simp[cN]
theorem uX {ρ:Nat->Nat}: ∀ {k:Nat} {us:List Un},(∀n∈ah (bq k us),ρ n=n)->cN ρ (bq k us)=bq k us
 |k,[],_=>rfl
 |k,u::us,h=>by
  have e:ah (bq k (u::us))=(17+6*k)::(19+6*k)::(21+6*k)::ah (bq (k+1) us):=by exact acd
  rw[e]at h;have h1:=h (17+6*k) (by simp);have h2:=h (19+6*k) (by simp);have h3:=h (21+6*k) (by simp);rw[show bq k (u::us)=lz u (17+6*k) (19+6*k) (21+6*k)++bq (k+1) us from rfl,qk,uX λn hn=>h n br];congr 1;show [(ρ (17+6*k),_),(ρ (19+6*k),_),(ρ (21+6*k),_)]=_;rw[h1,h2,h3];rfl
def yK {ρ:Nat->Nat}: ∀ {k:Nat} {us:List Un},(∀n∈ah (bq k us),ρ n=n)->(az k us).map (λe=>e.map (DC.rn ρ))=az k us
 |k,[],_=>rfl
 |k,u::us,h=>by
  have e:ah (bq k (u::us))=(17+6*k)::(19+6*k)::(21+6*k)::ah (bq (k+1) us):=by exact acd
  rw[e]at h;have h1:=h (17+6*k) (by simp);have h2:=h (19+6*k) (by simp);have h3:=h (21+6*k) (by simp);rw[show az k (u::us)=cP u (17+6*k) (19+6*k) (21+6*k)::az (k+1) us from rfl,ju,yK λn hn=>h n br,Zh,h1,h2,h3]
def uY: ∀(k:Nat) (a b:List Un),az k (a++b)=az k a++az (k+a.length) b
 |k,[],b=>by simp[az]
 |k,u::a,b=>by
  simp only[qK,az,uY (k+1) a b,kD]
  grind
def ql {A F' B:Hp}(h: ∀n∈ah F',n∉ah A):Hp.get (A++(F'++B))=Hp.get (F'++(A++B)):=by
 funext n;rw[Hp.get_append,Hp.get_append,Hp.get_append,Hp.get_append,oB,oB,oB,oB]
 grind
theorem bt.congr {C:bQ}{f:FuncId}{nx:Nat}{xs:List DX}{Hs Hs2 mo amF:Hp}{fM:List Nat}{r:DV}(h:bt C f nx xs Hs fM r mo)(e:Hs.get=Hs2.get)(e':mo.get=amF.get):bt C f nx xs Hs2 fM r amF:=by
 unfold bt at*
 grind
abbrev ax (us:List Un)(i:Nat):Hp:=bq 0 (us.take i)++bq (i+1) (us.drop (i+1))
def qo {us:List Un}{i:Nat}{u:Un}(h:us[i]? =some u):us=us.take i++u::us.drop (i+1)/\(us.take i).length =i:=by grind[List.getElem_cons_drop,List.take_append_drop]
def wQ {us:List Un}{i n:Nat}{u:Un}(h:us[i]? =some u)(hn:n∈ah (ax us i)):17<=n/\n≠17+6*i/\n≠19+6*i/\n≠21+6*i/\n<23+6*us.length/\n%2=1:=by
 obtain⟨h1,h2⟩:=kl.1 h;have hn:n∈ah (bq 0 (us.take i))++ah (bq (i+1) (us.drop (i+1))):=by grind
 grind[gj]
def Vv {us:List Un}{i:Nat}{u:Un}(h:us[i]? =some u):(az 0 us).map (λe=>e.map (DC.rn (qj i)))=(az 0 us).set i (cP u 11 13 15):=by
 obtain⟨h1,h2⟩:=qo h;generalize us.take i=A at*;generalize us.drop (i+1)=B at*;subst h1;rw[uY,wD,h2,jZ];rw[show az i (u::B)=cP u (17+6*i) (19+6*i) (21+6*i)::az (i+1) B from rfl,ju,Zh,ae0,ae1,ae2];rw[yK λn hn=>by grind[gj,pJ]];rw[yK λn hn=>by grind[gj,pJ]];rw[Sf _ _ (by grind[eN]),eN,h2,G3,Su]
def Vw {us:List Un}{i:Nat}{u':Un}(h:i<us.length):((az 0 us).set i (cP u' 11 13 15)).map (λe=>e.map (DC.rn (HO i)))=az 0 (us.set i u'):=by
 rw[LL,yK λn hn=>by grind[gj,JS],HN h,jZ];rfl
def Zi {us:List Un}{i:Nat}{u:Un}(h:us[i]? =some u):cN (qj i) (bq 0 us)=bq 0 (us.take i)++(lz u 11 13 15++bq (i+1) (us.drop (i+1))):=by
 obtain⟨h1,h2⟩:=qo h;generalize us.take i=A at*;generalize us.drop (i+1)=B at*;subst h1;rw[yI,h2,jZ,qk,show bq i (u::B)=lz u (17+6*i) (19+6*i) (21+6*i)++bq (i+1) B from rfl,qk];rw[uX λn hn=>by grind[gj,pJ]];rw[uX λn hn=>by grind[gj,pJ]];congr 2;show [(qj i (17+6*i),_),(qj i (19+6*i),_),(qj i (21+6*i),_)]=_;rw[ae0,ae1,ae2];rfl
def Zj {us:List Un}{i:Nat}{u u':Un}(h:us[i]? =some u):bq 0 (us.set i u')=bq 0 (us.take i)++(lz u' (17+6*i) (19+6*i) (21+6*i)++bq (i+1) (us.drop (i+1))):=by
 obtain⟨h1,h2⟩:=qo h;generalize us.take i=A at*;generalize us.drop (i+1)=B at*;subst h1;rw[Sf _ _ K0,h2,G3,Su,yI,h2,jZ];rfl
def lU: ∀ {k:Nat} {us:List Un} {e:List DC},e∈az k us->∀d∈e,d.dM (· ∈ah (bq k us))
 |k,[],e,h=>by cases h
 |k,u::us,e,h=>by
  have hk:ah (bq k (u::us))=(17+6*k)::(19+6*k)::(21+6*k)::ah (bq (k+1) us):=by exact acd
  rw[hk];rcases cQ.1 h with rfl|h
  ·intro d hd;exact ahO
  ·intro d hd;exact DC.dJ (λn hn=>by grind) (lU h d hd)
theorem HP {k:Nat}(h:k%2=1)(h':k<4294967296):tag k=0:=by grind[JC]
def qp (p:Pl)(log:List En)(s:bK):ah (form p log s)=9::1::3::5::7::ah (bq 0 s.units):=by simp[form,hd,ah]
def wR (p:Pl)(log:List En)(s:bK)(u:Un)(l:List (List DC))(R:Hp):ah (eh p log s u l R)=9::1::3::5::7::11::13::15::ah R:=by simp[eh,hd,lz,ah]
def alA {L R:List Nat}(h:L.Nodup)(h':R.Nodup)(hL: ∀k∈L,k<17)(hR: ∀k∈R,17<=k):(L++R).Nodup :=by grind
def dl (p:Pl)(log:List En){s:bK}(h:s.units.length<=1000):KW (form p log s) 1:=by
 have hk:=qp p log s;have hr: ∀n∈ah (bq 0 s.units),17<=n/\n<4294967296/\n%2=1:=(fX h).key;refine⟨?_,λk qF=>?_,λk b e=>?_,⟨_,_,rfl⟩⟩
 grind[yJ]
 grind[HP]
 ·rw[hk];unfold form hd at e;simp only[qK,LG]at e;rw[Hp.ar,Hp.ar,Hp.ar,Hp.ar,Hp.ar]at e;by_cases h9:k=9
  ·subst h9;rw[an]at e;cases e;exact λx hx d hd=>DC.dJ (λn hn=>by grind) (lU hx d hd)
  rw[aH _ _ _ h9]at e;by_cases h1:k=1
  ·exact K95
  rw[aH _ _ _ h1]at e;by_cases h3:k=3
  ·exact aky
  rw[aH _ _ _ h3]at e;by_cases h5:k=5
  ·exact akz
  rw[aH _ _ _ h5]at e;by_cases h7:k=7
  ·exact akx
  rw[aH _ _ _ h7]at e;obtain⟨m,z,c,rfl⟩:=tQ e;trivial
def uZ {us:List Un}{i:Nat}{u:Un}(h:us[i]? =some u)(X:List DC):(az 0 us).set i X=az 0 (us.take i)++X::az (i+1) (us.drop (i+1)):=by
 obtain⟨h1,h2⟩:=qo h;generalize us.take i=A at*;generalize us.drop (i+1)=B at*;subst h1;rw[uY,h2,jZ,Sf _ _ (by grind[eN]),eN,h2,G3];rfl
def nU (p:Pl)(log:List En)(s:bK){us:List Un}{i:Nat}{u u':Un}(hi:us[i]? =some u)(h:us.length<=1000):KW (eh p log s u' ((az 0 us).set i (cP u' 11 13 15)) (ax us i)) 1:=by
 have hk:=wR p log s u' ((az 0 us).set i (cP u' 11 13 15)) (ax us i);have hr:=λn (hn:n∈ah (ax us i))=>wQ hi hn;refine⟨?_,λk qF=>?_,λk b e=>?_,⟨_,_,rfl⟩⟩
 ·rw[hk];refine alA (L:=[9,1,3,5,7,11,13,15]) K9 ?_ K9 λk hk=>(hr k hk).1;have hn:=yJ 0 us;obtain⟨h1,h2⟩:=qo hi;have e:ah (bq 0 us)=ah (bq 0 (us.take i))++(ah (lz u (17+6*i) (19+6*i) (21+6*i))++ah (bq (i+1) (us.drop (i+1)))):=ahX;rw[e]at hn;have e2:ah (ax us i)=ah (bq 0 (us.take i))++ah (bq (i+1) (us.drop (i+1))):=by grind
  show(ah (ax us i)).Nodup;rw[e2];rw[IU]at hn ⊢
  grind
 ·rw[hk]at qF;simp only[cQ]at qF;rcases qF with rfl|rfl|rfl|rfl|rfl|rfl|rfl|rfl|h'
  ·decide
  ·decide
  ·decide
  ·decide
  ·decide
  ·decide
  ·decide
  ·decide
  grind[HP]
 ·rw[hk];unfold eh hd lz at e;simp only[qK,LG]at e;rw[Hp.ar,Hp.ar,Hp.ar,Hp.ar,Hp.ar,Hp.ar,Hp.ar,Hp.ar]at e;by_cases h9:k=9
  ·subst h9;rw[an]at e;cases e;have up: ∀ {n:Nat},n∈ah (ax us i)->n∈9::1::3::5::7::11::13::15::ah (ax us i):=λhn=>by grind
   intro x hx d hd;rw[uZ hi]at hx;rcases gC.1 hx with hx|hx
   ·exact DC.dJ (λn hn=>up br) (lU hx d hd)
   rcases cQ.1 hx with rfl|hx;rotate_left
   ·exact DC.dJ (λn hn=>up br) (lU hx d hd)
   ·exact ahO
  rw[aH _ _ _ h9]at e;by_cases h1:k=1
  ·exact K95
  rw[aH _ _ _ h1]at e;by_cases h3:k=3
  ·exact aky
  rw[aH _ _ _ h3]at e;by_cases h5:k=5
  ·exact akz
  rw[aH _ _ _ h5]at e;by_cases h7:k=7
  ·exact akx
  rw[aH _ _ _ h7]at e;by_cases h11:k=11
  ·subst h11;rw[an]at e;cases e;trivial
  rw[aH _ _ _ h11]at e;by_cases h13:k=13
  ·subst h13;rw[an]at e;cases e;trivial
  rw[aH _ _ _ h13]at e;by_cases h15:k=15
  ·subst h15;rw[an]at e;cases e;trivial
  rw[aH _ _ _ h15]at e;rw[Hp.get_append,oB]at e;split at e
  ·exact akt
  ·exact akt
def HQ {X L L':Hp}(h:L.get=L'.get):(X++L).get =(X++L').get :=by grind[Hp.get_append]
def Zk (p:Pl)(log:List En){s:bK}{i:Nat}{u:Un}(h:s.units[i]? =some u):(cN (qj i) (form p log s)).get =(eh p log s u ((az 0 s.units).set i (cP u 11 13 15)) (ax s.units i)).get :=by
 have h3:qj i 3=3:=pJ K0 K0 K0;have h5:qj i 5=5:=pJ K0 K0 K0;have h7:qj i 7=7:=pJ K0 K0 K0;have h9:qj i 9=9:=pJ K0 K0 K0;have h1:qj i 1=1:=pJ K0 K0 K0
 have e:cN (qj i) (form p log s)=((9,some (.aA 17 ((az 0 s.units).set i (cP u 11 13 15))))::hd p log s)++(bq 0 (s.units.take i)++(lz u 11 13 15++bq (i+1) (s.units.drop (i+1)))):=by
  unfold form;rw[qk,Zi h];congr 1;show [(qj i 9,some (co.aA 17 ((az 0 s.units).map λe=>e.map (DC.rn (qj i))))),(qj i 1,some (.box _ [_,_,_,_,_,_,.own (qj i 3),_,_,.own (qj i 5),_,.own (qj i 7),.own (qj i 9)])),(qj i 3,_),(qj i 5,_),(qj i 7,_)]=_;rw[Vv h,h1,h3,h5,h7,h9];rfl
 rw[e,show eh p log s u ((az 0 s.units).set i (cP u 11 13 15)) (ax s.units i)=((9,some (.aA 17 ((az 0 s.units).set i (cP u 11 13 15))))::hd p log s)++(lz u 11 13 15++ax s.units i)by simp[eh]];refine HQ (ql λn hn hm=>?_);obtain⟨j,q1,q2,q3⟩:=gj hm;have:n=11\/n=13\/n=15:=by simpa [lz,ah]using hn
 omega
theorem MN (p:Pl)(log:List En)(s:bK){us:List Un}{i:Nat}{u u':Un}(h:us[i]? =some u)(hs:s.units=us.set i u'):(cN (HO i) (eh p log s u' ((az 0 us).set i (cP u' 11 13 15)) (ax us i))).get =(form p log s).get :=by
 have ak:=(kl.1 h).1
 have e:cN (HO i) (eh p log s u' ((az 0 us).set i (cP u' 11 13 15)) (ax us i))=((9,some (.aA 17 (az 0 s.units)))::hd p log s)++(lz u' (17+6*i) (19+6*i) (21+6*i)++ax us i):=by
  have e1:cN (HO i) (ax us i)=ax us i:=by grind[qk,uX,gj,JS]
  have e2:cN (HO i) ((9,some (co.aA 17 ((az 0 us).set i (cP u' 11 13 15))))::(hd p log s++lz u' 11 13 15))=((9,some (.aA 17 (az 0 s.units)))::hd p log s)++lz u' (17+6*i) (19+6*i) (21+6*i):=by
   show(9,some (co.aA 17 (((az 0 us).set i (cP u' 11 13 15)).map λe=>e.map (DC.rn (HO i)))))::_=_;rw[Vw ak,hs];rfl
  show cN (HO i) (((9,some (co.aA 17 ((az 0 us).set i (cP u' 11 13 15))))::(hd p log s++lz u' 11 13 15))++ax us i)=_
  grind[qk]
 rw[e,show form p log s=((9,some (.aA 17 (az 0 s.units)))::hd p log s)++bq 0 s.units by simp[form],hs,Zj h];refine HQ (ql λn hn hm=>?_).symm;obtain⟨j,q1,q2,q3⟩:=gj hm;have:n=17+6*i\/n=19+6*i\/n=21+6*i:=by simpa [lz,ah]using hn
 grind
def focus {f:FuncId}{ys:List SV}{p:Pl}{log rZ:List En}{s s':bK}{i:Nat}{u u':Un}{y:SV}(hi:s.units[i]? =some u)(hl:s.units.length<=1000)
  (h:bt cx f 1 ((false,[.ptr 1 0])::ys.map dyn) (eh p log s u ((az 0 s.units).set i (cP u 11 13 15)) (ax s.units i)) [1] (.val (dyn y)) (eh p rZ s' u' ((az 0 s.units).set i (cP u' 11 13 15)) (ax s.units i)))
  (hs:s'.units=s.units.set i u'):bt cx f 1 ((false,[.ptr 1 0])::ys.map dyn) (form p log s) [1] (.val (dyn y)) (form p rZ s'):=by
 have hk:=qp p log s;have hT:=dl p log hl;have fh:=nU p rZ s' (u':=u') hi hl;have gD: ∀n∈ah (bq 0 s.units),17<=n:=λn hn=>by grind[gj]
 have aov: ∀k∈ah (form p log s),k≠11/\k≠13/\k≠15:=λk qF=>by grind
 have amI: ∀a∈ah (form p log s),∀b∈ah (form p log s),qj i a=qj i b->a=b:=λa ha b hb e=>by grind[qj]
 have ami: ∀k∈ah (eh p rZ s' u' ((az 0 s.units).set i (cP u' 11 13 15)) (ax s.units i)),k≠17+6*i/\k≠19+6*i/\k≠21+6*i:=λk qF=>by exact ahN
 have ahl: ∀a∈ah (eh p rZ s' u' ((az 0 s.units).set i (cP u' 11 13 15)) (ax s.units i)),∀b∈ah (eh p rZ s' u' ((az 0 s.units).set i (cP u' 11 13 15)) (ax s.units i)),HO i a=HO i b->a=b:=λa ha b hb e=>by grind[HO]
 have f1:qj i 1=1:=pJ K0 K0 K0;have u1:HO i 1=1:=JS K0 K0 K0
 have B6:((false,[DC.ptr 1 0])::ys.map dyn).map (Gg (qj i))=(false,[.ptr 1 0])::ys.map dyn:=by
  rw[ju,zR];refine congr (aP List.cons ?_) ?_
  ·show(false,[DC.ptr (qj i 1) 0])=_;rw[f1]
  ·refine Lp λx _=>?_;show((dyn x).1,(dyn x).2.map (DC.rn (qj i)))=dyn x;exact afW
 have g1:bt cx f 1 (((false,[DC.ptr 1 0])::ys.map dyn).map (Gg (qj i))) (cN (qj i) (form p log s)) [1] (.val (dyn y)) (eh p rZ s' u' ((az 0 s.units).set i (cP u' 11 13 15)) (ax s.units i)):=by rw[B6];exact bt.congr h (Zk p log hi).symm rfl
 have OV: ∀x∈((false,[DC.ptr 1 0])::ys.map dyn),dY (· ∈ah (form p log s)) x:=by
  intro x hx;rcases cQ.1 hx with rfl|hx
  ·intro d hd;rw[lq]at hd;subst hd;show(1:Nat)∈ah _
   grind
  ·obtain⟨z,_,rfl⟩:=dN.1 hx;exact afR
 have g2:=g1.inn (nx0:=1) (m8.hp hT amI) (λo b e=>⟨Hp.dS e,by rw[jN amI o (Hp.dS e),e];rfl⟩) (λk qF=>by
   have h1:=(hT.lt k qF).2
   have:tag (qj i k)=0:=by
    unfold qj;split
    ·rfl
    ·split
     ·rfl
     ·split
      ·rfl
      grind
   omega) OV (λid hid=>by grind)
 have g3:=g2.out (m8.hp fh ahl) (by
   show lF _ (.val (dyn y));intro d hd;obtain⟨c,_,rfl⟩:=dN.1 hd
   trivial) (λid hid=>by rw[lq]at hid;subst hid;exact⟨fh.xG,u1⟩)
 have hr:KV (HO i) (.val (dyn y))= .val (dyn y):=by
  show DV.val ((dyn y).1,(dyn y).2.map (DC.rn (HO i)))=_;exact afW
 grind[bt.congr,MN]
def lV (l:List aj)(x:aj):ab (l++[x])=ab l++[[.lit (.string (B x))]]:=by simp
def kV (n m:Int)(h: -9223372036854775807<=m/\m<=9223372036854775807):ad 231 [I n,I m] (.one (Bo (decide (-m<=n)&&decide (n<=m)))):=by
 refine sF f231 ?_;exact K1
def kW (k:Int):ad 71 [I k] (.one (Bo (decide (sf k)))):=by
 refine sF f71 ?_;repeat' ((first|refine tX 0 ?_|exact Zt|refine bR ?_ ?_<;>intro h)<;>(try conv=>whnf))
 all_goals exact gX (by rw[sD];simp;unfold sf;omega)
def HS (l all:List aj)(hl:l.length<=1000)(ha:all.length<=1000):ad 185 [V1 l,V1 all] (.one (I (jP l all))):=by
 have hn:(ab l).length =l.length:=by simp
 refine sF f185 ?_
 (try(refine tX 0 ?_;try exact Zt))
 refine af (ι:=Nat) (λi=>i<=l.length/\∀j<i,D3 l all j=0) (λi=>l.length -i) (λi=>⟨[(0,some (.val (false,[.st (.view (ab l))]))),(1,some (.val (false,[.st (.view (ab all))]))),(8,some (.val (false,[.st (.view (ab l))]))),(9,vI l.length),(10,vI i)],[],0⟩) 0 (ai Pv) ⟨dC _,λj hj=>by omega⟩ ?_;rintro i ⟨hi,hp⟩;by_cases ak:i<l.length
 ·have he:=sA ak;have kF:D3 l all i=if l.getD i []∈all then(if l.getD i []∈l.take i then 23 else 0)else 6:=rfl
  have eL:=λ(h:D3 l all i≠0)=>fK (f:=D3 l all) ak hp h;have iT:=λ(h:D3 l all i=0)=>all_succ hp h;have hra:jP l all=(cM (D3 l all) l.length).2:=rfl;have c1:=bD all (l.getD i []) K0;have c2:=bD (l.take i) (l.getD i []) wG;have zx:(ab l).take i=ab (l.take i):=by simp
  generalize l.getD i []=s at*;by_cases h1:s∈all
  ·rw[fH h1]at c1;rw[if_pos h1]at kF;by_cases h2:s∈l.take i
   ·rw[fH h2]at c2;rw[if_pos h2]at kF;rw[hra,eL af5,kF];exact tA
   ·rw[eT h2]at c2;rw[if_neg h2]at kF;repeat' ((first|refine tX 0 ?_|exact Zt|refine bR ?_ ?_<;>intro h)<;>(try conv=>whnf))
    all_goals first|exact Zo|exact⟨i+1,⟨ak,iT kF⟩,by omega,Zc⟩
  ·rw[eT h1]at c1;rw[if_neg h1]at kF;rw[hra,eL af5,kF];by_cases h2:s∈l.take i
   ·rw[fH h2]at c2;exact ahP
   ·rw[eT h2]at c2;exact ahP
 ·obtain rfl:i=l.length:=by omega
  have hra:jP l all=0:=by unfold jP;rw[gT hp]
  rw[hra];exact tA
def tR (l:List Ts)(hl:l.length<=1000):ad 186 [(false,[.view (l.map fC)])] (.own 1 (.view (ab (cO l)))):=by
 have hn:(l.map fC).length =l.length:=by simp
 have zI:(cO l).length =l.length:=by simp[cO]
 refine sF f186 ?_
 (try(refine tX 0 ?_;try exact Zt))
 refine af (ι:=Nat) (λi=>i<=l.length) (λi=>l.length -i) (λi=>⟨[(3,pO 0),(6,some (.val (false,[.st (.view (l.map fC))]))),(7,vI l.length),(8,vI i)],[(0,some (.row true 1 (.view (ab ((cO l).take i)))))],1⟩) 0 (bs.trans (jz 3 1 (.view []) K9 rfl rfl rfl) (ai Pv)) (dC _) ?_;intro i hi;by_cases ak:i<l.length
 ·have he:=bg (f:=fC) ak dt;have vP:=take_succ (l:=cO l) (i:=i) K0;rw[rx ak]at vP;have vN:(ab ((cO l).take i)).length <=1000:=by simp;omega
  repeat' ((first|refine tX 0 ?_|exact Zt|refine bR ?_ ?_<;>intro h)<;>(try conv=>whnf))
  all_goals first|exact Zo|exact⟨i+1,ak,by omega,ai abJ⟩
 ·obtain rfl:i=l.length:=by omega
  rw[o0 K0];exact tA
def ac3 (fn:Func)(r:DV)(T':Hp)(S:St):Prop:=∃m:List (Nat × Nat),cW m S.hp.get T'.get/\er cx S.hp.get S.env.get fn.results.toList λys=>∃zs,kS m ys=some zs/\ph zs=r
def gR {f:FuncId}{c:Code}{xs:List DX}{r:DV}{T':Hp}(fn:Func)(h:m6 cx c ⟨iz 0 xs,[],1⟩ (ac3 fn r T') (λ_ _=>False) (ac3 fn r T'))
  (h1:iG cx.P f=true:=by kernel_rfl)(h2:cx.P.funcs[f]? =some fn:=by kernel_rfl)(h3:fn.body=some c:=by rfl)(h4:bM fn.ntmps c=true:=by kernel_rfl)(h5:xs.length<=fn.ntmps:=by exact fP rfl)(h6:aM [] c=true:=by kernel_rfl):
  bt cx f 1 xs [] [] r T':=
 fw lG h1 h2 h3 h4 h5 [] (λ_ h=>by cases h) h6 (λS hS=>by
  obtain⟨m,g1,g2⟩:=hS
  exact⟨m,g1,(λ_ h=>by cases h),g2⟩) h
def H5 (H:HF):cW [] H (Hp.get []):=⟨by simp,by simp,λn b' e=>by simp[Hp.get]at e⟩
def VQ (es:List (List SC))(H:Hp)(fid:Nat):bN cx fid 270 [(false,[.st (.view es)])] H.get (bm (.st (.fn 296 [] [[.view es]]))) [] []:=by
 refine mq (nx:=1) (T':=[]) (r:=bm (.st (.fn 296 [] [[.view es]]))) ?_ ⟨by simp,(λk hk=>by cases hk),(λk b e=>by simp[Hp.get]at e)⟩ (λx hx=>?_) (λd hd=>?_)
 ·refine gR f270 ?_
  (try(refine tX 0 ?_;try exact Zt))
  exact⟨[],H5 _,_,rfl,rfl⟩
 ·rw[lq]at hx;subst hx;exact K92
 ·rw[lq]at hd;subst hd;trivial
def agC {l:List Rs}{j:Nat}(h:j<l.length):(l.map kE).getD (l.length -1 -j) []=kE (l.reverse.getD j BT):=by
 have h1:l.length -1 -j<l.length:=by omega
 simp[jE,h,h1,List.getElem?_reverse]
def VR {l:List Rs}{t:aj}(h: ∀j,j<l.length->sG t (l.reverse.getD j BT)=false):iM l t=none:=by
 unfold iM;rw[List.find?_eq_none];intro x hx;obtain⟨j,hj,rfl⟩:=XF hx;have:=h j (by simpa using hj);rw[jE,nM hj,sY]at this;rw[this];decide
def VS {l:List Rs}{t:aj}{i:Nat}(hi:i<l.length)(h: ∀j,j<i->sG t (l.reverse.getD j BT)=false)(hh:sG t (l.reverse.getD i BT)=true):iM l t=some (l.reverse.getD i BT):=by
 have kA:i<l.reverse.length:=by simpa using hi
 unfold iM;rw[List.find?_eq_some_iff_getElem];have e:l.reverse.getD i BT=l.reverse[i]:=by rw[jE,nM kA,sY]
 refine⟨hh,i,kA,e.symm,λj hj=>?_⟩;have:=h j hj;rw[jE,nM K0,sY]at this;rw[this];rfl
def Nr (c0 c1 c2 c3 c4 c5 c6 c7 c8 c9 c10:SC)(res:List Rs)(tl:List SC)(t:aj)(hl:res.length<=1000000):
  ad 225 [(false,[.ref (c0::c1::c2::c3::c4::c5::c6::c7::c8::c9::c10:: .view (res.map kE)::tl)]),SS t] (.aJ [(true,kE ((iM res t).getD BT)),Bo (iM res t).isSome]):=by
 have hit:=acX (res.map kE) af8 (λe he=>by obtain⟨r,_,rfl⟩:=dN.1 he;rfl);rw[ja]at hit;refine sF f225 ?_;refine aS ?_;(refine aR ?_;conv=>whnf);(try(refine tX 2 ?_;try exact Zt));refine aS ?_;refine aQ ?_;(refine aR ?_;conv=>whnf);repeat((first|(refine kO 7 rfl ?_;first|refine Rh (VQ _ _ _) ?_)|refine tX 2 ?_|exact Zt);(try conv=>whnf))
 refine⟨⟨[(3,pP 0),(4,pP 1),(5,pP 2),(12,some (.val (false,[.st (.fn 296 [] [[.view (res.map kE)]])])))],
  [(0,some (.box 9 [.st (T t)])),(1,some (.box 121 [.st (T []),.st (J 0),.st (J 0),.st (K false)])),(2,some (.box 4 [.st (K false)]))],3⟩,Zc,?_⟩
 refine aB ?_
 refine aF rfl _ (λ_=>[(0,some (.box 9 [.st (T t)])),(1,some (.box 121 [.st (T []),.st (J 0),.st (J 0),.st (K false)])),(2,some (.box 4 [.st (K false)]))]) 3
  (λi=>∀j,j<i->sG t (res.reverse.getD j BT)=false) hit (λr hr=>by obtain⟨c,_,rfl⟩:=dN.1 hr;rfl) dp (λ_=>rfl) (bs.refl _) (λj hj=>by omega) ?_ ?_
 ·intro i r hr O3;have hi:i<res.length:=by have:=(kl.1 hr).1;simpa using this
  rw[gr,List.getElem?_range hi,xJ,lK,agC hi]at hr;subst hr;have e1:sG t (res.reverse.getD i BT)=true->iM res t=some (res.reverse.getD i BT):=λh=>VS hi O3 h
  have e2:sG t (res.reverse.getD i BT)=false->∀j,j<i+1->sG t (res.reverse.getD j BT)=false:=λh j hj=>by
   rcases R9.1 hj with h'|rfl
   ·exact O3 j h'
   ·exact h
  generalize res.reverse.getD i BT=r at e1 e2;show m6 cx _ ⟨(14,_)::(13,_)::_,_,_⟩ _ _ _
  (refine aR ?_;conv=>whnf)
  repeat' ((first|refine tX 0 ?_|exact Zt|refine bR ?_ ?_<;>intro h)<;>(try conv=>whnf))
  ·rename_i h1;have hh:sG t r=true:=by unfold sG;simp[h1,h]
   rw[e1 hh];exact⟨[(0,some (.box 9 [.st (T t)])),(1,some (.box 121 ((kE r).map .st))),(2,some (.box 4 [.st (K true)]))],3,by kernel_rfl,Zc,rfl⟩
  ·rename_i h1;have hh:sG t r=false:=by unfold sG;simp at h;simp[h1,h]
   exact⟨e2 hh,Zc⟩
  ·have hh:sG t r=false:=by unfold sG;simp[h]
   exact⟨e2 hh,Zc⟩
 ·intro O3;rw[ja,List.length_range]at O3;rw[VR O3];conv=>whnf
  exact K1
abbrev G5 (h m e y a:Int):SV:=(true,[J h,J m,J e,J y,J a])
abbrev A3 (a b c:Int):SV:=(true,[J a,J b,J c])
abbrev A2 (a b:Int):SV:=(true,[J a,J b])
def gok (h m e y a:Int):Prop:=((0<=h/\h<=1000000)/\(0<=m/\m<=1000000))/\(0<=e/\e<=1000000)/\(0<=y/\y<=1000000)/\0<=a/\a<=1000000
instance (h m e y a:Int):Decidable (gok h m e y a):=by unfold gok;infer_instance
def Wj (h m e y a:Int):Int:=if gok h m e y a then 0 else 2
def TV {h m e y a:Int}(n: ¬gok h m e y a):Wj h m e y a=2:=if_neg n
def Kq {h m e y a:Int}(n:gok h m e y a):Wj h m e y a=0:=if_pos n
def mS (n lo hi:Int):ad 50 [I n,I lo,I hi] (.one (Bo (decide (lo<=n)&&decide (n<=hi)))):=by
 refine sF f50 ?_;repeat' ((first|refine tX 0 ?_|exact Zt|refine bR ?_ ?_<;>intro h)<;>(try conv=>whnf))
 all_goals exact gX wG
section
variable (h m e y a:Int)
def vC (i:Nat):Prop:=(0<i->0<=h/\h<=1000000)/\(1<i->0<=m/\m<=1000000)/\(2<i->0<=e/\e<=1000000)/\(3<i->0<=y/\y<=1000000)/\(4<i->0<=a/\a<=1000000)
theorem E1:ad 85 [G5 h m e y a] (.one (I (Wj h m e y a))):=by
 refine sF f85 ?_
 (try(refine tX 0 ?_;try exact Zt))
 refine af (ι:=Nat) (λi=>i<=5/\vC h m e y a i) (λi=>5 -i) (λi=>⟨[(15,some (.val (true,[.st (J h),.st (J m),.st (J e),.st (J y),.st (J a)]))),(16,vI i)],[],0⟩) 0 Zc ⟨by omega,by unfold vC;omega⟩ ?_;rintro i ⟨hi,hp⟩;unfold vC at hp;rcases(show i=0\/i=1\/i=2\/i=3\/i=4\/i=5 by omega)with rfl|rfl|rfl|rfl|rfl|rfl;all_goals repeat' ((first|refine tX 0 ?_|exact Zt|refine bR ?_ ?_<;>intro h)<;>(try conv=>whnf))
 all_goals first
  |exact mH (TV X4).symm
  |exact mH (Kq X4).symm
  |exact⟨0+1,⟨by omega,by unfold vC;omega⟩,by omega,Zc⟩
  |exact⟨1+1,⟨by omega,by unfold vC;omega⟩,by omega,Zc⟩
  |exact⟨2+1,⟨by omega,by unfold vC;omega⟩,by omega,Zc⟩
  |exact⟨3+1,⟨by omega,by unfold vC;omega⟩,by omega,Zc⟩
  |exact⟨4+1,⟨by omega,by unfold vC;omega⟩,by omega,Zc⟩
theorem GA:ad 282 [G5 h m e y a] (.one (I (Wj h m e y a))):=by
 refine sF f282 ?_;repeat((first|(refine kO 7 rfl ?_;first|refine Rq (mS _ _ _) ?_)|refine tX 0 ?_|exact Zt);(try conv=>whnf))
 refine af (ι:=Nat) (λi=>i<=5/\vC h m e y a i) (λi=>5 -i) (λi=>⟨[(3,pO 0),(4,vI i)],[(0,some (.row true 1 (.ints [h,m,e,y,a])))],1⟩) 0 Zc ⟨by omega,by unfold vC;omega⟩ ?_;rintro i ⟨hi,hp⟩;unfold vC at hp;rcases(show i=0\/i=1\/i=2\/i=3\/i=4\/i=5 by omega)with rfl|rfl|rfl|rfl|rfl|rfl;all_goals repeat' ((first|(refine kO 7 rfl ?_;first|refine Rq (mS _ _ _) ?_)|refine tX 0 ?_|exact Zt|refine bR ?_ ?_<;>intro h)<;>(try conv=>whnf))
 all_goals try simp only[Lx,Sr]at*
 all_goals first
  |exact mH (TV X4).symm
  |exact mH (Kq X4).symm
  |exact⟨0+1,⟨by omega,by unfold vC;omega⟩,by omega,Zc⟩
  |exact⟨1+1,⟨by omega,by unfold vC;omega⟩,by omega,Zc⟩
  |exact⟨2+1,⟨by omega,by unfold vC;omega⟩,by omega,Zc⟩
  |exact⟨3+1,⟨by omega,by unfold vC;omega⟩,by omega,Zc⟩
  |exact⟨4+1,⟨by omega,by unfold vC;omega⟩,by omega,Zc⟩
end
end Go.Proofs.Tryz
namespace Go.Proofs.Tryz
open Go.Fw Go.Plain
def vr {α:Type}{C:bQ}{d:Nat}{t:TypeId}{f:α->List SC}{q:α->Prop}(hf: ∀e,sE C d t e->∃a,e=f a/\q a): ∀ {es:List (List SC)},(∀e∈es,sE C d t e)->∃l:List α,es=l.map f/\∀a∈l,q a
 | [],_=>⟨[],rfl,by simp⟩
 |e::es,h=>by
  obtain⟨a,rfl,ha⟩:=hf e (h e i8);obtain⟨l,rfl,hl⟩:=vr hf λe he=>h e (i7 _ he);refine⟨a::l,rfl,λb hb=>?_⟩;rcases cQ.1 hb with rfl|hb
  ·exact ha
  ·exact hl b hb
def xf {d:Nat}{xs:List SC}(h:sE cx (d+1) 9 xs): ∃s:aj,xs= [T s]/\s.length<=maxLen:=by
 obtain⟨s,e1,h1⟩:=acx (by rfl) (by rfl) h;exact⟨s.data.toList,by rw[e1,T,acC],by simpa using h1⟩
def uC {d:Nat}{xs:List SC}(h:sE cx (d+1) 3 xs): ∃n:Int,xs= [J n]/\pU n:=by
 obtain⟨n,e1,h1⟩:=acw (by rfl) (by rfl) h;exact⟨n,e1,h1⟩
def KK {d:Nat}{xs:List SC}(h:sE cx (d+2) 23 xs): ∃l:List aj,xs= [.view (ab l)]/\l.length<=maxLen:=by
 obtain⟨es,rfl,hl,hes⟩:=tC (by rfl) (by rfl) (by rfl) h;obtain⟨l,rfl,_⟩:=vr (f:=λs:aj=>[T s]) (λe he=>xf he) hes;exact⟨l,rfl,by simpa using hl⟩
def RE {d:Nat}{xs:List SC}(h:sE cx (d+2) 103 xs): ∃q:aj × Int,xs=m9 q/\pU q.2:=by
 obtain⟨p1,q1,e1,h1,p2,q2,e2,h2,e3⟩:=lQ (by rfl) (by rfl) h;obtain⟨s,rfl,_⟩:=xf h1;obtain⟨n,rfl,hn⟩:=uC h2;exact⟨(s,n),by rw[e1,e2,e3];rfl,hn⟩
def WS {d:Nat}{xs:List SC}(h:sE cx (d+2) 52 xs): ∃a b:Int,xs= [J a,J b]:=by
 obtain⟨p1,q1,e1,h1,p2,q2,e2,h2,e3⟩:=lQ (by rfl) (by rfl) h;obtain⟨a,rfl,_⟩:=uC h1;obtain⟨b,rfl,_⟩:=uC h2;exact⟨a,b,by rw[e1,e2,e3];rfl⟩
def aa9 {d:Nat}{xs:List SC}(h:sE cx (d+3) 54 xs): ∃t:Ts,xs=fC t/\t.bu.length<=maxLen:=by
 obtain⟨p1,q1,e1,h1,p2,q2,e2,h2,p3,q3,e3,h3,p4,q4,e4,h4,p5,q5,e5,h5,e6⟩:=lQ (by rfl) (by rfl) h;obtain⟨nm,rfl,_⟩:=xf h1;obtain⟨k,rfl,_⟩:=uC h2;obtain⟨nd,rfl,hl⟩:=KK h3;obtain⟨ru,rfl,_⟩:=xf h4;obtain⟨a,b,rfl⟩:=WS h5;exact⟨⟨nm,k,nd,ru,a,b⟩,by rw[e1,e2,e3,e4,e5,e6];rfl,hl⟩
def aba {d:Nat}{xs:List SC}(h:sE cx (d+3) 106 xs): ∃q:aj × List aj,xs=mi q/\q.2.length<=maxLen:=by
 obtain⟨p1,q1,e1,h1,p2,q2,e2,h2,e3⟩:=lQ (by rfl) (by rfl) h;obtain⟨s,rfl,_⟩:=xf h1;obtain⟨l,rfl,hl⟩:=KK h2;exact⟨(s,l),by rw[e1,e2,e3];rfl,hl⟩
def WT {d:Nat}{xs:List SC}(h:sE cx (d+2) 36 xs): ∃e:En,xs=df e/\pU e.t:=by
 obtain⟨p1,q1,e1,h1,p2,q2,e2,h2,p3,q3,e3,h3,e4⟩:=lQ (by rfl) (by rfl) h;obtain⟨n,rfl,hn⟩:=uC h1;obtain⟨a,rfl,_⟩:=xf h2;obtain⟨b,rfl,_⟩:=xf h3;exact⟨⟨n,a,b⟩,by rw[e1,e2,e3,e4];rfl,hn⟩
def anG (p:Pl):Prop:=(p.ae.length<=9223372036854775807/\p.ap.length<=9223372036854775807/\p.aa.length<=9223372036854775807/\p.parts.length<=9223372036854775807)/\(∀t∈p.aa,t.bu.length<=9223372036854775807)/\∀q∈p.parts,q.2.length<=9223372036854775807
def WU {d:Nat}{x:SV}(h:DB cx (d+5) 27 x): ∃p:Pl,x=(true,bU p)/\anG p:=by
 obtain⟨e,h1⟩:=YI rfl rfl h;obtain⟨p1,q1,e1,h1,p2,q2,e2,h2,p3,q3,e3,h3,p4,q4,e4,h4,p5,q5,e5,h5,p6,q6,e6,h6,e7⟩:=lQ (by rfl) (by rfl) h1;obtain⟨es1,rfl,hl1,anT⟩:=tC (by rfl) (by rfl) (by rfl) h1;obtain⟨pe,rfl,_⟩:=vr (f:=m9) (λe he=>RE he) anT;obtain⟨ga,rfl,hl2⟩:=KK h2;obtain⟨es3,rfl,hl3,anX⟩:=tC (by rfl) (by rfl) (by rfl) h3;obtain⟨te,rfl,ht⟩:=vr (f:=fC) (λe he=>aa9 he) anX;obtain⟨es4,rfl,hl4,aod⟩:=tC (by rfl) (by rfl) (by rfl) h4;obtain⟨pa,rfl,hp⟩:=vr (f:=mi) (λe he=>aba he) aod;obtain⟨sh,rfl,_⟩:=uC h5;obtain⟨li,rfl,_⟩:=uC h6;refine⟨⟨pe,ga,te,pa,sh,li⟩,by rw[e,e1,e2,e3,e4,e5,e6,e7];rfl,⟨by rw[ja]at hl1;exact hl1,hl2,by rw[ja]at hl3;exact hl3,by rw[ja]at hl4;exact hl4⟩,ht,hp⟩
def adY {d:Nat}{x:SV}(h:DB cx (d+3) 28 x): ∃l:List En,x=(false,[.view (l.map df)])/\l.length<=maxLen/\∀e∈l,pU e.t:=by
 obtain⟨e,h1⟩:=Mu rfl rfl h;obtain⟨es,e1,hl,hes⟩:=tC (by rfl) (by rfl) (by rfl) h1;obtain⟨l,rfl,hq⟩:=vr (f:=df) (λe he=>WT he) hes;exact⟨l,by rw[e,e1],by simpa using hl,hq⟩
def Tf {d:Nat}{x:SV}(h:DB cx (d+1) 3 x): ∃n,x=I n:=by
 obtain⟨e,h1⟩:=Mu rfl rfl h;obtain⟨n,e1,_⟩:=uC h1;exact⟨n,by rw[e,e1]⟩
def abb {α:Type}{l:List α}{i:Nat}(h:i<l.length)(d:α):l.getD i d∈l:=by rw[jE,nM h];exact oh h
end Go.Proofs.Tryz
