import Derived.Test.YtackacoaaihcjaaGreatDoorPkF2
import Derived.IntWalk
set_option linter.all false
set_option maxRecDepth 100000
set_option maxHeartbeats 8000000
namespace Go.Proofs.Tryz
open Go.Fw Go.IntWalk Go.Plain
def Qj (s:aj)(hl:s.length<=1000000):ac 92 [SS s] (.one (Bo (decide (eK s)))):=by
 have hb:=uU s;refine sF f92 ?_
 (try(refine tX 0 ?_;try exact Zt))
 refine af (ι:=Nat) (λi=>i<=s.length/\Qg s i) (λi=>s.length -i) (λi=>⟨[(0,lS s),(7,some (.val (false,[.st (.view (kS (B s)))]))),(8,vI s.length),(9,vI i)],[],0⟩) 0 (ai abU) ⟨dM _,λj hj=>by omega⟩ ?_;rintro i ⟨hi,hp⟩;by_cases ak:i<s.length
 ·have hg:=JS ak;have dy:=λh=>Qh (s:=s) (i:=i) ak h;have l8:=λh=>Ah (s:=s) (i:=i) hp h;have FJ:((s.getD i 0).toNat :Int)<=255:=by exact UT
  unfold okc at dy l8;generalize (s.getD i 0).toNat =c at*;repeat' ((first|refine tX 0 ?_|exact Zt|refine bR ?_ ?_<;>intro h)<;>(try conv=>whnf))
  all_goals first
   |(exfalso;omega)
   |exact gX (eU (dy K0)).symm
   |exact⟨i+1,⟨ak,l8 K0⟩,by omega,Zc⟩
 ·obtain rfl:i=s.length:=by omega
  repeat' ((first|refine tX 0 ?_|exact Zt|refine bR ?_ ?_<;>intro h)<;>(try conv=>whnf))
  all_goals first
   |(exfalso;omega)
   |exact gX ah5
def ge (s:aj)(hl:s.length<=1000000):ac 53 [SS s] (.one (I (jI s))):=by
 refine sF f53 ?_;repeat((first|(refine kO 7 rfl ?_;first|refine rG (λ_ z=>⟨_,Qj s hl,z⟩) ?_|refine Rq (iS _) ?_)|refine tX 0 ?_|exact Zt);(try conv=>whnf))
 exact mF (by unfold jI;rfl)
def pj (s:aj)(hl:s.length<=1000000):ac 81 [SS s] (.one (Bo (decide (eK s)))):=by
 by_cases h12:1<=s.length/\s.length<=12
 ·refine sF f81 ?_
  (try(refine tX 0 ?_;try exact Zt))
  refine af (ι:=Nat) (λi=>i<=s.length/\Qg s i) (λi=>s.length -i) (λi=>⟨[(0,lS s),(3,vI i)],[],0⟩) 0 Zc ⟨dM _,λj hj=>by omega⟩ ?_;rintro i ⟨hi,hp⟩;by_cases ak:i<s.length
  ·have dy:=λh=>Qh (s:=s) (i:=i) ak h;have l8:=λh=>Ah (s:=s) (i:=i) hp h;unfold okc at dy l8
   (try(refine tX 0 ?_;try exact Zt))
   generalize (s.getD i 0).toNat =c at*;repeat' ((first|refine tX 0 ?_|exact Zt|refine bR ?_ ?_<;>intro h)<;>(try conv=>whnf))
   all_goals first
    |(exfalso;omega)
    |exact gX (eU (dy K0)).symm
    |exact⟨i+1,⟨ak,l8 K0⟩,by omega,Zc⟩
  ·obtain rfl:i=s.length:=by omega
   repeat' ((first|refine tX 0 ?_|exact Zt|refine bR ?_ ?_<;>intro h)<;>(try conv=>whnf))
   all_goals first
    |(exfalso;omega)
    |exact gX (fG ⟨h12,hp⟩).symm
 ·refine sF f81 ?_;repeat' ((first|refine tX 0 ?_|exact Zt|refine bR ?_ ?_<;>intro h)<;>(try conv=>whnf))
  all_goals first
   |(exfalso;omega)
   |exact gX (eU λh=>h12 h.1).symm
abbrev Le (f:Nat)(bI:List (List SC)):SV:=(false,[.fn f [] bI])
abbrev vF (f:Nat)(bI:List (List SC)):Option DV:=some (.val (false,[.st (.fn f [] bI)]))
abbrev vM (id:Nat):Option DV:=some (.val (false,[.mp id]))
def ae1 (e:Int):ac 54 [Bo false,I e] (.one (I e)):=bZ false e
def ae2 (e:Int):ac 54 [Bo true,I e] (.one (I 0)):=bZ true e
def MU {a b:Int}(h:a≠0):ac 52 [(false,[.ints [a,b]])] (.one (I a)):=by
 have:=oG [a,b] (fO rfl)
 grind[fs]
def alA (b:Int):ac 52 [(false,[.ints [0,b]])] (.one (I b)):=by
 have:=oG [0,b] (fO rfl)
 grind[fs]
def kn (l:List aj):List (ByteArray × SV):=l.map λs=>(B s,(false,[.lit (.bool true)]))
theorem Zx (a b:aj):(B a==B b)=decide (a=b):=by
 by_cases h:a=b
 ·subst h;rw[fG rfl];show((B a).data ==(B a).data)=true;simp
 ·rw[eU h];show((B a).data ==(B b).data)=false;simpa [B]using h
def TG (l:List aj)(s:aj):iY (kn l) (B s)=if s∈l then some (false,[.lit (.bool true)])else none:=by
 induction l with
 |nil=>rfl
 |cons a l ih=>
  show(match(B s==B a)with|true=>some ((false,[SC.lit (.bool true)]):SV)|false=>iY (kn l) (B s))=_
  grind[Zx]
def pm {l:List aj}{s:aj}(h:s∈l):uM (iY (kn l) (B s)) (false,[.lit (.bool false)]) false=lit (.bool true):=by rw[TG,if_pos h];rfl
def po {l:List aj}{s:aj}(h:s∉l):uM (iY (kn l) (B s)) (false,[.lit (.bool false)]) false=lit (.bool false):=by rw[TG,if_neg h];rfl
def JT {l:List aj}{s:aj}(h:s∉l):z6 (kn l) (B s) (false,[.lit (.bool true)])=kn (l++[s]):=by
 induction l with
 |nil=>rfl
 |cons a l ih=>
  simp only[dh,not_or]at h
  grind[z6,kn,Zx]
def take_succ {l:List aj}{i:Nat}(h:i<l.length):l.take (i+1)=l.take i++[l.getD i []]:=by simp_all
noncomputable def _root_.Go.Plain.Pl.xF (p:Pl)(i:Nat):Int:=jr (gW p.ap i) 0
abbrev kG (r:Rs):List SC:=[T r.test,J r.ans,J r.entry,K r.void]
abbrev uV (g:Gs):List SC:=[J g.h,J g.m,J g.e,J g.y,J g.a]
abbrev cY (e:En):List SC:=[J e.t,T e.lu,T e.text]
abbrev fq (t:Ts):List SC:=[T t.name,J t.kind,.view (ab t.bu),T t.rules,J t.lo,J t.hi]
abbrev mh (q:aj × List aj):List SC:=[T q.1,.view (ab q.2)]
abbrev na (q:aj × Int):List SC:=[T q.1,J q.2]
abbrev bU (p:Pl):List SC:=[.view (p.ae.map na),.view (ab p.ap),.view (p.aa.map fq),.view (p.parts.map mh),J p.dY,J p.eH]
def bg {α:Type}{f:α->List SC}{l:List α}{i:Nat}(h:i<l.length)(d:α):(l.map f)[i]? =some (f (l.getD i d)):=by grind
def VE (x:aj × Int):ac 167 [(true,na x)] (.one (SS x.1)):=by
 refine sF f167 ?_;exact tL
def Qk (p:Pl)(hl:p.ae.length<=1000)(hs: ∀i<p.ae.length,((p.ae.getD i ([],0)).1).length <=1000)
  (hc: ∀i<p.ae.length,ac 168 [I (i:Int),(false,[.ref (bU p)])] (.one (I (if 0<=(p.ae.getD i ([],0)).2/\(p.ae.getD i ([],0)).2<=3 then 0 else 15)))):
  ac 166 [(false,[.view (p.ae.map na)]),Le 167 [],Le 168 [bU p]] (.aJ [I (cN (p.du) p.ae.length).1,I (cN (p.du) p.ae.length).2]):=by
 have AP:p.ay.length=p.ae.length:=by simp[Pl.ay]
 have Ur:(p.ae.map na).length =p.ae.length:=by simp
 refine sF f166 ?_
 (try(refine tX 0 ?_;try exact Zt))
 refine af (ι:=Nat) (λi=>i<=p.ae.length/\∀j<i,(p.du) j=0) (λi=>p.ae.length -i) (λi=>⟨[(1,vF 167 []),(2,vF 168 [bU p]),(8,vM 0),(14,some (.val (false,[.st (.view (p.ae.map na))]))),(15,vI p.ae.length),(16,vI i)],[(0,some (.map (kn (p.ay.take i))))],1⟩) 0 (fB (ks:=[1,2,8,14,15,16]) (m:=[(4,0)]) (n:=1) UQ) ⟨dM _,λj hj=>by omega⟩ ?_;rintro i ⟨hi,hp⟩;by_cases ak:i<p.ae.length
 ·have he:=bg (f:=na) ak ([],0);have hgn:p.ay.getD i []=(p.ae.getD i ([],0)).1:=by grind[Pl.ay]
  have vJ:=take_succ (l:=p.ay) (i:=i) bq;have hcc:=hc i ak;have Pg:=hs i ak;have kI:(p.du) i=jr (jr (jI (p.ay.getD i [])) (if p.ay.getD i []∈p.ay.take i then 5 else 0)) (if 0<=(p.ae.getD i ([],0)).2/\(p.ae.getD i ([],0)).2<=3 then 0 else 15):=rfl;have eL:=λ(h:(p.du) i≠0)=>fJ (f:=p.du) ak hp h;have iU:=λ(h:(p.du) i=0)=>all_succ hp h;rw[hgn]at kI vJ;have fh:=ge ((p.ae.getD i ([],0)).1) K0;have hnm:=VE (p.ae.getD i ([],0));generalize p.ay.take i=M at*;by_cases h1:eK ((p.ae.getD i ([],0)).1)
  ·have e1:jI ((p.ae.getD i ([],0)).1)=0:=if_pos h1;rw[e1]at fh;rw[e1,jj]at kI;by_cases h2:(p.ae.getD i ([],0)).1∈M
   ·rw[if_pos h2,eS K9]at kI;have vr:=pm h2;rw[eL bq,kI]
    (try(refine tX 0 ?_;try exact Zt))
    rw[vr];exact K1
   ·rw[if_neg h2,jj]at kI;have vr:=po h2;have hpk:=JT h2;by_cases h3:((if 0<=(p.ae.getD i ([],0)).2/\(p.ae.getD i ([],0)).2<=3 then 0 else 15):Int)=0
    ·exact K32
    ·rw[eL abX,kI]
     (try(refine tX 0 ?_;try exact Zt))
     rw[vr];exact K24
  ·have e1:jI ((p.ae.getD i ([],0)).1)=4:=if_neg h1;rw[e1]at fh;rw[e1,eS (show(4:Int)≠0 by decide),eS (show(4:Int)≠0 by decide)]at kI;rw[eL bq,kI];by_cases h2:(p.ae.getD i ([],0)).1∈M
   ·have vr:=pm h2;exact K6
   ·have vr:=po h2;exact K6
 ·obtain rfl:i=p.ae.length:=by omega
  rw[gT hp];exact K24
def VF (x:aj):ac 172 [SS x] (.one (SS x)):=by
 refine sF f172 ?_;exact tL
def Zy (i:Int):ac 173 [I i] (.one (I 0)):=by
 refine sF f173 ?_;exact tL
def Ql (p:Pl)(hl:p.ap.length<=1000)(hs: ∀i<p.ap.length,(p.ap.getD i []).length <=1000)
  (hc: ∀i<p.ap.length,ac 173 [I (i:Int)] (.one (I 0))):
  ac 171 [(false,[.view (ab p.ap)]),Le 172 [],Le 173 []] (.aJ [I (cN (p.xF) p.ap.length).1,I (cN (p.xF) p.ap.length).2]):=by
 have AP:p.ap.length=p.ap.length:=rfl;have Ur:(ab p.ap).length =p.ap.length:=by simp
 refine sF f171 ?_
 (try(refine tX 0 ?_;try exact Zt))
 refine af (ι:=Nat) (λi=>i<=p.ap.length/\∀j<i,(p.xF) j=0) (λi=>p.ap.length -i) (λi=>⟨[(1,vF 172 []),(2,vF 173 []),(8,vM 0),(14,some (.val (false,[.st (.view (ab p.ap))]))),(15,vI p.ap.length),(16,vI i)],[(0,some (.map (kn (p.ap.take i))))],1⟩) 0 (fB (ks:=[1,2,8,14,15,16]) (m:=[(4,0)]) (n:=1) UQ) ⟨dM _,λj hj=>by omega⟩ ?_;rintro i ⟨hi,hp⟩;by_cases ak:i<p.ap.length
 ·have he:=sA ak;have hgn:p.ap.getD i []=p.ap.getD i []:=rfl;have vJ:=take_succ (l:=p.ap) (i:=i) bq;have hcc:=hc i ak;have Pg:=hs i ak;have kI:(p.xF) i=jr (jr (jI (p.ap.getD i [])) (if p.ap.getD i []∈p.ap.take i then 5 else 0)) 0:=rfl;have eL:=λ(h:(p.xF) i≠0)=>fJ (f:=p.xF) ak hp h;have iU:=λ(h:(p.xF) i=0)=>all_succ hp h;rw[hgn]at kI vJ;have fh:=ge (p.ap.getD i []) K0;have hnm:=VF (p.ap.getD i []);generalize p.ap.take i=M at*;by_cases h1:eK (p.ap.getD i [])
  ·have e1:jI (p.ap.getD i [])=0:=if_pos h1;rw[e1]at fh;rw[e1,jj]at kI;by_cases h2:p.ap.getD i []∈M
   ·rw[if_pos h2,eS K9]at kI;have vr:=pm h2;rw[eL bq,kI]
    (try(refine tX 0 ?_;try exact Zt))
    rw[vr];exact K1
   ·rw[if_neg h2,jj]at kI;have vr:=po h2;have hpk:=JT h2;by_cases h3:(0:Int)=0
    ·exact K32
    ·rw[eL abX,kI]
     (try(refine tX 0 ?_;try exact Zt))
     rw[vr];exact K24
  ·have e1:jI (p.ap.getD i [])=4:=if_neg h1;rw[e1]at fh;rw[e1,eS (show(4:Int)≠0 by decide),eS (show(4:Int)≠0 by decide)]at kI;rw[eL bq,kI];by_cases h2:p.ap.getD i []∈M
   ·have vr:=pm h2;exact K6
   ·have vr:=po h2;exact K6
 ·obtain rfl:i=p.ap.length:=by omega
  rw[gT hp];exact K24
def VG (x:Ts):ac 177 [(true,fq x)] (.one (SS x.name)):=by
 refine sF f177 ?_;exact tL
def Qm (p:Pl)(re:aj->Int)(hl:p.aa.length<=1000)(hs: ∀i<p.aa.length,((p.aa.getD i dk).name).length <=1000)
  (hc: ∀i<p.aa.length,ac 178 [I (i:Int),(false,[.ref (bU p)])] (.one (I (VC re p.aa i)))):
  ac 176 [(false,[.view (p.aa.map fq)]),Le 177 [],Le 178 [bU p]] (.aJ [I (cN (p.gK re) p.aa.length).1,I (cN (p.gK re) p.aa.length).2]):=by
 have AP:(cL p.aa).length =p.aa.length:=by simp[cL]
 have Ur:(p.aa.map fq).length =p.aa.length:=by simp
 refine sF f176 ?_
 (try(refine tX 0 ?_;try exact Zt))
 refine af (ι:=Nat) (λi=>i<=p.aa.length/\∀j<i,(p.gK re) j=0) (λi=>p.aa.length -i) (λi=>⟨[(1,vF 177 []),(2,vF 178 [bU p]),(8,vM 0),(14,some (.val (false,[.st (.view (p.aa.map fq))]))),(15,vI p.aa.length),(16,vI i)],[(0,some (.map (kn ((cL p.aa).take i))))],1⟩) 0 (fB (ks:=[1,2,8,14,15,16]) (m:=[(4,0)]) (n:=1) UQ) ⟨dM _,λj hj=>by omega⟩ ?_;rintro i ⟨hi,hp⟩;by_cases ak:i<p.aa.length
 ·have he:=bg (f:=fq) ak dk;have hgn:(cL p.aa).getD i []=(p.aa.getD i dk).name :=rH ak;have vJ:=take_succ (l:=(cL p.aa)) (i:=i) bq;have hcc:=hc i ak;have Pg:=hs i ak;have kI:(p.gK re) i=jr (jr (jI ((cL p.aa).getD i [])) (if(cL p.aa).getD i []∈(cL p.aa).take i then 5 else 0)) (VC re p.aa i):=rfl;have eL:=λ(h:(p.gK re) i≠0)=>fJ (f:=p.gK re) ak hp h;have iU:=λ(h:(p.gK re) i=0)=>all_succ hp h;rw[hgn]at kI vJ;have fh:=ge ((p.aa.getD i dk).name) K0;have hnm:=VG (p.aa.getD i dk);generalize (cL p.aa).take i=M at*;by_cases h1:eK ((p.aa.getD i dk).name)
  ·have e1:jI ((p.aa.getD i dk).name)=0:=if_pos h1;rw[e1]at fh;rw[e1,jj]at kI;by_cases h2:(p.aa.getD i dk).name ∈M
   ·rw[if_pos h2,eS K9]at kI;have vr:=pm h2;rw[eL bq,kI]
    (try(refine tX 0 ?_;try exact Zt))
    rw[vr];exact K1
   ·rw[if_neg h2,jj]at kI;have vr:=po h2;have hpk:=JT h2;by_cases h3:((VC re p.aa i):Int)=0
    ·exact K32
    ·rw[eL abX,kI]
     (try(refine tX 0 ?_;try exact Zt))
     rw[vr];exact K24
  ·have e1:jI ((p.aa.getD i dk).name)=4:=if_neg h1;rw[e1]at fh;rw[e1,eS (show(4:Int)≠0 by decide),eS (show(4:Int)≠0 by decide)]at kI;rw[eL bq,kI];by_cases h2:(p.aa.getD i dk).name ∈M
   ·have vr:=pm h2;exact K6
   ·have vr:=po h2;exact K6
 ·obtain rfl:i=p.aa.length:=by omega
  rw[gT hp];exact K24
def VH (x:aj × List aj):ac 183 [(true,mh x)] (.one (SS x.1)):=by
 refine sF f183 ?_;exact tL
def Qo (p:Pl)(hl:p.parts.length<=1000)(hs: ∀i<p.parts.length,((p.parts.getD i ([],[])).1).length <=1000)
  (hc: ∀i<p.parts.length,ac 184 [I (i:Int),(false,[.ref (bU p)])] (.one (I (jT (p.parts.getD i ([],[])).2 (cL p.aa))))):
  ac 182 [(false,[.view (p.parts.map mh)]),Le 183 [],Le 184 [bU p]] (.aJ [I (cN (p.je) p.parts.length).1,I (cN (p.je) p.parts.length).2]):=by
 have AP:p.bd.length=p.parts.length:=by simp[Pl.bd]
 have Ur:(p.parts.map mh).length =p.parts.length:=by simp
 refine sF f182 ?_
 (try(refine tX 0 ?_;try exact Zt))
 refine af (ι:=Nat) (λi=>i<=p.parts.length/\∀j<i,(p.je) j=0) (λi=>p.parts.length -i) (λi=>⟨[(1,vF 183 []),(2,vF 184 [bU p]),(8,vM 0),(14,some (.val (false,[.st (.view (p.parts.map mh))]))),(15,vI p.parts.length),(16,vI i)],[(0,some (.map (kn (p.bd.take i))))],1⟩) 0 (fB (ks:=[1,2,8,14,15,16]) (m:=[(4,0)]) (n:=1) UQ) ⟨dM _,λj hj=>by omega⟩ ?_;rintro i ⟨hi,hp⟩;by_cases ak:i<p.parts.length
 ·have he:=bg (f:=mh) ak ([],[]);have hgn:p.bd.getD i []=(p.parts.getD i ([],[])).1:=by grind[Pl.bd]
  have vJ:=take_succ (l:=p.bd) (i:=i) bq;have hcc:=hc i ak;have Pg:=hs i ak;have kI:(p.je) i=jr (jr (jI (p.bd.getD i [])) (if p.bd.getD i []∈p.bd.take i then 5 else 0)) (jT (p.parts.getD i ([],[])).2 (cL p.aa)):=rfl;have eL:=λ(h:(p.je) i≠0)=>fJ (f:=p.je) ak hp h;have iU:=λ(h:(p.je) i=0)=>all_succ hp h;rw[hgn]at kI vJ;have fh:=ge ((p.parts.getD i ([],[])).1) K0;have hnm:=VH (p.parts.getD i ([],[]));generalize p.bd.take i=M at*;by_cases h1:eK ((p.parts.getD i ([],[])).1)
  ·have e1:jI ((p.parts.getD i ([],[])).1)=0:=if_pos h1;rw[e1]at fh;rw[e1,jj]at kI;by_cases h2:(p.parts.getD i ([],[])).1∈M
   ·rw[if_pos h2,eS K9]at kI;have vr:=pm h2;rw[eL bq,kI]
    (try(refine tX 0 ?_;try exact Zt))
    rw[vr];exact K1
   ·rw[if_neg h2,jj]at kI;have vr:=po h2;have hpk:=JT h2;by_cases h3:((jT (p.parts.getD i ([],[])).2 (cL p.aa)):Int)=0
    ·exact K32
    ·rw[eL abX,kI]
     (try(refine tX 0 ?_;try exact Zt))
     rw[vr];exact K24
  ·have e1:jI ((p.parts.getD i ([],[])).1)=4:=if_neg h1;rw[e1]at fh;rw[e1,eS (show(4:Int)≠0 by decide),eS (show(4:Int)≠0 by decide)]at kI;rw[eL bq,kI];by_cases h2:(p.parts.getD i ([],[])).1∈M
   ·have vr:=pm h2;exact K6
   ·have vr:=po h2;exact K6
 ·obtain rfl:i=p.parts.length:=by omega
  rw[gT hp];exact K24
abbrev kz (u:Un):List SC:=[T u.name,J u.win.k1,J u.win.t1,J u.win.s1,K u.win.r1,J u.win.k2,J u.win.t2,J u.win.s2,K u.win.r2,J u.win.st,.view (ab u.lots),.view (u.res.map kG),K u.failed,K u.rel,K u.shaken,J u.used,.view (u.gas.map uV)]
abbrev Aj (s:bQ):List SC:=[K s.volt,K s.earth,.view (ab s.opens),T s.hall,.view (ab s.lots),.view (s.units.map kz)]
def cP (u:Un)(a b c:Nat):List DC:=[.st (T u.name),.st (J u.win.k1),.st (J u.win.t1),.st (J u.win.s1),.st (K u.win.r1),.st (J u.win.k2),.st (J u.win.t2),.st (J u.win.s2),.st (K u.win.r2),.st (J u.win.st),.own a,.own b,.st (K u.failed),.st (K u.rel),.st (K u.shaken),.st (J u.used),.own c]
def lA (u:Un)(a b c:Nat):Hp:=[(a,some (.row true 1 (.view (ab u.lots)))),(b,some (.row true 4 (.view (u.res.map kG)))),(c,some (.row true 5 (.view (u.gas.map uV))))]
def aA:Nat->List Un->List (List DC)
 |_,[]=>[]
 |k,u::us=>cP u (17+6*k) (19+6*k) (21+6*k)::aA (k+1) us
def br:Nat->List Un->Hp
 |_,[]=>[]
 |k,u::us=>lA u (17+6*k) (19+6*k) (21+6*k)++br (k+1) us
theorem eO: ∀(k:Nat) (us:List Un),(aA k us).length =us.length
 |_,[]=>rfl
 |k,u::us=>by simp[aA,eO (k+1) us]
def uW: ∀ {k:Nat} {us:List Un} {i:Nat} {u:Un},us[i]? =some u->(aA k us)[i]? =some (cP u (17+6*(k+i)) (19+6*(k+i)) (21+6*(k+i)))
 |k,[],i,u,h=>by simp at h
 |k,v::us,0,u,h=>by simp at h;subst h;rfl
 |k,v::us,i+1,u,h=>by
  have:=uW (k:=k+1) (us:=us) (i:=i) (u:=u) bq
  grind[aA]
def HP: ∀ {k:Nat} {us:List Un} {i:Nat} {u:Un},i<us.length->aA k (us.set i u)=(aA k us).set i (cP u (17+6*(k+i)) (19+6*(k+i)) (21+6*(k+i)))
 |k,[],i,u,h=>by simp at h
 |k,v::us,0,u,h=>rfl
 |k,v::us,i+1,u,h=>by
  have:=HP (k:=k+1) (us:=us) (i:=i) (u:=u) bq
  grind[aA]
def yI: ∀(k:Nat) (a b:List Un),br k (a++b)=br k a++br (k+a.length) b
 |k,[],b=>by simp[br]
 |k,u::a,b=>by
  simp only[qR,br,yI (k+1) a b,G0,kF]
  grind
theorem gg: ∀ {k:Nat} {us:List Un} {n:Nat},n∈ah (br k us)->∃j,k<=j/\j<k+us.length/\(n=17+6*j\/n=19+6*j\/n=21+6*j)
 |k,[],n,h=>by cases h
 |k,u::us,n,h=>by
  have h:n∈(17+6*k)::(19+6*k)::(21+6*k)::ah (br (k+1) us):=by simpa [br,lA,ah]using h
  rcases dh.1 h with rfl|h
  ·exact⟨k,dz _,by simp,.inl rfl⟩
  rcases dh.1 h with rfl|h
  ·exact⟨k,dz _,by simp,.inr (.inl rfl)⟩
  rcases dh.1 h with rfl|h
  ·exact⟨k,dz _,by simp,.inr (.inr rfl)⟩
  obtain⟨j,h1,h2,h3⟩:=gg h;exact⟨j,by omega,by grind,h3⟩
theorem yJ: ∀(k:Nat) (us:List Un),(ah (br k us)).Nodup
 |_,[]=>G3
 |k,u::us=>by
  have e:ah (br k (u::us))=(17+6*k)::(19+6*k)::(21+6*k)::ah (br (k+1) us):=by exact acj
  have hn: ∀n,n∈ah (br (k+1) us)->22+6*k<=n:=λn h=>by grind[gg]
  rw[e,zP,zP,zP];refine⟨λh=>?_,λh=>?_,λh=>?_,yJ (k+1) us⟩
  grind
  grind
  grind
theorem tR: ∀ {k:Nat} {us:List Un} {n:Nat} {b:cB},(br k us).get n=some b->∃m z c,b= .row m z c
 |k,[],n,b,h=>by grind[br,Hp.get]
 |k,u::us,n,b,h=>by
  have h:Hp.get ((17+6*k,some (.row true 1 (.view (ab u.lots))))::(19+6*k,some (.row true 4 (.view (u.res.map kG))))::(21+6*k,some (.row true 5 (.view (u.gas.map uV))))::br (k+1) us) n=some b:=h;rw[Hp.au,Hp.au,Hp.au]at h;by_cases h1:n=17+6*k
  grind[am]
  rw[az _ _ _ h1]at h;by_cases h2:n=19+6*k
  grind[am]
  rw[az _ _ _ h2]at h;by_cases h3:n=21+6*k
  grind[am]
  rw[az _ _ _ h3]at h;exact tR h
def gZ {us:List Un}(h:us.length<=1000):BT (br 0 us):=
 ⟨yJ 0 us,λn hn=>by grind[gg],λn b e=>tR e⟩
def wkB (p:Pl)(s:bQ):cB:=.box 126 [.st (.view (p.ae.map na)),.st (.view (ab p.ap)),.st (.view (p.aa.map fq)),.st (.view (p.parts.map mh)),.st (J p.dY),.st (J p.eH),.own 3,.st (K s.volt),.st (K s.earth),.own 5,.st (T s.hall),.own 7,.own 9]
def hd (p:Pl)(log:List En)(s:bQ):Hp:=[(1,some (wkB p s)),(3,some (.row true 3 (.view (log.map cY)))),(5,some (.row true 1 (.view (ab s.opens)))),(7,some (.row true 1 (.view (ab s.lots))))]
def form (p:Pl)(log:List En)(s:bQ):Hp:=(9,some (.aG 17 (aA 0 s.units)))::hd p log s++br 0 s.units
def ep (p:Pl)(log:List En)(s:bQ)(u:Un)(l:List (List DC))(R:Hp):Hp:=(9,some (.aG 17 l))::(hd p log s++lA u 11 13 15)++R
def qq (i k:Nat):Nat:=if k=17+6*i then 11 else if k=19+6*i then 13 else if k=21+6*i then 15 else k
def HQ (i k:Nat):Nat:=if k=11 then 17+6*i else if k=13 then 19+6*i else if k=15 then 21+6*i else k
theorem pM {i k:Nat}(h1:k≠17+6*i)(h2:k≠19+6*i)(h3:k≠21+6*i):qq i k=k:=by unfold qq;grind
def ae3 (i:Nat):qq i (17+6*i)=11:=by unfold qq;grind
def ae4 (i:Nat):qq i (19+6*i)=13:=by unfold qq;grind
def ae5 (i:Nat):qq i (21+6*i)=15:=by unfold qq;grind
theorem JU {i k:Nat}(h1:k≠11)(h2:k≠13)(h3:k≠15):HQ i k=k:=by unfold HQ;grind
def Zz (ρ:Nat->Nat)(u:Un)(a b c:Nat):(cP u a b c).map (DC.rn ρ)=cP u (ρ a) (ρ b) (ρ c):=rfl
theorem qr (ρ:Nat->Nat)(a b:Hp):cS ρ (a++b)=cS ρ a++cS ρ b:=by simp[cS]
theorem uX {ρ:Nat->Nat}: ∀ {k:Nat} {us:List Un},(∀n∈ah (br k us),ρ n=n)->cS ρ (br k us)=br k us
 |k,[],_=>rfl
 |k,u::us,h=>by
  have e:ah (br k (u::us))=(17+6*k)::(19+6*k)::(21+6*k)::ah (br (k+1) us):=by exact acj
  rw[e]at h;have h1:=h (17+6*k) (by simp);have h2:=h (19+6*k) (by simp);have h3:=h (21+6*k) (by simp);rw[show br k (u::us)=lA u (17+6*k) (19+6*k) (21+6*k)++br (k+1) us from rfl,qr,uX λn hn=>h n bq];congr 1;show [(ρ (17+6*k),_),(ρ (19+6*k),_),(ρ (21+6*k),_)]=_;rw[h1,h2,h3];rfl
def yK {ρ:Nat->Nat}: ∀ {k:Nat} {us:List Un},(∀n∈ah (br k us),ρ n=n)->(aA k us).map (λe=>e.map (DC.rn ρ))=aA k us
 |k,[],_=>rfl
 |k,u::us,h=>by
  have e:ah (br k (u::us))=(17+6*k)::(19+6*k)::(21+6*k)::ah (br (k+1) us):=by exact acj
  rw[e]at h;have h1:=h (17+6*k) (by simp);have h2:=h (19+6*k) (by simp);have h3:=h (21+6*k) (by simp);rw[show aA k (u::us)=cP u (17+6*k) (19+6*k) (21+6*k)::aA (k+1) us from rfl,jw,yK λn hn=>h n bq,Zz,h1,h2,h3]
def uY: ∀(k:Nat) (a b:List Un),aA k (a++b)=aA k a++aA (k+a.length) b
 |k,[],b=>by simp[aA]
 |k,u::a,b=>by
  simp only[qR,aA,uY (k+1) a b,kF]
  grind
def qt {A F' B:Hp}(h: ∀n∈ah F',n∉ah A):Hp.get (A++(F'++B))=Hp.get (F'++(A++B)):=by
 funext n;rw[Hp.get_append,Hp.get_append,Hp.get_append,Hp.get_append,oA,oA,oA,oA]
 grind
theorem bt.congr {C:bN}{f:FuncId}{nx:Nat}{xs:List DX}{Hs Hs2 mo amg:Hp}{fL:List Nat}{r:DV}(h:bt C f nx xs Hs fL r mo)(e:Hs.get=Hs2.get)(e':mo.get=amg.get):bt C f nx xs Hs2 fL r amg:=by
 unfold bt at*
 grind
abbrev ax (us:List Un)(i:Nat):Hp:=br 0 (us.take i)++br (i+1) (us.drop (i+1))
def qu {us:List Un}{i:Nat}{u:Un}(h:us[i]? =some u):us=us.take i++u::us.drop (i+1)/\(us.take i).length =i:=by grind[List.getElem_cons_drop,List.take_append_drop]
def wK {us:List Un}{i n:Nat}{u:Un}(h:us[i]? =some u)(hn:n∈ah (ax us i)):17<=n/\n≠17+6*i/\n≠19+6*i/\n≠21+6*i/\n<23+6*us.length/\n%2=1:=by
 obtain⟨h1,h2⟩:=kp.1 h;have hn:n∈ah (br 0 (us.take i))++ah (br (i+1) (us.drop (i+1))):=by grind
 grind[gg]
def VI {us:List Un}{i:Nat}{u:Un}(h:us[i]? =some u):(aA 0 us).map (λe=>e.map (DC.rn (qq i)))=(aA 0 us).set i (cP u 11 13 15):=by
 obtain⟨h1,h2⟩:=qu h;generalize us.take i=A at*;generalize us.drop (i+1)=B at*;subst h1;rw[uY,wx,h2,j8];rw[show aA i (u::B)=cP u (17+6*i) (19+6*i) (21+6*i)::aA (i+1) B from rfl,jw,Zz,ae3,ae4,ae5];rw[yK λn hn=>by grind[gg,pM]];rw[yK λn hn=>by grind[gg,pM]];rw[Sq _ _ (by grind[eO]),eO,h2,G6,SG]
def VJ {us:List Un}{i:Nat}{u':Un}(h:i<us.length):((aA 0 us).set i (cP u' 11 13 15)).map (λe=>e.map (DC.rn (HQ i)))=aA 0 (us.set i u'):=by
 rw[LU,yK λn hn=>by grind[gg,JU],HP h,j8];rfl
def ZA {us:List Un}{i:Nat}{u:Un}(h:us[i]? =some u):cS (qq i) (br 0 us)=br 0 (us.take i)++(lA u 11 13 15++br (i+1) (us.drop (i+1))):=by
 obtain⟨h1,h2⟩:=qu h;generalize us.take i=A at*;generalize us.drop (i+1)=B at*;subst h1;rw[yI,h2,j8,qr,show br i (u::B)=lA u (17+6*i) (19+6*i) (21+6*i)++br (i+1) B from rfl,qr];rw[uX λn hn=>by grind[gg,pM]];rw[uX λn hn=>by grind[gg,pM]];congr 2;show [(qq i (17+6*i),_),(qq i (19+6*i),_),(qq i (21+6*i),_)]=_;rw[ae3,ae4,ae5];rfl
def ZB {us:List Un}{i:Nat}{u u':Un}(h:us[i]? =some u):br 0 (us.set i u')=br 0 (us.take i)++(lA u' (17+6*i) (19+6*i) (21+6*i)++br (i+1) (us.drop (i+1))):=by
 obtain⟨h1,h2⟩:=qu h;generalize us.take i=A at*;generalize us.drop (i+1)=B at*;subst h1;rw[Sq _ _ K0,h2,G6,SG,yI,h2,j8];rfl
def lV: ∀ {k:Nat} {us:List Un} {e:List DC},e∈aA k us->∀d∈e,d.dQ (· ∈ah (br k us))
 |k,[],e,h=>by cases h
 |k,u::us,e,h=>by
  have hk:ah (br k (u::us))=(17+6*k)::(19+6*k)::(21+6*k)::ah (br (k+1) us):=by exact acj
  rw[hk];rcases dh.1 h with rfl|h
  ·intro d hd;exact ahQ
  ·intro d hd;exact DC.dL (λn hn=>by grind) (lV h d hd)
theorem HR {k:Nat}(h:k%2=1)(h':k<4294967296):tag k=0:=by grind[JE]
def qw (p:Pl)(log:List En)(s:bQ):ah (form p log s)=9::1::3::5::7::ah (br 0 s.units):=by simp[form,hd,ah]
def wL (p:Pl)(log:List En)(s:bQ)(u:Un)(l:List (List DC))(R:Hp):ah (ep p log s u l R)=9::1::3::5::7::11::13::15::ah R:=by simp[ep,hd,lA,ah]
def alB {L R:List Nat}(h:L.Nodup)(h':R.Nodup)(hL: ∀k∈L,k<17)(hR: ∀k∈R,17<=k):(L++R).Nodup :=by grind
def dq (p:Pl)(log:List En){s:bQ}(h:s.units.length<=1000):Ld (form p log s) 1:=by
 have hk:=qw p log s;have hr: ∀n∈ah (br 0 s.units),17<=n/\n<4294967296/\n%2=1:=(gZ h).key;refine⟨?_,λk pF=>?_,λk b e=>?_,⟨_,_,rfl⟩⟩
 grind[yJ]
 grind[HR]
 ·rw[hk];unfold form hd at e;simp only[qR,LO]at e;rw[Hp.au,Hp.au,Hp.au,Hp.au,Hp.au]at e;by_cases h9:k=9
  ·subst h9;rw[am]at e;cases e;exact λx hx d hd=>DC.dL (λn hn=>by grind) (lV hx d hd)
  rw[az _ _ _ h9]at e;by_cases h1:k=1
  ·exact K95
  rw[az _ _ _ h1]at e;by_cases h3:k=3
  ·exact aky
  rw[az _ _ _ h3]at e;by_cases h5:k=5
  ·exact akz
  rw[az _ _ _ h5]at e;by_cases h7:k=7
  ·exact akx
  rw[az _ _ _ h7]at e;obtain⟨m,z,c,rfl⟩:=tR e;trivial
def uZ {us:List Un}{i:Nat}{u:Un}(h:us[i]? =some u)(X:List DC):(aA 0 us).set i X=aA 0 (us.take i)++X::aA (i+1) (us.drop (i+1)):=by
 obtain⟨h1,h2⟩:=qu h;generalize us.take i=A at*;generalize us.drop (i+1)=B at*;subst h1;rw[uY,h2,j8,Sq _ _ (by grind[eO]),eO,h2,G6];rfl
def nU (p:Pl)(log:List En)(s:bQ){us:List Un}{i:Nat}{u u':Un}(hi:us[i]? =some u)(h:us.length<=1000):Ld (ep p log s u' ((aA 0 us).set i (cP u' 11 13 15)) (ax us i)) 1:=by
 have hk:=wL p log s u' ((aA 0 us).set i (cP u' 11 13 15)) (ax us i);have hr:=λn (hn:n∈ah (ax us i))=>wK hi hn;refine⟨?_,λk pF=>?_,λk b e=>?_,⟨_,_,rfl⟩⟩
 ·rw[hk];refine alB (L:=[9,1,3,5,7,11,13,15]) K9 ?_ K9 λk hk=>(hr k hk).1;have hn:=yJ 0 us;obtain⟨h1,h2⟩:=qu hi;have e:ah (br 0 us)=ah (br 0 (us.take i))++(ah (lA u (17+6*i) (19+6*i) (21+6*i))++ah (br (i+1) (us.drop (i+1)))):=ahZ;rw[e]at hn;have e2:ah (ax us i)=ah (br 0 (us.take i))++ah (br (i+1) (us.drop (i+1))):=by grind
  show(ah (ax us i)).Nodup;rw[e2];rw[IU]at hn ⊢
  grind
 ·rw[hk]at pF;simp only[dh]at pF;rcases pF with rfl|rfl|rfl|rfl|rfl|rfl|rfl|rfl|h'
  ·decide
  ·decide
  ·decide
  ·decide
  ·decide
  ·decide
  ·decide
  ·decide
  grind[HR]
 ·rw[hk];unfold ep hd lA at e;simp only[qR,LO]at e;rw[Hp.au,Hp.au,Hp.au,Hp.au,Hp.au,Hp.au,Hp.au,Hp.au]at e;by_cases h9:k=9
  ·subst h9;rw[am]at e;cases e;have up: ∀ {n:Nat},n∈ah (ax us i)->n∈9::1::3::5::7::11::13::15::ah (ax us i):=λhn=>by grind
   intro x hx d hd;rw[uZ hi]at hx;rcases gC.1 hx with hx|hx
   ·exact DC.dL (λn hn=>up bq) (lV hx d hd)
   rcases dh.1 hx with rfl|hx;rotate_left
   ·exact DC.dL (λn hn=>up bq) (lV hx d hd)
   ·exact ahQ
  rw[az _ _ _ h9]at e;by_cases h1:k=1
  ·exact K95
  rw[az _ _ _ h1]at e;by_cases h3:k=3
  ·exact aky
  rw[az _ _ _ h3]at e;by_cases h5:k=5
  ·exact akz
  rw[az _ _ _ h5]at e;by_cases h7:k=7
  ·exact akx
  rw[az _ _ _ h7]at e;by_cases h11:k=11
  ·subst h11;rw[am]at e;cases e;trivial
  rw[az _ _ _ h11]at e;by_cases h13:k=13
  ·subst h13;rw[am]at e;cases e;trivial
  rw[az _ _ _ h13]at e;by_cases h15:k=15
  ·subst h15;rw[am]at e;cases e;trivial
  rw[az _ _ _ h15]at e;rw[Hp.get_append,oA]at e;split at e
  ·exact akt
  ·exact akt
def HS {X L L':Hp}(h:L.get=L'.get):(X++L).get =(X++L').get :=by grind[Hp.get_append]
def ZD (p:Pl)(log:List En){s:bQ}{i:Nat}{u:Un}(h:s.units[i]? =some u):(cS (qq i) (form p log s)).get =(ep p log s u ((aA 0 s.units).set i (cP u 11 13 15)) (ax s.units i)).get :=by
 have h3:qq i 3=3:=pM K0 K0 K0;have h5:qq i 5=5:=pM K0 K0 K0;have h7:qq i 7=7:=pM K0 K0 K0;have h9:qq i 9=9:=pM K0 K0 K0;have h1:qq i 1=1:=pM K0 K0 K0
 have e:cS (qq i) (form p log s)=((9,some (.aG 17 ((aA 0 s.units).set i (cP u 11 13 15))))::hd p log s)++(br 0 (s.units.take i)++(lA u 11 13 15++br (i+1) (s.units.drop (i+1)))):=by
  unfold form;rw[qr,ZA h];congr 1;show [(qq i 9,some (cB.aG 17 ((aA 0 s.units).map λe=>e.map (DC.rn (qq i))))),(qq i 1,some (.box _ [_,_,_,_,_,_,.own (qq i 3),_,_,.own (qq i 5),_,.own (qq i 7),.own (qq i 9)])),(qq i 3,_),(qq i 5,_),(qq i 7,_)]=_;rw[VI h,h1,h3,h5,h7,h9];rfl
 rw[e,show ep p log s u ((aA 0 s.units).set i (cP u 11 13 15)) (ax s.units i)=((9,some (.aG 17 ((aA 0 s.units).set i (cP u 11 13 15))))::hd p log s)++(lA u 11 13 15++ax s.units i)by simp[ep]];refine HS (qt λn hn hm=>?_);obtain⟨j,q1,q2,q3⟩:=gg hm;have:n=11\/n=13\/n=15:=by simpa [lA,ah]using hn
 omega
theorem MW (p:Pl)(log:List En)(s:bQ){us:List Un}{i:Nat}{u u':Un}(h:us[i]? =some u)(hs:s.units=us.set i u'):(cS (HQ i) (ep p log s u' ((aA 0 us).set i (cP u' 11 13 15)) (ax us i))).get =(form p log s).get :=by
 have ak:=(kp.1 h).1
 have e:cS (HQ i) (ep p log s u' ((aA 0 us).set i (cP u' 11 13 15)) (ax us i))=((9,some (.aG 17 (aA 0 s.units)))::hd p log s)++(lA u' (17+6*i) (19+6*i) (21+6*i)++ax us i):=by
  have e1:cS (HQ i) (ax us i)=ax us i:=by grind[qr,uX,gg,JU]
  have e2:cS (HQ i) ((9,some (cB.aG 17 ((aA 0 us).set i (cP u' 11 13 15))))::(hd p log s++lA u' 11 13 15))=((9,some (.aG 17 (aA 0 s.units)))::hd p log s)++lA u' (17+6*i) (19+6*i) (21+6*i):=by
   show(9,some (cB.aG 17 (((aA 0 us).set i (cP u' 11 13 15)).map λe=>e.map (DC.rn (HQ i)))))::_=_;rw[VJ ak,hs];rfl
  show cS (HQ i) (((9,some (cB.aG 17 ((aA 0 us).set i (cP u' 11 13 15))))::(hd p log s++lA u' 11 13 15))++ax us i)=_
  grind[qr]
 rw[e,show form p log s=((9,some (.aG 17 (aA 0 s.units)))::hd p log s)++br 0 s.units by simp[form],hs,ZB h];refine HS (qt λn hn hm=>?_).symm;obtain⟨j,q1,q2,q3⟩:=gg hm;have:n=17+6*i\/n=19+6*i\/n=21+6*i:=by simpa [lA,ah]using hn
 grind
def focus {f:FuncId}{ys:List SV}{p:Pl}{log si:List En}{s s':bQ}{i:Nat}{u u':Un}{y:SV}(hi:s.units[i]? =some u)(hl:s.units.length<=1000)
  (h:bt cx f 1 ((false,[.ptr 1 0])::ys.map dyn) (ep p log s u ((aA 0 s.units).set i (cP u 11 13 15)) (ax s.units i)) [1] (.val (dyn y)) (ep p si s' u' ((aA 0 s.units).set i (cP u' 11 13 15)) (ax s.units i)))
  (hs:s'.units=s.units.set i u'):bt cx f 1 ((false,[.ptr 1 0])::ys.map dyn) (form p log s) [1] (.val (dyn y)) (form p si s'):=by
 have hk:=qw p log s;have hT:=dq p log hl;have fj:=nU p si s' (u':=u') hi hl;have gE: ∀n∈ah (br 0 s.units),17<=n:=λn hn=>by grind[gg]
 have aoI: ∀k∈ah (form p log s),k≠11/\k≠13/\k≠15:=λk pF=>by grind
 have amB: ∀a∈ah (form p log s),∀b∈ah (form p log s),qq i a=qq i b->a=b:=λa ha b hb e=>by grind[qq]
 have amY: ∀k∈ah (ep p si s' u' ((aA 0 s.units).set i (cP u' 11 13 15)) (ax s.units i)),k≠17+6*i/\k≠19+6*i/\k≠21+6*i:=λk pF=>by exact ahP
 have ahj: ∀a∈ah (ep p si s' u' ((aA 0 s.units).set i (cP u' 11 13 15)) (ax s.units i)),∀b∈ah (ep p si s' u' ((aA 0 s.units).set i (cP u' 11 13 15)) (ax s.units i)),HQ i a=HQ i b->a=b:=λa ha b hb e=>by grind[HQ]
 have f1:qq i 1=1:=pM K0 K0 K0;have u1:HQ i 1=1:=JU K0 K0 K0
 have B9:((false,[DC.ptr 1 0])::ys.map dyn).map (Gi (qq i))=(false,[.ptr 1 0])::ys.map dyn:=by
  rw[jw,zS];refine congr (aP List.cons ?_) ?_
  ·show(false,[DC.ptr (qq i 1) 0])=_;rw[f1]
  ·refine Lw λx _=>?_;show((dyn x).1,(dyn x).2.map (DC.rn (qq i)))=dyn x;exact af0
 have g1:bt cx f 1 (((false,[DC.ptr 1 0])::ys.map dyn).map (Gi (qq i))) (cS (qq i) (form p log s)) [1] (.val (dyn y)) (ep p si s' u' ((aA 0 s.units).set i (cP u' 11 13 15)) (ax s.units i)):=by rw[B9];exact bt.congr h (ZD p log hi).symm rfl
 have Pc: ∀x∈((false,[DC.ptr 1 0])::ys.map dyn),ee (· ∈ah (form p log s)) x:=by
  intro x hx;rcases dh.1 hx with rfl|hx
  ·intro d hd;rw[lz]at hd;subst hd;show(1:Nat)∈ah _
   grind
  ·obtain⟨z,_,rfl⟩:=dS.1 hx;exact afU
 have g2:=g1.inn (nx0:=1) (m8.hp hT amB) (λo b e=>⟨Hp.dV e,by rw[jR amB o (Hp.dV e),e];rfl⟩) (λk pF=>by
   have h1:=(hT.lt k pF).2
   have:tag (qq i k)=0:=by
    unfold qq;split
    ·rfl
    ·split
     ·rfl
     ·split
      ·rfl
      grind
   omega) Pc (λid hid=>by grind)
 have g3:=g2.out (m8.hp fj ahj) (by
   show lG _ (.val (dyn y));intro d hd;obtain⟨c,_,rfl⟩:=dS.1 hd
   trivial) (λid hid=>by rw[lz]at hid;subst hid;exact⟨fj.xE,u1⟩)
 have hr:Lc (HQ i) (.val (dyn y))= .val (dyn y):=by
  show DV.val ((dyn y).1,(dyn y).2.map (DC.rn (HQ i)))=_;exact af0
 grind[bt.congr,MW]
def lW (l:List aj)(x:aj):ab (l++[x])=ab l++[[.lit (.string (B x))]]:=by simp
def kY (n m:Int)(h: -9223372036854775807<=m/\m<=9223372036854775807):ac 231 [I n,I m] (.one (Bo (decide (-m<=n)&&decide (n<=m)))):=by
 refine sF f231 ?_;exact K1
def jm (k:Int):ac 71 [I k] (.one (Bo (decide (nj k)))):=by
 refine sF f71 ?_;repeat' ((first|refine tX 0 ?_|exact Zt|refine bR ?_ ?_<;>intro h)<;>(try conv=>whnf))
 all_goals exact gX (by rw[vt];simp;unfold nj;omega)
def HU (l all:List aj)(hl:l.length<=1000)(ha:all.length<=1000):ac 185 [V1 l,V1 all] (.one (I (jT l all))):=by
 have hn:(ab l).length =l.length:=by simp
 refine sF f185 ?_
 (try(refine tX 0 ?_;try exact Zt))
 refine af (ι:=Nat) (λi=>i<=l.length/\∀j<i,D2 l all j=0) (λi=>l.length -i) (λi=>⟨[(0,some (.val (false,[.st (.view (ab l))]))),(1,some (.val (false,[.st (.view (ab all))]))),(8,some (.val (false,[.st (.view (ab l))]))),(9,vI l.length),(10,vI i)],[],0⟩) 0 (ai PD) ⟨dM _,λj hj=>by omega⟩ ?_;rintro i ⟨hi,hp⟩;by_cases ak:i<l.length
 ·have he:=sA ak;have kI:D2 l all i=if l.getD i []∈all then(if l.getD i []∈l.take i then 23 else 0)else 6:=rfl
  have eL:=λ(h:D2 l all i≠0)=>fJ (f:=D2 l all) ak hp h;have iU:=λ(h:D2 l all i=0)=>all_succ hp h;have hra:jT l all=(cN (D2 l all) l.length).2:=rfl;have c1:=bD all (l.getD i []) K0;have c2:=bD (l.take i) (l.getD i []) wA;have zB:(ab l).take i=ab (l.take i):=by simp
  generalize l.getD i []=s at*;by_cases h1:s∈all
  ·rw[fG h1]at c1;rw[if_pos h1]at kI;by_cases h2:s∈l.take i
   ·rw[fG h2]at c2;rw[if_pos h2]at kI;rw[hra,eL af9,kI];exact tA
   ·rw[eU h2]at c2;rw[if_neg h2]at kI;repeat' ((first|refine tX 0 ?_|exact Zt|refine bR ?_ ?_<;>intro h)<;>(try conv=>whnf))
    all_goals first|exact Zo|exact⟨i+1,⟨ak,iU kI⟩,by omega,Zc⟩
  ·rw[eU h1]at c1;rw[if_neg h1]at kI;rw[hra,eL af9,kI];by_cases h2:s∈l.take i
   ·rw[fG h2]at c2;exact ahR
   ·rw[eU h2]at c2;exact ahR
 ·obtain rfl:i=l.length:=by omega
  have hra:jT l all=0:=by unfold jT;rw[gT hp]
  rw[hra];exact tA
def tT (l:List Ts)(hl:l.length<=1000):ac 186 [(false,[.view (l.map fq)])] (.own 1 (.view (ab (cL l)))):=by
 have hn:(l.map fq).length =l.length:=by simp
 have AP:(cL l).length =l.length:=by simp[cL]
 refine sF f186 ?_
 (try(refine tX 0 ?_;try exact Zt))
 refine af (ι:=Nat) (λi=>i<=l.length) (λi=>l.length -i) (λi=>⟨[(3,pO 0),(6,some (.val (false,[.st (.view (l.map fq))]))),(7,vI l.length),(8,vI i)],[(0,some (.row true 1 (.view (ab ((cL l).take i)))))],1⟩) 0 (bs.trans (jB 3 1 (.view []) K9 rfl rfl rfl) (ai PD)) (dM _) ?_;intro i hi;by_cases ak:i<l.length
 ·have he:=bg (f:=fq) ak dk;have vJ:=take_succ (l:=cL l) (i:=i) K0;rw[rH ak]at vJ;have uF:(ab ((cL l).take i)).length <=1000:=by simp;omega
  repeat' ((first|refine tX 0 ?_|exact Zt|refine bR ?_ ?_<;>intro h)<;>(try conv=>whnf))
  all_goals first|exact Zo|exact⟨i+1,ak,by omega,ai abQ⟩
 ·obtain rfl:i=l.length:=by omega
  rw[o0 K0];exact tA
def ac9 (fn:Func)(r:DV)(T':Hp)(S:St):Prop:=∃m:List (Nat × Nat),cW m S.hp.get T'.get/\eA cx S.hp.get S.env.get fn.results.toList λys=>∃zs,kV m ys=some zs/\pg zs=r
def gR {f:FuncId}{c:Code}{xs:List DX}{r:DV}{T':Hp}(fn:Func)(h:m6 cx c ⟨iz 0 xs,[],1⟩ (ac9 fn r T') (λ_ _=>False) (ac9 fn r T'))
  (h1:iH cx.P f=true:=by kernel_rfl)(h2:cx.P.funcs[f]? =some fn:=by kernel_rfl)(h3:fn.body=some c:=by rfl)(h4:bM fn.ntmps c=true:=by kernel_rfl)(h5:xs.length<=fn.ntmps:=by exact fO rfl)(h6:aM [] c=true:=by kernel_rfl):
  bt cx f 1 xs [] [] r T':=
 fA lH h1 h2 h3 h4 h5 [] (λ_ h=>by cases h) h6 (λS hS=>by
  obtain⟨m,g1,g2⟩:=hS
  exact⟨m,g1,(λ_ h=>by cases h),g2⟩) h
def H7 (H:HF):cW [] H (Hp.get []):=⟨by simp,by simp,λn b' e=>by simp[Hp.get]at e⟩
def V5 (es:List (List SC))(H:Hp)(fid:Nat):bW cx fid 270 [(false,[.st (.view es)])] H.get (bm (.st (.fn 296 [] [[.view es]]))) [] []:=by
 refine mq (nx:=1) (T':=[]) (r:=bm (.st (.fn 296 [] [[.view es]]))) ?_ ⟨by simp,(λk hk=>by cases hk),(λk b e=>by simp[Hp.get]at e)⟩ (λx hx=>?_) (λd hd=>?_)
 ·refine gR f270 ?_
  (try(refine tX 0 ?_;try exact Zt))
  exact⟨[],H7 _,_,rfl,rfl⟩
 ·rw[lz]at hx;subst hx;exact K92
 ·rw[lz]at hd;subst hd;trivial
def agG {l:List Rs}{j:Nat}(h:j<l.length):(l.map kG).getD (l.length -1 -j) []=kG (l.reverse.getD j BW):=by
 have h1:l.length -1 -j<l.length:=by omega
 simp[jP,h,h1,List.getElem?_reverse]
def V6 {l:List Rs}{t:aj}(h: ∀j,j<l.length->sJ t (l.reverse.getD j BW)=false):iN l t=none:=by
 unfold iN;rw[List.find?_eq_none];intro x hx;obtain⟨j,hj,rfl⟩:=XT hx;have:=h j (by simpa using hj);rw[jP,oX hj,sZ]at this;rw[this];decide
def V7 {l:List Rs}{t:aj}{i:Nat}(hi:i<l.length)(h: ∀j,j<i->sJ t (l.reverse.getD j BW)=false)(hh:sJ t (l.reverse.getD i BW)=true):iN l t=some (l.reverse.getD i BW):=by
 have kH:i<l.reverse.length:=by simpa using hi
 unfold iN;rw[List.find?_eq_some_iff_getElem];have e:l.reverse.getD i BW=l.reverse[i]:=by rw[jP,oX kH,sZ]
 refine⟨hh,i,kH,e.symm,λj hj=>?_⟩;have:=h j hj;rw[jP,oX K0,sZ]at this;rw[this];rfl
def Ny (c0 c1 c2 c3 c4 c5 c6 c7 c8 c9 c10:SC)(res:List Rs)(tl:List SC)(t:aj)(hl:res.length<=1000000):
  ac 225 [(false,[.ref (c0::c1::c2::c3::c4::c5::c6::c7::c8::c9::c10:: .view (res.map kG)::tl)]),SS t] (.aJ [(true,kG ((iN res t).getD BW)),Bo (iN res t).isSome]):=by
 have hit:=ac3 (res.map kG) agc (λe he=>by obtain⟨r,_,rfl⟩:=dS.1 he;rfl);rw[jf]at hit;refine sF f225 ?_;refine aS ?_;(refine aR ?_;conv=>whnf);(try(refine tX 2 ?_;try exact Zt));refine aS ?_;refine aQ ?_;(refine aR ?_;conv=>whnf);repeat((first|(refine kO 7 rfl ?_;first|refine Rh (V5 _ _ _) ?_)|refine tX 2 ?_|exact Zt);(try conv=>whnf))
 refine⟨⟨[(3,pP 0),(4,pP 1),(5,pP 2),(12,some (.val (false,[.st (.fn 296 [] [[.view (res.map kG)]])])))],
  [(0,some (.box 9 [.st (T t)])),(1,some (.box 121 [.st (T []),.st (J 0),.st (J 0),.st (K false)])),(2,some (.box 4 [.st (K false)]))],3⟩,Zc,?_⟩
 refine aB ?_
 refine aF rfl _ (λ_=>[(0,some (.box 9 [.st (T t)])),(1,some (.box 121 [.st (T []),.st (J 0),.st (J 0),.st (K false)])),(2,some (.box 4 [.st (K false)]))]) 3
  (λi=>∀j,j<i->sJ t (res.reverse.getD j BW)=false) hit (λr hr=>by obtain⟨c,_,rfl⟩:=dS.1 hr;rfl) dl (λ_=>rfl) (bs.refl _) (λj hj=>by omega) ?_ ?_
 ·intro i r hr OY;have hi:i<res.length:=by have:=(kp.1 hr).1;simpa using this
  rw[gq,List.getElem?_range hi,xJ,lL,agG hi]at hr;subst hr;have e1:sJ t (res.reverse.getD i BW)=true->iN res t=some (res.reverse.getD i BW):=λh=>V7 hi OY h
  have e2:sJ t (res.reverse.getD i BW)=false->∀j,j<i+1->sJ t (res.reverse.getD j BW)=false:=λh j hj=>by
   rcases Si.1 hj with h'|rfl
   ·exact OY j h'
   ·exact h
  generalize res.reverse.getD i BW=r at e1 e2;show m6 cx _ ⟨(14,_)::(13,_)::_,_,_⟩ _ _ _
  (refine aR ?_;conv=>whnf)
  repeat' ((first|refine tX 0 ?_|exact Zt|refine bR ?_ ?_<;>intro h)<;>(try conv=>whnf))
  ·rename_i h1;have hh:sJ t r=true:=by unfold sJ;simp[h1,h]
   rw[e1 hh];exact⟨[(0,some (.box 9 [.st (T t)])),(1,some (.box 121 ((kG r).map .st))),(2,some (.box 4 [.st (K true)]))],3,by kernel_rfl,Zc,rfl⟩
  ·rename_i h1;have hh:sJ t r=false:=by unfold sJ;simp at h;simp[h1,h]
   exact⟨e2 hh,Zc⟩
  ·have hh:sJ t r=false:=by unfold sJ;simp[h]
   exact⟨e2 hh,Zc⟩
 ·intro OY;rw[jf,List.length_range]at OY;rw[V6 OY];conv=>whnf
  exact K1
abbrev G5 (h m e y a:Int):SV:=(true,[J h,J m,J e,J y,J a])
abbrev A3 (a b c:Int):SV:=(true,[J a,J b,J c])
abbrev A2 (a b:Int):SV:=(true,[J a,J b])
def gok (h m e y a:Int):Prop:=((0<=h/\h<=1000000)/\(0<=m/\m<=1000000))/\(0<=e/\e<=1000000)/\(0<=y/\y<=1000000)/\0<=a/\a<=1000000
instance (h m e y a:Int):Decidable (gok h m e y a):=by unfold gok;infer_instance
def Ww (h m e y a:Int):Int:=if gok h m e y a then 0 else 2
def T7 {h m e y a:Int}(n: ¬gok h m e y a):Ww h m e y a=2:=if_neg n
def Ks {h m e y a:Int}(n:gok h m e y a):Ww h m e y a=0:=if_pos n
def kD (n lo hi:Int):ac 50 [I n,I lo,I hi] (.one (Bo (decide (lo<=n)&&decide (n<=hi)))):=by
 refine sF f50 ?_;repeat' ((first|refine tX 0 ?_|exact Zt|refine bR ?_ ?_<;>intro h)<;>(try conv=>whnf))
 all_goals exact gX wA
section
variable (h m e y a:Int)
def vA (i:Nat):Prop:=(0<i->0<=h/\h<=1000000)/\(1<i->0<=m/\m<=1000000)/\(2<i->0<=e/\e<=1000000)/\(3<i->0<=y/\y<=1000000)/\(4<i->0<=a/\a<=1000000)
theorem E3:ac 85 [G5 h m e y a] (.one (I (Ww h m e y a))):=by
 refine sF f85 ?_
 (try(refine tX 0 ?_;try exact Zt))
 refine af (ι:=Nat) (λi=>i<=5/\vA h m e y a i) (λi=>5 -i) (λi=>⟨[(15,some (.val (true,[.st (J h),.st (J m),.st (J e),.st (J y),.st (J a)]))),(16,vI i)],[],0⟩) 0 Zc ⟨by omega,by unfold vA;omega⟩ ?_;rintro i ⟨hi,hp⟩;unfold vA at hp;rcases(show i=0\/i=1\/i=2\/i=3\/i=4\/i=5 by omega)with rfl|rfl|rfl|rfl|rfl|rfl;all_goals repeat' ((first|refine tX 0 ?_|exact Zt|refine bR ?_ ?_<;>intro h)<;>(try conv=>whnf))
 all_goals first
  |exact mF (T7 Yg).symm
  |exact mF (Ks Yg).symm
  |exact⟨0+1,⟨by omega,by unfold vA;omega⟩,by omega,Zc⟩
  |exact⟨1+1,⟨by omega,by unfold vA;omega⟩,by omega,Zc⟩
  |exact⟨2+1,⟨by omega,by unfold vA;omega⟩,by omega,Zc⟩
  |exact⟨3+1,⟨by omega,by unfold vA;omega⟩,by omega,Zc⟩
  |exact⟨4+1,⟨by omega,by unfold vA;omega⟩,by omega,Zc⟩
theorem GA:ac 282 [G5 h m e y a] (.one (I (Ww h m e y a))):=by
 refine sF f282 ?_;repeat((first|(refine kO 7 rfl ?_;first|refine Rq (kD _ _ _) ?_)|refine tX 0 ?_|exact Zt);(try conv=>whnf))
 refine af (ι:=Nat) (λi=>i<=5/\vA h m e y a i) (λi=>5 -i) (λi=>⟨[(3,pO 0),(4,vI i)],[(0,some (.row true 1 (.ints [h,m,e,y,a])))],1⟩) 0 Zc ⟨by omega,by unfold vA;omega⟩ ?_;rintro i ⟨hi,hp⟩;unfold vA at hp;rcases(show i=0\/i=1\/i=2\/i=3\/i=4\/i=5 by omega)with rfl|rfl|rfl|rfl|rfl|rfl;all_goals repeat' ((first|(refine kO 7 rfl ?_;first|refine Rq (kD _ _ _) ?_)|refine tX 0 ?_|exact Zt|refine bR ?_ ?_<;>intro h)<;>(try conv=>whnf))
 all_goals try simp only[LF,SE]at*
 all_goals first
  |exact mF (T7 Yg).symm
  |exact mF (Ks Yg).symm
  |exact⟨0+1,⟨by omega,by unfold vA;omega⟩,by omega,Zc⟩
  |exact⟨1+1,⟨by omega,by unfold vA;omega⟩,by omega,Zc⟩
  |exact⟨2+1,⟨by omega,by unfold vA;omega⟩,by omega,Zc⟩
  |exact⟨3+1,⟨by omega,by unfold vA;omega⟩,by omega,Zc⟩
  |exact⟨4+1,⟨by omega,by unfold vA;omega⟩,by omega,Zc⟩
end
end Go.Proofs.Tryz
namespace Go.Proofs.Tryz
open Go.Fw Go.Plain
def vq {α:Type}{C:bN}{d:Nat}{t:TypeId}{f:α->List SC}{q:α->Prop}(hf: ∀e,sI C d t e->∃a,e=f a/\q a): ∀ {es:List (List SC)},(∀e∈es,sI C d t e)->∃l:List α,es=l.map f/\∀a∈l,q a
 | [],_=>⟨[],rfl,by simp⟩
 |e::es,h=>by
  obtain⟨a,rfl,ha⟩:=hf e (h e ja);obtain⟨l,rfl,hl⟩:=vq hf λe he=>h e (i8 _ he);refine⟨a::l,rfl,λb hb=>?_⟩;rcases dh.1 hb with rfl|hb
  ·exact ha
  ·exact hl b hb
def w8 {d:Nat}{xs:List SC}(h:sI cx (d+1) 9 xs): ∃s:aj,xs= [T s]/\s.length<=maxLen:=by
 obtain⟨s,e1,h1⟩:=acD (by rfl) (by rfl) h;exact⟨s.data.toList,by rw[e1,T,acI],by simpa using h1⟩
def uB {d:Nat}{xs:List SC}(h:sI cx (d+1) 3 xs): ∃n:Int,xs= [J n]/\pW n:=by
 obtain⟨n,e1,h1⟩:=acC (by rfl) (by rfl) h;exact⟨n,e1,h1⟩
def KS {d:Nat}{xs:List SC}(h:sI cx (d+2) 23 xs): ∃l:List aj,xs= [.view (ab l)]/\l.length<=maxLen:=by
 obtain⟨es,rfl,hl,hes⟩:=tD (by rfl) (by rfl) (by rfl) h;obtain⟨l,rfl,_⟩:=vq (f:=λs:aj=>[T s]) (λe he=>w8 he) hes;exact⟨l,rfl,by simpa using hl⟩
def RN {d:Nat}{xs:List SC}(h:sI cx (d+2) 103 xs): ∃q:aj × Int,xs=na q/\pW q.2:=by
 obtain⟨p1,q1,e1,h1,p2,q2,e2,h2,e3⟩:=lR (by rfl) (by rfl) h;obtain⟨s,rfl,_⟩:=w8 h1;obtain⟨n,rfl,hn⟩:=uB h2;exact⟨(s,n),by rw[e1,e2,e3];rfl,hn⟩
def Xa {d:Nat}{xs:List SC}(h:sI cx (d+2) 52 xs): ∃a b:Int,xs= [J a,J b]:=by
 obtain⟨p1,q1,e1,h1,p2,q2,e2,h2,e3⟩:=lR (by rfl) (by rfl) h;obtain⟨a,rfl,_⟩:=uB h1;obtain⟨b,rfl,_⟩:=uB h2;exact⟨a,b,by rw[e1,e2,e3];rfl⟩
def abh {d:Nat}{xs:List SC}(h:sI cx (d+3) 54 xs): ∃t:Ts,xs=fq t/\t.bu.length<=maxLen:=by
 obtain⟨p1,q1,e1,h1,p2,q2,e2,h2,p3,q3,e3,h3,p4,q4,e4,h4,p5,q5,e5,h5,e6⟩:=lR (by rfl) (by rfl) h;obtain⟨nm,rfl,_⟩:=w8 h1;obtain⟨k,rfl,_⟩:=uB h2;obtain⟨nd,rfl,hl⟩:=KS h3;obtain⟨ru,rfl,_⟩:=w8 h4;obtain⟨a,b,rfl⟩:=Xa h5;exact⟨⟨nm,k,nd,ru,a,b⟩,by rw[e1,e2,e3,e4,e5,e6];rfl,hl⟩
def abi {d:Nat}{xs:List SC}(h:sI cx (d+3) 106 xs): ∃q:aj × List aj,xs=mh q/\q.2.length<=maxLen:=by
 obtain⟨p1,q1,e1,h1,p2,q2,e2,h2,e3⟩:=lR (by rfl) (by rfl) h;obtain⟨s,rfl,_⟩:=w8 h1;obtain⟨l,rfl,hl⟩:=KS h2;exact⟨(s,l),by rw[e1,e2,e3];rfl,hl⟩
def Xb {d:Nat}{xs:List SC}(h:sI cx (d+2) 36 xs): ∃e:En,xs=cY e/\pW e.t:=by
 obtain⟨p1,q1,e1,h1,p2,q2,e2,h2,p3,q3,e3,h3,e4⟩:=lR (by rfl) (by rfl) h;obtain⟨n,rfl,hn⟩:=uB h1;obtain⟨a,rfl,_⟩:=w8 h2;obtain⟨b,rfl,_⟩:=w8 h3;exact⟨⟨n,a,b⟩,by rw[e1,e2,e3,e4];rfl,hn⟩
def anK (p:Pl):Prop:=(p.ae.length<=9223372036854775807/\p.ap.length<=9223372036854775807/\p.aa.length<=9223372036854775807/\p.parts.length<=9223372036854775807)/\(∀t∈p.aa,t.bu.length<=9223372036854775807)/\∀q∈p.parts,q.2.length<=9223372036854775807
def Xc {d:Nat}{x:SV}(h:yp cx (d+5) 27 x): ∃p:Pl,x=(true,bU p)/\anK p:=by
 obtain⟨e,h1⟩:=YV rfl rfl h;obtain⟨p1,q1,e1,h1,p2,q2,e2,h2,p3,q3,e3,h3,p4,q4,e4,h4,p5,q5,e5,h5,p6,q6,e6,h6,e7⟩:=lR (by rfl) (by rfl) h1;obtain⟨es1,rfl,hl1,anO⟩:=tD (by rfl) (by rfl) (by rfl) h1;obtain⟨pe,rfl,_⟩:=vq (f:=na) (λe he=>RN he) anO;obtain⟨ga,rfl,hl2⟩:=KS h2;obtain⟨es3,rfl,hl3,an2⟩:=tD (by rfl) (by rfl) (by rfl) h3;obtain⟨te,rfl,ht⟩:=vq (f:=fq) (λe he=>abh he) an2;obtain⟨es4,rfl,hl4,aoa⟩:=tD (by rfl) (by rfl) (by rfl) h4;obtain⟨pa,rfl,hp⟩:=vq (f:=mh) (λe he=>abi he) aoa;obtain⟨sh,rfl,_⟩:=uB h5;obtain⟨li,rfl,_⟩:=uB h6;refine⟨⟨pe,ga,te,pa,sh,li⟩,by rw[e,e1,e2,e3,e4,e5,e6,e7];rfl,⟨by rw[jf]at hl1;exact hl1,hl2,by rw[jf]at hl3;exact hl3,by rw[jf]at hl4;exact hl4⟩,ht,hp⟩
def ad3 {d:Nat}{x:SV}(h:yp cx (d+3) 28 x): ∃l:List En,x=(false,[.view (l.map cY)])/\l.length<=maxLen/\∀e∈l,pW e.t:=by
 obtain⟨e,h1⟩:=MC rfl rfl h;obtain⟨es,e1,hl,hes⟩:=tD (by rfl) (by rfl) (by rfl) h1;obtain⟨l,rfl,hq⟩:=vq (f:=cY) (λe he=>Xb he) hes;exact⟨l,by rw[e,e1],by simpa using hl,hq⟩
def JA {d:Nat}{x:SV}(h:yp cx (d+1) 3 x): ∃n,x=I n:=by
 obtain⟨e,h1⟩:=MC rfl rfl h;obtain⟨n,e1,_⟩:=uB h1;exact⟨n,by rw[e,e1]⟩
def abj {α:Type}{l:List α}{i:Nat}(h:i<l.length)(d:α):l.getD i d∈l:=by rw[jP,oX h];exact pH h
end Go.Proofs.Tryz
