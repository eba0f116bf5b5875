import Derived.Test.YtackacoaaihcjaaGreatDoorPkT17
set_option linter.all false
namespace Go.Proofs.Tryz
open Go.Fw Go.IntWalk Go.Plain
set_option maxRecDepth 100000
set_option maxHeartbeats 8000000
def adR (p:Pl)(h1:p.ae.length<=9223372036854775807)(h2:p.ap.length<=9223372036854775807)(h3:p.aa.length<=9223372036854775807)(h4:p.parts.length<=9223372036854775807)
  (h5: ∀i<p.aa.length,(p.aa.getD i dt).bu.length <=9223372036854775807)(h6: ∀i<p.parts.length,(p.parts.getD i ([],[])).2.length <=9223372036854775807):ad 9 [(true,bU p)] (.one (Bo (decide (Oi p)))):=by
 have l1:(p.ae.map m9).length =p.ae.length:=by simp
 have l2:(ab p.ap).length =p.ap.length:=by simp
 have l3:(p.aa.map fC).length =p.aa.length:=by simp
 have l4:(p.parts.map mi).length =p.parts.length:=by simp
 by_cases h0:adH p;rotate_left
 ·unfold adH at h0;refine sF f9 ?_;exact K72
 have h0':=h0;unfold adH at h0';refine sF f9 ?_
 (try(refine tX 0 ?_;try exact Zt))
 refine af (ι:=Nat) (λi=>i<=p.ae.length/\∀j<i,aaM p j) (λi=>p.ae.length -i) (λi=>⟨[(1,pP 0),(3,vI i)],[(0,some (bxP p))],1⟩) 0 Zc ⟨dC _,λj hj=>by omega⟩ ?_;rintro i ⟨hi,hp⟩;by_cases ak:i<p.ae.length
 ·have he:=bg (f:=m9) ak ([],0);have dx: ¬aaM p i->¬Oi p:=λh hh=>h (hh.2.1 i ak);have iT:=λ(h:aaM p i)=>vn hp h;unfold aaM at dx iT;generalize p.ae.getD i ([],0)=x at*;repeat' ((first|refine tX 0 ?_|exact Zt|refine bR ?_ ?_<;>intro h)<;>(try conv=>whnf))
  all_goals first|exact Zo|exact gX (eT (dx K0)).symm |exact⟨i+1,⟨ak,iT K0⟩,by omega,Zc⟩
 obtain rfl:i=p.ae.length:=by omega
 have hpe:=hp;clear hp hi ak
 (try(refine tX 0 ?_;try exact Zt))
 refine af (ι:=Nat) (λi=>i<=p.aa.length/\∀j<i,aaN p j) (λi=>p.aa.length -i) (λi=>⟨[(1,pP 0),(4,vI i)],[(0,some (bxP p))],1⟩) 0 Zc ⟨dC _,λj hj=>by omega⟩ ?_;rintro i ⟨hi,hp⟩;by_cases ak:i<p.aa.length
 ·have he:=iN ak;have dx: ¬aaN p i->¬Oi p:=λh hh=>h (hh.2.2.1 i ak);have iT:=λ(h:aaN p i)=>vn hp h;have ht:=rR (p.aa.getD i dt).bu (h5 i ak);unfold aaN at dx iT;generalize p.aa.getD i dt=x at*
  rcases x with⟨nm,kd,nd,ru,lo,kA⟩;have he:(p.aa.map fC)[i]? =some [T nm,J kd,.view (ab nd),T ru,J lo,J kA]:=he;dsimp only at dx iT ht;by_cases q:Ky nd
  ·rw[fH q]at ht;repeat' ((first|refine tX 0 ?_|exact Zt|refine bR ?_ ?_<;>intro h)<;>(try conv=>whnf))
   all_goals first|exact Zo|exact gX (eT (dx λhh=>by omega)).symm |exact⟨i+1,⟨ak,iT ⟨by omega,by omega,q⟩⟩,by omega,Zc⟩
  ·rw[eT q]at ht;repeat' ((first|refine tX 0 ?_|exact Zt|refine bR ?_ ?_<;>intro h)<;>(try conv=>whnf))
   all_goals first|exact Zo|exact gX (eT (dx λhh=>q hh.2.2)).symm
 obtain rfl:i=p.aa.length:=by omega
 have hte:=hp;clear hp hi ak
 (try(refine tX 0 ?_;try exact Zt))
 refine af (ι:=Nat) (λi=>i<=p.parts.length/\∀j<i,aaO p j) (λi=>p.parts.length -i) (λi=>⟨[(1,pP 0),(5,vI i)],[(0,some (bxP p))],1⟩) 0 Zc ⟨dC _,λj hj=>by omega⟩ ?_;rintro i ⟨hi,hp⟩;by_cases ak:i<p.parts.length
 ·have he:=bg (f:=mi) ak ([],[]);have dx: ¬aaO p i->¬Oi p:=λh hh=>h (hh.2.2.2.1 i ak);have iT:=λ(h:aaO p i)=>vn hp h;have ht:=rR (p.parts.getD i ([],[])).2 (h6 i ak);unfold aaO at dx iT;generalize p.parts.getD i ([],[])=x at*
  rcases x with⟨nm,vs⟩;have he:(p.parts.map mi)[i]? =some [T nm,.view (ab vs)]:=he;dsimp only at dx iT ht;by_cases q:Ky vs
  ·rw[fH q]at ht;repeat' ((first|refine tX 0 ?_|exact Zt|refine bR ?_ ?_<;>intro h)<;>(try conv=>whnf))
   all_goals first|exact Zo|exact gX (eT (dx λhh=>by omega)).symm |exact⟨i+1,⟨ak,iT ⟨by omega,q⟩⟩,by omega,Zc⟩
  ·rw[eT q]at ht;repeat' ((first|refine tX 0 ?_|exact Zt|refine bR ?_ ?_<;>intro h)<;>(try conv=>whnf))
   all_goals first|exact Zo|exact gX (eT (dx λhh=>q hh.2)).symm
 obtain rfl:i=p.parts.length:=by omega
 have ht:=rR p.ap h2
 have e:decide (Ky p.ap)=decide (Oi p):=by
  rw[sD];simp only[wB];exact⟨λh=>⟨h0,hpe,hte,hp,h⟩,λh=>h.2.2.2.2⟩
 rw[e]at ht;exact tA
def OL {α:Type}{l:List α}{i:Nat}{x:α}(h:l[i]? =some x):l.set i x=l:=by
 obtain⟨h1,h2⟩:=kl.1 h;subst h2;exact Lv h1
def uvM {α:Type}{f:α->List SC}{l:List α}{z:Nat}(h: ∀x,(f x).length =z):(SC.view ([]++l.map f)).zK z:=by
 intro e he;obtain⟨x,_,rfl⟩:=dN.1 (by simpa using he);exact h x
def lvM {α:Type}{f:α->List SC}{l:List α}(h:l.length<=1000):(SC.view ([]++l.map f)).len <=xy:=by simp[SC.len,xy];omega
def GL {p:Pl}(hs:io p):ad 14 [(true,bU p)] (.one (true,bU p)):=by
 have l1:(p.ae.map m9).length =p.ae.length:=by simp
 have l3:(p.aa.map fC).length =p.aa.length:=by simp
 have l4:(p.parts.map mi).length =p.parts.length:=by simp
 have h1:=hs.pe;have h2:=hs.ga;have h3:=hs.te;have h4:=hs.pa;have cg:=dy p.ap K0;refine sF f14 ?_
 (try(refine tX 0 ?_;try exact Zt))
 refine rG (λ_ z=>⟨ajI,ajI,z⟩) ?_;conv=>whnf
 (try(refine tX 0 ?_;try exact Zt))
 refine af (ι:=Nat × List (List SC)) (λx=>x.1<=p.aa.length/\x.2=p.aa.map fC) (λx=>p.aa.length -x.1) (λx=>⟨[(1,pP 0),(2,pP 1),(3,vI x.1)],[(0,some (.box 27 [.own 2,.own 3,.own 4,.st (.view (p.parts.map mi)),.st (J p.dW),.st (J p.eH)])),(1,some (.box 27 [.nil,.nil,.nil,.nil,.st (J 0),.st (J 0)])),(2,some (.row true 2 (.view (p.ae.map m9)))),(3,some (.row true 1 (.view (ab p.ap)))),(4,some (.row true 6 (.view x.2)))],5⟩) (0,p.aa.map fC) Zc ⟨dC _,rfl⟩ ?_;rintro⟨i,L⟩ ⟨hi,hL⟩;dsimp only at hi hL ⊢;have hLl:L.length=p.aa.length:=by rw[hL];exact l3
 by_cases ak:i<p.aa.length
 ·have he:=iN ak;have ct:=(dy (p.aa.getD i dt).bu (by have:=hs.td i ak;omega)).xC;have O5:=OL he;rw[<- hL]at he O5;generalize p.aa.getD i dt=x at*
  rcases x with⟨nm,kd,nd,ru,lo,kA⟩;have he:L[i]? =some [T nm,J kd,.view (ab nd),T ru,J lo,J kA]:=he;have O5:L.set i [T nm,J kd,.view (ab nd),T ru,J lo,J kA]=L:=O5;dsimp only at ct
  (try(refine tX 0 ?_;try exact Zt))
  exact⟨(i+1,L.set i [T nm,J kd,.view (ab nd),T ru,J lo,J kA]),⟨ak,by rw[O5];exact hL⟩,by dsimp only;omega,Zc⟩
 obtain rfl:i=p.aa.length:=by omega
 subst hL;clear hi ak hLl
 (try(refine tX 0 ?_;try exact Zt))
 refine rG (λ_ z=>⟨ajJ,ajJ,z⟩) ?_;conv=>whnf
 (try(refine tX 0 ?_;try exact Zt))
 refine af (ι:=Nat × List (List SC)) (λx=>x.1<=p.parts.length/\x.2=p.parts.map mi) (λx=>p.parts.length -x.1) (λx=>⟨[(1,pP 0),(2,pP 1),(4,vI x.1)],[(0,some (.box 27 [.own 2,.own 3,.own 4,.own 5,.st (J p.dW),.st (J p.eH)])),(1,some (.box 27 [.nil,.nil,.nil,.nil,.st (J 0),.st (J 0)])),(2,some (.row true 2 (.view (p.ae.map m9)))),(3,some (.row true 1 (.view (ab p.ap)))),(4,some (.row true 6 (.view (p.aa.map fC)))),(5,some (.row true 2 (.view x.2)))],6⟩) (0,p.parts.map mi) Zc ⟨dC _,rfl⟩ ?_;rintro⟨i,L⟩ ⟨hi,hL⟩;dsimp only at hi hL ⊢;have hLl:L.length=p.parts.length:=by rw[hL];exact l4
 by_cases ak:i<p.parts.length
 ·have he:=bg (f:=mi) ak ([],[]);have ct:=(dy (p.parts.getD i ([],[])).2 (by have:=hs.qv i ak;omega)).xC;have O5:=OL he;rw[<- hL]at he O5;generalize p.parts.getD i ([],[])=x at*
  rcases x with⟨nm,vs⟩;have he:L[i]? =some [T nm,.view (ab vs)]:=he;have O5:L.set i [T nm,.view (ab vs)]=L:=O5;dsimp only at ct
  (try(refine tX 0 ?_;try exact Zt))
  exact⟨(i+1,L.set i [T nm,.view (ab vs)]),⟨ak,by rw[O5];exact hL⟩,by dsimp only;omega,Zc⟩
 obtain rfl:i=p.parts.length:=by omega
 subst hL;exact K1
end Go.Proofs.Tryz
