import Derived.Test.YtolnfpljgjpbpaaGreatDoorPk18
set_option linter.all false
namespace Go.Proofs.Tryz
open Go.Fw Go.IntWalk Go.Plain
set_option maxRecDepth 100000
set_option maxHeartbeats 8000000
def Li (p:Pl)(h1:p.ae.length<=9223372036854775807)(h2:p.ap.length<=9223372036854775807)(h3:p.aa.length<=9223372036854775807)(h4:p.parts.length<=9223372036854775807)
  (h5: ∀i<p.aa.length,(p.aa.getD i dl).bv.length <=9223372036854775807)(h6: ∀i<p.parts.length,(p.parts.getD i ([],[])).2.length <=9223372036854775807):ac 7 [(true,bL p)] (.one (Bo (decide (Hi p)))):=by
 have l1:(p.ae.map nh).length =p.ae.length:=by simp
 have l2:(ab p.ap).length =p.ap.length:=by simp
 have l3:(p.aa.map fB).length =p.aa.length:=by simp
 have l4:(p.parts.map mj).length =p.parts.length:=by simp
 by_cases h0:adS p;rotate_left
 ·unfold adS at h0;refine sF f7 ?_;exact K64
 have h0':=h0;unfold adS at h0';refine sF f7 ?_
 (try(refine tX 0 ?_;try exact Zt))
 refine af (ι:=Nat) (λi=>i<=p.ae.length/\∀j<i,aaY p j) (λi=>p.ae.length -i) (λi=>⟨[(1,pP 0),(3,vI i)],[(0,some (bxP p))],1⟩) 0 Zc ⟨dz _,λj hj=>by omega⟩ ?_;rintro i ⟨hi,hp⟩;by_cases al:i<p.ae.length
 ·have he:=aZ (f:=nh) al ([],0);have dm: ¬aaY p i->¬Hi p:=λh hh=>h (hh.2.1 i al);have io:=λ(h:aaY p i)=>vP hp h;unfold aaY at dm io;generalize p.ae.getD i ([],0)=x at*;repeat' ((first|refine tX 0 ?_|exact Zt|refine bR ?_ ?_<;>intro h)<;>(try conv=>whnf))
  all_goals first|exact Zo|exact gS (eJ (dm K0)).symm |exact⟨i+1,⟨al,io K0⟩,by omega,Zc⟩
 obtain rfl:i=p.ae.length:=by omega
 have hpe:=hp;clear hp hi al
 (try(refine tX 0 ?_;try exact Zt))
 refine af (ι:=Nat) (λi=>i<=p.aa.length/\∀j<i,aaZ p j) (λi=>p.aa.length -i) (λi=>⟨[(1,pP 0),(4,vI i)],[(0,some (bxP p))],1⟩) 0 Zc ⟨dz _,λj hj=>by omega⟩ ?_;rintro i ⟨hi,hp⟩;by_cases al:i<p.aa.length
 ·have he:=iP al;have dm: ¬aaZ p i->¬Hi p:=λh hh=>h (hh.2.2.1 i al);have io:=λ(h:aaZ p i)=>vP hp h;have ht:=sj (p.aa.getD i dl).bv (h5 i al);unfold aaZ at dm io;generalize p.aa.getD i dl=x at*
  rcases x with⟨nm,kd,nd,ru,lo,lA⟩;have he:(p.aa.map fB)[i]? =some [T nm,J kd,.view (ab nd),T ru,J lo,J lA]:=he;dsimp only at dm io ht;by_cases q:KU nd
  ·rw[fh q]at ht;repeat' ((first|refine tX 0 ?_|exact Zt|refine bR ?_ ?_<;>intro h)<;>(try conv=>whnf))
   all_goals first|exact Zo|exact gS (eJ (dm λhh=>by omega)).symm |exact⟨i+1,⟨al,io ⟨by omega,by omega,q⟩⟩,by omega,Zc⟩
  ·rw[eJ q]at ht;repeat' ((first|refine tX 0 ?_|exact Zt|refine bR ?_ ?_<;>intro h)<;>(try conv=>whnf))
   all_goals first|exact Zo|exact gS (eJ (dm λhh=>q hh.2.2)).symm
 obtain rfl:i=p.aa.length:=by omega
 have hte:=hp;clear hp hi al
 (try(refine tX 0 ?_;try exact Zt))
 refine af (ι:=Nat) (λi=>i<=p.parts.length/\∀j<i,aa0 p j) (λi=>p.parts.length -i) (λi=>⟨[(1,pP 0),(5,vI i)],[(0,some (bxP p))],1⟩) 0 Zc ⟨dz _,λj hj=>by omega⟩ ?_;rintro i ⟨hi,hp⟩;by_cases al:i<p.parts.length
 ·have he:=aZ (f:=mj) al ([],[]);have dm: ¬aa0 p i->¬Hi p:=λh hh=>h (hh.2.2.2.1 i al);have io:=λ(h:aa0 p i)=>vP hp h;have ht:=sj (p.parts.getD i ([],[])).2 (h6 i al);unfold aa0 at dm io;generalize p.parts.getD i ([],[])=x at*
  rcases x with⟨nm,vs⟩;have he:(p.parts.map mj)[i]? =some [T nm,.view (ab vs)]:=he;dsimp only at dm io ht;by_cases q:KU vs
  ·rw[fh q]at ht;repeat' ((first|refine tX 0 ?_|exact Zt|refine bR ?_ ?_<;>intro h)<;>(try conv=>whnf))
   all_goals first|exact Zo|exact gS (eJ (dm λhh=>by omega)).symm |exact⟨i+1,⟨al,io ⟨by omega,q⟩⟩,by omega,Zc⟩
  ·rw[eJ q]at ht;repeat' ((first|refine tX 0 ?_|exact Zt|refine bR ?_ ?_<;>intro h)<;>(try conv=>whnf))
   all_goals first|exact Zo|exact gS (eJ (dm λhh=>q hh.2)).symm
 obtain rfl:i=p.parts.length:=by omega
 have ht:=sj p.ap h2
 have e:decide (KU p.ap)=decide (Hi p):=by
  rw[vY];simp only[wX];exact⟨λh=>⟨h0,hpe,hte,hp,h⟩,λh=>h.2.2.2.2⟩
 rw[e]at ht;exact tA
def O8 {α:Type}{l:List α}{i:Nat}{x:α}(h:l[i]? =some x):l.set i x=l:=by
 obtain⟨h1,h2⟩:=kF.1 h;subst h2;exact L4 h1
def uvM {α:Type}{f:α->List SC}{l:List α}{z:Nat}(h: ∀x,(f x).length =z):(SC.view ([]++l.map f)).Ag z:=by
 intro e he;obtain⟨x,_,rfl⟩:=dC.1 (by simpa using he);exact h x
def lvM {α:Type}{f:α->List SC}{l:List α}(h:l.length<=1000):(SC.view ([]++l.map f)).len <=xP:=by simp[SC.len,xP];omega
def qc {p:Pl}(hs:gz p):ac 11 [(true,bL p)] (.one (true,bL p)):=by
 have l1:(p.ae.map nh).length =p.ae.length:=by simp
 have l3:(p.aa.map fB).length =p.aa.length:=by simp
 have l4:(p.parts.map mj).length =p.parts.length:=by simp
 have h1:=hs.pe;have h2:=hs.ga;have h3:=hs.te;have h4:=hs.pa;have cg:=dD p.ap K0;refine sF f11 ?_
 (try(refine tX 0 ?_;try exact Zt))
 refine rG (λ_ z=>⟨ajk,ajk,z⟩) ?_;conv=>whnf
 (try(refine tX 0 ?_;try exact Zt))
 refine af (ι:=Nat × List (List SC)) (λx=>x.1<=p.aa.length/\x.2=p.aa.map fB) (λx=>p.aa.length -x.1) (λx=>⟨[(1,pP 0),(2,pP 1),(3,vI x.1)],[(0,some (.box 27 [.own 2,.own 3,.own 4,.st (.view (p.parts.map mj)),.st (J p.dY),.st (J p.eH)])),(1,some (.box 27 [.nil,.nil,.nil,.nil,.st (J 0),.st (J 0)])),(2,some (.row true 2 (.view (p.ae.map nh)))),(3,some (.row true 1 (.view (ab p.ap)))),(4,some (.row true 6 (.view x.2)))],5⟩) (0,p.aa.map fB) Zc ⟨dz _,rfl⟩ ?_;rintro⟨i,L⟩ ⟨hi,hL⟩;dsimp only at hi hL ⊢;have hLl:L.length=p.aa.length:=by rw[hL];exact l3
 by_cases al:i<p.aa.length
 ·have he:=iP al;have ct:=(dD (p.aa.getD i dl).bv (by have:=hs.td i al;omega)).xV;have Pn:=O8 he;rw[<- hL]at he Pn;generalize p.aa.getD i dl=x at*
  rcases x with⟨nm,kd,nd,ru,lo,lA⟩;have he:L[i]? =some [T nm,J kd,.view (ab nd),T ru,J lo,J lA]:=he;have Pn:L.set i [T nm,J kd,.view (ab nd),T ru,J lo,J lA]=L:=Pn;dsimp only at ct
  (try(refine tX 0 ?_;try exact Zt))
  exact⟨(i+1,L.set i [T nm,J kd,.view (ab nd),T ru,J lo,J lA]),⟨al,by rw[Pn];exact hL⟩,by dsimp only;omega,Zc⟩
 obtain rfl:i=p.aa.length:=by omega
 subst hL;clear hi al hLl
 (try(refine tX 0 ?_;try exact Zt))
 refine rG (λ_ z=>⟨ajl,ajl,z⟩) ?_;conv=>whnf
 (try(refine tX 0 ?_;try exact Zt))
 refine af (ι:=Nat × List (List SC)) (λx=>x.1<=p.parts.length/\x.2=p.parts.map mj) (λx=>p.parts.length -x.1) (λx=>⟨[(1,pP 0),(2,pP 1),(4,vI x.1)],[(0,some (.box 27 [.own 2,.own 3,.own 4,.own 5,.st (J p.dY),.st (J p.eH)])),(1,some (.box 27 [.nil,.nil,.nil,.nil,.st (J 0),.st (J 0)])),(2,some (.row true 2 (.view (p.ae.map nh)))),(3,some (.row true 1 (.view (ab p.ap)))),(4,some (.row true 6 (.view (p.aa.map fB)))),(5,some (.row true 2 (.view x.2)))],6⟩) (0,p.parts.map mj) Zc ⟨dz _,rfl⟩ ?_;rintro⟨i,L⟩ ⟨hi,hL⟩;dsimp only at hi hL ⊢;have hLl:L.length=p.parts.length:=by rw[hL];exact l4
 by_cases al:i<p.parts.length
 ·have he:=aZ (f:=mj) al ([],[]);have ct:=(dD (p.parts.getD i ([],[])).2 (by have:=hs.qv i al;omega)).xV;have Pn:=O8 he;rw[<- hL]at he Pn;generalize p.parts.getD i ([],[])=x at*
  rcases x with⟨nm,vs⟩;have he:L[i]? =some [T nm,.view (ab vs)]:=he;have Pn:L.set i [T nm,.view (ab vs)]=L:=Pn;dsimp only at ct
  (try(refine tX 0 ?_;try exact Zt))
  exact⟨(i+1,L.set i [T nm,.view (ab vs)]),⟨al,by rw[Pn];exact hL⟩,by dsimp only;omega,Zc⟩
 obtain rfl:i=p.parts.length:=by omega
 subst hL;exact K1
end Go.Proofs.Tryz
