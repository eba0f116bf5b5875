import Derived.Test.YtolnfpljgjpbpaaGreatDoorPk31
set_option linter.all false
namespace Go.Proofs.Tryz
open Go.Fw Go.IntWalk Go.Plain
set_option maxRecDepth 100000
set_option maxHeartbeats 8000000
def ad2 {H:HF}(ds:List DC)(y:bV × Int)(he:y.2≠0)(hd:ds.length=6:=by rfl):Ij H [(true,ds),dyn (I y.2)] (λr'=>r'=nxR y):=by
 have:=qb (H:=H) ds y.1 y.2 he hd
 grind
def ad3 {H:HF}{R:List Nat}(ds:List DC)(y:bV × Int)(h0:y.2=0)(hf:yL H R (true,ds) (true,tq y.1)):Ij H [(true,ds),dyn (I y.2)] (λr'=>r'=nxR y):=by
 refine⟨[(true,tq y.1),I y.2],R,bp hf (bp (ia _) gZ),rfl,?_⟩;show Zk _=mc.aI _;rw[if_pos h0];rfl
def agU (ρ:Nat->Nat)(us:List Un):(qa us).map (λe=>e.map (DC.rn ρ))=qa us:=by
 show List.map _ (List.map _ _)=List.map _ _;rw[Ak]
 exact LW λe _=>by
  show List.map _ (List.map _ _)=_;rw[Ak];rfl
def abe (ρ:Nat->Nat)(us:List Un)(i:Nat)(u:Un):((qa us).set i (cV u 11 13 15)).map (λe=>e.map (DC.rn ρ))=(qa us).set i (cV u (ρ 11) (ρ 13) (ρ 15)):=by rw[Tb,agU];rfl
def I4 {H:HF}{R:List Nat}{us:List Un}{i k a b c:Nat}{u:Un}(R8:i<us.length)(h9:H k=some (.az 17 ((qa us).set i (cV u a b c))))(ha:H a=some (.row true 1 (.view (ab u.lots))))(hb:H b=some (.row true 4 (.view (u.res.map kg))))(hc:H c=some (.row true 5 (.view (u.gas.map tp))))(hR:k∈R/\a∈R/\b∈R/\c∈R):
  Full H R (.own k) (.view ((us.set i u).map jB)):=by
 have n2:(qa us).length =us.length:=by grind
 have C4: ∀ {j:Nat} {e:List DC} {e':List SC},((qa us).set i (cV u a b c))[j]? =some e->((us.set i u).map jB)[j]? =some e'->(e=cV u a b c/\e'=jB u)\/e=e'.map .st :=λ{j e e'} h h'=>by grind
 refine .az hR.1 h9 (by grind) (λj e e' h h'=>?_) (λj e e' k d c' h h' hd Hq=>?_) (λj e' k c' h' Hq=>?_)
 ·rcases C4 h h' with⟨rfl,rfl⟩|rfl
  ·rfl
  ·simp
 ·rcases C4 h h' with⟨rfl,rfl⟩|rfl
  grind[uU]
  ·rw[gA,Hq]at hd;cases hd;exact .st _
 grind[FR]
section
variable (p:Pl)(log:List En)(s:bV)(e:En)
theorem RS (hp:p.ae.length<=1000)(hl:log.length<=1000)(mY:pre p log e=0)(Lt:aU e.text){ws:List aj}{j:Nat}(Xy:Kd e.text=(ws,(j:Int),true))(hj:j<19)(c5:ac 97 [V1 ws] (.one (Bo true)))
  (hr:(vb j).role <=fP p e.lz)(b1:s.opens.length<=1000)(b2:s.lots.length<=1000)(b3:s.units.length<=1000)(b4: ∀u∈s.units,(u.lots.length<=1000/\u.res.length<=1000)/\u.gas.length<=1000)
  {y:bV × Int}(hS:GS 98 [dyn (true,bL p),nN log,(true,so s),dyn (V1 ws)] s y):
  ac 55 [(true,bL p),(false,[.view (log.map cd)]),(true,tq s),(true,cd e)] (nxR y):=by
 have c1:=mT p e.lz hp;have c2:=gj e.t;have wu:(log.map cd).length =log.length:=by simp
 obtain⟨g1,g2,g3,g4⟩:=F8 mY;have c3:=lk e.text (by omega);rw[Xy]at c3;dsimp only at c3;have c4:=lh;rw[show(if e.lz∈p.ax then(p.ae.getD (be p.ax e.lz).toNat ([],0)).2 else -1)=fP p e.lz from rfl]at c1;generalize fP p e.lz=ro at*;refine sW (fn:=f55) ?_;by_cases qe:log.length=0;rotate_left
 ·obtain⟨tm,al⟩:=zL qe;haveI hnat:dJ (((log.map cd).length :Int) -1) (log.length -1):=⟨by omega⟩;generalize log.getD (log.length -1) iX=en at*;repeat' ((first|refine tX 0 ?_|exact Zt|refine bR ?_ ?_<;>intro h)<;>(try conv=>whnf))
  all_goals try(exfalso;omega)
  ·refine af (ι:=Nat) (λi=>i<=e.text.length/\s6 e.text i) (λi=>e.text.length -i) (nS p log s e ro) 0 Zc ⟨dz _,λj hj=>by omega⟩ ?_;rintro i ⟨hi,Gv⟩;by_cases al:i<e.text.length
   ·have dm: ¬(32<=(e.text.getD i 0).toNat /\(e.text.getD i 0).toNat <=126)->¬aU e.text:=λh hh=>h (hh i al)
    have l6:32<=(e.text.getD i 0).toNat /\(e.text.getD i 0).toNat <=126->s6 e.text (i+1):=λh j hj=>by
     rcases C7.1 hj with h'|rfl
     ·exact Gv j h'
     ·exact h
    have Gq:((e.text.getD i 0).toNat :Int)<=255:=by have:=(e.text.getD i 0).toNat_lt;omega
    repeat' ((first|refine tX 0 ?_|exact Zt|refine bR ?_ ?_<;>intro h)<;>(try conv=>whnf))
    all_goals first|exact Zo|exact⟨i+1,⟨al,l6 (by omega)⟩,by omega,Zc⟩|exact absurd Lt (dm (by omega))
   ·obtain rfl:i=e.text.length:=by omega
    have PP:(jL.map Hf).length =19:=rfl;have hv:=aZ (f:=Hf) (l:=jL) hj si;rw[show vb j=(jL.getD j si).2 from rfl]at hr;generalize jL.getD j si=q at*;repeat' ((first|refine tX 0 ?_|exact Zt|refine bR ?_ ?_<;>intro h)<;>(try conv=>whnf))
    all_goals try(exfalso;omega)
    repeat((first|(refine kO 7 rfl ?_;first|refine oa (λ_ z=>⟨_,_,_,(FZ _ _ b1 b2 b3 b4),z⟩) ?_|refine oa (λ_ z=>⟨_,_,_,(F5 (n:=1034) hS rfl rfl rfl),z⟩) ?_)|refine tX 2 ?_|exact Zt);(try conv=>whnf))
    repeat' ((first|refine tX 0 ?_|exact Zt|refine bR ?_ ?_<;>intro h)<;>(try conv=>whnf))
    by_cases hy:y.2=0
    ·exact ad3 (R:=[fz 1036 5,fz 1036 7,fz 1036 9]) _ y hy ⟨rfl,rfl,ak (.st _)<|ak (.st _)<|ak (.row (.head _) rfl)<|ak (.st _)<|ak (.row (.tail _ (.head _)) rfl)<|ak (.row (.tail _ (.tail _ (.head _))) rfl) jl⟩
    ·exact ad2 _ y hy
 ·repeat' ((first|refine tX 0 ?_|exact Zt|refine bR ?_ ?_<;>intro h)<;>(try conv=>whnf))
  all_goals try(exfalso;omega)
  ·refine af (ι:=Nat) (λi=>i<=e.text.length/\s6 e.text i) (λi=>e.text.length -i) (nS p log s e ro) 0 Zc ⟨dz _,λj hj=>by omega⟩ ?_;rintro i ⟨hi,Gv⟩;by_cases al:i<e.text.length
   ·have dm: ¬(32<=(e.text.getD i 0).toNat /\(e.text.getD i 0).toNat <=126)->¬aU e.text:=λh hh=>h (hh i al)
    have l6:32<=(e.text.getD i 0).toNat /\(e.text.getD i 0).toNat <=126->s6 e.text (i+1):=λh j hj=>by
     rcases C7.1 hj with h'|rfl
     ·exact Gv j h'
     ·exact h
    have Gq:((e.text.getD i 0).toNat :Int)<=255:=by have:=(e.text.getD i 0).toNat_lt;omega
    repeat' ((first|refine tX 0 ?_|exact Zt|refine bR ?_ ?_<;>intro h)<;>(try conv=>whnf))
    all_goals first|exact Zo|exact⟨i+1,⟨al,l6 (by omega)⟩,by omega,Zc⟩|exact absurd Lt (dm (by omega))
   ·obtain rfl:i=e.text.length:=by omega
    have PP:(jL.map Hf).length =19:=rfl;have hv:=aZ (f:=Hf) (l:=jL) hj si;rw[show vb j=(jL.getD j si).2 from rfl]at hr;generalize jL.getD j si=q at*;repeat' ((first|refine tX 0 ?_|exact Zt|refine bR ?_ ?_<;>intro h)<;>(try conv=>whnf))
    all_goals try(exfalso;omega)
    repeat((first|(refine kO 7 rfl ?_;first|refine oa (λ_ z=>⟨_,_,_,(FZ _ _ b1 b2 b3 b4),z⟩) ?_|refine oa (λ_ z=>⟨_,_,_,(F5 (n:=1034) hS rfl rfl rfl),z⟩) ?_)|refine tX 2 ?_|exact Zt);(try conv=>whnf))
    repeat' ((first|refine tX 0 ?_|exact Zt|refine bR ?_ ?_<;>intro h)<;>(try conv=>whnf))
    by_cases hy:y.2=0
    ·exact ad3 (R:=[fz 1036 5,fz 1036 7,fz 1036 9]) _ y hy ⟨rfl,rfl,ak (.st _)<|ak (.st _)<|ak (.row (.head _) rfl)<|ak (.st _)<|ak (.row (.tail _ (.head _)) rfl)<|ak (.row (.tail _ (.tail _ (.head _))) rfl) jl⟩
    ·exact ad2 _ y hy
theorem RT (hp:p.ae.length<=1000)(hl:log.length<=1000)(mY:pre p log e=0)(Lt:aU e.text){ws:List aj}{j:Nat}(Xy:Kd e.text=(ws,(j:Int),true))(hj:j<19)(c5:ac 97 [V1 ws] (.one (Bo true)))
  (hr:(vb j).role <=fP p e.lz)(b1:s.opens.length<=1000)(b2:s.lots.length<=1000)(b3:s.units.length<=1000)(b4: ∀u∈s.units,(u.lots.length<=1000/\u.res.length<=1000)/\u.gas.length<=1000)
  {y:bV × Int}{i0:Nat}{u u':Un}(xJ:s.units[i0]? =some u)(hy:y.2=0)(hyu:y.1.units=s.units.set i0 u')(hS:bA cx 98 1 [dyn (true,bL p),nN log,(true,Ab s),dyn (V1 ws)] (F1 s.units i0 u) [] (.aI [(true,Ab y.1),dyn (I y.2)]) (F1 s.units i0 u')):
  ac 55 [(true,bL p),(false,[.view (log.map cd)]),(true,tq s),(true,cd e)] (nxR y):=by
 have R8:=(kF.1 xJ).1;have c1:=mT p e.lz hp;have c2:=gj e.t;have wu:(log.map cd).length =log.length:=by simp
 obtain⟨g1,g2,g3,g4⟩:=F8 mY;have c3:=lk e.text (by omega);rw[Xy]at c3;dsimp only at c3;have c4:=lh;rw[show(if e.lz∈p.ax then(p.ae.getD (be p.ax e.lz).toNat ([],0)).2 else -1)=fP p e.lz from rfl]at c1;generalize fP p e.lz=ro at*;refine sW (fn:=f55) ?_;by_cases qe:log.length=0;rotate_left
 ·obtain⟨tm,al⟩:=zL qe;haveI hnat:dJ (((log.map cd).length :Int) -1) (log.length -1):=⟨by omega⟩;generalize log.getD (log.length -1) iX=en at*;repeat' ((first|refine tX 0 ?_|exact Zt|refine bR ?_ ?_<;>intro h)<;>(try conv=>whnf))
  all_goals try(exfalso;omega)
  ·refine af (ι:=Nat) (λi=>i<=e.text.length/\s6 e.text i) (λi=>e.text.length -i) (nS p log s e ro) 0 Zc ⟨dz _,λj hj=>by omega⟩ ?_;rintro i ⟨hi,Gv⟩;by_cases al:i<e.text.length
   ·have dm: ¬(32<=(e.text.getD i 0).toNat /\(e.text.getD i 0).toNat <=126)->¬aU e.text:=λh hh=>h (hh i al)
    have l6:32<=(e.text.getD i 0).toNat /\(e.text.getD i 0).toNat <=126->s6 e.text (i+1):=λh j hj=>by
     rcases C7.1 hj with h'|rfl
     ·exact Gv j h'
     ·exact h
    have Gq:((e.text.getD i 0).toNat :Int)<=255:=by have:=(e.text.getD i 0).toNat_lt;omega
    repeat' ((first|refine tX 0 ?_|exact Zt|refine bR ?_ ?_<;>intro h)<;>(try conv=>whnf))
    all_goals first|exact Zo|exact⟨i+1,⟨al,l6 (by omega)⟩,by omega,Zc⟩|exact absurd Lt (dm (by omega))
   ·obtain rfl:i=e.text.length:=by omega
    have PP:(jL.map Hf).length =19:=rfl;have hv:=aZ (f:=Hf) (l:=jL) hj si;rw[show vb j=(jL.getD j si).2 from rfl]at hr;generalize jL.getD j si=q at*;repeat' ((first|refine tX 0 ?_|exact Zt|refine bR ?_ ?_<;>intro h)<;>(try conv=>whnf))
    all_goals try(exfalso;omega)
    repeat((first|(refine kO 7 rfl ?_;first|refine oa (λ_ z=>⟨_,_,_,(su _ _ xJ b1 b2 b3 b4),z⟩) ?_|refine oa (λ_ z=>⟨_,_,_,(F6 (n:=1034) hS rfl rfl rfl rfl),z⟩) ?_)|refine tX 2 ?_|exact Zt);(try conv=>whnf))
    repeat' ((first|refine tX 0 ?_|exact Zt|refine bR ?_ ?_<;>intro h)<;>(try conv=>whnf))
    refine ad3 (R:=[fz 1036 9,fz 1036 11,fz 1036 13,fz 1036 15]) _ y hy ⟨rfl,rfl,ak (.st _)<|ak (.st _)<|ak (.st _)<|ak (.st _)<|ak (.st _)<|ak ?_ jl⟩;rw[hyu];exact I4 (a:=fz 1036 11) (b:=fz 1036 13) (c:=fz 1036 15) R8 (aP (λl=>some (cC.az 17 l)) (abe (aq 1036 0) s.units i0 u')) rfl rfl rfl ⟨.head _,.tail _ (.head _),.tail _ (.tail _ (.head _)),.tail _ (.tail _ (.tail _ (.head _)))⟩
 ·repeat' ((first|refine tX 0 ?_|exact Zt|refine bR ?_ ?_<;>intro h)<;>(try conv=>whnf))
  all_goals try(exfalso;omega)
  ·refine af (ι:=Nat) (λi=>i<=e.text.length/\s6 e.text i) (λi=>e.text.length -i) (nS p log s e ro) 0 Zc ⟨dz _,λj hj=>by omega⟩ ?_;rintro i ⟨hi,Gv⟩;by_cases al:i<e.text.length
   ·have dm: ¬(32<=(e.text.getD i 0).toNat /\(e.text.getD i 0).toNat <=126)->¬aU e.text:=λh hh=>h (hh i al)
    have l6:32<=(e.text.getD i 0).toNat /\(e.text.getD i 0).toNat <=126->s6 e.text (i+1):=λh j hj=>by
     rcases C7.1 hj with h'|rfl
     ·exact Gv j h'
     ·exact h
    have Gq:((e.text.getD i 0).toNat :Int)<=255:=by have:=(e.text.getD i 0).toNat_lt;omega
    repeat' ((first|refine tX 0 ?_|exact Zt|refine bR ?_ ?_<;>intro h)<;>(try conv=>whnf))
    all_goals first|exact Zo|exact⟨i+1,⟨al,l6 (by omega)⟩,by omega,Zc⟩|exact absurd Lt (dm (by omega))
   ·obtain rfl:i=e.text.length:=by omega
    have PP:(jL.map Hf).length =19:=rfl;have hv:=aZ (f:=Hf) (l:=jL) hj si;rw[show vb j=(jL.getD j si).2 from rfl]at hr;generalize jL.getD j si=q at*;repeat' ((first|refine tX 0 ?_|exact Zt|refine bR ?_ ?_<;>intro h)<;>(try conv=>whnf))
    all_goals try(exfalso;omega)
    repeat((first|(refine kO 7 rfl ?_;first|refine oa (λ_ z=>⟨_,_,_,(su _ _ xJ b1 b2 b3 b4),z⟩) ?_|refine oa (λ_ z=>⟨_,_,_,(F6 (n:=1034) hS rfl rfl rfl rfl),z⟩) ?_)|refine tX 2 ?_|exact Zt);(try conv=>whnf))
    repeat' ((first|refine tX 0 ?_|exact Zt|refine bR ?_ ?_<;>intro h)<;>(try conv=>whnf))
    refine ad3 (R:=[fz 1036 9,fz 1036 11,fz 1036 13,fz 1036 15]) _ y hy ⟨rfl,rfl,ak (.st _)<|ak (.st _)<|ak (.st _)<|ak (.st _)<|ak (.st _)<|ak ?_ jl⟩;rw[hyu];exact I4 (a:=fz 1036 11) (b:=fz 1036 13) (c:=fz 1036 15) R8 (aP (λl=>some (cC.az 17 l)) (abe (aq 1036 0) s.units i0 u')) rfl rfl rfl ⟨.head _,.tail _ (.head _),.tail _ (.tail _ (.head _)),.tail _ (.tail _ (.tail _ (.head _)))⟩
theorem RU (hp:p.ae.length<=1000)(hl:log.length<=1000)(mY:pre p log e=0)(Lt:aU e.text){ws:List aj}{j:Nat}(Xy:Kd e.text=(ws,(j:Int),true))(hj:j<19)(c5:ac 97 [V1 ws] (.one (Bo true)))
  (hr:(vb j).role <=fP p e.lz)(b1:s.opens.length<=1000)(b2:s.lots.length<=1000)(b3:s.units.length<=1000)(b4: ∀u∈s.units,(u.lots.length<=1000/\u.res.length<=1000)/\u.gas.length<=1000)
  {y:bV × Int}{i0:Nat}{u:Un}(xJ:s.units[i0]? =some u)(hy:y.2≠0)(hS:bA cx 98 1 [dyn (true,bL p),nN log,(true,Ab s),dyn (V1 ws)] (F1 s.units i0 u) [] (.aI [(true,Ab s),dyn (I y.2)]) (FY s.units i0 u)):
  ac 55 [(true,bL p),(false,[.view (log.map cd)]),(true,tq s),(true,cd e)] (nxR y):=by
 have c1:=mT p e.lz hp;have c2:=gj e.t;have wu:(log.map cd).length =log.length:=by simp
 obtain⟨g1,g2,g3,g4⟩:=F8 mY;have c3:=lk e.text (by omega);rw[Xy]at c3;dsimp only at c3;have c4:=lh;rw[show(if e.lz∈p.ax then(p.ae.getD (be p.ax e.lz).toNat ([],0)).2 else -1)=fP p e.lz from rfl]at c1;generalize fP p e.lz=ro at*;refine sW (fn:=f55) ?_;by_cases qe:log.length=0;rotate_left
 ·obtain⟨tm,al⟩:=zL qe;haveI hnat:dJ (((log.map cd).length :Int) -1) (log.length -1):=⟨by omega⟩;generalize log.getD (log.length -1) iX=en at*;repeat' ((first|refine tX 0 ?_|exact Zt|refine bR ?_ ?_<;>intro h)<;>(try conv=>whnf))
  all_goals try(exfalso;omega)
  ·refine af (ι:=Nat) (λi=>i<=e.text.length/\s6 e.text i) (λi=>e.text.length -i) (nS p log s e ro) 0 Zc ⟨dz _,λj hj=>by omega⟩ ?_;rintro i ⟨hi,Gv⟩;by_cases al:i<e.text.length
   ·have dm: ¬(32<=(e.text.getD i 0).toNat /\(e.text.getD i 0).toNat <=126)->¬aU e.text:=λh hh=>h (hh i al)
    have l6:32<=(e.text.getD i 0).toNat /\(e.text.getD i 0).toNat <=126->s6 e.text (i+1):=λh j hj=>by
     rcases C7.1 hj with h'|rfl
     ·exact Gv j h'
     ·exact h
    have Gq:((e.text.getD i 0).toNat :Int)<=255:=by have:=(e.text.getD i 0).toNat_lt;omega
    repeat' ((first|refine tX 0 ?_|exact Zt|refine bR ?_ ?_<;>intro h)<;>(try conv=>whnf))
    all_goals first|exact Zo|exact⟨i+1,⟨al,l6 (by omega)⟩,by omega,Zc⟩|exact absurd Lt (dm (by omega))
   ·obtain rfl:i=e.text.length:=by omega
    have PP:(jL.map Hf).length =19:=rfl;have hv:=aZ (f:=Hf) (l:=jL) hj si;rw[show vb j=(jL.getD j si).2 from rfl]at hr;generalize jL.getD j si=q at*;repeat' ((first|refine tX 0 ?_|exact Zt|refine bR ?_ ?_<;>intro h)<;>(try conv=>whnf))
    all_goals try(exfalso;omega)
    repeat((first|(refine kO 7 rfl ?_;first|refine oa (λ_ z=>⟨_,_,_,(su _ _ xJ b1 b2 b3 b4),z⟩) ?_|refine oa (λ_ z=>⟨_,_,_,(F7 (n:=1034) hS rfl rfl rfl rfl),z⟩) ?_)|refine tX 2 ?_|exact Zt);(try conv=>whnf))
    repeat' ((first|refine tX 0 ?_|exact Zt|refine bR ?_ ?_<;>intro h)<;>(try conv=>whnf))
    exact ad2 _ y hy
 ·repeat' ((first|refine tX 0 ?_|exact Zt|refine bR ?_ ?_<;>intro h)<;>(try conv=>whnf))
  all_goals try(exfalso;omega)
  ·refine af (ι:=Nat) (λi=>i<=e.text.length/\s6 e.text i) (λi=>e.text.length -i) (nS p log s e ro) 0 Zc ⟨dz _,λj hj=>by omega⟩ ?_;rintro i ⟨hi,Gv⟩;by_cases al:i<e.text.length
   ·have dm: ¬(32<=(e.text.getD i 0).toNat /\(e.text.getD i 0).toNat <=126)->¬aU e.text:=λh hh=>h (hh i al)
    have l6:32<=(e.text.getD i 0).toNat /\(e.text.getD i 0).toNat <=126->s6 e.text (i+1):=λh j hj=>by
     rcases C7.1 hj with h'|rfl
     ·exact Gv j h'
     ·exact h
    have Gq:((e.text.getD i 0).toNat :Int)<=255:=by have:=(e.text.getD i 0).toNat_lt;omega
    repeat' ((first|refine tX 0 ?_|exact Zt|refine bR ?_ ?_<;>intro h)<;>(try conv=>whnf))
    all_goals first|exact Zo|exact⟨i+1,⟨al,l6 (by omega)⟩,by omega,Zc⟩|exact absurd Lt (dm (by omega))
   ·obtain rfl:i=e.text.length:=by omega
    have PP:(jL.map Hf).length =19:=rfl;have hv:=aZ (f:=Hf) (l:=jL) hj si;rw[show vb j=(jL.getD j si).2 from rfl]at hr;generalize jL.getD j si=q at*;repeat' ((first|refine tX 0 ?_|exact Zt|refine bR ?_ ?_<;>intro h)<;>(try conv=>whnf))
    all_goals try(exfalso;omega)
    repeat((first|(refine kO 7 rfl ?_;first|refine oa (λ_ z=>⟨_,_,_,(su _ _ xJ b1 b2 b3 b4),z⟩) ?_|refine oa (λ_ z=>⟨_,_,_,(F7 (n:=1034) hS rfl rfl rfl rfl),z⟩) ?_)|refine tX 2 ?_|exact Zt);(try conv=>whnf))
    repeat' ((first|refine tX 0 ?_|exact Zt|refine bR ?_ ?_<;>intro h)<;>(try conv=>whnf))
    exact ad2 _ y hy
end
section
variable {E:to}{p:Pl}{log:List En}{s:bV}{k:Nat}{a:List aj}{n:List Int}{q w0 x:aj}{ws:List aj}
theorem mo (hl:s.units.length<=1000)(n1: ¬w0= [110,111,116,101])(n2: ¬w0= [108,111,116])(n3: ¬w0= [117,110,105,116])(n4: ¬w0=lL)(n5: ¬w0=nw)(n6: ¬w0=lq)(n7: ¬w0=sN)(n8: ¬w0=wP)(n9: ¬w0=OY)
  (he:bm E p log s k a n q=T6 E p log s k x a n q)(hGU: ∀u,u∈s.units->GU 136 [dyn (true,bL p),nN log,dyn (LF s),(true,cV u 11 13 15),dyn (V1 (w0::x::ws))] u (aQ E p log s u k a n q))
  (hk:(k=10/\w0= [101,110,116,101,114]/\∀u,(aQ E p log s u k a n q).1=u)\/(k=11/\w0= [108,101,97,118,101])\/((k≠10/\k≠11)/\¬w0= [101,110,116,101,114]/\¬w0= [108,101,97,118,101])):
  Stp p log s (w0::x::ws) (bm E p log s k a n q):=by
 rw[he];by_cases hu:0<=iB s x;rotate_left
 ·rw[oV hu];exact .inl (O1 p log s hl (by omega) n1 n2 n3 n4 n5 n6 n7 n8 n9)
 obtain⟨i,u,h1,h2,h3,h4,_⟩:=j7 hu;have hx:iB s x=(i:Nat):=h1;have hG:=hGU u (jH h3)
 cases hr:aQ E p log s u k a n q with
 |mk u' z=>
  rw[hr]at hG;rw[aY hu h2 h4 hr];by_cases hz:z=0
  ·subst hz;rw[if_pos rfl];refine .inr (.inr ⟨i,u,u',h3,rfl,rfl,?_⟩)
   rcases hk with⟨rfl,hw,hn⟩|⟨rfl,hw⟩|⟨⟨k1,k2⟩,e1,e2⟩
   ·have:=Ld p log s h3 hl hx n1 n2 n3 n4 n5 n6 n7 n8 n9 hG hw
    grind
   ·exact O0 p log s h3 hl hx n1 n2 n3 n4 n5 n6 n7 n8 n9 hG hw
   ·rw[if_neg k1,if_neg k2];exact Ho p log s h3 hl hx n1 n2 n3 n4 n5 n6 n7 n8 n9 hG e1 e2
  ·refine .inr (.inl ⟨i,u,h3,hz,?_⟩);exact Lc p log s h3 hl hx n1 n2 n3 n4 n5 n6 n7 n8 n9 hG hz
end
structure RB (p:Pl) (log:List En) (s:bV):Prop where
 small:gz p
 len:log.length<=1000
 opens:s.opens.length<=1000
 nd:s.opens.Nodup
 cmp: ∀u∈s.units,∀t∈p.aa,t.kind=2->iV u.res t=true->adU log u t
section
variable {p:Pl}{log:List En}{s:bV}{k:Nat}{a:List aj}{n:List Int}{q w0:aj}
theorem ad4 (hP:PB p)(hS:SB p log s)(hR:RB p log s)(hk:k<19)(hw:w0=(jL.getD k si).1)(ha:a.length=(vb k).words)(hal: ∀x∈a,x.length<=1000)(hq:q.length<=1000)(hn:jT ((w0::a).drop ((vb k).words +1 -(vb k).sR))=some n):
  Stp p log s (w0::a++if(vb k).rest then [q]else []) (bm EE p log s k a n q):=by
 have hul:s.units.length<=6:=hS.units;have wu:s.lots.length<=12:=hS.lots;have ag4:=hR.len;have hUl: ∀u∈s.units,u.lots.length<=1000:=λu hu=>by have:=(hS.unit u hu).lots;omega
 have hUr: ∀u∈s.units,u.res.length<=1000:=λu hu=>by have:=(hS.unit u hu).len;omega
 have Fv: ∀ {l:List aj},l.length=2->∃x y,l= [x,y]:=λ{l} h=>match l,h with| [x,y],_=>⟨x,y,rfl⟩
 have agK: ∀ {l:List aj},l.length=3->∃x y z,l= [x,y,z]:=λ{l} h=>match l,h with| [x,y,z],_=>⟨x,y,z,rfl⟩
 have agL: ∀ {l:List aj},l.length=6->∃x y1 y2 y3 y4 y5,l= [x,y1,y2,y3,y4,y5]:=λ{l} h=>match l,h with| [x,y1,y2,y3,y4,y5],_=>⟨x,y1,y2,y3,y4,y5,rfl⟩
 have alA: ∀ {l:List Int},l.length=1->∃x,l= [x]:=λh=>xY.1 h;have amd: ∀ {l:List Int},l.length=2->∃x y,l= [x,y]:=λ{l} h=>match l,h with| [x,y],_=>⟨x,y,rfl⟩
 have alF: ∀ {l:List Int},l.length=5->∃y1 y2 y3 y4 y5,l= [y1,y2,y3,y4,y5]:=λ{l} h=>match l,h with| [y1,y2,y3,y4,y5],_=>⟨y1,y2,y3,y4,y5,rfl⟩
 have UQ: ∀z∈w0::a,z.length<=100000:=λz hz=>by
  rcases cF.1 hz with rfl|hz
  ·have: ∀k<19,(jL.getD k si).1.length <=10:=by decide
   grind
  grind
 have th: ∀ {l:List aj},l.length=1->∃x,l= [x]:=λh=>xY.1 h
 match k,hk with
 |0,_=>
  subst hw;exact .inl (W0 EE p log s n q rfl a _)
 |1,_=>
  subst hw;obtain⟨x,rfl⟩:=th ha;exact .inl (aba EE p log s n q rfl x (hal x (by simp)) (by omega))
 |2,_=>
  subst hw;obtain⟨x,rfl⟩:=th ha;exact .inl (W4 EE p log s n q rfl x (hal x (by simp)) (by omega) rfl (by omega))
 |3,_=>
  subst hw;obtain⟨x,y,rfl⟩:=Fv ha;refine mo (by omega) (by decide) (by decide) (by decide) (by decide) (by decide) (by decide) (by decide) (by decide) (by decide) rfl (λu hu=>?_) (.inr (.inr ⟨⟨by decide,by decide⟩,by decide,by decide⟩));exact WX EE p log s u q n rfl x y (by omega) (hUl u hu)
 |4,_=>
  subst hw;obtain⟨x,rfl⟩:=th ha;exact .inl (W5 EE p log s n q rfl [x] [x] (A7 EE p log s n q rfl x hP.ap hR.opens))
 |5,_=>
  subst hw;obtain⟨x,rfl⟩:=th ha;exact .inl (W6 EE p log s n q rfl [x] [x] (WY EE p log s n q rfl x hP.ap hR.opens hR.nd))
 |6,_=>
  subst hw;exact .inl (RR EE p log s n q rfl a _ (RQ EE p log s n q rfl a _))
 |7,_=>
  subst hw;exact .inl (W7 EE p log s n q rfl a _ (WZ EE p log s n q rfl a _))
 |8,_=>
  subst hw;exact .inl (Lb EE p log s n q rfl a _ (La EE p log s n q rfl a _))
 |9,_=>
  subst hw;exact .inl (abb EE p log s n q rfl a _ (aa9 EE p log s n q rfl a _))
 |10,_=>
  subst hw;obtain⟨x,rfl⟩:=th ha;refine mo (by omega) (by decide) (by decide) (by decide) (by decide) (by decide) (by decide) (by decide) (by decide) (by decide) rfl (λu hu=>?_) (.inl ⟨rfl,rfl,λu=>by show(if u.rel then(u,(20:Int))else if s.hall= []then(if s.opens= []then(u,24)else(u,0))else(u,17)).1=u;grind⟩);exact OW EE p log s u q n rfl x
 |11,_=>
  subst hw;obtain⟨x,rfl⟩:=th ha;refine mo (by omega) (by decide) (by decide) (by decide) (by decide) (by decide) (by decide) (by decide) (by decide) (by decide) rfl (λu hu=>?_) (.inr (.inl ⟨rfl,rfl⟩));exact OX EE p log s u q n rfl x
 |12,_=>
  subst hw;obtain⟨x,y,rfl⟩:=Fv ha;refine mo (by omega) (by decide) (by decide) (by decide) (by decide) (by decide) (by decide) (by decide) (by decide) (by decide) rfl (λu hu=>?_) (.inr (.inr ⟨⟨by decide,by decide⟩,by decide,by decide⟩));refine RP EE p log s u q n rfl x y (WW EE p log s u _ x y q n hP.aa hP.bv (hUr u hu) ag4 (λt ht Jb=>?_));exact Cr log u t q (by grind) (by omega) (hP.rules t ht) (hP.kind t ht) (λLH=>hR.cmp u hu t ht LH Jb)
 |13,_=>
  subst hw;obtain⟨x,y,rfl⟩:=Fv ha;refine mo (by omega) (by decide) (by decide) (by decide) (by decide) (by decide) (by decide) (by decide) (by decide) (by decide) rfl (λu hu=>?_) (.inr (.inr ⟨⟨by decide,by decide⟩,by decide,by decide⟩));exact K9 EE p log s u q n rfl x y hR.small (hUr u hu)
 |14,_=>
  subst hw;obtain⟨x,rfl⟩:=th ha;refine mo (by omega) (by decide) (by decide) (by decide) (by decide) (by decide) (by decide) (by decide) (by decide) (by decide) rfl (λu hu=>?_) (.inr (.inr ⟨⟨by decide,by decide⟩,by decide,by decide⟩));exact Hl EE p log s u q n rfl x hP.aa (hUr u hu)
 |15,_=>
  subst hw;obtain⟨x,y,rfl⟩:=Fv ha;refine mo (by omega) (by decide) (by decide) (by decide) (by decide) (by decide) (by decide) (by decide) (by decide) (by decide) rfl (λu hu=>?_) (.inr (.inr ⟨⟨by decide,by decide⟩,by decide,by decide⟩));refine uW p log s u _ _ (by decide) (by decide) (by decide) (by decide) (by decide) (by decide) (by decide) ?_;cases hrel:u.rel
  ·have:=λw=>FW p u w hrel
   have hq:aQ EE p log s u 15 [x,y] n q=(u,20):=by
    show(if u.rel then _ else _)=_;rw[hrel];rfl
   grind
  ·obtain⟨m,rfl⟩:=alA (qN hn);have:=OT p u x y m rfl hrel (λz hz=>UQ z hz) hn
   have hq:aQ EE p log s u 15 [x,y] [m] q=if m<=1000 then({u with shaken:=u.shaken || decide (m>p.dY)},0)else(u,2):=by
    show(if u.rel then _ else _)=_;rw[hrel];rfl
   rw[hq];exact this
 |16,_=>
  subst hw;obtain⟨x,rfl⟩:=th ha;refine mo (by omega) (by decide) (by decide) (by decide) (by decide) (by decide) (by decide) (by decide) (by decide) (by decide) rfl (λu hu=>?_) (.inr (.inr ⟨⟨by decide,by decide⟩,by decide,by decide⟩));exact Hm EE p log s u q n rfl x
 |17,_=>
  subst hw;obtain⟨x,y,z,rfl⟩:=agK ha;refine mo (by omega) (by decide) (by decide) (by decide) (by decide) (by decide) (by decide) (by decide) (by decide) (by decide) rfl (λu hu=>?_) (.inr (.inr ⟨⟨by decide,by decide⟩,by decide,by decide⟩));refine uW p log s u _ _ (by decide) (by decide) (by decide) (by decide) (by decide) (by decide) (by decide) ?_;cases hrel:u.rel
  ·have:=λw=>FW p u w hrel
   have hq:aQ EE p log s u 17 [x,y,z] n q=(u,20):=by
    show(if u.rel then _ else _)=_;rw[hrel];rfl
   grind
  ·obtain⟨m,m',rfl⟩:=amd (qN hn);have:=RM p u x y z m m' rfl hrel (λz hz=>UQ z hz) hn hP.eH (hS.unit u hu).used
   have hq:aQ EE p log s u 17 [x,y,z] [m,m'] q=if u.shaken then(u,24)else if B5 m m' then(if u.used+xy m m'<=p.eH then({u with used:=u.used+xy m m'},0)else(u,22))else(u,2):=by
    show(if u.rel then _ else _)=_;rw[hrel];rfl
   rw[hq];exact this
 |18,_=>
  subst hw;obtain⟨x,y1,y2,y3,y4,y5,rfl⟩:=agL ha;refine mo (by omega) (by decide) (by decide) (by decide) (by decide) (by decide) (by decide) (by decide) (by decide) (by decide) rfl (λu hu=>?_) (.inr (.inr ⟨⟨by decide,by decide⟩,by decide,by decide⟩));refine uW p log s u _ _ (by decide) (by decide) (by decide) (by decide) (by decide) (by decide) (by decide) ?_;cases hrel:u.rel
  ·have:=λw=>FW p u w hrel
   have hq:aQ EE p log s u 18 [x,y1,y2,y3,y4,y5] n q=(u,20):=by
    show(if u.rel then _ else _)=_;rw[hrel];rfl
   grind
  ·obtain⟨m1,m2,m3,m4,m5,rfl⟩:=alF (qN hn);have:=WV p u x y1 y2 y3 y4 y5 m1 m2 m3 m4 m5 rfl hrel (λz hz=>UQ z hz) hn (by have:=(hS.unit u hu).gas;omega)
   have hq:aQ EE p log s u 18 [x,y1,y2,y3,y4,y5] [m1,m2,m3,m4,m5] q=if gok m1 m2 m3 m4 m5 then(if u.gas.length<10 then({u with gas:=u.gas++[⟨m1,m2,m3,m4,m5⟩]},0)else(u,16))else(u,2):=by
    show(if u.rel then _ else _)=_;rw[hrel];rfl
   rw[hq];exact this
 |k+19,hk=>omega
end
end Go.Proofs.Tryz
