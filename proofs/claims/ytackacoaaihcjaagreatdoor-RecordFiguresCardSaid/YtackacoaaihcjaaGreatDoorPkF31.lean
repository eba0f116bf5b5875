import Derived.Test.YtackacoaaihcjaaGreatDoorPkF21
import Derived.Test.YtackacoaaihcjaaGreatDoorPkF30
set_option linter.all false
set_option maxRecDepth 100000
set_option maxHeartbeats 8000000
namespace Go.Proofs.Tryz
open Go.Fw Go.IntWalk Go.Plain
def al5 {H:HF}(ds:List DC)(y:bQ × Int)(he:y.2≠0)(hd:ds.length=6:=by rfl):HH H [(true,ds),dyn (I y.2)] (λr'=>r'=nxR y):=by
 have:=pV (H:=H) ds y.1 y.2 he hd
 grind
def al6 {H:HF}{R:List Nat}(ds:List DC)(y:bQ × Int)(h0:y.2=0)(hf:Bg H R (true,ds) (true,Aj y.1)):HH H [(true,ds),dyn (I y.2)] (λr'=>r'=nxR y):=by
 refine⟨[(true,Aj y.1),I y.2],R,bK hf (bK (k9 _) jM),rfl,?_⟩;show Y4 _=ma.aJ _;rw[if_pos h0];rfl
def ag3 (ρ:Nat->Nat)(us:List Un):(se us).map (λe=>e.map (DC.rn ρ))=se us:=by
 show List.map _ (List.map _ _)=List.map _ _;rw[zS]
 exact Lw λe _=>by
  show List.map _ (List.map _ _)=_;rw[zS];rfl
def ag4 (ρ:Nat->Nat)(us:List Un)(i:Nat)(u:Un):((se us).set i (cP u 11 13 15)).map (λe=>e.map (DC.rn ρ))=(se us).set i (cP u (ρ 11) (ρ 13) (ρ 15)):=by rw[LU,ag3];rfl
def W4 {H:HF}{R:List Nat}{us:List Un}{i k a b c:Nat}{u:Un}(Uw:i<us.length)(h9:H k=some (.aG 17 ((se us).set i (cP u a b c))))(ha:H a=some (.row true 1 (.view (ab u.lots))))(hb:H b=some (.row true 4 (.view (u.res.map kG))))(hc:H c=some (.row true 5 (.view (u.gas.map uV))))(hR:k∈R/\a∈R/\b∈R/\c∈R):
  Full H R (.own k) (.view ((us.set i u).map kz)):=by
 have n2:(se us).length =us.length:=by grind
 have FN: ∀ {j:Nat} {e:List DC} {e':List SC},((se us).set i (cP u a b c))[j]? =some e->((us.set i u).map kz)[j]? =some e'->(e=cP u a b c/\e'=kz u)\/e=e'.map .st :=λ{j e e'} h h'=>by grind
 refine .aG hR.1 h9 bq (λj e e' h h'=>?_) (λj e e' k d c' h h' hd IK=>?_) (λj e' k c' h' IK=>?_)
 ·exact aj7
 ·rcases FN h h' with⟨rfl,rfl⟩|rfl
  grind[ut]
  ·exact akc
 grind[Fe]
section
variable (p:Pl)(log:List En)(s:bQ)(e:En)
theorem RD (hp:p.ae.length<=1000)(hl:log.length<=1000)(o6:pre p log e=0)(KU:aU e.text){ws:List aj}{j:Nat}(Xu:HN e.text=(ws,(j:Int),true))(hj:j<19)(c5:ac 110 [V1 ws] (.one (Bo true)))
  (hr:(vb j).role <=fR p e.lu)(b1:s.opens.length<=1000)(b2:s.lots.length<=1000)(b3:s.units.length<=1000)(b4: ∀u∈s.units,(u.lots.length<=1000/\u.res.length<=1000)/\u.gas.length<=1000)
  {y:bQ × Int}(hS:GS 111 [dyn (true,bU p),nK log,(true,su s),dyn (V1 ws)] s y):
  ac 65 [(true,bU p),(false,[.view (log.map cY)]),(true,Aj s),(true,cY e)] (nxR y):=by
 have c1:=mR p e.lu hp;have c2:=gj e.t;have uF:(log.map cY).length =log.length:=by simp
 obtain⟨g1,g2,g3,g4⟩:=Fx o6;have c3:=jF e.text K0;rw[Xu]at c3;dsimp only at c3;have c4:=lf;rw[show(if e.lu∈p.ay then(p.ae.getD (aZ p.ay e.lu).toNat ([],0)).2 else -1)=fR p e.lu from rfl]at c1;generalize fR p e.lu=ro at*;refine sW (fn:=f65) ?_;by_cases sC:log.length=0;rotate_left
 ·obtain⟨uE,ak⟩:=zx sC;haveI hnat:dN (((log.map cY).length :Int) -1) (log.length -1):=⟨by omega⟩;generalize log.getD (log.length -1) gD=en at*;repeat' ((first|refine tX 0 ?_|exact Zt|refine bR ?_ ?_<;>intro h)<;>(try conv=>whnf))
  all_goals try(exfalso;omega)
  ·refine af (ι:=Nat) (λi=>i<=e.text.length/\sL e.text i) (λi=>e.text.length -i) (nS p log s e ro) 0 Zc ⟨dM _,λj hj=>by omega⟩ ?_;rintro i ⟨hi,Lj⟩;by_cases ak:i<e.text.length
   ·have dy: ¬(32<=(e.text.getD i 0).toNat /\(e.text.getD i 0).toNat <=126)->¬aU e.text:=λh hh=>h (hh i ak);have l8:32<=(e.text.getD i 0).toNat /\(e.text.getD i 0).toNat <=126->sL e.text (i+1):=λh j hj=>by exact K71
    have FJ:((e.text.getD i 0).toNat :Int)<=255:=by exact LW
    repeat' ((first|refine tX 0 ?_|exact Zt|refine bR ?_ ?_<;>intro h)<;>(try conv=>whnf))
    all_goals first|exact Zo|exact⟨i+1,⟨ak,l8 K0⟩,by omega,Zc⟩|exact absurd KU (dy K0)
   ·exact K23
 ·repeat' ((first|refine tX 0 ?_|exact Zt|refine bR ?_ ?_<;>intro h)<;>(try conv=>whnf))
  all_goals try(exfalso;omega)
  ·refine af (ι:=Nat) (λi=>i<=e.text.length/\sL e.text i) (λi=>e.text.length -i) (nS p log s e ro) 0 Zc ⟨dM _,λj hj=>by omega⟩ ?_;rintro i ⟨hi,Lj⟩;by_cases ak:i<e.text.length
   ·have dy: ¬(32<=(e.text.getD i 0).toNat /\(e.text.getD i 0).toNat <=126)->¬aU e.text:=λh hh=>h (hh i ak);have l8:32<=(e.text.getD i 0).toNat /\(e.text.getD i 0).toNat <=126->sL e.text (i+1):=λh j hj=>by exact K71
    have FJ:((e.text.getD i 0).toNat :Int)<=255:=by exact LW
    repeat' ((first|refine tX 0 ?_|exact Zt|refine bR ?_ ?_<;>intro h)<;>(try conv=>whnf))
    all_goals first|exact Zo|exact⟨i+1,⟨ak,l8 K0⟩,by omega,Zc⟩|exact absurd KU (dy K0)
   ·exact K23
theorem RE (hp:p.ae.length<=1000)(hl:log.length<=1000)(o6:pre p log e=0)(KU:aU e.text){ws:List aj}{j:Nat}(Xu:HN e.text=(ws,(j:Int),true))(hj:j<19)(c5:ac 110 [V1 ws] (.one (Bo true)))
  (hr:(vb j).role <=fR p e.lu)(b1:s.opens.length<=1000)(b2:s.lots.length<=1000)(b3:s.units.length<=1000)(b4: ∀u∈s.units,(u.lots.length<=1000/\u.res.length<=1000)/\u.gas.length<=1000)
  {y:bQ × Int}{i0:Nat}{u u':Un}(zG:s.units[i0]? =some u)(hy:y.2=0)(hyu:y.1.units=s.units.set i0 u')(hS:bt cx 111 1 [dyn (true,bU p),nK log,(true,zJ s),dyn (V1 ws)] (F1 s.units i0 u) [] (.aJ [(true,zJ y.1),dyn (I y.2)]) (F1 s.units i0 u')):
  ac 65 [(true,bU p),(false,[.view (log.map cY)]),(true,Aj s),(true,cY e)] (nxR y):=by
 have Uw:=(kp.1 zG).1;have c1:=mR p e.lu hp;have c2:=gj e.t;have uF:(log.map cY).length =log.length:=by simp
 obtain⟨g1,g2,g3,g4⟩:=Fx o6;have c3:=jF e.text K0;rw[Xu]at c3;dsimp only at c3;have c4:=lf;rw[show(if e.lu∈p.ay then(p.ae.getD (aZ p.ay e.lu).toNat ([],0)).2 else -1)=fR p e.lu from rfl]at c1;generalize fR p e.lu=ro at*;refine sW (fn:=f65) ?_;by_cases sC:log.length=0;rotate_left
 ·obtain⟨uE,ak⟩:=zx sC;haveI hnat:dN (((log.map cY).length :Int) -1) (log.length -1):=⟨by omega⟩;generalize log.getD (log.length -1) gD=en at*;repeat' ((first|refine tX 0 ?_|exact Zt|refine bR ?_ ?_<;>intro h)<;>(try conv=>whnf))
  all_goals try(exfalso;omega)
  ·refine af (ι:=Nat) (λi=>i<=e.text.length/\sL e.text i) (λi=>e.text.length -i) (nS p log s e ro) 0 Zc ⟨dM _,λj hj=>by omega⟩ ?_;rintro i ⟨hi,Lj⟩;by_cases ak:i<e.text.length
   ·have dy: ¬(32<=(e.text.getD i 0).toNat /\(e.text.getD i 0).toNat <=126)->¬aU e.text:=λh hh=>h (hh i ak);have l8:32<=(e.text.getD i 0).toNat /\(e.text.getD i 0).toNat <=126->sL e.text (i+1):=λh j hj=>by exact K71
    have FJ:((e.text.getD i 0).toNat :Int)<=255:=by exact LW
    repeat' ((first|refine tX 0 ?_|exact Zt|refine bR ?_ ?_<;>intro h)<;>(try conv=>whnf))
    all_goals first|exact Zo|exact⟨i+1,⟨ak,l8 K0⟩,by omega,Zc⟩|exact absurd KU (dy K0)
   ·exact K20
 ·repeat' ((first|refine tX 0 ?_|exact Zt|refine bR ?_ ?_<;>intro h)<;>(try conv=>whnf))
  all_goals try(exfalso;omega)
  ·refine af (ι:=Nat) (λi=>i<=e.text.length/\sL e.text i) (λi=>e.text.length -i) (nS p log s e ro) 0 Zc ⟨dM _,λj hj=>by omega⟩ ?_;rintro i ⟨hi,Lj⟩;by_cases ak:i<e.text.length
   ·have dy: ¬(32<=(e.text.getD i 0).toNat /\(e.text.getD i 0).toNat <=126)->¬aU e.text:=λh hh=>h (hh i ak);have l8:32<=(e.text.getD i 0).toNat /\(e.text.getD i 0).toNat <=126->sL e.text (i+1):=λh j hj=>by exact K71
    have FJ:((e.text.getD i 0).toNat :Int)<=255:=by exact LW
    repeat' ((first|refine tX 0 ?_|exact Zt|refine bR ?_ ?_<;>intro h)<;>(try conv=>whnf))
    all_goals first|exact Zo|exact⟨i+1,⟨ak,l8 K0⟩,by omega,Zc⟩|exact absurd KU (dy K0)
   ·exact K20
theorem RF (hp:p.ae.length<=1000)(hl:log.length<=1000)(o6:pre p log e=0)(KU:aU e.text){ws:List aj}{j:Nat}(Xu:HN e.text=(ws,(j:Int),true))(hj:j<19)(c5:ac 110 [V1 ws] (.one (Bo true)))
  (hr:(vb j).role <=fR p e.lu)(b1:s.opens.length<=1000)(b2:s.lots.length<=1000)(b3:s.units.length<=1000)(b4: ∀u∈s.units,(u.lots.length<=1000/\u.res.length<=1000)/\u.gas.length<=1000)
  {y:bQ × Int}{i0:Nat}{u:Un}(zG:s.units[i0]? =some u)(hy:y.2≠0)(hS:bt cx 111 1 [dyn (true,bU p),nK log,(true,zJ s),dyn (V1 ws)] (F1 s.units i0 u) [] (.aJ [(true,zJ s),dyn (I y.2)]) (FY s.units i0 u)):
  ac 65 [(true,bU p),(false,[.view (log.map cY)]),(true,Aj s),(true,cY e)] (nxR y):=by
 have c1:=mR p e.lu hp;have c2:=gj e.t;have uF:(log.map cY).length =log.length:=by simp
 obtain⟨g1,g2,g3,g4⟩:=Fx o6;have c3:=jF e.text K0;rw[Xu]at c3;dsimp only at c3;have c4:=lf;rw[show(if e.lu∈p.ay then(p.ae.getD (aZ p.ay e.lu).toNat ([],0)).2 else -1)=fR p e.lu from rfl]at c1;generalize fR p e.lu=ro at*;refine sW (fn:=f65) ?_;by_cases sC:log.length=0;rotate_left
 ·obtain⟨uE,ak⟩:=zx sC;haveI hnat:dN (((log.map cY).length :Int) -1) (log.length -1):=⟨by omega⟩;generalize log.getD (log.length -1) gD=en at*;repeat' ((first|refine tX 0 ?_|exact Zt|refine bR ?_ ?_<;>intro h)<;>(try conv=>whnf))
  all_goals try(exfalso;omega)
  ·refine af (ι:=Nat) (λi=>i<=e.text.length/\sL e.text i) (λi=>e.text.length -i) (nS p log s e ro) 0 Zc ⟨dM _,λj hj=>by omega⟩ ?_;rintro i ⟨hi,Lj⟩;by_cases ak:i<e.text.length
   ·have dy: ¬(32<=(e.text.getD i 0).toNat /\(e.text.getD i 0).toNat <=126)->¬aU e.text:=λh hh=>h (hh i ak);have l8:32<=(e.text.getD i 0).toNat /\(e.text.getD i 0).toNat <=126->sL e.text (i+1):=λh j hj=>by exact K71
    have FJ:((e.text.getD i 0).toNat :Int)<=255:=by exact LW
    repeat' ((first|refine tX 0 ?_|exact Zt|refine bR ?_ ?_<;>intro h)<;>(try conv=>whnf))
    all_goals first|exact Zo|exact⟨i+1,⟨ak,l8 K0⟩,by omega,Zc⟩|exact absurd KU (dy K0)
   ·exact K33
 ·repeat' ((first|refine tX 0 ?_|exact Zt|refine bR ?_ ?_<;>intro h)<;>(try conv=>whnf))
  all_goals try(exfalso;omega)
  ·refine af (ι:=Nat) (λi=>i<=e.text.length/\sL e.text i) (λi=>e.text.length -i) (nS p log s e ro) 0 Zc ⟨dM _,λj hj=>by omega⟩ ?_;rintro i ⟨hi,Lj⟩;by_cases ak:i<e.text.length
   ·have dy: ¬(32<=(e.text.getD i 0).toNat /\(e.text.getD i 0).toNat <=126)->¬aU e.text:=λh hh=>h (hh i ak);have l8:32<=(e.text.getD i 0).toNat /\(e.text.getD i 0).toNat <=126->sL e.text (i+1):=λh j hj=>by exact K71
    have FJ:((e.text.getD i 0).toNat :Int)<=255:=by exact LW
    repeat' ((first|refine tX 0 ?_|exact Zt|refine bR ?_ ?_<;>intro h)<;>(try conv=>whnf))
    all_goals first|exact Zo|exact⟨i+1,⟨ak,l8 K0⟩,by omega,Zc⟩|exact absurd KU (dy K0)
   ·exact K33
end
section
variable {E:qp}{p:Pl}{log:List En}{s:bQ}{k:Nat}{a:List aj}{n:List Int}{q w0 x:aj}{ws:List aj}
theorem mn (hl:s.units.length<=1000)(n1: ¬w0= [110,111,116,101])(n2: ¬w0= [108,111,116])(n3: ¬w0= [117,110,105,116])(n4: ¬w0=lK)(n5: ¬w0=nn)(n6: ¬w0=lj)(n7: ¬w0=sv)(n8: ¬w0=wj)(n9: ¬w0=OE)
  (he:ba E p log s k a n q=TS E p log s k x a n q)(hGU: ∀u,u∈s.units->GU 199 [dyn (true,bU p),nK log,dyn (Lg s),(true,cP u 11 13 15),dyn (V1 (w0::x::ws))] u (aI E p log s u k a n q))
  (hk:(k=10/\w0= [101,110,116,101,114]/\∀u,(aI E p log s u k a n q).1=u)\/(k=11/\w0= [108,101,97,118,101])\/((k≠10/\k≠11)/\¬w0= [101,110,116,101,114]/\¬w0= [108,101,97,118,101])):
  Stp p log s (w0::x::ws) (ba E p log s k a n q):=by
 rw[he];by_cases hu:0<=gY s x;rotate_left
 ·rw[oJ hu];exact .inl (OJ p log s hl K0 n1 n2 n3 n4 n5 n6 n7 n8 n9)
 obtain⟨i,u,h1,h2,h3,h4,_⟩:=j6 hu;have hx:gY s x=(i:Nat):=h1;have hG:=hGU u (jv h3)
 cases hr:aI E p log s u k a n q with
 |mk u' z=>
  rw[hr]at hG;rw[aY hu h2 h4 hr];by_cases hz:z=0
  ·subst hz;rw[if_pos rfl];refine .inr (.inr ⟨i,u,u',h3,rfl,rfl,?_⟩)
   rcases hk with⟨rfl,hw,hn⟩|⟨rfl,hw⟩|⟨⟨k1,k2⟩,e1,e2⟩
   ·have:=KM p log s h3 hl hx n1 n2 n3 n4 n5 n6 n7 n8 n9 hG hw
    grind
   ·exact OI p log s h3 hl hx n1 n2 n3 n4 n5 n6 n7 n8 n9 hG hw
   ·rw[if_neg k1,if_neg k2];exact GK p log s h3 hl hx n1 n2 n3 n4 n5 n6 n7 n8 n9 hG e1 e2
  ·refine .inr (.inl ⟨i,u,h3,hz,?_⟩);exact KL p log s h3 hl hx n1 n2 n3 n4 n5 n6 n7 n8 n9 hG hz
end
structure RB (p:Pl) (log:List En) (s:bQ):Prop where
 small:io p
 len:log.length<=1000
 opens:s.opens.length<=1000
 nd:s.opens.Nodup
 cmp: ∀u∈s.units,∀t∈p.aa,t.kind=2->iV u.res t=true->adR log u t
section
variable {p:Pl}{log:List En}{s:bQ}{k:Nat}{a:List aj}{n:List Int}{q w0:aj}
theorem adV (hP:PB p)(hS:SB p log s)(hR:RB p log s)(hk:k<19)(hw:w0=(kf.getD k vl).1)(ha:a.length=(vb k).words)(hal: ∀x∈a,x.length<=1000)(hq:q.length<=1000)(hn:jl ((w0::a).drop ((vb k).words +1 -(vb k).pZ))=some n):
  Stp p log s (w0::a++if(vb k).rest then [q]else []) (ba EE p log s k a n q):=by
 have hul:s.units.length<=6:=hS.units;have uF:s.lots.length<=12:=hS.lots;have ahA:=hR.len;have hUl: ∀u∈s.units,u.lots.length<=1000:=λu hu=>by have:=(hS.unit u hu).lots;omega
 have hUr: ∀u∈s.units,u.res.length<=1000:=λu hu=>by have:=(hS.unit u hu).len;omega
 have AE: ∀ {l:List aj},l.length=2->∃x y,l= [x,y]:=λ{l} h=>match l,h with| [x,y],_=>⟨x,y,rfl⟩
 have agU: ∀ {l:List aj},l.length=3->∃x y z,l= [x,y,z]:=λ{l} h=>match l,h with| [x,y,z],_=>⟨x,y,z,rfl⟩
 have agV: ∀ {l:List aj},l.length=6->∃x y1 y2 y3 y4 y5,l= [x,y1,y2,y3,y4,y5]:=λ{l} h=>match l,h with| [x,y1,y2,y3,y4,y5],_=>⟨x,y1,y2,y3,y4,y5,rfl⟩
 have ams: ∀ {l:List Int},l.length=1->∃x,l= [x]:=λh=>xG.1 h;have amU: ∀ {l:List Int},l.length=2->∃x y,l= [x,y]:=λ{l} h=>match l,h with| [x,y],_=>⟨x,y,rfl⟩
 have amV: ∀ {l:List Int},l.length=5->∃y1 y2 y3 y4 y5,l= [y1,y2,y3,y4,y5]:=λ{l} h=>match l,h with| [y1,y2,y3,y4,y5],_=>⟨y1,y2,y3,y4,y5,rfl⟩
 have Uy: ∀z∈w0::a,z.length<=100000:=λz hz=>by
  rcases dh.1 hz with rfl|hz
  ·have: ∀k<19,(kf.getD k vl).1.length <=10:=by decide
   grind
  grind
 have sP: ∀ {l:List aj},l.length=1->∃x,l= [x]:=λh=>xG.1 h
 match k,hk with
 |0,_=>
  subst hw;exact .inl (WV EE p log s n q rfl a _)
 |1,_=>
  subst hw;obtain⟨x,rfl⟩:=sP ha;exact .inl (aa4 EE p log s n q rfl x (hal x (by simp)) K0)
 |2,_=>
  subst hw;obtain⟨x,rfl⟩:=sP ha;exact .inl (WW EE p log s n q rfl x (hal x (by simp)) K0 rfl K0)
 |3,_=>
  subst hw;obtain⟨x,y,rfl⟩:=AE ha;refine mn K0 K9 K9 K9 K9 K9 K9 K9 K9 K9 rfl (λu hu=>?_) (.inr (.inr ⟨⟨by decide,by decide⟩,by decide,by decide⟩));exact WS EE p log s u q n rfl x y K0 (hUl u hu)
 |4,_=>
  subst hw;obtain⟨x,rfl⟩:=sP ha;exact .inl (WX EE p log s n q rfl [x] [x] (Iz EE p log s n q rfl x hP.ap hR.opens))
 |5,_=>
  subst hw;obtain⟨x,rfl⟩:=sP ha;exact .inl (WY EE p log s n q rfl [x] [x] (WT EE p log s n q rfl x hP.ap hR.opens hR.nd))
 |6,_=>
  subst hw;exact .inl (Rx EE p log s n q rfl a _ (Rv EE p log s n q rfl a _))
 |7,_=>
  subst hw;exact .inl (WZ EE p log s n q rfl a _ (WU EE p log s n q rfl a _))
 |8,_=>
  subst hw;exact .inl (KK EE p log s n q rfl a _ (KJ EE p log s n q rfl a _))
 |9,_=>
  subst hw;exact .inl (aa5 EE p log s n q rfl a _ (aa3 EE p log s n q rfl a _))
 |10,_=>
  subst hw;obtain⟨x,rfl⟩:=sP ha;refine mn K0 K9 K9 K9 K9 K9 K9 K9 K9 K9 rfl (λu hu=>?_) (.inl ⟨rfl,rfl,λu=>by show(if u.rel then(u,(20:Int))else if s.hall= []then(if s.opens= []then(u,24)else(u,0))else(u,17)).1=u;grind⟩);exact OC EE p log s u q n rfl x
 |11,_=>
  subst hw;obtain⟨x,rfl⟩:=sP ha;refine mn K0 K9 K9 K9 K9 K9 K9 K9 K9 K9 rfl (λu hu=>?_) (.inr (.inl ⟨rfl,rfl⟩));exact OD EE p log s u q n rfl x
 |12,_=>
  subst hw;obtain⟨x,y,rfl⟩:=AE ha;refine mn K0 K9 K9 K9 K9 K9 K9 K9 K9 K9 rfl (λu hu=>?_) (.inr (.inr ⟨⟨by decide,by decide⟩,by decide,by decide⟩));refine Rt EE p log s u q n rfl x y (WQ EE p log s u _ x y q n hP.aa hP.bu (hUr u hu) ahA (λt ht II=>?_));exact B5 log u t q bq K0 (hP.rules t ht) (hP.kind t ht) (λxw=>hR.cmp u hu t ht xw II)
 |13,_=>
  subst hw;obtain⟨x,y,rfl⟩:=AE ha;refine mn K0 K9 K9 K9 K9 K9 K9 K9 K9 K9 rfl (λu hu=>?_) (.inr (.inr ⟨⟨by decide,by decide⟩,by decide,by decide⟩));exact KI EE p log s u q n rfl x y hR.small (hUr u hu)
 |14,_=>
  subst hw;obtain⟨x,rfl⟩:=sP ha;refine mn K0 K9 K9 K9 K9 K9 K9 K9 K9 K9 rfl (λu hu=>?_) (.inr (.inr ⟨⟨by decide,by decide⟩,by decide,by decide⟩));exact GH EE p log s u q n rfl x hP.aa (hUr u hu)
 |15,_=>
  subst hw;obtain⟨x,y,rfl⟩:=AE ha;refine mn K0 K9 K9 K9 K9 K9 K9 K9 K9 K9 rfl (λu hu=>?_) (.inr (.inr ⟨⟨by decide,by decide⟩,by decide,by decide⟩));refine ux p log s u _ _ K9 K9 K9 K9 K9 K9 K9 ?_;cases hrel:u.rel
  ·have:=λw=>Fs p u w hrel;have hq:aI EE p log s u 15 [x,y] n q=(u,20):=UP
   grind
  ·obtain⟨m,rfl⟩:=ams (qJ hn);have:=Oz p u x y m rfl hrel (λz hz=>Uy z hz) hn;have hq:aI EE p log s u 15 [x,y] [m] q=if m<=1000 then({u with shaken:=u.shaken || decide (m>p.dY)},0)else(u,2):=UP
   rw[hq];exact this
 |16,_=>
  subst hw;obtain⟨x,rfl⟩:=sP ha;refine mn K0 K9 K9 K9 K9 K9 K9 K9 K9 K9 rfl (λu hu=>?_) (.inr (.inr ⟨⟨by decide,by decide⟩,by decide,by decide⟩));exact GI EE p log s u q n rfl x
 |17,_=>
  subst hw;obtain⟨x,y,z,rfl⟩:=agU ha;refine mn K0 K9 K9 K9 K9 K9 K9 K9 K9 K9 rfl (λu hu=>?_) (.inr (.inr ⟨⟨by decide,by decide⟩,by decide,by decide⟩));refine ux p log s u _ _ K9 K9 K9 K9 K9 K9 K9 ?_;cases hrel:u.rel
  ·have:=λw=>Fs p u w hrel;have hq:aI EE p log s u 17 [x,y,z] n q=(u,20):=UP
   grind
  ·obtain⟨m,m',rfl⟩:=amU (qJ hn);have:=Rn p u x y z m m' rfl hrel (λz hz=>Uy z hz) hn hP.eH (hS.unit u hu).used;have hq:aI EE p log s u 17 [x,y,z] [m,m'] q=if u.shaken then(u,24)else if BF m m' then(if u.used+wW m m'<=p.eH then({u with used:=u.used+wW m m'},0)else(u,22))else(u,2):=UP
   rw[hq];exact this
 |18,_=>
  subst hw;obtain⟨x,y1,y2,y3,y4,y5,rfl⟩:=agV ha;refine mn K0 K9 K9 K9 K9 K9 K9 K9 K9 K9 rfl (λu hu=>?_) (.inr (.inr ⟨⟨by decide,by decide⟩,by decide,by decide⟩));refine ux p log s u _ _ K9 K9 K9 K9 K9 K9 K9 ?_;cases hrel:u.rel
  ·have:=λw=>Fs p u w hrel;have hq:aI EE p log s u 18 [x,y1,y2,y3,y4,y5] n q=(u,20):=UP
   grind
  ·obtain⟨m1,m2,m3,m4,m5,rfl⟩:=amV (qJ hn);have:=WP p u x y1 y2 y3 y4 y5 m1 m2 m3 m4 m5 rfl hrel (λz hz=>Uy z hz) hn (by have:=(hS.unit u hu).gas;omega);have hq:aI EE p log s u 18 [x,y1,y2,y3,y4,y5] [m1,m2,m3,m4,m5] q=if gok m1 m2 m3 m4 m5 then(if u.gas.length<10 then({u with gas:=u.gas++[⟨m1,m2,m3,m4,m5⟩]},0)else(u,16))else(u,2):=UP
   rw[hq];exact this
 |k+19,hk=>omega
end
theorem Uj {w:aj}(h:jJ w<19):w=(kf.getD (jJ w) vl).1:=by
 have h':jJ w< (kf.map Prod.fst).length :=h;have e:(kf.map Prod.fst)[jJ w]=w:=SI h';have hv:jJ w<kf.length:=h;exact ajS
theorem AM: ∀k<19,((vb k).pZ =0/\((kf.getD k vl).1≠[115,104,111,99,107]/\(kf.getD k vl).1≠[108,111,97,100])/\(kf.getD k vl).1≠[103,97,115])\/
  ((vb k).words +1 -(vb k).pZ =2/\(vb k).rest =false/\1<=(vb k).words /\¬(((kf.getD k vl).1≠[115,104,111,99,107]/\(kf.getD k vl).1≠[108,111,97,100])/\(kf.getD k vl).1≠[103,97,115])):=by decide
def KO {tx:aj}{k:Nat}(hk:jJ ((ar 32 tx).getD 0 [])=k)(RV:k<19):
  (dU (vb k) tx=none/\(∃ws,HN tx=(ws,(k:Int),false))\/
  ∃a r,a.length=(vb k).words /\HN tx=((ar 32 tx).getD 0 []::a++(if(vb k).rest then [r]else []),(k:Int),true)/\(∀x∈a,x∈ar 32 tx)/\r.length<=tx.length/\((vb k).rest =true->r=bP ((vb k).words +1) tx)/\
   dU (vb k) tx=(jl (((ar 32 tx).getD 0 []::a).drop ((vb k).words +1 -(vb k).pZ))).map λn=>(a,n,if(vb k).rest then r else [])):=by
 have h3:=Lx.2 (lU 32 tx);unfold HN dU;rw[hk,if_neg (show ¬19<=k by omega)];generalize hws:ar 32 tx=ws at*;generalize vb k=v at*;by_cases h1:(v.rest=false/\ws.length≠v.words+1)\/(v.rest=true/\ws.length<v.words+2)
 ·rw[if_pos h1];refine .inl ⟨?_,[],rfl⟩;rw[if_pos];rcases h1 with h|h
  ·exact .inr (.inl h)
  ·exact .inl h
 rw[if_neg h1];by_cases h2: []∈ws.take (v.words+1)
 ·rw[if_pos h2];refine .inl ⟨?_,[],rfl⟩;rw[if_pos (.inr (.inr h2))]
 rw[if_neg h2]
 have bA:v.words+1<=ws.length:=by
  cases hr:v.rest
  ·have: ¬(ws.length≠v.words+1):=λh=>h1 (.inl ⟨hr,h⟩);omega
  ·have: ¬(ws.length<v.words+2):=λh=>h1 (.inr ⟨hr,h⟩);omega
 have ht:ws.take (v.words+1)=ws.getD 0 []::(ws.take (v.words+1)).drop 1:=by
  cases ws with
  |nil=>simp at h3
  |cons a ws=>rfl
 refine .inr ⟨(ws.take (v.words+1)).drop 1,bP (v.words+1) tx,by rw[SR,LL];omega,by rw[<- ht],λx hx=>FU (PA hx),?_,λ_=>rfl,?_⟩
 ·exact lY _ _
 ·have h4: ¬((v.rest=true/\ws.length<v.words+2)\/(v.rest=false/\ws.length≠v.words+1)\/[]∈ws.take (v.words+1)):=by
   rintro(h|h|h)
   ·exact h1 (.inr h)
   ·exact h1 (.inl h)
   ·exact h2 h
  show(if _ then _ else _)=_;rw[if_neg h4,<- ht]
def aa8 {tx:aj}(hl:tx.length<=400){k:Nat}(hk:jJ ((ar 32 tx).getD 0 [])=k):
  (19<=k/\HN tx=([],-1,false))\/(k<19/\dU (vb k) tx=none/\∃ws,HN tx=(ws,(k:Int),false))\/(k<19/\dU (vb k) tx=none/\∃ws,HN tx=(ws,(k:Int),true)/\ac 110 [V1 ws] (.one (Bo false)))\/
  (k<19/\∃a n r,dU (vb k) tx=some (a,n,if(vb k).rest then r else [])/\HN tx=((ar 32 tx).getD 0 []::a++(if(vb k).rest then [r]else []),(k:Int),true)/\a.length=(vb k).words /\(∀x∈a,x.length<=1000)/\r.length<=1000/\
   jl (((ar 32 tx).getD 0 []::a).drop ((vb k).words +1 -(vb k).pZ))=some n/\ac 110 [V1 ((ar 32 tx).getD 0 []::a++(if(vb k).rest then [r]else []))] (.one (Bo true))):=by
 by_cases RV:19<=k
 ·exact .inl ⟨RV,by unfold HN;grind⟩
 have RV:k<19:=by omega
 rcases KO hk RV with⟨h1,h2⟩|⟨a,r,h1,h2,h3,h4,h5,h6⟩
 ·grind
 have hs2:=(cd 32 tx).2;have Uy:((ar 32 tx).getD 0 []).length <=400:=by grind
 have hal: ∀x∈a,x.length<=1000:=λx hx=>by grind
 have hw:=Uj (w:=(ar 32 tx).getD 0 []) K0;rw[hk]at hw;generalize (ar 32 tx).getD 0 []=w0 at*;have aoy:(vb k).words <=10:=Oq k RV
 have hN:Fh (w0::a++(if(vb k).rest then [r]else []))=(jl ((w0::a).drop ((vb k).words +1 -(vb k).pZ))).isSome :=by
  unfold Fh;show(if(w0≠_/\w0≠_)/\w0≠_ then true else _)=_
  rcases AM k RV with⟨g1,g2⟩|⟨g1,g2,g3,g4⟩
  ·have hd:(w0::a).drop ((vb k).words +1)= []:=Sl bq;rw[g1,G4,hd];rw[<- hw]at g2;exact if_pos g2
  grind
 have iX:=zq (w0::a++(if(vb k).rest then [r]else [])) (by simp) (by
  rcases AM k RV with⟨g1,g2⟩|⟨g1,g2,g3,g4⟩
  ·refine .inl ?_;rw[hN,g1,G4,Sl bq];rfl
  ·refine .inr ?_;rw[g2];simp;omega) bq (λx hx=>by
   grind) (by
  grind[AM])
 rw[hN]at iX
 cases hn:jl ((w0::a).drop ((vb k).words +1 -(vb k).pZ))with
 |none=>
  grind
 |some n=>
  rw[hn]at iX h6;exact .inr (.inr (.inr ⟨RV,a,n,r,h6,h2,h1,hal,by omega,hn,iX⟩))
section
variable {p:Pl}{log:List En}{s:bQ}{e:En}
theorem OK (h:e.lu∈p.ay):fR p e.lu=(p.ae.getD (aZ p.ay e.lu).toNat ([],0)).2:=if_pos h
def aa9 (hro: ∀q∈p.ae,0<=q.2):fR p e.lu<0↔aZ p.ay e.lu<0:=by
 by_cases h:e.lu∈p.ay
 grind[k7,OK]
 ·unfold fR;rw[if_neg h,eN h]
theorem OL (hP:PB p)(hS:SB p log s)(hR:RB p log s)(hro: ∀q∈p.ae,0<=q.2)(ht:e.text.length<=100000):
  ac 65 [(true,bU p),(false,[.view (log.map cY)]),(true,Aj s),(true,cY e)] (nxR (pl EE p log s e)):=by
 have hri:=aa9 (e:=e) hro;by_cases o6:pre p log e=0;rotate_left
 ·have:=aa7 p log s e hP.ae hR.len ht o6
  have iU:pl EE p log s e=(s,pre p log e):=by
   unfold pre at o6 ⊢;unfold pl
   grind
  grind
 obtain⟨g1,g2,g3,g4⟩:=Fx o6;have B8: ¬aZ p.ay e.lu<0:=λh=>by grind
 have RZ:e.lu∈p.ay:=by grind[eN]
 have aoC:=OK RZ
 have iU:pl EE p log s e=if ¬aU e.text then(s,3)else
   if 19<=jJ ((ar 32 e.text).getD 0 [])then(s,7)else
   if fR p e.lu< (vb (jJ ((ar 32 e.text).getD 0 []))).role then(s,18)else
   match dU (vb (jJ ((ar 32 e.text).getD 0 []))) e.text with
   |none=>(s,7)
   |some (a,n,rest)=>ba EE p log s (jJ ((ar 32 e.text).getD 0 [])) a n rest:=by
  unfold pl
  grind
 rw[iU];clear iU;generalize hk:jJ ((ar 32 e.text).getD 0 [])=k at*;have l5: ∀ {ws:List aj} {k':Int} {ok nb:Bool},_:=λ{ws k' ok nb}=>qM p log s e hP.ae hR.len o6 (ws:=ws) (k:=k') (ok:=ok) (nb:=nb);by_cases zC:aU e.text;rotate_left
 ·rw[if_pos zC]
  rcases aa8 g4 hk with⟨a1,a2⟩|⟨a1,a2,ws,a3⟩|⟨a1,a2,ws,a3,a4⟩|⟨a1,a,n,r,a2,a3,a4,a5,a6,a7,a8⟩
  grind
  grind
  grind
  ·exact qM p log s e hP.ae hR.len o6 a3 (.inr ⟨k,rfl,a1⟩) (λ_=>a8) 3 K9 (λ_=>rfl) (λh=>absurd h zC) (λ_ h=>absurd h zC) (λ_ h=>absurd h zC) (λ_ h=>absurd h zC)
 rw[if_neg (λh=>h zC)];have inj: ∀ {j:Nat},((k:Nat):Int)=j->j=k:=λh=>by omega
 rcases aa8 g4 hk with⟨a1,a2⟩|⟨a1,a2,ws,a3⟩|⟨a1,a2,ws,a3,a4⟩|⟨a1,a,n,r,a2,a3,a4,a5,a6,a7,a8⟩
 ·rw[if_pos a1]
  grind
 ·rw[if_neg K0,a2];by_cases Ut:fR p e.lu< (vb k).role
  ·rw[if_pos Ut];exact qM p log s e hP.ae hR.len o6 a3 (nb:=true) (.inr ⟨k,rfl,a1⟩) (λh=>by cases h) 18 K9 (λh=>absurd zC h) (λ_ h=>by omega) (λ_ _ _ _=>rfl) (λj _ h h'=>by obtain rfl:=inj h;omega) (λ_ _ _ _ h=>by cases h)
  grind
 ·rw[if_neg K0,a2];by_cases Ut:fR p e.lu< (vb k).role
  ·rw[if_pos Ut];exact qM p log s e hP.ae hR.len o6 a3 (.inr ⟨k,rfl,a1⟩) (λ_=>a4) 18 K9 (λh=>absurd zC h) (λ_ h=>by omega) (λ_ _ _ _=>rfl) (λj _ h h'=>by obtain rfl:=inj h;omega) (λ_ _ _ _ _ h=>by cases h)
  ·rw[if_neg Ut];exact qM p log s e hP.ae hR.len o6 a3 (.inr ⟨k,rfl,a1⟩) (λ_=>a4) 7 K9 (λh=>absurd zC h) (λ_ _=>rfl) (λj _ h h'=>by grind) (λ_ _ _ _ _=>rfl) (λ_ _ _ _ _ h=>by cases h)
 ·rw[if_neg K0,a2];by_cases Ut:fR p e.lu< (vb k).role
  ·rw[if_pos Ut];exact qM p log s e hP.ae hR.len o6 a3 (.inr ⟨k,rfl,a1⟩) (λ_=>a8) 18 K9 (λh=>absurd zC h) (λ_ h=>by omega) (λ_ _ _ _=>rfl) (λj _ h h'=>by obtain rfl:=inj h;omega) (λj _ h h'=>by grind)
  ·rw[if_neg Ut];dsimp only;have hq:(if(vb k).rest then r else []).length <=1000:=by grind
   have eG:=adV (a:=a) (n:=n) (q:=if(vb k).rest then r else []) hP hS hR a1 (w0:=(ar 32 e.text).getD 0 []) (by grind[Uj]) a4 a5 hq a7;have hws:(ar 32 e.text).getD 0 []::a++(if(vb k).rest then [if(vb k).rest then r else []]else [])=(ar 32 e.text).getD 0 []::a++(if(vb k).rest then [r]else []):=by grind
   rw[hws]at eG;have b1:=hR.opens;have b2:s.lots.length<=1000:=by have:=hS.lots;omega
   have b3:s.units.length<=1000:=by exact UX
   have b4: ∀u∈s.units,(u.lots.length<=1000/\u.res.length<=1000)/\u.gas.length<=1000:=λu hu=>by
    have h1:=(hS.unit u hu).lots;have h2:=(hS.unit u hu).len;have h3:=(hS.unit u hu).gas;have h4:=hR.len
    grind
   rcases eG with h|⟨i,u,h1,h2,h3⟩|⟨i,u,u',h1,h2,h3,h4⟩
   ·exact RD p log s e hP.ae hR.len o6 zC a3 a1 a8 K0 b1 b2 b3 b4 h
   ·exact RF p log s e hP.ae hR.len o6 zC a3 a1 a8 K0 b1 b2 b3 b4 h1 h2 h3
   ·exact RE p log s e hP.ae hR.len o6 zC a3 a1 a8 K0 b1 b2 b3 b4 h1 h2 h3 h4
end
def adW {p:Pl}{log:List En}{u:Un}{t:Ts}(hP:PB p)(hU:UB p log u)(ht:t∈p.aa)(hr:iV u.res t=true)(hk:t.kind=2):adR log u t:=by
 obtain⟨n0,nd,hn,t0,ht0,GQ,hk0⟩:=hP.comp t ht hk;obtain⟨r,hl⟩:=E4 hr hn;obtain⟨hm,hmt,_⟩:=In hl;obtain⟨k,h1,h2,h3,h4,⟨a,n,q,h5⟩,h6⟩:=hU.res r hm;have h7:=h6 t0 ht0 (by rw[GQ,hmt]) hk0;obtain⟨rt,ra,re,rv⟩:=r;simp only at h1;subst h1
 rcases KO h4 K9 with⟨g1,_⟩|⟨a',r',g1,g2,g3,g4,g5,g6⟩
 ·rw[h5]at g1;cases g1
 ·have Cb:=g5 rfl;subst Cb;refine⟨n0,nd,rt,ra,k,rv,(ar 32 (log.getD k gD).text).getD 0 []::a',12,hn,hl,h2,?_,g2,by omega,h7⟩;rw[kF,g1];rfl
def RG {l:List aj}{x:aj}(h:l.Nodup)(hx:x∉l):(l++[x]).Nodup :=by
 rw[IU];refine⟨h,by simp,λa ha b hb e=>?_⟩;have:b=x:=by simpa using hb
 subst this;subst e;exact hx ha
def OM {p:Pl}{log:List En}{s:bQ}{e:En}(h:s.opens.Nodup)(hz:(pl EE p log s e).2=0):(pl EE p log s e).1.opens.Nodup :=by
 unfold pl at hz ⊢;split
 ·exact h
 split
 ·exact h
 split
 ·exact h
 split
 ·exact h
 split
 ·exact h
 split
 ·exact h
 split
 ·exact h
 split
 ·exact h
 ·rename_i a n r _;unfold ba;split
  ·exact h
  ·repeat' split
   all_goals exact h
  ·repeat' split
   all_goals exact h
  ·repeat' split
   all_goals first|exact h|exact RG h FX
  ·repeat' split
   all_goals first|exact h|exact h.erase _
  all_goals(repeat' split)
  all_goals exact h
def zy:ac 107 [] (.one (true,Aj Go.Plain.gm)):=by
 refine sF f107 ?_;exact IX
def RI (p:Pl)(l:List En)(i:Nat)(s:bQ):Prop:=i<=l.length/\mQ p [] Go.Plain.gm l=mQ p (l.take i) s (l.drop i)/\SB p (l.take i) s/\s.opens.Nodup
def RH {p:Pl}{l:List En}(hs:io p)(hP:PB p)(hro: ∀q∈p.ae,0<=q.2)(hl:l.length<=60)(ht: ∀e∈l,e.text.length<=100000){y:bQ × Nat × Int}(hy:mQ p [] Go.Plain.gm l=y):
  ac 63 [(true,bU p),(false,[.view (l.map cY)])] (.aJ [(true,Aj y.1),I y.2.1,I y.2.2]):=by
 have c1:=zy;have uF:(l.map cY).length =l.length:=by simp
 have hu: ∀e∈l.map cY,e.length=3:=λe he=>by
  obtain⟨x,_,rfl⟩:=dS.1 he;rfl
 refine sF f63 ?_;repeat' ((first|refine tX 0 ?_|exact Zt|refine bR ?_ ?_<;>intro h)<;>(try conv=>whnf))
 all_goals try(exfalso;omega)
 refine af (ι:=Nat × bQ) (λz=>RI p l z.1 z.2) (λz=>l.length -z.1) (λz=>⟨[(1,some (.val (nK l))),(2,pP 0),(4,pP 2),(7,pP 4),(8,vI z.1)],[(0,some (.box 27 (dyn (true,bU p)).2)),(2,some (.box 58 [.st (K false),.st (K false),.nil,.st (T []),.nil,.nil])),(4,some (.box 58 (dyn (true,Aj z.2)).2))],1000⟩) (0,Go.Plain.gm) Zc ⟨dM _,by rw[LP,IW],by rw[LP];exact E6 p,G3⟩ ?_;rintro⟨i,s⟩ ⟨hi,bB,hSB,AR⟩;dsimp only at hi bB hSB AR ⊢;by_cases ak:i<l.length
 ·have uE:=bg (f:=cY) ak gD;have zB:l.take (i+1)=l.take i++[l.getD i gD]:=by rw[CK,oX ak];simp[jP,ak]
  have htl:(l.take i).length =i:=by simp;omega
  have amL:l.getD i gD∈l:=anc;have amx:jo p (l.take i) s (l.getD i gD)=pl EE p (l.take i) s (l.getD i gD):=if_neg K0;have hRB:RB p (l.take i) s:=⟨hs,by omega,by have:=hSB.opens;omega,AR,λu hu t Pp hk hr=>adW hP (hSB.unit u hu) Pp hr hk⟩;have c2:=OL (e:=l.getD i gD) hP hSB hRB hro (ht _ amL);rw[List.map_take]at c2;rw[Is ak,amx]at bB;have an7:=λs' h=>(Ra (s':=s') hP hSB (l.getD i gD) (amx.trans h)).1;have amZ:=OM (p:=p) (log:=l.take i) (e:=l.getD i gD) AR;generalize hz:pl EE p (l.take i) s (l.getD i gD)=z at*;obtain⟨s',e'⟩:=z;dsimp only at bB amZ;by_cases he:e'=0
  ·subst he;rw[if_pos rfl]at bB;have c3:ac 65 [(true,bU p),(false,[.view (List.take i (l.map cY))]),(true,Aj s),(true,cY (l.getD i gD))] (.aJ [(true,Aj s'),I 0]):=c2;generalize l.getD i gD=en at*
   (try(refine tX 0 ?_;try exact Zt))
   refine JI hu rfl rfl rfl rfl rfl rfl K0 ?_;repeat' ((first|refine tX 0 ?_|exact Zt|refine bR ?_ ?_<;>intro h)<;>(try conv=>whnf))
   all_goals first|exact Ze|exact⟨(i+1,s'),⟨ak,bB,by rw[zB];exact an7 s' rfl,amZ rfl⟩,by dsimp only;omega,Zc⟩
  ·rw[if_neg he]at bB
   have c3:ac 65 [(true,bU p),(false,[.view (List.take i (l.map cY))]),(true,Aj s),(true,cY (l.getD i gD))] (.aJ [(true,adU),I e']):=by
    have:nxR (s',e')= .aJ [(true,adU),I e']:=by show ma.aJ _=_;rw[if_neg he]
    rw[this]at c2;exact c2
   generalize l.getD i gD=en at*;rw[bB]at hy;subst hy
   (try(refine tX 0 ?_;try exact Zt))
   refine JI hu rfl rfl rfl rfl rfl rfl K0 ?_;exact tB0
 ·obtain rfl:i=l.length:=by omega
  have hy':y=(s,0,0):=by rw[<- hy,bB,LI];rfl
  subst hy';exact tB0
section
variable {p:Pl}{l:List En}
def ON (hl:60<l.length)(hl2:l.length<=1000):ac 63 [(true,bU p),(false,[.view (l.map cY)])] (.aJ [(true,Aj Go.Plain.gm),I 0,I 8]):=by
 have c1:=zy;have uF:(l.map cY).length =l.length:=by simp
 refine sF f63 ?_;exact tA
def GL (hs:io p)(he:(p.err jO).2=0)(hP:PB p)(hro: ∀q∈p.ae,0<=q.2)(hl:l.length<=1000)(ht: ∀e∈l,e.text.length<=100000):
  ac 63 [(true,bU p),(false,[.view (l.map cY)])] (.aJ [(true,Aj (dH p l).1),I (dH p l).2.1,I (dH p l).2.2]):=by
 unfold dH;rw[if_neg (FW he)];by_cases h:60<l.length
 ·rw[if_pos h];exact ON h hl
 ·rw[if_neg h];exact RH hs hP hro K0 ht rfl
def B7 (hs:io p)(he:(p.err jO).2=0)(hP:PB p)(hro: ∀q∈p.ae,0<=q.2)(hl:l.length<=1000)(ht: ∀e∈l,e.text.length<=100000):
  ac 23 [(true,bU p),(false,[.view (l.map cY)])] (.aJ [I (dH p l).2.1,I (dH p l).2.2]):=by
 have c1:=GL hs he hP hro hl ht;generalize dH p l=y at*;refine sF f23 ?_;exact ahT
end
def OO (l:List En)(hl:l.length<=1000):ac 15 [(false,[.view (l.map cY)])] (.own 3 (.view (l.map cY))):=by
 have uF:(l.map cY).length =l.length:=by simp
 refine sF f15 ?_;repeat' ((first|refine tX 0 ?_|exact Zt|refine bR ?_ ?_<;>intro h)<;>(try conv=>whnf))
 all_goals first|rfl
def ag6 {l:List En}(h:shP l):l.length<=62:=h.1.2
def adZ {l:List En}(h:shP l): ∀e∈l,e.text.length<=410:=λe he=>by
 obtain⟨i,hi,e'⟩:=sf (d:=aba) he;have:=(h.2 i hi).1;rw[e']at this;exact this
def RJ {p:Pl}{l:List En}(hs:io p)(hl:l.length<=1000)(htx: ∀e∈l,e.text.length<=100000):ac 11 [(true,bU p),(false,[.view (l.map cY)])] (.one (I (dH p l).2.2)):=by
 have hP:=λh=>OR hs h;have c5:=BZ hs;by_cases he:(p.err jO).2=0
 ·have c6:=B7 hs he (hP he) (adX he) (l:=l) K0 htx;rw[he]at c5;generalize dH p l=y at*;obtain⟨s,i,e⟩:=y;refine sF f11 ?_;exact tA
 ·have hr:dH p l=(Go.Plain.gm,0,(p.err jO).2):=if_pos he;rw[hr];generalize (p.err jO).2=e at*;refine sF f11 ?_;exact tA
def ag8 {p:Pl}{l:List En}(h:(dH p l).2.2=0){i:Nat}(hi:i<l.length): ∃k a r aw,Ent (l.getD i gD).text k a r/\(l.getD i gD).text.length <=400/\HN (l.getD i gD).text =((kf.getD k vl).1::aw,(k:Int),true)/\aw=a++(if(vb k).rest then [r]else [])/\a.length=(vb k).words /\∃n,ba EE p (l.take i) (Kv p (l.take i)) k a n r=(Kv p (l.take (i+1)),0):=by
 obtain⟨k,a,n,r,g1,g2,g3,g4,g5⟩:=Kx h hi;have he:=IB g1 g2 g3
 rcases KO g2 g1 with⟨h,_⟩|⟨a',r',q1,q2,_,_,q5,q6⟩
 ·rw[g3]at h;cases h
 rw[g3]at q6
 cases hn:jl (((ar 32 (l.getD i gD).text).getD 0 []::a').drop ((vb k).words +1 -(vb k).pZ))with
 |none=>rw[hn]at q6;cases q6
 |some m=>
  rw[hn]at q6;have e3:=Prod.mk.inj (wz q6);have e4:=Prod.mk.inj e3.2;obtain rfl:=e3.1;refine⟨k,a,r,_,he,g5,?_,rfl,q1,n,g4⟩;rw[q2,KQ he.no he.lt,e4.2];cases hr:(vb k).rest <;>simp
instance (x tx:aj):Decidable (zA x tx):=by unfold zA;infer_instance
def abe {E:qp}{p:Pl}{log:List En}{s s':bQ}{a:List aj}{n:List Int}{r:aj}(h:ba E p log s 12 a n r=(s',0)):a.getD 1 []∈cL p.aa:=by
 rcases(AN h).2 with⟨h1,_⟩|⟨_,_,h1,_⟩|⟨_,i,u,_,_,_,hz,_⟩
 ·exact absurd h1 K9
 ·exact absurd h1 K9
 ·apply XO;intro hn
  have e1:aI E p log s u 12 a n r=(u,6):=by
   show(if 0<=aZ (cL p.aa) (a.getD 1 [])then _ else(u,6))=_;rw[eN hn];exact if_neg K9
  rw[e1]at hz;exact absurd hz (by show ¬(6:Int)=0;decide)
def KR (ru r:aj)(hr:r.length<=10000):ac 78 [Ru (cO (bY (ar 59 ru))).1.1 (cO (bY (ar 59 ru))).1.2.1 (cO (bY (ar 59 ru))).1.2.2,Rc (ci (bC (ar 32 r))).1.1 (ci (bC (ar 32 r))).1.2] (.aJ (WH ru r)):=by
 obtain⟨b1,b2,b3⟩:=vi ru;have b4:=pC r;exact qG _ _ _ _ _ b1 b2 UV
section
variable {p:Pl}{l:List En}(hs:io p)(hP:(p.err jO).2=0->PB p)
include hs hP
theorem Fz (hz:(dH p l).2.2=0)(i:Int):ac 28 [(true,bU p),(false,[.view (l.map cY)]),I i] (.aJ (WI p l i)):=by
 obtain⟨hr,he,Cc,_⟩:=wZ hz;have uF:(l.map cY).length =l.length:=by simp
 have hPB:=hP he;unfold WI;have c1:=kD i 0 (((l.map cY).length :Int) -1);by_cases hi:0<=i/\i<l.length;rotate_left
 ·rw[if_neg hi]
  rw[show(decide ((0:Int)<=i)&&decide (i<=((l.map cY).length :Int) -1))=false by
   by_cases h0:0<=i
   ·rw[eU (show ¬i<=((l.map cY).length :Int) -1 by omega),Bool.and_false]
   ·rw[eU h0,Bool.false_and]]at c1
  refine sF f28 ?_;exact tA
 rw[fG (show(0:Int)<=i from hi.1),fG (show i<=((l.map cY).length :Int) -1 by omega)]at c1;obtain⟨j,rfl⟩: ∃j:Nat,i=j:=⟨i.toNat,by omega⟩;rw[if_pos hi,p8];have hj:j<l.length:=by omega
 obtain⟨k,a,r,aw,q1,q2,q3,q4,q5,n,hef⟩:=ag8 hz hj;obtain⟨_,a0,n0,r0,_,pF,qO,_⟩:=Kx hz hj;have uE:=bg (f:=cY) hj gD;generalize l.getD j gD=e at*;obtain⟨et,ew,tx⟩:=e;dsimp only at q1 q2 q3 pF qO ⊢;have c3:=jF tx K0;rw[q3]at c3;have zK:(ar 32 tx).getD 0 []=(kf.getD k vl).1:=KQ q1.no q1.lt;unfold adL;by_cases hk:k=12;rotate_left
 ·have hwd: ¬(kf.getD k vl).1= [116,101,115,116]:=λh=>hk ((q1.no.symm.trans (aP jJ (zK.trans h))).trans (by rfl));rw[zK,if_neg hwd];generalize (kf.getD k vl).1=wd at*;have n4:(ab (wd::aw))[0]? =some [T wd]:=rfl;have n5:(ab (wd::aw)).length =aw.length+1:=by simp
  refine sF f28 ?_;exact tB0
 subst hk;rw[zK,if_pos (by rfl)];obtain rfl:=pF.symm.trans q1.no;rw[qO];have RZ:=abe hef;obtain⟨x,y,rfl⟩:=AE q5;have q4:aw= [x,y,r]:=q4;subst q4;have he2:=(IB q1.lt q1.no qO);obtain rfl:a0= [x,y]:=he2.args.trans q1.args.symm;obtain rfl:r=r0:=q1.rest.trans he2.rest.symm;have c3:ac 12 [SS tx] (.aJ [(false,[.view (ab [[116,101,115,116],x,y,r])]),I 12,Bo true]):=c3;have c5:=mj p y hs.te;obtain⟨hd,hd0,hdm⟩:=EY RZ;obtain⟨kk,hkk,uI⟩:=Q8 hd0;have uI:kk<p.aa.length:=by simpa [cL]using uI
 have amC:=bg (f:=fq) uI dk;have ak:(p.aa.map fq).length =p.aa.length:=by simp
 show ac 28 _ (.aJ (if nj (gA p y).kind then WH (gA p y).rules r else [zF9,I 15]));have hru:=BH hPB y;have hd:gA p y=p.aa.getD kk dk:=by rw[hkk]at hd;exact hd
 rw[hd]at hru ⊢;have hkk:aZ (cL p.aa) y=(kk:Nat):=hkk;rw[hkk]at c5;generalize p.aa.getD kk dk=t at*;obtain⟨nm,kd,nd,ru,lo,kH⟩:=t;dsimp only at hru ⊢;have amC:(p.aa.map fq)[kk]? =some [T nm,J kd,.view (ab nd),T ru,J lo,J kH]:=amC;have c7:=i7 ru hru;have Ur:r.length<=10000:=by rw[q1.rest];show(bP 3 tx).length <=_;have:=lY 3 tx;omega
 have c8:=iE r Ur;have c9:=KR ru r Ur;obtain⟨y1,y2,y3,y4,y5,y6,y7,y8,y9,v,hx⟩:=w5 ru r;rw[hx]at c9 ⊢;generalize cO (bY (ar 59 ru))=yy at*;obtain⟨⟨ye,yq,ych⟩,yz⟩:=yy;generalize ci (bC (ar 32 r))=xx at*;obtain⟨⟨xs,xl⟩,xz⟩:=xx;by_cases xw:nj kd
 ·rw[if_pos xw];have xw:kd=1\/kd=2:=xw;refine sF f28 ?_;exact tA
 ·rw[if_neg xw];have xw: ¬(kd=1\/kd=2):=xw;refine sF f28 ?_;exact tA
end
def RL (p:Pl)(l:List En)(hz:(dH p l).2.2=0)(i:Int): ∃a b c d i' j k m n v,WI p l i= [F9 a b c d i' j k m n,I v]:=by
 unfold WI;split
 ·rename_i hi;obtain⟨k,a,n,r,RV,hk,qO,hef,htx⟩:=Kx hz (i:=i.toNat) K0;unfold adL;split
  ·rename_i hw;obtain rfl:k=12:=by rw[<- hk,hw];decide
   rw[qO];dsimp only;split
   ·exact w5 _ _
   ·exact afY
  ·exact afY
 ·exact afY
def OV (ha:ac 8 [] (.one (Bo true)))(p:Pl)(l:List En)(i:Int)(h1:p.ae.length<=9223372036854775807)(h2:p.ap.length<=9223372036854775807)(h3:p.aa.length<=9223372036854775807)(h4:p.parts.length<=9223372036854775807)
  (h5: ∀i<p.aa.length,(p.aa.getD i dk).bu.length <=9223372036854775807)(h6: ∀i<p.parts.length,(p.parts.getD i ([],[])).2.length <=9223372036854775807)(h7:l.length<=9223372036854775807):ac 6 [(true,bU p),(false,[.view (l.map cY)]),I i] (.one (Bo true)):=by
 have hf:=adY p h1 h2 h3 h4 h5 h6;have hsh:=W5 l h7;by_cases q:Ot p;rotate_left
 ·rw[eU q]at hf;refine sF f6 ?_;exact tA
 rw[fG q]at hf;by_cases hq:shP l;rotate_left
 ·rw[eU hq]at hsh;refine sF f6 ?_;exact tA
 rw[fG hq]at hsh;have hs:=WN q;have aoD:=ag6 hq;have htx: ∀e∈l,e.text.length<=100000:=λe he=>by have:=adZ hq e he;omega
 have hP:=λh=>OR hs h;have c0:=RJ (l:=l) hs K0 htx;have c1:=GM hs;have c2:=OO l K0;by_cases hz:(dH p l).2.2=0;rotate_left
 ·have c3:=Ky hs hP K0 htx hz i;generalize (dH p l).2.2=z at*;exact aie
 rw[hz]at c0;have c3:=Kz hs hP K0 htx hz i;have c4:=Fz hs hP hz i;obtain⟨y1,y2,y3,y4,y5,y6,y7,y8,y9,v,hx⟩:=RL p l hz i;rw[hx]at c3 c4;exact aie
set_option maxRecDepth 1000000
set_option maxHeartbeats 80000000
def oa:io plQ:=by constructor<;>exact CS dl
def FA: ∀e∈Um,e.text.length<=100000:=CS dl
def RM:(dH plQ Um).2.2=0:=by kernel_rfl
abbrev nT:aj:=[116,49]
abbrev nW:aj:=[119,105,114,101]
def ahb:ac 29 [(true,bU plQ),(false,[.view (Um.map cY)]),SS nT] (.aJ [(false,[.view (ab [])]),I 0]):=
 wg (x:=nT) (k:=0) (u:=(Kv plQ Um).units.getD 0 pX) oa (λh=>OR oa h) (fO rfl) FA K9 (wZ RM).1 (CS dl) dl dl
def ahc:ac 29 [(true,bU plQ),(false,[.view ((Um.map cY).take 7)]),SS nT] (.aJ [(false,[.view (ab [[108,111,119],[102,117,108,108]])]),I 0]):=
 wg (x:=nT) (l:=Um.take 7) (k:=0) (u:=(Kv plQ (Um.take 7)).units.getD 0 pX) oa (λh=>OR oa h) (fO rfl) (λe he=>FA e (FU he)) K9 (wZ (Fb RM 7)).1 (CS dl) dl dl
def al7:ac 18 [(true,bU plQ),(false,[.view (Um.map cY)]),SS nW] (.aJ [(false,[.view (ab [nT])]),I 0]):=
 KP (x:=nW) oa (λh=>OR oa h) (fO rfl) FA K9 (wZ RM).1 (CS dl) (CS dl)
def W9:ac 8 [] (.one (Bo true)):=by
 have hu: ∀x∈Um.map cY,x.length=3:=λx hx=>by obtain⟨_,_,rfl⟩:=dS.1 hx;rfl
 have c1:=W8;have c2:=abg;have c3:=ahb;have c4:=ahc;have c5:=al7;have c6:ac 39 [I 98,I 10] (.aJ [I 80,I 0]):=Im 98 10;have c7:=aha;have c8:ac 41 [SS [97,98],I 0] (.aJ [I 12937,I 0]):=W7 0 [97,98] K9 K9;have t1:=Iw [[108,111,119],[102,117,108,108]] [[108,111,119],[102,117,108,108]] K9 K9;have t2:=Iw [nT] [nT] K9 K9;have hn:(Um.map cY).length =11:=rfl;rw[fG rfl]at t1 t2;generalize Um.map cY=L at*;refine sF f8 ?_;repeat' ((first|refine tX 0 ?_|exact Zt|refine bR ?_ ?_<;>intro h)<;>(try conv=>whnf))
 haveI:dN (7:Int) 7:=⟨rfl⟩;refine JI hu rfl rfl rfl rfl rfl rfl K0 ?_;conv=>whnf
 exact tA
end Go.Proofs.Tryz
