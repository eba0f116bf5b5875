import Derived.Test.YtackacoaaihcjaaGreatDoorPkT21
import Derived.Test.YtackacoaaihcjaaGreatDoorPkT30
set_option linter.all false
set_option maxRecDepth 100000
set_option maxHeartbeats 8000000
namespace Go.Proofs.Tryz
open Go.Fw Go.IntWalk Go.Plain
def al1 {H:HF}(ds:List DC)(y:bK × Int)(he:y.2≠0)(hd:ds.length=6:=by rfl):HE H [(true,ds),dyn (I y.2)] (λr'=>r'=nxR y):=by
 have:=pT (H:=H) ds y.1 y.2 he hd
 grind
def al2 {H:HF}{R:List Nat}(ds:List DC)(y:bK × Int)(h0:y.2=0)(hf:yu H R (true,ds) (true,vz y.1)):HE H [(true,ds),dyn (I y.2)] (λr'=>r'=nxR y):=by
 refine⟨[(true,vz y.1),I y.2],R,bx hf (bx (jl _) iW),rfl,?_⟩;show YR _=mb.aJ _;rw[if_pos h0];rfl
def agZ (ρ:Nat->Nat)(us:List Un):(rW us).map (λe=>e.map (DC.rn ρ))=rW us:=by
 show List.map _ (List.map _ _)=List.map _ _;rw[zR]
 exact Lp λe _=>by
  show List.map _ (List.map _ _)=_;rw[zR];rfl
def ag0 (ρ:Nat->Nat)(us:List Un)(i:Nat)(u:Un):((rW us).set i (cP u 11 13 15)).map (λe=>e.map (DC.rn ρ))=(rW us).set i (cP u (ρ 11) (ρ 13) (ρ 15)):=by rw[LL,agZ];rfl
def WL {H:HF}{R:List Nat}{us:List Un}{i k a b c:Nat}{u:Un}(Ui:i<us.length)(h9:H k=some (.aA 17 ((rW us).set i (cP u a b c))))(ha:H a=some (.row true 1 (.view (ab u.lots))))(hb:H b=some (.row true 4 (.view (u.res.map kE))))(hc:H c=some (.row true 5 (.view (u.gas.map uV))))(hR:k∈R/\a∈R/\b∈R/\c∈R):
  Full H R (.own k) (.view ((us.set i u).map jQ)):=by
 have n2:(rW us).length =us.length:=by grind
 have FH: ∀ {j:Nat} {e:List DC} {e':List SC},((rW us).set i (cP u a b c))[j]? =some e->((us.set i u).map jQ)[j]? =some e'->(e=cP u a b c/\e'=jQ u)\/e=e'.map .st :=λ{j e e'} h h'=>by grind
 refine .aA hR.1 h9 br (λj e e' h h'=>?_) (λj e e' k d c' h h' hd IC=>?_) (λj e' k c' h' IC=>?_)
 ·exact aj7
 ·rcases FH h h' with⟨rfl,rfl⟩|rfl
  grind[uv]
  ·exact akc
 grind[Fc]
section
variable (p:Pl)(log:List En)(s:bK)(e:En)
theorem Rp (hp:p.ae.length<=1000)(hl:log.length<=1000)(o7:pre p log e=0)(KT:aU e.text){ws:List aj}{j:Nat}(Ul:HL e.text=(ws,(j:Int),true))(hj:j<19)(c5:ad 110 [V1 ws] (.one (Bo true)))
  (hr:(vb j).role <=fS p e.lk)(b1:s.opens.length<=1000)(b2:s.lots.length<=1000)(b3:s.units.length<=1000)(b4: ∀u∈s.units,(u.lots.length<=1000/\u.res.length<=1000)/\u.gas.length<=1000)
  {y:bK × Int}(hS:GS 111 [dyn (true,bU p),nJ log,(true,rQ s),dyn (V1 ws)] s y):
  ad 65 [(true,bU p),(false,[.view (log.map df)]),(true,vz s),(true,df e)] (nxR y):=by
 have c1:=mU p e.lk hp;have c2:=gm e.t;have vN:(log.map df).length =log.length:=by simp
 obtain⟨g1,g2,g3,g4⟩:=Fv o7;have c3:=jC e.text K0;rw[Ul]at c3;dsimp only at c3;have c4:=k9;rw[show(if e.lk∈p.ay then(p.ae.getD (aZ p.ay e.lk).toNat ([],0)).2 else -1)=fS p e.lk from rfl]at c1;generalize fS p e.lk=ro at*;refine sW (fn:=f65) ?_;by_cases sq:log.length=0;rotate_left
 ·obtain⟨vK,ak⟩:=zp sq;haveI hnat:dK (((log.map df).length :Int) -1) (log.length -1):=⟨by omega⟩;generalize log.getD (log.length -1) fZ=en at*;repeat' ((first|refine tX 0 ?_|exact Zt|refine bR ?_ ?_<;>intro h)<;>(try conv=>whnf))
  all_goals try(exfalso;omega)
  ·refine af (ι:=Nat) (λi=>i<=e.text.length/\sJ e.text i) (λi=>e.text.length -i) (nS p log s e ro) 0 Zc ⟨dC _,λj hj=>by omega⟩ ?_;rintro i ⟨hi,Lc⟩;by_cases ak:i<e.text.length
   ·have dx: ¬(32<=(e.text.getD i 0).toNat /\(e.text.getD i 0).toNat <=126)->¬aU e.text:=λh hh=>h (hh i ak);have ma:32<=(e.text.getD i 0).toNat /\(e.text.getD i 0).toNat <=126->sJ e.text (i+1):=λh j hj=>by exact K71
    have FL:((e.text.getD i 0).toNat :Int)<=255:=by exact LN
    repeat' ((first|refine tX 0 ?_|exact Zt|refine bR ?_ ?_<;>intro h)<;>(try conv=>whnf))
    all_goals first|exact Zo|exact⟨i+1,⟨ak,ma K0⟩,by omega,Zc⟩|exact absurd KT (dx K0)
   ·exact K23
 ·repeat' ((first|refine tX 0 ?_|exact Zt|refine bR ?_ ?_<;>intro h)<;>(try conv=>whnf))
  all_goals try(exfalso;omega)
  ·refine af (ι:=Nat) (λi=>i<=e.text.length/\sJ e.text i) (λi=>e.text.length -i) (nS p log s e ro) 0 Zc ⟨dC _,λj hj=>by omega⟩ ?_;rintro i ⟨hi,Lc⟩;by_cases ak:i<e.text.length
   ·have dx: ¬(32<=(e.text.getD i 0).toNat /\(e.text.getD i 0).toNat <=126)->¬aU e.text:=λh hh=>h (hh i ak);have ma:32<=(e.text.getD i 0).toNat /\(e.text.getD i 0).toNat <=126->sJ e.text (i+1):=λh j hj=>by exact K71
    have FL:((e.text.getD i 0).toNat :Int)<=255:=by exact LN
    repeat' ((first|refine tX 0 ?_|exact Zt|refine bR ?_ ?_<;>intro h)<;>(try conv=>whnf))
    all_goals first|exact Zo|exact⟨i+1,⟨ak,ma K0⟩,by omega,Zc⟩|exact absurd KT (dx K0)
   ·exact K23
theorem Rt (hp:p.ae.length<=1000)(hl:log.length<=1000)(o7:pre p log e=0)(KT:aU e.text){ws:List aj}{j:Nat}(Ul:HL e.text=(ws,(j:Int),true))(hj:j<19)(c5:ad 110 [V1 ws] (.one (Bo true)))
  (hr:(vb j).role <=fS p e.lk)(b1:s.opens.length<=1000)(b2:s.lots.length<=1000)(b3:s.units.length<=1000)(b4: ∀u∈s.units,(u.lots.length<=1000/\u.res.length<=1000)/\u.gas.length<=1000)
  {y:bK × Int}{i0:Nat}{u u':Un}(zE:s.units[i0]? =some u)(hy:y.2=0)(hyu:y.1.units=s.units.set i0 u')(hS:bt cx 111 1 [dyn (true,bU p),nJ log,(true,zG s),dyn (V1 ws)] (F1 s.units i0 u) [] (.aJ [(true,zG y.1),dyn (I y.2)]) (F1 s.units i0 u')):
  ad 65 [(true,bU p),(false,[.view (log.map df)]),(true,vz s),(true,df e)] (nxR y):=by
 have Ui:=(kl.1 zE).1;have c1:=mU p e.lk hp;have c2:=gm e.t;have vN:(log.map df).length =log.length:=by simp
 obtain⟨g1,g2,g3,g4⟩:=Fv o7;have c3:=jC e.text K0;rw[Ul]at c3;dsimp only at c3;have c4:=k9;rw[show(if e.lk∈p.ay then(p.ae.getD (aZ p.ay e.lk).toNat ([],0)).2 else -1)=fS p e.lk from rfl]at c1;generalize fS p e.lk=ro at*;refine sW (fn:=f65) ?_;by_cases sq:log.length=0;rotate_left
 ·obtain⟨vK,ak⟩:=zp sq;haveI hnat:dK (((log.map df).length :Int) -1) (log.length -1):=⟨by omega⟩;generalize log.getD (log.length -1) fZ=en at*;repeat' ((first|refine tX 0 ?_|exact Zt|refine bR ?_ ?_<;>intro h)<;>(try conv=>whnf))
  all_goals try(exfalso;omega)
  ·refine af (ι:=Nat) (λi=>i<=e.text.length/\sJ e.text i) (λi=>e.text.length -i) (nS p log s e ro) 0 Zc ⟨dC _,λj hj=>by omega⟩ ?_;rintro i ⟨hi,Lc⟩;by_cases ak:i<e.text.length
   ·have dx: ¬(32<=(e.text.getD i 0).toNat /\(e.text.getD i 0).toNat <=126)->¬aU e.text:=λh hh=>h (hh i ak);have ma:32<=(e.text.getD i 0).toNat /\(e.text.getD i 0).toNat <=126->sJ e.text (i+1):=λh j hj=>by exact K71
    have FL:((e.text.getD i 0).toNat :Int)<=255:=by exact LN
    repeat' ((first|refine tX 0 ?_|exact Zt|refine bR ?_ ?_<;>intro h)<;>(try conv=>whnf))
    all_goals first|exact Zo|exact⟨i+1,⟨ak,ma K0⟩,by omega,Zc⟩|exact absurd KT (dx K0)
   ·exact K20
 ·repeat' ((first|refine tX 0 ?_|exact Zt|refine bR ?_ ?_<;>intro h)<;>(try conv=>whnf))
  all_goals try(exfalso;omega)
  ·refine af (ι:=Nat) (λi=>i<=e.text.length/\sJ e.text i) (λi=>e.text.length -i) (nS p log s e ro) 0 Zc ⟨dC _,λj hj=>by omega⟩ ?_;rintro i ⟨hi,Lc⟩;by_cases ak:i<e.text.length
   ·have dx: ¬(32<=(e.text.getD i 0).toNat /\(e.text.getD i 0).toNat <=126)->¬aU e.text:=λh hh=>h (hh i ak);have ma:32<=(e.text.getD i 0).toNat /\(e.text.getD i 0).toNat <=126->sJ e.text (i+1):=λh j hj=>by exact K71
    have FL:((e.text.getD i 0).toNat :Int)<=255:=by exact LN
    repeat' ((first|refine tX 0 ?_|exact Zt|refine bR ?_ ?_<;>intro h)<;>(try conv=>whnf))
    all_goals first|exact Zo|exact⟨i+1,⟨ak,ma K0⟩,by omega,Zc⟩|exact absurd KT (dx K0)
   ·exact K20
theorem Rv (hp:p.ae.length<=1000)(hl:log.length<=1000)(o7:pre p log e=0)(KT:aU e.text){ws:List aj}{j:Nat}(Ul:HL e.text=(ws,(j:Int),true))(hj:j<19)(c5:ad 110 [V1 ws] (.one (Bo true)))
  (hr:(vb j).role <=fS p e.lk)(b1:s.opens.length<=1000)(b2:s.lots.length<=1000)(b3:s.units.length<=1000)(b4: ∀u∈s.units,(u.lots.length<=1000/\u.res.length<=1000)/\u.gas.length<=1000)
  {y:bK × Int}{i0:Nat}{u:Un}(zE:s.units[i0]? =some u)(hy:y.2≠0)(hS:bt cx 111 1 [dyn (true,bU p),nJ log,(true,zG s),dyn (V1 ws)] (F1 s.units i0 u) [] (.aJ [(true,zG s),dyn (I y.2)]) (FY s.units i0 u)):
  ad 65 [(true,bU p),(false,[.view (log.map df)]),(true,vz s),(true,df e)] (nxR y):=by
 have c1:=mU p e.lk hp;have c2:=gm e.t;have vN:(log.map df).length =log.length:=by simp
 obtain⟨g1,g2,g3,g4⟩:=Fv o7;have c3:=jC e.text K0;rw[Ul]at c3;dsimp only at c3;have c4:=k9;rw[show(if e.lk∈p.ay then(p.ae.getD (aZ p.ay e.lk).toNat ([],0)).2 else -1)=fS p e.lk from rfl]at c1;generalize fS p e.lk=ro at*;refine sW (fn:=f65) ?_;by_cases sq:log.length=0;rotate_left
 ·obtain⟨vK,ak⟩:=zp sq;haveI hnat:dK (((log.map df).length :Int) -1) (log.length -1):=⟨by omega⟩;generalize log.getD (log.length -1) fZ=en at*;repeat' ((first|refine tX 0 ?_|exact Zt|refine bR ?_ ?_<;>intro h)<;>(try conv=>whnf))
  all_goals try(exfalso;omega)
  ·refine af (ι:=Nat) (λi=>i<=e.text.length/\sJ e.text i) (λi=>e.text.length -i) (nS p log s e ro) 0 Zc ⟨dC _,λj hj=>by omega⟩ ?_;rintro i ⟨hi,Lc⟩;by_cases ak:i<e.text.length
   ·have dx: ¬(32<=(e.text.getD i 0).toNat /\(e.text.getD i 0).toNat <=126)->¬aU e.text:=λh hh=>h (hh i ak);have ma:32<=(e.text.getD i 0).toNat /\(e.text.getD i 0).toNat <=126->sJ e.text (i+1):=λh j hj=>by exact K71
    have FL:((e.text.getD i 0).toNat :Int)<=255:=by exact LN
    repeat' ((first|refine tX 0 ?_|exact Zt|refine bR ?_ ?_<;>intro h)<;>(try conv=>whnf))
    all_goals first|exact Zo|exact⟨i+1,⟨ak,ma K0⟩,by omega,Zc⟩|exact absurd KT (dx K0)
   ·exact K33
 ·repeat' ((first|refine tX 0 ?_|exact Zt|refine bR ?_ ?_<;>intro h)<;>(try conv=>whnf))
  all_goals try(exfalso;omega)
  ·refine af (ι:=Nat) (λi=>i<=e.text.length/\sJ e.text i) (λi=>e.text.length -i) (nS p log s e ro) 0 Zc ⟨dC _,λj hj=>by omega⟩ ?_;rintro i ⟨hi,Lc⟩;by_cases ak:i<e.text.length
   ·have dx: ¬(32<=(e.text.getD i 0).toNat /\(e.text.getD i 0).toNat <=126)->¬aU e.text:=λh hh=>h (hh i ak);have ma:32<=(e.text.getD i 0).toNat /\(e.text.getD i 0).toNat <=126->sJ e.text (i+1):=λh j hj=>by exact K71
    have FL:((e.text.getD i 0).toNat :Int)<=255:=by exact LN
    repeat' ((first|refine tX 0 ?_|exact Zt|refine bR ?_ ?_<;>intro h)<;>(try conv=>whnf))
    all_goals first|exact Zo|exact⟨i+1,⟨ak,ma K0⟩,by omega,Zc⟩|exact absurd KT (dx K0)
   ·exact K33
end
section
variable {E:qH}{p:Pl}{log:List En}{s:bK}{k:Nat}{a:List aj}{n:List Int}{q w0 x:aj}{ws:List aj}
theorem mn (hl:s.units.length<=1000)(n1: ¬w0= [110,111,116,101])(n2: ¬w0= [108,111,116])(n3: ¬w0= [117,110,105,116])(n4: ¬w0=lJ)(n5: ¬w0=nk)(n6: ¬w0=lf)(n7: ¬w0=sn)(n8: ¬w0=wt)(n9: ¬w0=Ox)
  (he:ba E p log s k a n q=TG E p log s k x a n q)(hGU: ∀u,u∈s.units->GU 199 [dyn (true,bU p),nJ log,dyn (KZ s),(true,cP u 11 13 15),dyn (V1 (w0::x::ws))] u (aI E p log s u k a n q))
  (hk:(k=10/\w0= [101,110,116,101,114]/\∀u,(aI E p log s u k a n q).1=u)\/(k=11/\w0= [108,101,97,118,101])\/((k≠10/\k≠11)/\¬w0= [101,110,116,101,114]/\¬w0= [108,101,97,118,101])):
  Stp p log s (w0::x::ws) (ba E p log s k a n q):=by
 rw[he];by_cases hu:0<=gY s x;rotate_left
 ·rw[oL hu];exact .inl (OC p log s hl K0 n1 n2 n3 n4 n5 n6 n7 n8 n9)
 obtain⟨i,u,h1,h2,h3,h4,_⟩:=jX hu;have hx:gY s x=(i:Nat):=h1;have hG:=hGU u (jt h3)
 cases hr:aI E p log s u k a n q with
 |mk u' z=>
  rw[hr]at hG;rw[aY hu h2 h4 hr];by_cases hz:z=0
  ·subst hz;rw[if_pos rfl];refine .inr (.inr ⟨i,u,u',h3,rfl,rfl,?_⟩)
   rcases hk with⟨rfl,hw,hn⟩|⟨rfl,hw⟩|⟨⟨k1,k2⟩,e1,e2⟩
   ·have:=KG p log s h3 hl hx n1 n2 n3 n4 n5 n6 n7 n8 n9 hG hw
    grind
   ·exact OB p log s h3 hl hx n1 n2 n3 n4 n5 n6 n7 n8 n9 hG hw
   ·rw[if_neg k1,if_neg k2];exact GJ p log s h3 hl hx n1 n2 n3 n4 n5 n6 n7 n8 n9 hG e1 e2
  ·refine .inr (.inl ⟨i,u,h3,hz,?_⟩);exact KF p log s h3 hl hx n1 n2 n3 n4 n5 n6 n7 n8 n9 hG hz
end
structure RB (p:Pl) (log:List En) (s:bK):Prop where
 small:io p
 len:log.length<=1000
 opens:s.opens.length<=1000
 nd:s.opens.Nodup
 cmp: ∀u∈s.units,∀t∈p.aa,t.kind=2->iU u.res t=true->adJ log u t
section
variable {p:Pl}{log:List En}{s:bK}{k:Nat}{a:List aj}{n:List Int}{q w0:aj}
theorem adN (hP:PB p)(hS:SB p log s)(hR:RB p log s)(hk:k<19)(hw:w0=(kv.getD k vD).1)(ha:a.length=(vb k).words)(hal: ∀x∈a,x.length<=1000)(hq:q.length<=1000)(hn:jk ((w0::a).drop ((vb k).words +1 -(vb k).pW))=some n):
  Stp p log s (w0::a++if(vb k).rest then [q]else []) (ba EE p log s k a n q):=by
 have hul:s.units.length<=6:=hS.units;have vN:s.lots.length<=12:=hS.lots;have aht:=hR.len;have hUl: ∀u∈s.units,u.lots.length<=1000:=λu hu=>by have:=(hS.unit u hu).lots;omega
 have hUr: ∀u∈s.units,u.res.length<=1000:=λu hu=>by have:=(hS.unit u hu).len;omega
 have E2: ∀ {l:List aj},l.length=2->∃x y,l= [x,y]:=λ{l} h=>match l,h with| [x,y],_=>⟨x,y,rfl⟩
 have agQ: ∀ {l:List aj},l.length=3->∃x y z,l= [x,y,z]:=λ{l} h=>match l,h with| [x,y,z],_=>⟨x,y,z,rfl⟩
 have agR: ∀ {l:List aj},l.length=6->∃x y1 y2 y3 y4 y5,l= [x,y1,y2,y3,y4,y5]:=λ{l} h=>match l,h with| [x,y1,y2,y3,y4,y5],_=>⟨x,y1,y2,y3,y4,y5,rfl⟩
 have amj: ∀ {l:List Int},l.length=1->∃x,l= [x]:=λh=>wA.1 h;have amD: ∀ {l:List Int},l.length=2->∃x y,l= [x,y]:=λ{l} h=>match l,h with| [x,y],_=>⟨x,y,rfl⟩
 have amC: ∀ {l:List Int},l.length=5->∃y1 y2 y3 y4 y5,l= [y1,y2,y3,y4,y5]:=λ{l} h=>match l,h with| [y1,y2,y3,y4,y5],_=>⟨y1,y2,y3,y4,y5,rfl⟩
 have Ue: ∀z∈w0::a,z.length<=100000:=λz hz=>by
  rcases cQ.1 hz with rfl|hz
  ·have: ∀k<19,(kv.getD k vD).1.length <=10:=by decide
   grind
  grind
 have sO: ∀ {l:List aj},l.length=1->∃x,l= [x]:=λh=>wA.1 h
 match k,hk with
 |0,_=>
  subst hw;exact .inl (WF EE p log s n q rfl a _)
 |1,_=>
  subst hw;obtain⟨x,rfl⟩:=sO ha;exact .inl (aaV EE p log s n q rfl x (hal x (by simp)) K0)
 |2,_=>
  subst hw;obtain⟨x,rfl⟩:=sO ha;exact .inl (WG EE p log s n q rfl x (hal x (by simp)) K0 rfl K0)
 |3,_=>
  subst hw;obtain⟨x,y,rfl⟩:=E2 ha;refine mn K0 K9 K9 K9 K9 K9 K9 K9 K9 K9 rfl (λu hu=>?_) (.inr (.inr ⟨⟨by decide,by decide⟩,by decide,by decide⟩));exact WC EE p log s u q n rfl x y K0 (hUl u hu)
 |4,_=>
  subst hw;obtain⟨x,rfl⟩:=sO ha;exact .inl (WH EE p log s n q rfl [x] [x] (Ix EE p log s n q rfl x hP.ap hR.opens))
 |5,_=>
  subst hw;obtain⟨x,rfl⟩:=sO ha;exact .inl (WI EE p log s n q rfl [x] [x] (WD EE p log s n q rfl x hP.ap hR.opens hR.nd))
 |6,_=>
  subst hw;exact .inl (Rk EE p log s n q rfl a _ (Rj EE p log s n q rfl a _))
 |7,_=>
  subst hw;exact .inl (WJ EE p log s n q rfl a _ (WE EE p log s n q rfl a _))
 |8,_=>
  subst hw;exact .inl (KE EE p log s n q rfl a _ (KD EE p log s n q rfl a _))
 |9,_=>
  subst hw;exact .inl (aaW EE p log s n q rfl a _ (aaU EE p log s n q rfl a _))
 |10,_=>
  subst hw;obtain⟨x,rfl⟩:=sO ha;refine mn K0 K9 K9 K9 K9 K9 K9 K9 K9 K9 rfl (λu hu=>?_) (.inl ⟨rfl,rfl,λu=>by show(if u.rel then(u,(20:Int))else if s.hall= []then(if s.opens= []then(u,24)else(u,0))else(u,17)).1=u;grind⟩);exact Ov EE p log s u q n rfl x
 |11,_=>
  subst hw;obtain⟨x,rfl⟩:=sO ha;refine mn K0 K9 K9 K9 K9 K9 K9 K9 K9 K9 rfl (λu hu=>?_) (.inr (.inl ⟨rfl,rfl⟩));exact Ow EE p log s u q n rfl x
 |12,_=>
  subst hw;obtain⟨x,y,rfl⟩:=E2 ha;refine mn K0 K9 K9 K9 K9 K9 K9 K9 K9 K9 rfl (λu hu=>?_) (.inr (.inr ⟨⟨by decide,by decide⟩,by decide,by decide⟩));refine Ri EE p log s u q n rfl x y (WB EE p log s u _ x y q n hP.aa hP.bu (hUr u hu) aht (λt ht IK=>?_));exact BZ log u t q br K0 (hP.rules t ht) (hP.kind t ht) (λFR=>hR.cmp u hu t ht FR IK)
 |13,_=>
  subst hw;obtain⟨x,y,rfl⟩:=E2 ha;refine mn K0 K9 K9 K9 K9 K9 K9 K9 K9 K9 rfl (λu hu=>?_) (.inr (.inr ⟨⟨by decide,by decide⟩,by decide,by decide⟩));exact KC EE p log s u q n rfl x y hR.small (hUr u hu)
 |14,_=>
  subst hw;obtain⟨x,rfl⟩:=sO ha;refine mn K0 K9 K9 K9 K9 K9 K9 K9 K9 K9 rfl (λu hu=>?_) (.inr (.inr ⟨⟨by decide,by decide⟩,by decide,by decide⟩));exact GH EE p log s u q n rfl x hP.aa (hUr u hu)
 |15,_=>
  subst hw;obtain⟨x,y,rfl⟩:=E2 ha;refine mn K0 K9 K9 K9 K9 K9 K9 K9 K9 K9 rfl (λu hu=>?_) (.inr (.inr ⟨⟨by decide,by decide⟩,by decide,by decide⟩));refine uz p log s u _ _ K9 K9 K9 K9 K9 K9 K9 ?_;cases hrel:u.rel
  ·have:=λw=>Fr p u w hrel;have hq:aI EE p log s u 15 [x,y] n q=(u,20):=UD
   grind
  ·obtain⟨m,rfl⟩:=amj (qC hn);have:=Oq p u x y m rfl hrel (λz hz=>Ue z hz) hn;have hq:aI EE p log s u 15 [x,y] [m] q=if m<=1000 then({u with shaken:=u.shaken || decide (m>p.dW)},0)else(u,2):=UD
   rw[hq];exact this
 |16,_=>
  subst hw;obtain⟨x,rfl⟩:=sO ha;refine mn K0 K9 K9 K9 K9 K9 K9 K9 K9 K9 rfl (λu hu=>?_) (.inr (.inr ⟨⟨by decide,by decide⟩,by decide,by decide⟩));exact GI EE p log s u q n rfl x
 |17,_=>
  subst hw;obtain⟨x,y,z,rfl⟩:=agQ ha;refine mn K0 K9 K9 K9 K9 K9 K9 K9 K9 K9 rfl (λu hu=>?_) (.inr (.inr ⟨⟨by decide,by decide⟩,by decide,by decide⟩));refine uz p log s u _ _ K9 K9 K9 K9 K9 K9 K9 ?_;cases hrel:u.rel
  ·have:=λw=>Fr p u w hrel;have hq:aI EE p log s u 17 [x,y,z] n q=(u,20):=UD
   grind
  ·obtain⟨m,m',rfl⟩:=amD (qC hn);have:=Re p u x y z m m' rfl hrel (λz hz=>Ue z hz) hn hP.eH (hS.unit u hu).used;have hq:aI EE p log s u 17 [x,y,z] [m,m'] q=if u.shaken then(u,24)else if BB m m' then(if u.used+w6 m m'<=p.eH then({u with used:=u.used+w6 m m'},0)else(u,22))else(u,2):=UD
   rw[hq];exact this
 |18,_=>
  subst hw;obtain⟨x,y1,y2,y3,y4,y5,rfl⟩:=agR ha;refine mn K0 K9 K9 K9 K9 K9 K9 K9 K9 K9 rfl (λu hu=>?_) (.inr (.inr ⟨⟨by decide,by decide⟩,by decide,by decide⟩));refine uz p log s u _ _ K9 K9 K9 K9 K9 K9 K9 ?_;cases hrel:u.rel
  ·have:=λw=>Fr p u w hrel;have hq:aI EE p log s u 18 [x,y1,y2,y3,y4,y5] n q=(u,20):=UD
   grind
  ·obtain⟨m1,m2,m3,m4,m5,rfl⟩:=amC (qC hn);have:=WA p u x y1 y2 y3 y4 y5 m1 m2 m3 m4 m5 rfl hrel (λz hz=>Ue z hz) hn (by have:=(hS.unit u hu).gas;omega);have hq:aI EE p log s u 18 [x,y1,y2,y3,y4,y5] [m1,m2,m3,m4,m5] q=if gok m1 m2 m3 m4 m5 then(if u.gas.length<10 then({u with gas:=u.gas++[⟨m1,m2,m3,m4,m5⟩]},0)else(u,16))else(u,2):=UD
   rw[hq];exact this
 |k+19,hk=>omega
end
theorem T6 {w:aj}(h:jH w<19):w=(kv.getD (jH w) vD).1:=by
 have h':jH w< (kv.map Prod.fst).length :=h;have e:(kv.map Prod.fst)[jH w]=w:=Sw h';have hv:jH w<kv.length:=h;exact ajS
theorem AK: ∀k<19,((vb k).pW =0/\((kv.getD k vD).1≠[115,104,111,99,107]/\(kv.getD k vD).1≠[108,111,97,100])/\(kv.getD k vD).1≠[103,97,115])\/
  ((vb k).words +1 -(vb k).pW =2/\(vb k).rest =false/\1<=(vb k).words /\¬(((kv.getD k vD).1≠[115,104,111,99,107]/\(kv.getD k vD).1≠[108,111,97,100])/\(kv.getD k vD).1≠[103,97,115])):=by decide
def KI {tx:aj}{k:Nat}(hk:jH ((av 32 tx).getD 0 [])=k)(W4:k<19):
  (eD (vb k) tx=none/\(∃ws,HL tx=(ws,(k:Int),false))\/
  ∃a r,a.length=(vb k).words /\HL tx=((av 32 tx).getD 0 []::a++(if(vb k).rest then [r]else []),(k:Int),true)/\(∀x∈a,x∈av 32 tx)/\r.length<=tx.length/\((vb k).rest =true->r=bP ((vb k).words +1) tx)/\
   eD (vb k) tx=(jk (((av 32 tx).getD 0 []::a).drop ((vb k).words +1 -(vb k).pW))).map λn=>(a,n,if(vb k).rest then r else [])):=by
 have h3:=Lq.2 (lT 32 tx);unfold HL eD;rw[hk,if_neg (show ¬19<=k by omega)];generalize hws:av 32 tx=ws at*;generalize vb k=v at*;by_cases h1:(v.rest=false/\ws.length≠v.words+1)\/(v.rest=true/\ws.length<v.words+2)
 ·rw[if_pos h1];refine .inl ⟨?_,[],rfl⟩;rw[if_pos];rcases h1 with h|h
  ·exact .inr (.inl h)
  ·exact .inl h
 rw[if_neg h1];by_cases h2: []∈ws.take (v.words+1)
 ·rw[if_pos h2];refine .inl ⟨?_,[],rfl⟩;rw[if_pos (.inr (.inr h2))]
 rw[if_neg h2]
 have bB:v.words+1<=ws.length:=by
  cases hr:v.rest
  ·have: ¬(ws.length≠v.words+1):=λh=>h1 (.inl ⟨hr,h⟩);omega
  ·have: ¬(ws.length<v.words+2):=λh=>h1 (.inr ⟨hr,h⟩);omega
 have ht:ws.take (v.words+1)=ws.getD 0 []::(ws.take (v.words+1)).drop 1:=by
  cases ws with
  |nil=>simp at h3
  |cons a ws=>rfl
 refine .inr ⟨(ws.take (v.words+1)).drop 1,bP (v.words+1) tx,by rw[SH,LC];omega,by rw[<- ht],λx hx=>FU (Ps hx),?_,λ_=>rfl,?_⟩
 ·exact lZ _ _
 ·have h4: ¬((v.rest=true/\ws.length<v.words+2)\/(v.rest=false/\ws.length≠v.words+1)\/[]∈ws.take (v.words+1)):=by
   rintro(h|h|h)
   ·exact h1 (.inr h)
   ·exact h1 (.inl h)
   ·exact h2 h
  show(if _ then _ else _)=_;rw[if_neg h4,<- ht]
def aaZ {tx:aj}(hl:tx.length<=400){k:Nat}(hk:jH ((av 32 tx).getD 0 [])=k):
  (19<=k/\HL tx=([],-1,false))\/(k<19/\eD (vb k) tx=none/\∃ws,HL tx=(ws,(k:Int),false))\/(k<19/\eD (vb k) tx=none/\∃ws,HL tx=(ws,(k:Int),true)/\ad 110 [V1 ws] (.one (Bo false)))\/
  (k<19/\∃a n r,eD (vb k) tx=some (a,n,if(vb k).rest then r else [])/\HL tx=((av 32 tx).getD 0 []::a++(if(vb k).rest then [r]else []),(k:Int),true)/\a.length=(vb k).words /\(∀x∈a,x.length<=1000)/\r.length<=1000/\
   jk (((av 32 tx).getD 0 []::a).drop ((vb k).words +1 -(vb k).pW))=some n/\ad 110 [V1 ((av 32 tx).getD 0 []::a++(if(vb k).rest then [r]else []))] (.one (Bo true))):=by
 by_cases W4:19<=k
 ·exact .inl ⟨W4,by unfold HL;grind⟩
 have W4:k<19:=by omega
 rcases KI hk W4 with⟨h1,h2⟩|⟨a,r,h1,h2,h3,h4,h5,h6⟩
 ·grind
 have hs2:=(bZ 32 tx).2;have Ue:((av 32 tx).getD 0 []).length <=400:=by grind
 have hal: ∀x∈a,x.length<=1000:=λx hx=>by grind
 have hw:=T6 (w:=(av 32 tx).getD 0 []) K0;rw[hk]at hw;generalize (av 32 tx).getD 0 []=w0 at*;have aot:(vb k).words <=10:=Oh k W4
 have hN:Fg (w0::a++(if(vb k).rest then [r]else []))=(jk ((w0::a).drop ((vb k).words +1 -(vb k).pW))).isSome :=by
  unfold Fg;show(if(w0≠_/\w0≠_)/\w0≠_ then true else _)=_
  rcases AK k W4 with⟨g1,g2⟩|⟨g1,g2,g3,g4⟩
  ·have hd:(w0::a).drop ((vb k).words +1)= []:=Sc br;rw[g1,G2,hd];rw[<- hw]at g2;exact if_pos g2
  grind
 have iX:=zk (w0::a++(if(vb k).rest then [r]else [])) (by simp) (by
  rcases AK k W4 with⟨g1,g2⟩|⟨g1,g2,g3,g4⟩
  ·refine .inl ?_;rw[hN,g1,G2,Sc br];rfl
  ·refine .inr ?_;rw[g2];simp;omega) br (λx hx=>by
   grind) (by
  grind[AK])
 rw[hN]at iX
 cases hn:jk ((w0::a).drop ((vb k).words +1 -(vb k).pW))with
 |none=>
  grind
 |some n=>
  rw[hn]at iX h6;exact .inr (.inr (.inr ⟨W4,a,n,r,h6,h2,h1,hal,by omega,hn,iX⟩))
section
variable {p:Pl}{log:List En}{s:bK}{e:En}
theorem OD (h:e.lk∈p.ay):fS p e.lk=(p.ae.getD (aZ p.ay e.lk).toNat ([],0)).2:=if_pos h
def aa0 (hro: ∀q∈p.ae,0<=q.2):fS p e.lk<0↔aZ p.ay e.lk<0:=by
 by_cases h:e.lk∈p.ay
 grind[k6,OD]
 ·unfold fS;rw[if_neg h,fp h]
theorem OE (hP:PB p)(hS:SB p log s)(hR:RB p log s)(hro: ∀q∈p.ae,0<=q.2)(ht:e.text.length<=100000):
  ad 65 [(true,bU p),(false,[.view (log.map df)]),(true,vz s),(true,df e)] (nxR (pm EE p log s e)):=by
 have hri:=aa0 (e:=e) hro;by_cases o7:pre p log e=0;rotate_left
 ·have:=aaY p log s e hP.ae hR.len ht o7
  have iT:pm EE p log s e=(s,pre p log e):=by
   unfold pre at o7 ⊢;unfold pm
   grind
  grind
 obtain⟨g1,g2,g3,g4⟩:=Fv o7;have zJ: ¬aZ p.ay e.lk<0:=λh=>by grind
 have abp:e.lk∈p.ay:=by grind[fp]
 have aoA:=OD abp
 have iT:pm EE p log s e=if ¬aU e.text then(s,3)else
   if 19<=jH ((av 32 e.text).getD 0 [])then(s,7)else
   if fS p e.lk< (vb (jH ((av 32 e.text).getD 0 []))).role then(s,18)else
   match eD (vb (jH ((av 32 e.text).getD 0 []))) e.text with
   |none=>(s,7)
   |some (a,n,rest)=>ba EE p log s (jH ((av 32 e.text).getD 0 [])) a n rest:=by
  unfold pm
  grind
 rw[iT];clear iT;generalize hk:jH ((av 32 e.text).getD 0 [])=k at*;have l6: ∀ {ws:List aj} {k':Int} {ok nb:Bool},_:=λ{ws k' ok nb}=>qE p log s e hP.ae hR.len o7 (ws:=ws) (k:=k') (ok:=ok) (nb:=nb);by_cases zA:aU e.text;rotate_left
 ·rw[if_pos zA]
  rcases aaZ g4 hk with⟨a1,a2⟩|⟨a1,a2,ws,a3⟩|⟨a1,a2,ws,a3,a4⟩|⟨a1,a,n,r,a2,a3,a4,a5,a6,a7,a8⟩
  grind
  grind
  grind
  ·exact qE p log s e hP.ae hR.len o7 a3 (.inr ⟨k,rfl,a1⟩) (λ_=>a8) 3 K9 (λ_=>rfl) (λh=>absurd h zA) (λ_ h=>absurd h zA) (λ_ h=>absurd h zA) (λ_ h=>absurd h zA)
 rw[if_neg (λh=>h zA)];have inj: ∀ {j:Nat},((k:Nat):Int)=j->j=k:=λh=>by omega
 rcases aaZ g4 hk with⟨a1,a2⟩|⟨a1,a2,ws,a3⟩|⟨a1,a2,ws,a3,a4⟩|⟨a1,a,n,r,a2,a3,a4,a5,a6,a7,a8⟩
 ·rw[if_pos a1]
  grind
 ·rw[if_neg K0,a2];by_cases O1:fS p e.lk< (vb k).role
  ·rw[if_pos O1];exact qE p log s e hP.ae hR.len o7 a3 (nb:=true) (.inr ⟨k,rfl,a1⟩) (λh=>by cases h) 18 K9 (λh=>absurd zA h) (λ_ h=>by omega) (λ_ _ _ _=>rfl) (λj _ h h'=>by obtain rfl:=inj h;omega) (λ_ _ _ _ h=>by cases h)
  grind
 ·rw[if_neg K0,a2];by_cases O1:fS p e.lk< (vb k).role
  ·rw[if_pos O1];exact qE p log s e hP.ae hR.len o7 a3 (.inr ⟨k,rfl,a1⟩) (λ_=>a4) 18 K9 (λh=>absurd zA h) (λ_ h=>by omega) (λ_ _ _ _=>rfl) (λj _ h h'=>by obtain rfl:=inj h;omega) (λ_ _ _ _ _ h=>by cases h)
  ·rw[if_neg O1];exact qE p log s e hP.ae hR.len o7 a3 (.inr ⟨k,rfl,a1⟩) (λ_=>a4) 7 K9 (λh=>absurd zA h) (λ_ _=>rfl) (λj _ h h'=>by grind) (λ_ _ _ _ _=>rfl) (λ_ _ _ _ _ h=>by cases h)
 ·rw[if_neg K0,a2];by_cases O1:fS p e.lk< (vb k).role
  ·rw[if_pos O1];exact qE p log s e hP.ae hR.len o7 a3 (.inr ⟨k,rfl,a1⟩) (λ_=>a8) 18 K9 (λh=>absurd zA h) (λ_ h=>by omega) (λ_ _ _ _=>rfl) (λj _ h h'=>by obtain rfl:=inj h;omega) (λj _ h h'=>by grind)
  ·rw[if_neg O1];dsimp only;have hq:(if(vb k).rest then r else []).length <=1000:=by grind
   have eG:=adN (a:=a) (n:=n) (q:=if(vb k).rest then r else []) hP hS hR a1 (w0:=(av 32 e.text).getD 0 []) (by grind[T6]) a4 a5 hq a7;have hws:(av 32 e.text).getD 0 []::a++(if(vb k).rest then [if(vb k).rest then r else []]else [])=(av 32 e.text).getD 0 []::a++(if(vb k).rest then [r]else []):=by grind
   rw[hws]at eG;have b1:=hR.opens;have b2:s.lots.length<=1000:=by have:=hS.lots;omega
   have b3:s.units.length<=1000:=by exact UJ
   have b4: ∀u∈s.units,(u.lots.length<=1000/\u.res.length<=1000)/\u.gas.length<=1000:=λu hu=>by
    have h1:=(hS.unit u hu).lots;have h2:=(hS.unit u hu).len;have h3:=(hS.unit u hu).gas;have h4:=hR.len
    grind
   rcases eG with h|⟨i,u,h1,h2,h3⟩|⟨i,u,u',h1,h2,h3,h4⟩
   ·exact Rp p log s e hP.ae hR.len o7 zA a3 a1 a8 K0 b1 b2 b3 b4 h
   ·exact Rv p log s e hP.ae hR.len o7 zA a3 a1 a8 K0 b1 b2 b3 b4 h1 h2 h3
   ·exact Rt p log s e hP.ae hR.len o7 zA a3 a1 a8 K0 b1 b2 b3 b4 h1 h2 h3 h4
end
def adO {p:Pl}{log:List En}{u:Un}{t:Ts}(hP:PB p)(hU:UB p log u)(ht:t∈p.aa)(hr:iU u.res t=true)(hk:t.kind=2):adJ log u t:=by
 obtain⟨n0,nd,hn,t0,ht0,GO,hk0⟩:=hP.comp t ht hk;obtain⟨r,hl⟩:=E3 hr hn;obtain⟨hm,hmt,_⟩:=Il hl;obtain⟨k,h1,h2,h3,h4,⟨a,n,q,h5⟩,h6⟩:=hU.res r hm;have h7:=h6 t0 ht0 (by rw[GO,hmt]) hk0;obtain⟨rt,ra,re,rv⟩:=r;simp only at h1;subst h1
 rcases KI h4 K9 with⟨g1,_⟩|⟨a',r',g1,g2,g3,g4,g5,g6⟩
 ·rw[h5]at g1;cases g1
 ·have B9:=g5 rfl;subst B9;refine⟨n0,nd,rt,ra,k,rv,(av 32 (log.getD k fZ).text).getD 0 []::a',12,hn,hl,h2,?_,g2,by omega,h7⟩;rw[kD,g1];rfl
def Rx {l:List aj}{x:aj}(h:l.Nodup)(hx:x∉l):(l++[x]).Nodup :=by
 rw[IU];refine⟨h,by simp,λa ha b hb e=>?_⟩;have:b=x:=by simpa using hb
 subst this;subst e;exact hx ha
def OF {p:Pl}{log:List En}{s:bK}{e:En}(h:s.opens.Nodup)(hz:(pm EE p log s e).2=0):(pm EE p log s e).1.opens.Nodup :=by
 unfold pm at hz ⊢;split
 ·exact h
 split
 ·exact h
 split
 ·exact h
 split
 ·exact h
 split
 ·exact h
 split
 ·exact h
 split
 ·exact h
 split
 ·exact h
 ·rename_i a n r _;unfold ba;split
  ·exact h
  ·repeat' split
   all_goals exact h
  ·repeat' split
   all_goals exact h
  ·repeat' split
   all_goals first|exact h|exact Rx h FW
  ·repeat' split
   all_goals first|exact h|exact h.erase _
  all_goals(repeat' split)
  all_goals exact h
def zq:ad 107 [] (.one (true,vz Go.Plain.fD)):=by
 refine sF f107 ?_;exact IV
def RI (p:Pl)(l:List En)(i:Nat)(s:bK):Prop:=i<=l.length/\mT p [] Go.Plain.fD l=mT p (l.take i) s (l.drop i)/\SB p (l.take i) s/\s.opens.Nodup
def Ry {p:Pl}{l:List En}(hs:io p)(hP:PB p)(hro: ∀q∈p.ae,0<=q.2)(hl:l.length<=60)(ht: ∀e∈l,e.text.length<=100000){y:bK × Nat × Int}(hy:mT p [] Go.Plain.fD l=y):
  ad 63 [(true,bU p),(false,[.view (l.map df)])] (.aJ [(true,vz y.1),I y.2.1,I y.2.2]):=by
 have c1:=zq;have vN:(l.map df).length =l.length:=by simp
 have hu: ∀e∈l.map df,e.length=3:=λe he=>by
  obtain⟨x,_,rfl⟩:=dN.1 he;rfl
 refine sF f63 ?_;repeat' ((first|refine tX 0 ?_|exact Zt|refine bR ?_ ?_<;>intro h)<;>(try conv=>whnf))
 all_goals try(exfalso;omega)
 refine af (ι:=Nat × bK) (λz=>RI p l z.1 z.2) (λz=>l.length -z.1) (λz=>⟨[(1,some (.val (nJ l))),(2,pP 0),(4,pP 2),(7,pP 4),(8,vI z.1)],[(0,some (.box 27 (dyn (true,bU p)).2)),(2,some (.box 58 [.st (K false),.st (K false),.nil,.st (T []),.nil,.nil])),(4,some (.box 58 (dyn (true,vz z.2)).2))],1000⟩) (0,Go.Plain.fD) Zc ⟨dC _,by rw[G1,xL],by rw[G1];exact E5 p,G0⟩ ?_;rintro⟨i,s⟩ ⟨hi,bC,Ld,AM⟩;dsimp only at hi bC Ld AM ⊢;by_cases ak:i<l.length
 ·have vK:=bg (f:=df) ak fZ;have zx:l.take (i+1)=l.take i++[l.getD i fZ]:=by rw[BH,nM ak];simp[jE,ak]
  have htl:(l.take i).length =i:=by simp;omega
  have amm:l.getD i fZ∈l:=ajc;have amG:jm p (l.take i) s (l.getD i fZ)=pm EE p (l.take i) s (l.getD i fZ):=if_neg K0;have hRB:RB p (l.take i) s:=⟨hs,by omega,by have:=Ld.opens;omega,AM,λu hu t Ph hk hr=>adO hP (Ld.unit u hu) Ph hr hk⟩;have c2:=OE (e:=l.getD i fZ) hP Ld hRB hro (ht _ amm);rw[List.map_take]at c2;rw[Iq ak,amG]at bC;have an7:=λs' h=>(Q3 (s':=s') hP Ld (l.getD i fZ) (amG.trans h)).1;have ams:=OF (p:=p) (log:=l.take i) (e:=l.getD i fZ) AM;generalize hz:pm EE p (l.take i) s (l.getD i fZ)=z at*;obtain⟨s',e'⟩:=z;dsimp only at bC ams;by_cases he:e'=0
  ·subst he;rw[if_pos rfl]at bC;have c3:ad 65 [(true,bU p),(false,[.view (List.take i (l.map df))]),(true,vz s),(true,df (l.getD i fZ))] (.aJ [(true,vz s'),I 0]):=c2;generalize l.getD i fZ=en at*
   (try(refine tX 0 ?_;try exact Zt))
   refine JG hu rfl rfl rfl rfl rfl rfl K0 ?_;repeat' ((first|refine tX 0 ?_|exact Zt|refine bR ?_ ?_<;>intro h)<;>(try conv=>whnf))
   all_goals first|exact Ze|exact⟨(i+1,s'),⟨ak,bC,by rw[zx];exact an7 s' rfl,ams rfl⟩,by dsimp only;omega,Zc⟩
  ·rw[if_neg he]at bC
   have c3:ad 65 [(true,bU p),(false,[.view (List.take i (l.map df))]),(true,vz s),(true,df (l.getD i fZ))] (.aJ [(true,adM),I e']):=by
    have:nxR (s',e')= .aJ [(true,adM),I e']:=by show mb.aJ _=_;rw[if_neg he]
    rw[this]at c2;exact c2
   generalize l.getD i fZ=en at*;rw[bC]at hy;subst hy
   (try(refine tX 0 ?_;try exact Zt))
   refine JG hu rfl rfl rfl rfl rfl rfl K0 ?_;exact tB0
 ·obtain rfl:i=l.length:=by omega
  have hy':y=(s,0,0):=by rw[<- hy,bC,LA];rfl
  subst hy';exact tB0
section
variable {p:Pl}{l:List En}
def OG (hl:60<l.length)(hl2:l.length<=1000):ad 63 [(true,bU p),(false,[.view (l.map df)])] (.aJ [(true,vz Go.Plain.fD),I 0,I 8]):=by
 have c1:=zq;have vN:(l.map df).length =l.length:=by simp
 refine sF f63 ?_;exact tA
def GK (hs:io p)(he:(p.err jK).2=0)(hP:PB p)(hro: ∀q∈p.ae,0<=q.2)(hl:l.length<=1000)(ht: ∀e∈l,e.text.length<=100000):
  ad 63 [(true,bU p),(false,[.view (l.map df)])] (.aJ [(true,vz (ee p l).1),I (ee p l).2.1,I (ee p l).2.2]):=by
 unfold ee;rw[if_neg (CN he)];by_cases h:60<l.length
 ·rw[if_pos h];exact OG h hl
 ·rw[if_neg h];exact Ry hs hP hro K0 ht rfl
def B4 (hs:io p)(he:(p.err jK).2=0)(hP:PB p)(hro: ∀q∈p.ae,0<=q.2)(hl:l.length<=1000)(ht: ∀e∈l,e.text.length<=100000):
  ad 23 [(true,bU p),(false,[.view (l.map df)])] (.aJ [I (ee p l).2.1,I (ee p l).2.2]):=by
 have c1:=GK hs he hP hro hl ht;generalize ee p l=y at*;refine sF f23 ?_;exact ahR
end
def OH (l:List En)(hl:l.length<=1000):ad 15 [(false,[.view (l.map df)])] (.own 3 (.view (l.map df))):=by
 have vN:(l.map df).length =l.length:=by simp
 refine sF f15 ?_;repeat' ((first|refine tX 0 ?_|exact Zt|refine bR ?_ ?_<;>intro h)<;>(try conv=>whnf))
 all_goals first|rfl
def anF (x:ByteArray):(x==x)=true:=by
 cases x with
 |mk a=>exact beq_self_eq_true a
abbrev ag1 (u:Un):Option co:=some (.box 44 ((jQ u).map .st))
abbrev adP (s:bK):Option co:=some (.box 58 ((vz s).map .st))
def ag3 {l:List En}(h:shP l):l.length<=62:=h.1.2
def adS {l:List En}(h:shP l): ∀e∈l,e.text.length<=410:=λe he=>by
 obtain⟨i,hi,e'⟩:=rY (d:=aa1) he;have:=(h.2 i hi).1;rw[e']at this;exact this
def Rz {p:Pl}{l:List En}(hs:io p)(hl:l.length<=1000)(htx: ∀e∈l,e.text.length<=100000):ad 11 [(true,bU p),(false,[.view (l.map df)])] (.one (I (ee p l).2.2)):=by
 have hP:=λh=>OK hs h;have c5:=BW hs;by_cases he:(p.err jK).2=0
 ·have c6:=B4 hs he (hP he) (adQ he) (l:=l) K0 htx;rw[he]at c5;generalize ee p l=y at*;obtain⟨s,i,e⟩:=y;refine sF f11 ?_;exact tA
 ·have hr:ee p l=(Go.Plain.fD,0,(p.err jK).2):=if_pos he;rw[hr];generalize (p.err jK).2=e at*;refine sF f11 ?_;exact tA
def aa5 {p:Pl}(h:(p.err jK).2=0):BD p []=Go.Plain.fD:=by
 unfold BD ee;rw[if_neg (CN h),if_neg K9];rfl
def ag5 {p:Pl}{l:List En}(h:(ee p l).2.2=0){P:List En->bK->Prop}(h0:P [] Go.Plain.fD)(hs: ∀ {log:List En} {s s':bK} {e:En} {k:Nat} {a:List aj} {n:List Int} {r:aj},P log s->Xg e.text k a r->ba EE p log s k a n r=(s',0)->P (log++[e]) s'):
  ∀i,i<=l.length->P (l.take i) (BD p (l.take i)):=by
 intro i
 induction i with
 |zero=>intro _;rw[G1,aa5 (w9 h).2.1];exact h0
 |succ i ih=>
  intro hi;have kA:i<l.length:=hi;obtain⟨k,a,n,r,g1,g2,g3,g4,_⟩:=aaJ h kA;have ht:l.take (i+1)=l.take i++[l.getD i fZ]:=by rw[BH,nM kA];simp[jE,kA]
  have:=hs (ih K0) (Iz g1 g2 g3) g4;rwa [<- ht]at this
def ag6 {p:Pl}{l:List En}(h:(ee p l).2.2=0){i:Nat}(hi:i<l.length): ∃k a r aw,Xg (l.getD i fZ).text k a r/\(l.getD i fZ).text.length <=400/\HL (l.getD i fZ).text =((kv.getD k vD).1::aw,(k:Int),true)/\aw=a++(if(vb k).rest then [r]else [])/\a.length=(vb k).words /\∃n,ba EE p (l.take i) (BD p (l.take i)) k a n r=(BD p (l.take (i+1)),0):=by
 obtain⟨k,a,n,r,g1,g2,g3,g4,g5⟩:=aaJ h hi;have he:=Iz g1 g2 g3
 rcases KI g2 g1 with⟨h,_⟩|⟨a',r',q1,q2,_,_,q5,q6⟩
 ·rw[g3]at h;cases h
 rw[g3]at q6
 cases hn:jk (((av 32 (l.getD i fZ).text).getD 0 []::a').drop ((vb k).words +1 -(vb k).pW))with
 |none=>rw[hn]at q6;cases q6
 |some m=>
  rw[hn]at q6;have e3:=Prod.mk.inj (wE q6);have e4:=Prod.mk.inj e3.2;obtain rfl:=e3.1;refine⟨k,a,r,_,he,g5,?_,rfl,q1,n,g4⟩;rw[q2,KJ he.no he.lt,e4.2];cases hr:(vb k).rest <;>simp
def al3 {s:aj}{w:Win}(h:H7 s=(w,0)):Gn ⟨w.k1,w.t1,w.s1,w.r1⟩ ⟨w.k2,w.t2,w.s2,w.r2⟩ w.st=0:=by
 have aux: ∀x y z,puO x y z=(w,0)->Gn ⟨w.k1,w.t1,w.s1,w.r1⟩ ⟨w.k2,w.t2,w.s2,w.r2⟩ w.st=0:=λx y z h=>by
  match x,y,z,h with
  |some a,some b,some c,h=>
   have e:puO (some a) (some b) (some c)=puE a b c:=rfl;rw[e]at h;unfold puE at h;split at h
   ·rename_i h1;cases h;exact h1
   ·rename_i h1;exact absurd (aP Prod.snd h) h1
  |none,_,_,h=>cases h
  |some _,none,_,h=>cases h
  |some _,some _,none,h=>cases h
 unfold H7 at h;split at h
 ·exact aux _ _ _ h
 ·cases h
def al4 {us:List Un}(h:(us.map Un.name).Nodup){u v:Un}(hu:u∈us)(hv:v∈us)(e:u.name=v.name):u=v:=by
 obtain⟨i,hi,rfl⟩:=zN.1 hu;obtain⟨j,hj,rfl⟩:=zN.1 hv;have:=(List.getElem_inj (xs:=us.map Un.name) (i:=i) (j:=j) (h₀:=by simpa using hi) (h₁:=by simpa using hj) h).1 (by simp[e]);subst this;rfl
def RA {l:List En}{n:Nat}(h:n<l.length):l.take (n+1)=l.take n++[l.getD n fZ]:=ajb
def uF (l:List En)(x y:aj)(n:Nat):Bool:=(l.take n).any λe=>decide (e.text=B5 x y)
def adV {l:List En}{x y:aj}{n:Nat}(h:n<l.length):uF l x y (n+1)=(uF l x y n || decide ((l.getD n fZ).text =B5 x y)):=by
 unfold uF;exact ajr
instance (x tx:aj):Decidable (so x tx):=by unfold so;infer_instance
def fF2 (l:List En)(x:aj)(n:Nat):Bool:=(l.take n).any λe=>decide (so x e.text)
def aa6 {l:List En}{x:aj}{n:Nat}(h:n<l.length):fF2 l x (n+1)=(fF2 l x n || decide (so x (l.getD n fZ).text)):=by
 unfold fF2;exact ajr
abbrev vL2 (l:List En):Option DV:=some (.val (false,[.st (.view (l.map df))]))
abbrev adW (p:Pl):Option co:=some (.box 27 ((bU p).map .st))
def RC (ha:ad 8 [] (.one (Bo true)))(p:Pl)(l:List En)(h1:p.ae.length<=9223372036854775807)(h2:p.ap.length<=9223372036854775807)(h3:p.aa.length<=9223372036854775807)(h4:p.parts.length<=9223372036854775807)
  (h5: ∀i<p.aa.length,(p.aa.getD i dt).bu.length <=9223372036854775807)(h6: ∀i<p.parts.length,(p.parts.getD i ([],[])).2.length <=9223372036854775807)(h7:l.length<=9223372036854775807):ad 4 [(true,bU p),(false,[.view (l.map df)])] (.one (Bo true)):=by
 have hf:=adR p h1 h2 h3 h4 h5 h6;have hsh:=WM l h7;have hn:(l.map df).length =l.length:=by simp
 by_cases q:Oi p;rotate_left
 ·rw[eT q]at hf;refine sF f4 ?_;exact tA
 rw[fH q]at hf;by_cases hq:shP l;rotate_left
 ·rw[eT hq]at hsh;refine sF f4 ?_;exact tA
 rw[fH hq]at hsh;have hs:=Wy q;have aoF:=ag3 hq;have htx: ∀e∈l,e.text.length<=100000:=λe he=>by have:=adS hq e he;omega
 have hP:=λh=>OK hs h;have c0:=Rz (l:=l) hs K0 htx;by_cases hz:(ee p l).2.2=0;rotate_left
 ·generalize (ee p l).2.2=z at*;refine sF f4 ?_;exact tA
 rw[hz]at c0;obtain⟨hr,he,CD,_⟩:=w9 hz
 have hT:TI EE l (BD p l):=by
  have:=ag5 hz (P:=TI EE) (TI.begin EE) (λh1 h2 h3=>h1.step h2 h3) l.length (dw _);rwa [lu]at this
 have Ld:SB p l (BD p l):=(Cu (l:=l) hP hz).1;have c1:=GL hs;have c2:=OH l K0;have c3:=Od hs hP K0 htx (l:=l);rw[if_pos hz,hz]at c3;have cw:=λx h1 h2=>zu hs hP (show l.length<=1000 by omega) htx (x:=x) (by have:x.length<=12:=h1.1.2;omega) hr h1 h2;have Ul:=λ{i}=>ag6 hz (i:=i);have c3:ad 17 [(true,bU p),(false,[.view (l.map df)])] (.aJ [(true,vz (BD p l)),I 0]):=c3;generalize BD p l=s at*;have n1:(s.units.map jQ).length =s.units.length:=by simp
 have n2:(ab s.lots).length =s.lots.length:=by simp
 have hu6:=Ld.units;have aop:=Ld.lots;refine sF f4 ?_;repeat' ((first|refine tX 0 ?_|exact Zt|refine bR ?_ ?_<;>intro h)<;>(try conv=>whnf))
 all_goals try(exfalso;omega)
 refine af (ι:=Nat) (λi=>i<=s.units.length) (λi=>s.units.length -i) (λi=>⟨[(1,vL2 l),(2,pP 0),(5,pP 2),(7,vI i)],[(0,adW p),(2,adP s)],1000⟩) 0 Zc (dC _) ?_;intro i hi;by_cases ak:i<s.units.length;rotate_left
 ·obtain rfl:i=s.units.length:=by omega
  exact tA
 have he1:=bg (f:=jQ) ak o6;have hm:s.units.getD i o6∈s.units:=ajc;generalize s.units.getD i o6=u at*;have hnm:=hT.nm u hm;have zI:u.name.length<=12:=hnm.1.2;obtain⟨w1,w2⟩:=hT.win u hm;have hul:=(Ld.unit u hm).lots;repeat' ((first|refine tX 0 ?_|exact Zt|refine bR ?_ ?_<;>intro h)<;>(try conv=>whnf))
 all_goals try(exfalso;omega)
 refine af (ι:=Nat) (λk=>k<=s.lots.length) (λk=>s.lots.length -k) (λk=>⟨[(1,vL2 l),(2,pP 0),(5,pP 2),(7,vI i),(8,pP 4),(9,vI k)],[(0,adW p),(2,adP s),(4,ag1 u)],1000⟩) 0 Zc (dC _) ?_;intro k hk;by_cases uD:k<s.lots.length
 ·have he2:=ML uD;have hym:s.lots.getD k []∈s.lots:=by rw[jE,nM uD];exact oh _
  generalize s.lots.getD k []=y at*;have hy:=hT.ln y hym;have hyl:y.length<=12:=hy.1.2;have c5:=cw y hy hym
  have zJ:decide (y∈u.lots)=uF l u.name y l.length:=by
   rw[sD];unfold uF;rw[lu,CR,hT.lots u hm y hy];simp
  have c6:=cj u.lots y K0
  have c7:=cj (si s y) u.name (by
   have:(si s y).length <=s.units.length:=by unfold si;rw[ja];exact UA _ _
   omega)
  have hwi:decide (u.name∈si s y)=decide (y∈u.lots):=by
   rw[sD,CR,CR];unfold si;constructor
   ·intro h;obtain⟨v,hv,e⟩:=dN.1 h;obtain⟨hv1,hv2⟩:=XR.1 hv;have:=al4 hT.nd hv1 hm e;subst this;exact Ls hv2
   ·exact λh=>XH (XR.2 ⟨hm,fH h⟩)
  rw[hwi,zJ]at c7;rw[zJ]at c6;have n3:(ab (si s y)).length =(si s y).length :=by simp
  generalize si s y=ws at*;repeat' ((first|refine tX 0 ?_|exact Zt|refine bR ?_ ?_<;>intro h)<;>(try conv=>whnf))
  all_goals try(exfalso;omega)
  refine af (ι:=Nat) (λn=>n<=l.length) (λn=>l.length -n) (λn=>⟨[(1,vL2 l),(2,pP 0),(5,pP 2),(7,vI i),(8,pP 4),(9,vI k),(10,some (lit (.bool (uF l u.name y n)))),(11,vI n)],[(0,adW p),(2,adP s),(4,ag1 u)],1000⟩) 0 Zc (dC _) ?_;intro n IE;by_cases hnt:n<l.length
  ·have he3:=bg (f:=df) hnt fZ;have FQ:=adV (x:=u.name) (y:=y) hnt;generalize l.getD n fZ=e at*;obtain⟨et,ew,tx⟩:=e;cases hU:uF l u.name y n
   ·rw[hU,LH]at FQ;exact K38
   ·rw[hU,Bool.true_or]at FQ;exact K38
  ·obtain rfl:n=l.length:=by omega
   generalize uF l u.name y l.length=U at*;cases U
   ·exact ah5
   ·exact ah5
 ·obtain rfl:k=s.lots.length:=by omega
  repeat' ((first|refine tX 0 ?_|exact Zt|refine bR ?_ ?_<;>intro h)<;>(try conv=>whnf))
  all_goals try(exfalso;omega)
  refine af (ι:=Nat) (λn=>n<=l.length) (λn=>l.length -n) (λn=>⟨[(1,vL2 l),(2,pP 0),(5,pP 2),(7,vI i),(8,pP 4),(14,some (lit (.bool (fF2 l u.name n)))),(15,vI n)],[(0,adW p),(2,adP s),(4,ag1 u)],1000⟩) 0 Zc (dC _) ?_;intro n IE;by_cases hnt:n<l.length
  ·have he3:=bg (f:=df) hnt fZ;have FQ:=aa6 (x:=u.name) hnt;obtain⟨vk,a,r,aw,q1,q2,q3,q4,q5,_⟩:=Ul hnt;have RG:=w2 (l.getD n fZ) (by rw[jE,nM hnt];exact oh _);rw[show decide (so u.name (l.getD n fZ).text)=decide (vk=2/\a.getD 0 []=u.name)from decide_eq_decide.2 q1.unit]at FQ;rw[q1.unit]at RG;generalize l.getD n fZ=e at*;obtain⟨et,ew,tx⟩:=e;dsimp only at q1 q2 q3 FQ RG;have c8:=jC tx K0;rw[q3]at c8;by_cases FR:vk=2
   ·subst FR;obtain⟨z,rfl⟩:=wA.1 q5;have q4:aw= [z,r]:=q4;subst q4;have c8:ad 12 [SS tx] (.aJ [(false,[.view (ab [[117,110,105,116],z,r])]),I 2,Bo true]):=c8;by_cases hzx:z=u.name
    ·subst hzx;have RG:=RG ⟨rfl,rfl⟩;rw[fH ⟨rfl,rfl⟩,Bool.or_true]at FQ;have O1:r=bP 2 tx:=q1.rest;rw[<- O1]at RG;have Xj:r.length<=100000:=by rw[O1];have:=lZ 2 tx;omega
     have c9:=ur r Xj;have RG:H7 r=(u.win,0):=RG;have c10:=wu ⟨u.win.k1,u.win.t1,u.win.s1,u.win.r1⟩ ⟨u.win.k2,u.win.t2,u.win.s2,u.win.r2⟩ u.win.st;rw[al3 RG]at c10;rw[RG]at c9;have c10:ad 21 [(true,QA u.win)] (.one (I 0)):=c10;repeat' ((first|refine tX 0 ?_|exact Zt|refine bR ?_ ?_<;>intro h)<;>(try conv=>whnf))
     all_goals first|exact Ze|(exfalso;simp_all[anF];done)|exact⟨n+1,hnt,by omega,ai (by rw[FQ];kernel_rfl)⟩
    ·rw[eT (by rintro⟨_,h⟩;exact hzx h),AP]at FQ;exact K38
   ·rw[eT (by rintro⟨h,_⟩;exact FR h),AP]at FQ;have hwd: ¬(kv.getD vk vD).1= [117,110,105,116]:=λh=>FR ((q1.no.symm.trans (aP jH ((KJ q1.no q1.lt).trans h))).trans (by rfl));generalize (kv.getD vk vD).1=wd at*;have n4:(ab (wd::aw))[0]? =some [T wd]:=rfl;have n5:(ab (wd::aw)).length =aw.length+1:=by simp
    exact K38
  ·obtain rfl:n=l.length:=by omega
   have KO:fF2 l u.name l.length=true:=by
    obtain⟨e,he1,he2⟩:=w1;unfold fF2;rw[lu,CS];exact⟨e,he1,fH he2⟩
   rw[KO];repeat' ((first|refine tX 0 ?_|exact Zt|refine bR ?_ ?_<;>intro h)<;>(try conv=>whnf))
   all_goals first|exact Ze|exact⟨i+1,ak,by omega,Zc⟩
set_option maxRecDepth 1000000
set_option maxHeartbeats 80000000
def oa:io plQ:=by constructor<;>exact Ls dp
def Fy: ∀e∈Ua,e.text.length<=100000:=Ls dp
def RD:(ee plQ Ua).2.2=0:=by kernel_rfl
abbrev nT:aj:=[116,49]
abbrev nW:aj:=[119,105,114,101]
def ag9:ad 29 [(true,bU plQ),(false,[.view (Ua.map df)]),SS nT] (.aJ [(false,[.view (ab [])]),I 0]):=
 wl (x:=nT) (k:=0) (u:=(BD plQ Ua).units.getD 0 o6) oa (λh=>OK oa h) (fP rfl) Fy K9 (w9 RD).1 (Ls dp) dp dp
def aha:ad 29 [(true,bU plQ),(false,[.view ((Ua.map df).take 7)]),SS nT] (.aJ [(false,[.view (ab [[108,111,119],[102,117,108,108]])]),I 0]):=
 wl (x:=nT) (l:=Ua.take 7) (k:=0) (u:=(BD plQ (Ua.take 7)).units.getD 0 o6) oa (λh=>OK oa h) (fP rfl) (λe he=>Fy e (FU he)) K9 (w9 (Fa RD 7)).1 (Ls dp) dp dp
def al5:ad 18 [(true,bU plQ),(false,[.view (Ua.map df)]),SS nW] (.aJ [(false,[.view (ab [nT])]),I 0]):=
 zu (x:=nW) oa (λh=>OK oa h) (fP rfl) Fy K9 (w9 RD).1 (Ls dp) (Ls dp)
def WQ:ad 8 [] (.one (Bo true)):=by
 have hu: ∀x∈Ua.map df,x.length=3:=λx hx=>by obtain⟨_,_,rfl⟩:=dN.1 hx;rfl
 have c1:=WP;have c2:=aa8;have c3:=ag9;have c4:=aha;have c5:=al5;have c6:ad 39 [I 98,I 10] (.aJ [I 80,I 0]):=Ik 98 10;have c7:=ag8;have c8:ad 41 [SS [97,98],I 0] (.aJ [I 12937,I 0]):=WO 0 [97,98] K9 K9;have t1:=It [[108,111,119],[102,117,108,108]] [[108,111,119],[102,117,108,108]] K9 K9;have t2:=It [nT] [nT] K9 K9;have hn:(Ua.map df).length =11:=rfl;rw[fH rfl]at t1 t2;generalize Ua.map df=L at*;refine sF f8 ?_;repeat' ((first|refine tX 0 ?_|exact Zt|refine bR ?_ ?_<;>intro h)<;>(try conv=>whnf))
 haveI:dK (7:Int) 7:=⟨rfl⟩;refine JG hu rfl rfl rfl rfl rfl rfl K0 ?_;conv=>whnf
 exact tA
end Go.Proofs.Tryz
