import Derived.Test.YtackacoaaihcjaaGreatDoorPkT13
set_option linter.all false
namespace Go.Proofs.Tryz
open Go.Fw Go.IntWalk Go.Plain
set_option maxRecDepth 100000
set_option maxHeartbeats 8000000
noncomputable def TG (E:qH)(p:Pl)(log:List En)(s:bK)(k:Nat)(x:aj)(a:List aj)(n:List Int)(r:aj):bK × Int:=
 if 0<=gY s x then
  (let i:=(gY s x).toNat
   let r:=aI E p log s (s.units.getD i o6) k a n r
   ({s with units:=s.units.set i r.1,hall:=if r.2=0 then(if k=10 then(s.units.getD i o6).name else if k=11 then []else s.hall)else s.hall},r.2))
 else(s,6)
def oL {E:qH}{p:Pl}{log:List En}{s:bK}{k:Nat}{x:aj}{a:List aj}{n:List Int}{r:aj}(h: ¬0<=gY s x):TG E p log s k x a n r=(s,6):=if_neg h
def aY {E:qH}{p:Pl}{log:List En}{s:bK}{k:Nat}{x:aj}{a:List aj}{n:List Int}{r:aj}{i:Nat}{u u':Un}{e:Int}(h:0<=gY s x)(h2:(gY s x).toNat =i)(h4:s.units.getD i o6=u)(hr:aI E p log s u k a n r=(u',e)):
  TG E p log s k x a n r=({s with units:=s.units.set i u',hall:=if e=0 then(if k=10 then u.name else if k=11 then []else s.hall)else s.hall},e):=by
 unfold TG
 grind
def Nq (E:qH)(p:Pl)(log:List En)(s:bK)(hl:s.units.length<=1000)(x:aj)(n:List Int)(r:aj):
  bt cx 130 1 ((false,[.ptr 1 0])::[wX [x] n r].map dyn) (form p log s) [1] (.val (dyn (I (ba E p log s 16 [x] n r).2))) (form p log (ba E p log s 16 [x] n r).1):=by
 rw[show ba E p log s 16 [x] n r=TG E p log s 16 x [x] n r from rfl];obtain⟨volt,earth,opens,hall,lots,units⟩:=s;by_cases hx:0<=gY ⟨volt,earth,opens,hall,lots,units⟩ x
 ·obtain⟨i,u,h1,h2,h3,h4,h5⟩:=jX hx;have c0:=λfid H=>k7 (fid:=fid) (H:=H) h3 hl h1;obtain⟨name,win,ul,res,failed,rel,shaken,used,gas⟩:=u;cases shaken
  ·exact ain
  ·exact ain
 ·rw[oL hx];refine gF f130 hl ?_;exact K15
def VO (E:qH)(p:Pl)(log:List En)(s:bK)(hl:s.units.length<=1000)(x:aj)(n:List Int)(r:aj):
  bt cx 124 1 ((false,[.ptr 1 0])::[wX [x] n r].map dyn) (form p log s) [1] (.val (dyn (I (ba E p log s 10 [x] n r).2))) (form p log (ba E p log s 10 [x] n r).1):=by
 rw[show ba E p log s 10 [x] n r=TG E p log s 10 x [x] n r from rfl];obtain⟨volt,earth,opens,hall,lots,units⟩:=s;by_cases hx:0<=gY ⟨volt,earth,opens,hall,lots,units⟩ x
 ·obtain⟨i,u,h1,h2,h3,h4,h5⟩:=jX hx;have c0:=λfid H=>k7 (fid:=fid) (H:=H) h3 hl h1;obtain⟨name,win,ul,res,failed,rel,shaken,used,gas⟩:=u
  cases rel<;>rcases hall with _|⟨h,hs⟩<;>rcases opens with _|⟨o,os⟩
  ·rw[aY hx h2 h4 (show aI E p log ⟨volt,earth,[],[],lots,units⟩ _ 10 [x] n r=(_,_)from rfl)];exact Px
  ·rw[aY hx h2 h4 (show aI E p log ⟨volt,earth,o::os,[],lots,units⟩ _ 10 [x] n r=(_,_)from rfl)];refine gI f124 h3 hl rfl ?_;exact K18
  ·rw[aY hx h2 h4 (show aI E p log ⟨volt,earth,[],h::hs,lots,units⟩ _ 10 [x] n r=(_,_)from rfl)];exact Px
  ·rw[aY hx h2 h4 (show aI E p log ⟨volt,earth,o::os,h::hs,lots,units⟩ _ 10 [x] n r=(_,_)from rfl)];exact Px
  ·rw[aY hx h2 h4 (show aI E p log ⟨volt,earth,[],[],lots,units⟩ _ 10 [x] n r=(_,_)from rfl)];exact Px
  ·rw[aY hx h2 h4 (show aI E p log ⟨volt,earth,o::os,[],lots,units⟩ _ 10 [x] n r=(_,_)from rfl)];exact Px
  ·rw[aY hx h2 h4 (show aI E p log ⟨volt,earth,[],h::hs,lots,units⟩ _ 10 [x] n r=(_,_)from rfl)];exact Px
  ·rw[aY hx h2 h4 (show aI E p log ⟨volt,earth,o::os,h::hs,lots,units⟩ _ 10 [x] n r=(_,_)from rfl)];exact Px
 ·rw[oL hx];refine gF f124 hl ?_;exact K15
def VP (E:qH)(p:Pl)(log:List En)(s:bK)(hl:s.units.length<=1000)(x:aj)(n:List Int)(r:aj):
  bt cx 125 1 ((false,[.ptr 1 0])::[wX [x] n r].map dyn) (form p log s) [1] (.val (dyn (I (ba E p log s 11 [x] n r).2))) (form p log (ba E p log s 11 [x] n r).1):=by
 rw[show ba E p log s 11 [x] n r=TG E p log s 11 x [x] n r from rfl];obtain⟨volt,earth,opens,hall,lots,units⟩:=s;by_cases hx:0<=gY ⟨volt,earth,opens,hall,lots,units⟩ x
 ·obtain⟨i,u,h1,h2,h3,h4,h5⟩:=jX hx;have c0:=λfid H=>k7 (fid:=fid) (H:=H) h3 hl h1;obtain⟨name,win,ul,res,failed,rel,shaken,used,gas⟩:=u;by_cases hh:hall=name
  ·subst hh;rcases opens with _|⟨o,os⟩
   ·rw[aY hx h2 h4 (show aI E p log ⟨volt,earth,[],hall,lots,units⟩ _ 11 [x] n r=(_,_)from if_pos rfl)];refine gI f125 h3 hl rfl ?_;exact K18
   ·rw[aY hx h2 h4 (show aI E p log ⟨volt,earth,o::os,hall,lots,units⟩ _ 11 [x] n r=(_,_)from if_pos rfl)];refine gI f125 h3 hl rfl ?_;exact K18
  ·rcases opens with _|⟨o,os⟩
   ·rw[aY hx h2 h4 (show aI E p log ⟨volt,earth,[],hall,lots,units⟩ _ 11 [x] n r=(_,_)from if_neg hh)];exact K31
   ·rw[aY hx h2 h4 (show aI E p log ⟨volt,earth,o::os,hall,lots,units⟩ _ 11 [x] n r=(_,_)from if_neg hh)];exact K31
 ·rw[oL hx];refine gF f125 hl ?_;exact K15
def ac2 (E:qH)(p:Pl)(log:List En)(s:bK)(hl:s.units.length<=1000)(x y:aj)(n:List Int)(r:aj)(hs:s.lots.length<=1000)(hu: ∀u∈s.units,u.lots.length<=1000):
  bt cx 117 1 ((false,[.ptr 1 0])::[wX [x,y] n r].map dyn) (form p log s) [1] (.val (dyn (I (ba E p log s 3 [x,y] n r).2))) (form p log (ba E p log s 3 [x,y] n r).1):=by
 rw[show ba E p log s 3 [x,y] n r=TG E p log s 3 x [x,y] n r from rfl];obtain⟨volt,earth,opens,hall,lots,units⟩:=s;have hs:lots.length<=1000:=hs;have c1:=bD lots y K0;by_cases hx:0<=gY ⟨volt,earth,opens,hall,lots,units⟩ x
 ·obtain⟨i,u,h1,h2,h3,h4,h5⟩:=jX hx;have c0:=λfid H=>k7 (fid:=fid) (H:=H) h3 hl h1;have hu:=hu u (jt h3);obtain⟨name,win,ul,res,failed,rel,shaken,used,gas⟩:=u;have hu:ul.length<=1000:=hu;have c2:=bD ul y K0;by_cases hm:y∈lots
  ·rw[fH hm]at c1;by_cases hn:y∈ul
   ·rw[fH hn]at c2;cases rel
    ·rw[aY hx h2 h4 (show aI E p log ⟨volt,earth,opens,hall,lots,units⟩ _ 3 [x,y] n r=(_,_)from(if_pos hm).trans (if_pos hn))];exact afQ
    ·exact aie
   ·rw[eT hn]at c2;cases rel
    ·rw[aY hx h2 h4 (show aI E p log ⟨volt,earth,opens,hall,lots,units⟩ _ 3 [x,y] n r=(_,_)from(if_pos hm).trans (if_neg hn))];exact afQ
    ·exact aie
  ·rw[eT hm]at c1;rw[aY hx h2 h4 (show aI E p log ⟨volt,earth,opens,hall,lots,units⟩ _ 3 [x,y] n r=(_,_)from if_neg hm)];exact afQ
 ·rw[oL hx];refine gF f117 hl ?_;exact K15
abbrev UR (u:Un):SV:=(false,[.ref (jQ u)])
abbrev wkA (p:Pl)(log:List En):List SC:=[.view (p.ae.map m9),.view (ab p.ap),.view (p.aa.map fC),.view (p.parts.map mi),J p.dW,J p.eH,.view (log.map df),.any,.any,.any,.any,.any,.any]
abbrev WR (p:Pl)(log:List En):SV:=(false,[.ref (wkA p log)])
def ug (u:Un)(t:aj)(hl:u.res.length<=1000000):ad 154 [UR u,SS t] (.one (Bo (bH u.res t))):=by
 have c1:=Nr (T u.name) (J u.win.k1) (J u.win.t1) (J u.win.s1) (K u.win.r1) (J u.win.k2) (J u.win.t2) (J u.win.s2) (K u.win.r2) (J u.win.st) (.view (ab u.lots)) u.res [K u.failed,K u.rel,K u.shaken,J u.used,.view (u.gas.map uV)] t hl;unfold bH
 cases h:iM u.res t with
 |none=>
  rw[h]at c1;refine sF f154 ?_;exact K41
 |some r=>
  rw[h]at c1;refine sF f154 ?_;repeat' ((first|refine tX 0 ?_|exact Zt|refine bR ?_ ?_<;>intro h)<;>(try conv=>whnf))
  all_goals exact gX (by simp)
def Ey {p:Pl}{l:List Rs}{i:Nat}(h:i<p.aa.length):((cO p.aa).take (i+1)).filter (λt=> !bH l t)=((cO p.aa).take i).filter (λt=> !bH l t)++(if bH l (p.aa.getD i dt).name then []else [(p.aa.getD i dt).name]):=by
 have e:(cO p.aa).take (i+1)=(cO p.aa).take i++[(p.aa.getD i dt).name]:=by
  rw[take_succ (by simpa [cO]using h)];congr 2;simp[cO,jE,h]
 rw[e,Sv];congr 1;generalize (p.aa.getD i dt).name =m;cases hv:bH l m<;>simp[hv]
def Ns (p:Pl)(log:List En)(u:Un)(hp:p.aa.length<=1000)(hl:u.res.length<=1000000):ad 79 [WR p log,UR u] (.own 1 (.view (ab (tO p u.res)))):=by
 have hn:(p.aa.map fC).length =p.aa.length:=by simp
 refine sF f79 ?_
 (try(refine tX 0 ?_;try exact Zt))
 refine af (ι:=Nat) (λi=>i<=p.aa.length) (λi=>p.aa.length -i) (λi=>⟨[(1,some (.val (false,[.st (.ref (jQ u))]))),(5,pO 0),(12,some (.val (false,[.st (.view (p.aa.map fC))]))),(13,vI p.aa.length),(14,vI i)],[(0,some (.row true 1 (.view (ab (((cO p.aa).take i).filter λt=> !bH u.res t)))))],1⟩) 0
  (bs.trans (jz 5 1 (.view []) K9 rfl rfl rfl) (ai Pv)) (dC _) ?_
 intro i hi;by_cases ak:i<p.aa.length
 ·have he:=iN ak;have xB:=Ey (l:=u.res) ak;have hc:=ug u (p.aa.getD i dt).name hl;have WZ:(((cO p.aa).take i).filter λt=> !bH u.res t).length <=i:=o3 (UA _ _) wG;generalize ((cO p.aa).take i).filter (λt=> !bH u.res t)=out at*;generalize p.aa.getD i dt=t at*
  rcases t with⟨nm,kd,nd,ru,lo,kA⟩;have he:(p.aa.map fC)[i]? =some [T nm,J kd,.view (ab nd),T ru,J lo,J kA]:=he;dsimp only at xB hc;have hol:(ab out).length =out.length:=by simp
  cases hv:bH u.res nm
  ·rw[hv]at hc xB;rw[if_neg K9]at xB;exact K22
  ·rw[hv]at hc xB;rw[if_pos rfl,zP]at xB;exact K30
 ·exact aio
def Qy (u:Un)(t:aj)(hl:u.res.length<=1000000):ad 228 [SS t,(false,[.ref [.ref (jQ u)]])] (.one (Bo (!bH u.res t))):=by
 have c1:=ug u t hl;refine sF f228 ?_;exact K1
def H6 (r:List Rs)(l:List aj):Int:=if l.all (bH r)then -1 else(l.findIdx (λt=> !bH r t):Nat)
end Go.Proofs.Tryz
