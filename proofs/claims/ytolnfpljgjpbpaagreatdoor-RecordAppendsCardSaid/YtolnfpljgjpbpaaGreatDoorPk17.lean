import Derived.Test.YtolnfpljgjpbpaaGreatDoorPk14
set_option linter.all false
namespace Go.Proofs.Tryz
open Go.Fw Go.IntWalk Go.Plain
set_option maxRecDepth 100000
set_option maxHeartbeats 8000000
noncomputable def T6 (E:to)(p:Pl)(log:List En)(s:bV)(k:Nat)(x:aj)(a:List aj)(n:List Int)(r:aj):bV × Int:=
 if 0<=iB s x then
  (let i:=(iB s x).toNat
   let r:=aQ E p log s (s.units.getD i pA) k a n r
   ({s with units:=s.units.set i r.1,hall:=if r.2=0 then(if k=10 then(s.units.getD i pA).name else if k=11 then []else s.hall)else s.hall},r.2))
 else(s,6)
def oV {E:to}{p:Pl}{log:List En}{s:bV}{k:Nat}{x:aj}{a:List aj}{n:List Int}{r:aj}(h: ¬0<=iB s x):T6 E p log s k x a n r=(s,6):=if_neg h
def aY {E:to}{p:Pl}{log:List En}{s:bV}{k:Nat}{x:aj}{a:List aj}{n:List Int}{r:aj}{i:Nat}{u u':Un}{e:Int}(h:0<=iB s x)(h2:(iB s x).toNat =i)(h4:s.units.getD i pA=u)(hr:aQ E p log s u k a n r=(u',e)):
  T6 E p log s k x a n r=({s with units:=s.units.set i u',hall:=if e=0 then(if k=10 then u.name else if k=11 then []else s.hall)else s.hall},e):=by
 unfold T6
 grind
def NU (E:to)(p:Pl)(log:List En)(s:bV)(hl:s.units.length<=1000)(x:aj)(n:List Int)(r:aj):
  bA cx 117 1 ((false,[.ptr 1 0])::[xp [x] n r].map dyn) (form p log s) [1] (.val (dyn (I (bm E p log s 16 [x] n r).2))) (form p log (bm E p log s 16 [x] n r).1):=by
 rw[show bm E p log s 16 [x] n r=T6 E p log s 16 x [x] n r from rfl];obtain⟨volt,earth,opens,hall,lots,units⟩:=s;by_cases hx:0<=iB ⟨volt,earth,opens,hall,lots,units⟩ x
 ·obtain⟨i,u,h1,h2,h3,h4,h5⟩:=j7 hx;have c0:=λfid H=>ld (fid:=fid) (H:=H) h3 hl h1;obtain⟨name,win,ul,res,failed,rel,shaken,used,gas⟩:=u;cases shaken
  ·exact ah6
  ·exact ah6
 ·rw[oV hx];refine gF f117 hl ?_;exact K12
def Wb (E:to)(p:Pl)(log:List En)(s:bV)(hl:s.units.length<=1000)(x:aj)(n:List Int)(r:aj):
  bA cx 111 1 ((false,[.ptr 1 0])::[xp [x] n r].map dyn) (form p log s) [1] (.val (dyn (I (bm E p log s 10 [x] n r).2))) (form p log (bm E p log s 10 [x] n r).1):=by
 rw[show bm E p log s 10 [x] n r=T6 E p log s 10 x [x] n r from rfl];obtain⟨volt,earth,opens,hall,lots,units⟩:=s;by_cases hx:0<=iB ⟨volt,earth,opens,hall,lots,units⟩ x
 ·obtain⟨i,u,h1,h2,h3,h4,h5⟩:=j7 hx;have c0:=λfid H=>ld (fid:=fid) (H:=H) h3 hl h1;obtain⟨name,win,ul,res,failed,rel,shaken,used,gas⟩:=u
  cases rel<;>rcases hall with _|⟨h,hs⟩<;>rcases opens with _|⟨o,os⟩
  ·rw[aY hx h2 h4 (show aQ E p log ⟨volt,earth,[],[],lots,units⟩ _ 10 [x] n r=(_,_)from rfl)];exact P5
  ·rw[aY hx h2 h4 (show aQ E p log ⟨volt,earth,o::os,[],lots,units⟩ _ 10 [x] n r=(_,_)from rfl)];refine gI f111 h3 hl rfl ?_;exact K16
  ·rw[aY hx h2 h4 (show aQ E p log ⟨volt,earth,[],h::hs,lots,units⟩ _ 10 [x] n r=(_,_)from rfl)];exact P5
  ·rw[aY hx h2 h4 (show aQ E p log ⟨volt,earth,o::os,h::hs,lots,units⟩ _ 10 [x] n r=(_,_)from rfl)];exact P5
  ·rw[aY hx h2 h4 (show aQ E p log ⟨volt,earth,[],[],lots,units⟩ _ 10 [x] n r=(_,_)from rfl)];exact P5
  ·rw[aY hx h2 h4 (show aQ E p log ⟨volt,earth,o::os,[],lots,units⟩ _ 10 [x] n r=(_,_)from rfl)];exact P5
  ·rw[aY hx h2 h4 (show aQ E p log ⟨volt,earth,[],h::hs,lots,units⟩ _ 10 [x] n r=(_,_)from rfl)];exact P5
  ·rw[aY hx h2 h4 (show aQ E p log ⟨volt,earth,o::os,h::hs,lots,units⟩ _ 10 [x] n r=(_,_)from rfl)];exact P5
 ·rw[oV hx];refine gF f111 hl ?_;exact K12
def Wc (E:to)(p:Pl)(log:List En)(s:bV)(hl:s.units.length<=1000)(x:aj)(n:List Int)(r:aj):
  bA cx 112 1 ((false,[.ptr 1 0])::[xp [x] n r].map dyn) (form p log s) [1] (.val (dyn (I (bm E p log s 11 [x] n r).2))) (form p log (bm E p log s 11 [x] n r).1):=by
 rw[show bm E p log s 11 [x] n r=T6 E p log s 11 x [x] n r from rfl];obtain⟨volt,earth,opens,hall,lots,units⟩:=s;by_cases hx:0<=iB ⟨volt,earth,opens,hall,lots,units⟩ x
 ·obtain⟨i,u,h1,h2,h3,h4,h5⟩:=j7 hx;have c0:=λfid H=>ld (fid:=fid) (H:=H) h3 hl h1;obtain⟨name,win,ul,res,failed,rel,shaken,used,gas⟩:=u;by_cases hh:hall=name
  ·subst hh;rcases opens with _|⟨o,os⟩
   ·rw[aY hx h2 h4 (show aQ E p log ⟨volt,earth,[],hall,lots,units⟩ _ 11 [x] n r=(_,_)from if_pos rfl)];refine gI f112 h3 hl rfl ?_;exact K16
   ·rw[aY hx h2 h4 (show aQ E p log ⟨volt,earth,o::os,hall,lots,units⟩ _ 11 [x] n r=(_,_)from if_pos rfl)];refine gI f112 h3 hl rfl ?_;exact K16
  ·rcases opens with _|⟨o,os⟩
   ·rw[aY hx h2 h4 (show aQ E p log ⟨volt,earth,[],hall,lots,units⟩ _ 11 [x] n r=(_,_)from if_neg hh)];exact K26
   ·rw[aY hx h2 h4 (show aQ E p log ⟨volt,earth,o::os,hall,lots,units⟩ _ 11 [x] n r=(_,_)from if_neg hh)];exact K26
 ·rw[oV hx];refine gF f112 hl ?_;exact K12
def adi (E:to)(p:Pl)(log:List En)(s:bV)(hl:s.units.length<=1000)(x y:aj)(n:List Int)(r:aj)(hs:s.lots.length<=1000)(hu: ∀u∈s.units,u.lots.length<=1000):
  bA cx 104 1 ((false,[.ptr 1 0])::[xp [x,y] n r].map dyn) (form p log s) [1] (.val (dyn (I (bm E p log s 3 [x,y] n r).2))) (form p log (bm E p log s 3 [x,y] n r).1):=by
 rw[show bm E p log s 3 [x,y] n r=T6 E p log s 3 x [x,y] n r from rfl];obtain⟨volt,earth,opens,hall,lots,units⟩:=s;have hs:lots.length<=1000:=hs;have c1:=bG lots y K0;by_cases hx:0<=iB ⟨volt,earth,opens,hall,lots,units⟩ x
 ·obtain⟨i,u,h1,h2,h3,h4,h5⟩:=j7 hx;have c0:=λfid H=>ld (fid:=fid) (H:=H) h3 hl h1;have hu:=hu u (jH h3);obtain⟨name,win,ul,res,failed,rel,shaken,used,gas⟩:=u;have hu:ul.length<=1000:=hu;have c2:=bG ul y K0;by_cases hm:y∈lots
  ·rw[fh hm]at c1;by_cases hn:y∈ul
   ·rw[fh hn]at c2;cases rel
    ·rw[aY hx h2 h4 (show aQ E p log ⟨volt,earth,opens,hall,lots,units⟩ _ 3 [x,y] n r=(_,_)from(if_pos hm).trans (if_pos hn))];exact afK
    ·exact ahX
   ·rw[eJ hn]at c2;cases rel
    ·rw[aY hx h2 h4 (show aQ E p log ⟨volt,earth,opens,hall,lots,units⟩ _ 3 [x,y] n r=(_,_)from(if_pos hm).trans (if_neg hn))];exact afK
    ·exact ahX
  ·rw[eJ hm]at c1;rw[aY hx h2 h4 (show aQ E p log ⟨volt,earth,opens,hall,lots,units⟩ _ 3 [x,y] n r=(_,_)from if_neg hm)];exact afK
 ·rw[oV hx];refine gF f104 hl ?_;exact K12
abbrev UR (u:Un):SV:=(false,[.ref (jB u)])
abbrev wkA (p:Pl)(log:List En):List SC:=[.view (p.ae.map nh),.view (ab p.ap),.view (p.aa.map fB),.view (p.parts.map mj),J p.dY,J p.eH,.view (log.map cd),.any,.any,.any,.any,.any,.any]
abbrev WR (p:Pl)(log:List En):SV:=(false,[.ref (wkA p log)])
def uK (u:Un)(t:aj)(hl:u.res.length<=1000000):ac 63 [UR u,SS t] (.one (Bo (bK u.res t))):=by
 have c1:=NV (T u.name) (J u.win.k1) (J u.win.t1) (J u.win.s1) (K u.win.r1) (J u.win.k2) (J u.win.t2) (J u.win.s2) (K u.win.r2) (J u.win.st) (.view (ab u.lots)) u.res [K u.failed,K u.rel,K u.shaken,J u.used,.view (u.gas.map tp)] t hl;unfold bK
 cases h:iO u.res t with
 |none=>
  rw[h]at c1;refine sF f63 ?_;exact K34
 |some r=>
  rw[h]at c1;refine sF f63 ?_;repeat' ((first|refine tX 0 ?_|exact Zt|refine bR ?_ ?_<;>intro h)<;>(try conv=>whnf))
  all_goals exact gS (by simp)
def E2 {p:Pl}{l:List Rs}{i:Nat}(h:i<p.aa.length):((cU p.aa).take (i+1)).filter (λt=> !bK l t)=((cU p.aa).take i).filter (λt=> !bK l t)++(if bK l (p.aa.getD i dl).name then []else [(p.aa.getD i dl).name]):=by
 have e:(cU p.aa).take (i+1)=(cU p.aa).take i++[(p.aa.getD i dl).name]:=by
  rw[take_succ (by simpa [cU]using h)];congr 2;simp[cU,jX,h]
 rw[e,SR];congr 1;generalize (p.aa.getD i dl).name =m;cases hv:bK l m<;>simp[hv]
def NW (p:Pl)(log:List En)(u:Un)(hp:p.aa.length<=1000)(hl:u.res.length<=1000000):ac 37 [WR p log,UR u] (.own 1 (.view (ab (uA p u.res)))):=by
 have hn:(p.aa.map fB).length =p.aa.length:=by simp
 refine sF f37 ?_
 (try(refine tX 0 ?_;try exact Zt))
 refine af (ι:=Nat) (λi=>i<=p.aa.length) (λi=>p.aa.length -i) (λi=>⟨[(1,some (.val (false,[.st (.ref (jB u))]))),(5,pO 0),(12,some (.val (false,[.st (.view (p.aa.map fB))]))),(13,vI p.aa.length),(14,vI i)],[(0,some (.row true 1 (.view (ab (((cU p.aa).take i).filter λt=> !bK u.res t)))))],1⟩) 0
  (bu.trans (jz 5 1 (.view []) bX rfl rfl rfl) (ai P3)) (dz _) ?_
 intro i hi;by_cases al:i<p.aa.length
 ·have he:=iP al;have xR:=E2 (l:=u.res) al;have hc:=uK u (p.aa.getD i dl).name hl;have PP:(((cU p.aa).take i).filter λt=> !bK u.res t).length <=i:=pf (L3 _ _) wY;generalize ((cU p.aa).take i).filter (λt=> !bK u.res t)=out at*;generalize p.aa.getD i dl=t at*
  rcases t with⟨nm,kd,nd,ru,lo,lA⟩;have he:(p.aa.map fB)[i]? =some [T nm,J kd,.view (ab nd),T ru,J lo,J lA]:=he;dsimp only at xR hc;have hol:(ab out).length =out.length:=by simp
  cases hv:bK u.res nm
  ·rw[hv]at hc xR;rw[if_neg bX]at xR;exact K19
  ·rw[hv]at hc xR;rw[if_pos rfl,yb]at xR;exact K25
 ·exact ah7
def Q2 (u:Un)(t:aj)(hl:u.res.length<=1000000):ac 177 [SS t,(false,[.ref [.ref (jB u)]])] (.one (Bo (!bK u.res t))):=by
 have c1:=uK u t hl;refine sF f177 ?_;exact K1
def IH (r:List Rs)(l:List aj):Int:=if l.all (bK r)then -1 else(l.findIdx (λt=> !bK r t):Nat)
end Go.Proofs.Tryz
