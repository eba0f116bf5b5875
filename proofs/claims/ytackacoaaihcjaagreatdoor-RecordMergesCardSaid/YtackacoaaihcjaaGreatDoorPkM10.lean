import Derived.Test.YtackacoaaihcjaaGreatDoorPkM5
set_option linter.all false
set_option maxRecDepth 100000
set_option maxHeartbeats 8000000
namespace Go.Proofs.Tryz
open Go.Fw Go.IntWalk Go.Plain
noncomputable def TS (E:uj)(p:Pl)(log:List En)(s:bP)(k:Nat)(x:aj)(a:List aj)(n:List Int)(r:aj):bP × Int:=
 if 0<=io s x then
  (let i:=(io s x).toNat
   let r:=aU E p log s (s.units.getD i qa) k a n r
   ({s with units:=s.units.set i r.1,hall:=if r.2=0 then(if k=10 then(s.units.getD i qa).name else if k=11 then []else s.hall)else s.hall},r.2))
 else(s,6)
def oW {E:uj}{p:Pl}{log:List En}{s:bP}{k:Nat}{x:aj}{a:List aj}{n:List Int}{r:aj}(h: ¬0<=io s x):TS E p log s k x a n r=(s,6):=if_neg h
def ba {E:uj}{p:Pl}{log:List En}{s:bP}{k:Nat}{x:aj}{a:List aj}{n:List Int}{r:aj}{i:Nat}{u u':Un}{e:Int}(h:0<=io s x)(h2:(io s x).toNat =i)(h4:s.units.getD i qa=u)(hr:aU E p log s u k a n r=(u',e)):
  TS E p log s k x a n r=({s with units:=s.units.set i u',hall:=if e=0 then(if k=10 then u.name else if k=11 then []else s.hall)else s.hall},e):=by
 unfold TS
 grind
def Nw (E:uj)(p:Pl)(log:List En)(s:bP)(hl:s.units.length<=1000)(x:aj)(n:List Int)(r:aj):
  bx cx 130 1 ((false,[.ptr 1 0])::[w7 [x] n r].map dyn) (form p log s) [1] (.val (dyn (I (bs E p log s 16 [x] n r).2))) (form p log (bs E p log s 16 [x] n r).1):=by
 rw[show bs E p log s 16 [x] n r=TS E p log s 16 x [x] n r from rfl];obtain⟨volt,earth,opens,hall,lots,units⟩:=s;by_cases hx:0<=io ⟨volt,earth,opens,hall,lots,units⟩ x
 ·obtain⟨i,u,h1,h2,h3,h4,h5⟩:=j0 hx;have c0:=λfid H=>lf (fid:=fid) (H:=H) h3 hl h1;obtain⟨name,win,ul,res,failed,rel,shaken,used,gas⟩:=u;cases shaken
  ·exact aix
  ·exact aix
 ·rw[oW hx];refine gF f130 hl ?_;exact K15
def V6 (E:uj)(p:Pl)(log:List En)(s:bP)(hl:s.units.length<=1000)(x:aj)(n:List Int)(r:aj):
  bx cx 124 1 ((false,[.ptr 1 0])::[w7 [x] n r].map dyn) (form p log s) [1] (.val (dyn (I (bs E p log s 10 [x] n r).2))) (form p log (bs E p log s 10 [x] n r).1):=by
 rw[show bs E p log s 10 [x] n r=TS E p log s 10 x [x] n r from rfl];obtain⟨volt,earth,opens,hall,lots,units⟩:=s;by_cases hx:0<=io ⟨volt,earth,opens,hall,lots,units⟩ x
 ·obtain⟨i,u,h1,h2,h3,h4,h5⟩:=j0 hx;have c0:=λfid H=>lf (fid:=fid) (H:=H) h3 hl h1;obtain⟨name,win,ul,res,failed,rel,shaken,used,gas⟩:=u
  cases rel<;>rcases hall with _|⟨h,hs⟩<;>rcases opens with _|⟨o,os⟩
  ·rw[ba hx h2 h4 (show aU E p log ⟨volt,earth,[],[],lots,units⟩ _ 10 [x] n r=(_,_)from rfl)];exact PG
  ·rw[ba hx h2 h4 (show aU E p log ⟨volt,earth,o::os,[],lots,units⟩ _ 10 [x] n r=(_,_)from rfl)];refine gI f124 h3 hl rfl ?_;exact K18
  ·rw[ba hx h2 h4 (show aU E p log ⟨volt,earth,[],h::hs,lots,units⟩ _ 10 [x] n r=(_,_)from rfl)];exact PG
  ·rw[ba hx h2 h4 (show aU E p log ⟨volt,earth,o::os,h::hs,lots,units⟩ _ 10 [x] n r=(_,_)from rfl)];exact PG
  ·rw[ba hx h2 h4 (show aU E p log ⟨volt,earth,[],[],lots,units⟩ _ 10 [x] n r=(_,_)from rfl)];exact PG
  ·rw[ba hx h2 h4 (show aU E p log ⟨volt,earth,o::os,[],lots,units⟩ _ 10 [x] n r=(_,_)from rfl)];exact PG
  ·rw[ba hx h2 h4 (show aU E p log ⟨volt,earth,[],h::hs,lots,units⟩ _ 10 [x] n r=(_,_)from rfl)];exact PG
  ·rw[ba hx h2 h4 (show aU E p log ⟨volt,earth,o::os,h::hs,lots,units⟩ _ 10 [x] n r=(_,_)from rfl)];exact PG
 ·rw[oW hx];refine gF f124 hl ?_;exact K15
def V7 (E:uj)(p:Pl)(log:List En)(s:bP)(hl:s.units.length<=1000)(x:aj)(n:List Int)(r:aj):
  bx cx 125 1 ((false,[.ptr 1 0])::[w7 [x] n r].map dyn) (form p log s) [1] (.val (dyn (I (bs E p log s 11 [x] n r).2))) (form p log (bs E p log s 11 [x] n r).1):=by
 rw[show bs E p log s 11 [x] n r=TS E p log s 11 x [x] n r from rfl];obtain⟨volt,earth,opens,hall,lots,units⟩:=s;by_cases hx:0<=io ⟨volt,earth,opens,hall,lots,units⟩ x
 ·obtain⟨i,u,h1,h2,h3,h4,h5⟩:=j0 hx;have c0:=λfid H=>lf (fid:=fid) (H:=H) h3 hl h1;obtain⟨name,win,ul,res,failed,rel,shaken,used,gas⟩:=u;by_cases hh:hall=name
  ·subst hh;rcases opens with _|⟨o,os⟩
   ·rw[ba hx h2 h4 (show aU E p log ⟨volt,earth,[],hall,lots,units⟩ _ 11 [x] n r=(_,_)from if_pos rfl)];refine gI f125 h3 hl rfl ?_;exact K18
   ·rw[ba hx h2 h4 (show aU E p log ⟨volt,earth,o::os,hall,lots,units⟩ _ 11 [x] n r=(_,_)from if_pos rfl)];refine gI f125 h3 hl rfl ?_;exact K18
  ·rcases opens with _|⟨o,os⟩
   ·rw[ba hx h2 h4 (show aU E p log ⟨volt,earth,[],hall,lots,units⟩ _ 11 [x] n r=(_,_)from if_neg hh)];exact K31
   ·rw[ba hx h2 h4 (show aU E p log ⟨volt,earth,o::os,hall,lots,units⟩ _ 11 [x] n r=(_,_)from if_neg hh)];exact K31
 ·rw[oW hx];refine gF f125 hl ?_;exact K15
def adm (E:uj)(p:Pl)(log:List En)(s:bP)(hl:s.units.length<=1000)(x y:aj)(n:List Int)(r:aj)(hs:s.lots.length<=1000)(hu: ∀u∈s.units,u.lots.length<=1000):
  bx cx 117 1 ((false,[.ptr 1 0])::[w7 [x,y] n r].map dyn) (form p log s) [1] (.val (dyn (I (bs E p log s 3 [x,y] n r).2))) (form p log (bs E p log s 3 [x,y] n r).1):=by
 rw[show bs E p log s 3 [x,y] n r=TS E p log s 3 x [x,y] n r from rfl];obtain⟨volt,earth,opens,hall,lots,units⟩:=s;have hs:lots.length<=1000:=hs;have c1:=bI lots y K0;by_cases hx:0<=io ⟨volt,earth,opens,hall,lots,units⟩ x
 ·obtain⟨i,u,h1,h2,h3,h4,h5⟩:=j0 hx;have c0:=λfid H=>lf (fid:=fid) (H:=H) h3 hl h1;have hu:=hu u (jI h3);obtain⟨name,win,ul,res,failed,rel,shaken,used,gas⟩:=u;have hu:ul.length<=1000:=hu;have c2:=bI ul y K0;by_cases hm:y∈lots
  ·rw[fL hm]at c1;by_cases hn:y∈ul
   ·rw[fL hn]at c2;cases rel
    ·rw[ba hx h2 h4 (show aU E p log ⟨volt,earth,opens,hall,lots,units⟩ _ 3 [x,y] n r=(_,_)from(if_pos hm).trans (if_pos hn))];exact af2
    ·exact aio
   ·rw[fj hn]at c2;cases rel
    ·rw[ba hx h2 h4 (show aU E p log ⟨volt,earth,opens,hall,lots,units⟩ _ 3 [x,y] n r=(_,_)from(if_pos hm).trans (if_neg hn))];exact af2
    ·exact aio
  ·rw[fj hm]at c1;rw[ba hx h2 h4 (show aU E p log ⟨volt,earth,opens,hall,lots,units⟩ _ 3 [x,y] n r=(_,_)from if_neg hm)];exact af2
 ·rw[oW hx];refine gF f117 hl ?_;exact K15
abbrev UR (u:Un):SV:=(false,[.ref (ky u)])
abbrev wkA (p:Pl)(log:List En):List SC:=[.view (p.ae.map nh),.view (ab p.ap),.view (p.aa.map fD),.view (p.parts.map mj),J p.dZ,J p.eK,.view (log.map be),.any,.any,.any,.any,.any,.any]
abbrev WR (p:Pl)(log:List En):SV:=(false,[.ref (wkA p log)])
def uz (u:Un)(t:aj)(hl:u.res.length<=1000000):ac 154 [UR u,SS t] (.one (Bo (bL u.res t))):=by
 have c1:=Nx (T u.name) (J u.win.k1) (J u.win.t1) (J u.win.s1) (K u.win.r1) (J u.win.k2) (J u.win.t2) (J u.win.s2) (K u.win.r2) (J u.win.st) (.view (ab u.lots)) u.res [K u.failed,K u.rel,K u.shaken,J u.used,.view (u.gas.map vh)] t hl;unfold bL
 cases h:iT u.res t with
 |none=>
  rw[h]at c1;refine sF f154 ?_;exact K40
 |some r=>
  rw[h]at c1;refine sF f154 ?_;repeat' ((first|refine tX 0 ?_|exact Zt|refine bR ?_ ?_<;>intro h)<;>(try conv=>whnf))
  all_goals exact gX (by simp)
def EA {p:Pl}{l:List Rs}{i:Nat}(h:i<p.aa.length):((cS p.aa).take (i+1)).filter (λt=> !bL l t)=((cS p.aa).take i).filter (λt=> !bL l t)++(if bL l (p.aa.getD i dz).name then []else [(p.aa.getD i dz).name]):=by
 have e:(cS p.aa).take (i+1)=(cS p.aa).take i++[(p.aa.getD i dz).name]:=by
  rw[take_succ (by simpa [cS]using h)];congr 2;simp[cS,jN,h]
 rw[e,SG];congr 1;generalize (p.aa.getD i dz).name =m;cases hv:bL l m<;>simp[hv]
def Ny (p:Pl)(log:List En)(u:Un)(hp:p.aa.length<=1000)(hl:u.res.length<=1000000):ac 79 [WR p log,UR u] (.own 1 (.view (ab (ui p u.res)))):=by
 have hn:(p.aa.map fD).length =p.aa.length:=by simp
 refine sF f79 ?_
 (try(refine tX 0 ?_;try exact Zt))
 refine af (ι:=Nat) (λi=>i<=p.aa.length) (λi=>p.aa.length -i) (λi=>⟨[(1,some (.val (false,[.st (.ref (ky u))]))),(5,pO 0),(12,some (.val (false,[.st (.view (p.aa.map fD))]))),(13,vI p.aa.length),(14,vI i)],[(0,some (.row true 1 (.view (ab (((cS p.aa).take i).filter λt=> !bL u.res t)))))],1⟩) 0
  (bp.trans (iG 5 1 (.view []) K9 rfl rfl rfl) (ai PF)) (dD _) ?_
 intro i hi;by_cases ak:i<p.aa.length
 ·have he:=iU ak;have xG:=EA (l:=u.res) ak;have hc:=uz u (p.aa.getD i dz).name hl;have Xl:(((cS p.aa).take i).filter λt=> !bL u.res t).length <=i:=pd (LC _ _) wa;generalize ((cS p.aa).take i).filter (λt=> !bL u.res t)=out at*;generalize p.aa.getD i dz=t at*
  rcases t with⟨nm,kd,nd,ru,lo,lA⟩;have he:(p.aa.map fD)[i]? =some [T nm,J kd,.view (ab nd),T ru,J lo,J lA]:=he;dsimp only at xG hc;have hol:(ab out).length =out.length:=by simp
  cases hv:bL u.res nm
  ·rw[hv]at hc xG;rw[if_neg K9]at xG;exact K22
  ·rw[hv]at hc xG;rw[if_pos rfl,xS]at xG;exact K30
 ·exact aiy
def QG (u:Un)(t:aj)(hl:u.res.length<=1000000):ac 228 [SS t,(false,[.ref [.ref (ky u)]])] (.one (Bo (!bL u.res t))):=by
 have c1:=uz u t hl;refine sF f228 ?_;exact K1
def Ic (r:List Rs)(l:List aj):Int:=if l.all (bL r)then -1 else(l.findIdx (λt=> !bL r t):Nat)
def gv {H:HF}{R:List Nat}: ∀(k:Nat) (d:DC) (c:SC),([]:List DC)[k]? =some d->([]:List SC)[k]? =some c->Full H R d c:=λ_ _ _ h=>by grind
def al {H:HF}{R:List Nat}{d:DC}{c:SC}{ds:List DC}{cs:List SC}(h:Full H R d c)(t: ∀(k:Nat) (d:DC) (c:SC),ds[k]? =some d->cs[k]? =some c->Full H R d c): ∀(k:Nat) (d':DC) (c':SC),(d::ds)[k]? =some d'->(c::cs)[k]? =some c'->Full H R d' c'
 |0,d',c',h1,h2=>by grind
 |k+1,d',c',h1,h2=>t k d' c' bv bv
def Z7 {H:HF}{R:List Nat}{t:TypeId}{p:Pl}{log:List En}{lg:Nat}{v e h x9 x11 x12:DC}(hR:1∈R/\lg∈R)(h1:H 1=some (.box t [.st (.view (p.ae.map nh)),.st (.view (ab p.ap)),.st (.view (p.aa.map fD)),.st (.view (p.parts.map mj)),.st (J p.dZ),.st (J p.eK),.own lg,v,e,x9,h,x11,x12]))
  (h2:H lg=some (.row true 3 (.view (log.map be)))):Full H R (.ptr 1 0) (.ref (wkA p log)):=
 .box hR.1 h1 rfl (al (.st _)<|al (.st _)<|al (.st _)<|al (.st _)<|al (.st _)<|al (.st _)<|al (.row hR.2 h2)<|al (.any _)<|al (.any _)<|al (.any _)<|al (.any _)<|al (.any _)<|al (.any _) gv)
def J0 {H:HF}{R:List Nat}{u:Un}{l:List (List DC)}{i a b c:Nat}(hR:9∈R/\a∈R/\b∈R/\c∈R)(h9:H 9=some (.aD 17 l))(hi:l[i]? =some (cU u a b c))(ha:H a=some (.row true 1 (.view (ab u.lots))))(hb:H b=some (.row true 4 (.view (u.res.map kF))))(hc:H c=some (.row true 5 (.view (u.gas.map vh)))):
  Full H R (.cI 9 17 i 0) (.ref (ky u)):=
 .XI hR.1 h9 hi rfl (al (.st _)<|al (.st _)<|al (.st _)<|al (.st _)<|al (.st _)<|al (.st _)<|al (.st _)<|al (.st _)<|al (.st _)<|al (.st _)<|al (.row hR.2.1 ha)<|al (.row hR.2.2.1 hb)<|al (.st _)<|al (.st _)<|al (.st _)<|al (.st _)<|al (.row hR.2.2.2 hc) gv)
def kg {H:HF}{R:List Nat}{d:DC}{c:SC}(h:Full H R d c):Bm H R (false,[d]) (false,[c]):=⟨rfl,rfl,al h gv⟩
def gz {H:HF}{R:List Nat}:MD H R [] []:=⟨rfl,λ_ _ _ h=>by grind⟩
def bd {H:HF}{R:List Nat}{x:DX}{y:SV}{xs:List DX}{l:List SV}(h:Bm H R x y)(t:MD H R xs l):MD H R (x::xs) (y::l):=
 ⟨by simp[t.1],λk x' y' h1 h2=>by
  cases k with
  |zero=>grind
  |succ k=>exact t.2 k x' y' bv bv⟩
def EB (l:List aj):Jz (.view (ab l)):=by
 intro i e k x he hx;have he:(ab l)[i]? =some e:=he
 grind
def vq {H:HF}{fid:Nat}{u:Un}{l:List (List DC)}{t:TypeId}{p:Pl}{log:List En}{i lg a b c:Nat}{v e h x9 x11 x12:DC}{M:List aj}(hM:ui p u.res=M)(hp:p.aa.length<=1000)(hl:u.res.length<=1000000)(h1:H 1=some (.box t [.st (.view (p.ae.map nh)),.st (.view (ab p.ap)),.st (.view (p.aa.map fD)),.st (.view (p.parts.map mj)),.st (J p.dZ),.st (J p.eK),.own lg,v,e,x9,h,x11,x12]))
  (h2:H lg=some (.row true 3 (.view (log.map be))))(h9:H 9=some (.aD 17 l))(hi:l[i]? =some (cU u a b c))(ha:H a=some (.row true 1 (.view (ab u.lots))))(hb:H b=some (.row true 4 (.view (u.res.map kF))))(hc:H c=some (.row true 5 (.view (u.gas.map vh)))):
  bX cx fid 79 [(false,[.ptr 1 0]),(false,[.cI 9 17 i 0])] H (bm (.own fid)) [(fid,some (.row true 1 (.view (ab M))))] [1,lg,9,a,b,c]:=by
 subst hM;exact iP (bd (kg (Z7 (by simp) h1 h2)) (bd (kg (J0 (by simp) h9 hi ha hb hc)) gz)) (Ny p log u hp hl) (EB _) ⟨rfl,rfl,rfl⟩
def Nz (E:uj)(p:Pl)(log:List En)(s:bP)(hl:s.units.length<=1000)(x:aj)(n:List Int)(r:aj)(hp:p.aa.length<=1000)(hu: ∀u∈s.units,u.res.length<=1000):
  bx cx 128 1 ((false,[.ptr 1 0])::[w7 [x] n r].map dyn) (form p log s) [1] (.val (dyn (I (bs E p log s 14 [x] n r).2))) (form p log (bs E p log s 14 [x] n r).1):=by
 rw[show bs E p log s 14 [x] n r=TS E p log s 14 x [x] n r from rfl];obtain⟨volt,earth,opens,hall,lots,units⟩:=s;by_cases hx:0<=io ⟨volt,earth,opens,hall,lots,units⟩ x
 ·obtain⟨i,u,h1,h2,h3,h4,h5⟩:=j0 hx;have c0:=λfid H=>lf (fid:=fid) (H:=H) h3 hl h1;have hr:u.res.length<=1000000:=by grind
  obtain⟨M,hM⟩: ∃M,ui p u.res=M:=⟨_,rfl⟩;have hq:aU E p log ⟨volt,earth,opens,hall,lots,units⟩ u 14 [x] n r=if u.rel then(u,20)else if hall=u.name then(u,17)else if ui p u.res= []then({u with rel:=true},0)else(u,14):=rfl
  rw[hM]at hq;obtain⟨name,win,ul,res,failed,rel,shaken,used,gas⟩:=u;dsimp only at hq;by_cases hh:hall=name
  ·cases rel<;>rcases M with _|⟨m,ms⟩
   ·exact K26
   ·exact K26
   ·exact K45
   ·exact K45
  ·cases rel<;>rcases M with _|⟨m,ms⟩
   ·rw[ba hx h2 h4 (show aU E p log ⟨volt,earth,opens,hall,lots,units⟩ _ 14 [x] n r=(_,_)from hq.trans ((if_neg xP).trans ((if_neg hh).trans (if_pos rfl))))];exact K36
   ·rw[ba hx h2 h4 (show aU E p log ⟨volt,earth,opens,hall,lots,units⟩ _ 14 [x] n r=(_,_)from hq.trans ((if_neg xP).trans ((if_neg hh).trans (if_neg (List.cons_ne_nil _ _)))))];exact K36
   ·exact K45
   ·exact K45
 ·rw[oW hx];refine gF f128 hl ?_;exact K15
def gJ {f:FuncId}{c:Code}{p:Pl}{log:List En}{s:bP}{u:Un}{i:Nat}{xs:List DX}{r:DV}(fn:Func)(hi:s.units[i]? =some u)(hl:s.units.length<=1000)
  (h:m8 cx c ⟨iF 0 ((false,[.ptr 1 0])::xs),er p log s u ((az 0 s.units).set i (cU u 11 13 15)) (aw s.units i),1⟩ (Z6 fn p log s u s.units i r) (λ_ _=>False) (Z6 fn p log s u s.units i r))
  (h1:iN cx.P f=true:=by kernel_rfl)(h2:cx.P.funcs[f]? =some fn:=by kernel_rfl)(h3:fn.body=some c:=by rfl)(h4:bS fn.ntmps c=true:=by kernel_rfl)(h5:xs.length+1<=fn.ntmps:=by exact fO rfl)(h6:aN [0] c=true:=by kernel_rfl):
  bx cx f 1 ((false,[.ptr 1 0])::xs) (er p log s u ((az 0 s.units).set i (cU u 11 13 15)) (aw s.units i)) [1] r (er p log s u ((az 0 s.units).set i (cU u 11 13 15)) (aw s.units i)):=
 fA lJ h1 h2 h3 h4 ago [(0,1)] (λp hp=>by rw[m6]at hp;subst hp;exact⟨0,rfl⟩) h6 (λS hS=>TR hi hl hS) h
def NA {p:Pl}{log:List En}{s:bP}{u:Un}{i:Nat}{x:aj}(hi:s.units[i]? =some u)(hl:s.units.length<=1000)(hx:bg (s.units.map Un.name) x=(i:Nat)):
  bx cx 206 1 [(false,[.ptr 1 0]),(false,[.st (T x)])] (er p log s u ((az 0 s.units).set i (cU u 11 13 15)) (aw s.units i)) [1] (.aI [(false,[.cI 9 17 i 0]),(false,[.st (J (if u.rel then 0 else 20))])]) (er p log s u ((az 0 s.units).set i (cU u 11 13 15)) (aw s.units i)):=by
 have c0:=λfid H=>lf (fid:=fid) (H:=H) hi hl hx;have h5:i< (az 0 s.units).length :=by rw[eO];exact(kJ.1 hi).1
 obtain⟨name,win,ul,res,failed,rel,shaken,used,gas⟩:=u;cases rel
 all_goals
  refine gJ f206 hi hl ?_;repeat' ((first|(refine kO 7 rfl ?_;first|refine im (λ_ z=>⟨_,_,_,(c0 _ _ ⟨_,_,rfl,rfl⟩ rfl),z⟩) ?_)|refine tX 0 ?_|exact Zt|refine bR ?_ ?_<;>intro h)<;>(try conv=>whnf))
  all_goals exact Ei
def zf {E:dG}{hp Le:Hp}{n:Nat}(h:hp.get=Le.get):bp ⟨E,hp,n⟩ ⟨E,Le,n⟩:=by
 rintro F nt a w ⟨N,⟨q1,q2,q0,β,q3,q4⟩,q5⟩;refine⟨N,⟨q1,q2,q0,β,?_,?_⟩,q5⟩
 ·show dM F β N Le.get w _ _;rw[<- h];exact q3
 ·show ad F β N Le.get w;rw[<- h];exact q4
def fJ {fid nx n' b:Nat}{T T':Hp}{E E':dG}{ks:List Nat}{t:TypeId}{cs:List SC}(hT:HJ T 1)(eJ:HJ T' 1)(hf:tag fid≠0)(hb:tag b≠0)(hbf:tag b≠tag fid)(hbn:tag b<n')
  (hE:dm (gh (aq (tag fid) 1) T' [(b,some (.box t (cs.map .st)))]) E.get ks=some E'):
  bp ⟨E,cB T (cP (aq (tag fid) 1) T')++((b,some (.box t (cs.map .st)))::T),nx⟩ ⟨E',(b,some (.box t (cs.map .st)))::T',n'⟩:=by
 have h1:b∉ah T:=λh=>hb (hT.lt b h).2;have h2:b∉ah T':=λh=>hb (eJ.lt b h).2;refine(yJ (R:=[(b,some (.box t (cs.map .st)))]) (n':=n') hT eJ hf (by simp) (λk hk=>?_) (λid bl e=>?_) K0 hE).trans (zf ?_)
 ·exact ajF
 ·obtain⟨rfl,rfl⟩:=gD e;exact⟨by rw[Hp.av,an],tZ _ _⟩
 ·have:=oT (A:=T') (F':=[(b,some (.box t (cs.map .st)))]) (B:=[]) (λn hn hm=>by
   have:n=b:=by simpa using hn
   subst this;exact h2 hm)
  simpa using this
def cO {fid b:Nat}{bC:Option cD}{p:Pl}{log:List En}{s:bP}{u:Un}{i:Nat}{x:aj}(hi:s.units[i]? =some u)(hl:s.units.length<=1000)(hx:bg (s.units.map Un.name) x=(i:Nat))(hf:tag fid≠0)(hb:tag b≠0):
  bX cx fid 206 [(false,[.ptr 1 0]),(false,[.st (T x)])] (Hp.get ((b,bC)::er p log s u ((az 0 s.units).set i (cU u 11 13 15)) (aw s.units i)))
   (La (aq (tag fid) 1) (.aI [(false,[.cI 9 17 i 0]),(false,[.st (J (if u.rel then 0 else 20))])]))
   (cB (er p log s u ((az 0 s.units).set i (cU u 11 13 15)) (aw s.units i)) (cP (aq (tag fid) 1) (er p log s u ((az 0 s.units).set i (cU u 11 13 15)) (aw s.units i)))) (ah (er p log s u ((az 0 s.units).set i (cU u 11 13 15)) (aw s.units i))):=by
 have hT:=oe p log s (u':=u) hi hl;have hk:=wW p log s u ((az 0 s.units).set i (cU u 11 13 15)) (aw s.units i);refine wS (NA hi hl hx) hT hT (dE _) hf (λid hid=>(Hp.jO (λe=>hb akh)).symm) (λy hy=>?_) (λy hy=>?_)
 ·rcases dl.1 hy with rfl|hy
  ·exact afR
  ·exact K88
 ·rcases dl.1 hy with rfl|hy
  ·intro d hd;rw[m6]at hd;subst hd;show 9∈ah _;rw[hk];exact jx
  ·exact K88
def gV {f:FuncId}{c:Code}{p:Pl}{log:List En}{s:bP}{xs:List DX}{r:DV}(fn:Func)(hl:s.units.length<=1000)(h:m8 cx c ⟨iF 0 ((false,[.ptr 1 0])::xs),form p log s,1⟩ (Z3 fn p log s r) (λ_ _=>False) (Z3 fn p log s r))
  (h1:iN cx.P f=true:=by kernel_rfl)(h2:cx.P.funcs[f]? =some fn:=by kernel_rfl)(h3:fn.body=some c:=by rfl)(h4:bS fn.ntmps c=true:=by kernel_rfl)(h5:xs.length+1<=fn.ntmps:=by exact fO rfl)(h6:aN [0] c=true:=by kernel_rfl):
  bx cx f 1 ((false,[.ptr 1 0])::xs) (form p log s) [1] r (form p log s):=
 fA lJ h1 h2 h3 h4 ago [(0,1)] (λp hp=>by rw[m6]at hp;subst hp;exact⟨0,rfl⟩) h6 (λS hS=>Nt hl hS) h
def NB {p:Pl}{log:List En}{s:bP}{x:aj}(hl:s.units.length<=1000)(hx:bg (s.units.map Un.name) x<0):
  bx cx 206 1 [(false,[.ptr 1 0]),(false,[.st (T x)])] (form p log s) [1] (.aI [(false,[.st (.lit (.pointer none))]),(false,[.st (J 6)])]) (form p log s):=by
 refine gV f206 hl ?_;repeat' ((first|(refine kO 7 rfl ?_;first|refine im (λ_ z=>⟨_,_,_,(Aw hl hx ⟨_,_,rfl,rfl⟩ rfl),z⟩) ?_)|refine tX 0 ?_|exact Zt|refine bR ?_ ?_<;>intro h)<;>(try conv=>whnf))
 all_goals exact Ew
def pV {fid b:Nat}{bC:Option cD}{p:Pl}{log:List En}{s:bP}{x:aj}(hl:s.units.length<=1000)(hx:bg (s.units.map Un.name) x<0)(hf:tag fid≠0)(hb:tag b≠0):
  bX cx fid 206 [(false,[.ptr 1 0]),(false,[.st (T x)])] (Hp.get ((b,bC)::form p log s))
   (La (aq (tag fid) 1) (.aI [(false,[.st (.lit (.pointer none))]),(false,[.st (J 6)])])) (cB (form p log s) (cP (aq (tag fid) 1) (form p log s))) (ah (form p log s)):=by
 have hT:=ci p log (s:=s) hl;refine wS (NB hl hx) hT hT (dE _) hf (λid hid=>(Hp.jO (λe=>hb akh)).symm) (λy hy=>?_) (λy hy=>?_)
 ·rcases dl.1 hy with rfl|hy
  ·exact afR
  ·exact K88
 ·rcases dl.1 hy with rfl|hy
  ·exact K92
  ·exact K88
end Go.Proofs.Tryz
