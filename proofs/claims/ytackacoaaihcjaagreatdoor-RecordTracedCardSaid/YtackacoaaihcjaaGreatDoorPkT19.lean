import Derived.Test.YtackacoaaihcjaaGreatDoorPkT15
import Derived.Test.YtackacoaaihcjaaGreatDoorPkT18
set_option linter.all false
set_option maxRecDepth 100000
set_option maxHeartbeats 8000000
namespace Go.Proofs.Tryz
open Go.Fw Go.IntWalk Go.Plain
def lY {H:HF}{R:List Nat}: ∀(k:Nat) (d:DC) (c:SC),([]:List DC)[k]? =some d->([]:List SC)[k]? =some c->Full H R d c:=λ_ _ _ h=>by grind
def al {H:HF}{R:List Nat}{d:DC}{c:SC}{ds:List DC}{cs:List SC}(h:Full H R d c)(t: ∀(k:Nat) (d:DC) (c:SC),ds[k]? =some d->cs[k]? =some c->Full H R d c): ∀(k:Nat) (d':DC) (c':SC),(d::ds)[k]? =some d'->(c::cs)[k]? =some c'->Full H R d' c'
 |0,d',c',h1,h2=>by grind
 |k+1,d',c',h1,h2=>t k d' c' br br
def ZK {H:HF}{R:List Nat}{t:TypeId}{p:Pl}{log:List En}{lg:Nat}{v e h x9 x11 x12:DC}(hR:1∈R/\lg∈R)(h1:H 1=some (.box t [.st (.view (p.ae.map m9)),.st (.view (ab p.ap)),.st (.view (p.aa.map fC)),.st (.view (p.parts.map mi)),.st (J p.dW),.st (J p.eH),.own lg,v,e,x9,h,x11,x12]))
  (h2:H lg=some (.row true 3 (.view (log.map df)))):Full H R (.ptr 1 0) (.ref (wkA p log)):=
 .box hR.1 h1 rfl (al (.st _)<|al (.st _)<|al (.st _)<|al (.st _)<|al (.st _)<|al (.st _)<|al (.row hR.2 h2)<|al (.any _)<|al (.any _)<|al (.any _)<|al (.any _)<|al (.any _)<|al (.any _) lY)
def J1 {H:HF}{R:List Nat}{u:Un}{l:List (List DC)}{i a b c:Nat}(hR:9∈R/\a∈R/\b∈R/\c∈R)(h9:H 9=some (.aA 17 l))(hi:l[i]? =some (cP u a b c))(ha:H a=some (.row true 1 (.view (ab u.lots))))(hb:H b=some (.row true 4 (.view (u.res.map kE))))(hc:H c=some (.row true 5 (.view (u.gas.map uV)))):
  Full H R (.cF 9 17 i 0) (.ref (jQ u)):=
 .Xs hR.1 h9 hi rfl (al (.st _)<|al (.st _)<|al (.st _)<|al (.st _)<|al (.st _)<|al (.st _)<|al (.st _)<|al (.st _)<|al (.st _)<|al (.st _)<|al (.row hR.2.1 ha)<|al (.row hR.2.2.1 hb)<|al (.st _)<|al (.st _)<|al (.st _)<|al (.st _)<|al (.row hR.2.2.2 hc) lY)
def kc {H:HF}{R:List Nat}{d:DC}{c:SC}(h:Full H R d c):yu H R (false,[d]) (false,[c]):=⟨rfl,rfl,al h lY⟩
def iW {H:HF}{R:List Nat}:Mv H R [] []:=⟨rfl,λ_ _ _ h=>by grind⟩
def bx {H:HF}{R:List Nat}{x:DX}{y:SV}{xs:List DX}{l:List SV}(h:yu H R x y)(t:Mv H R xs l):Mv H R (x::xs) (y::l):=
 ⟨by simp[t.1],λk x' y' h1 h2=>by
  cases k with
  |zero=>grind
  |succ k=>exact t.2 k x' y' br br⟩
def Ez (l:List aj):JA (.view (ab l)):=by
 intro i e k x he hx;have he:(ab l)[i]? =some e:=he
 grind
def vc {H:HF}{fid:Nat}{u:Un}{l:List (List DC)}{t:TypeId}{p:Pl}{log:List En}{i lg a b c:Nat}{v e h x9 x11 x12:DC}{M:List aj}(hM:tO p u.res=M)(hp:p.aa.length<=1000)(hl:u.res.length<=1000000)(h1:H 1=some (.box t [.st (.view (p.ae.map m9)),.st (.view (ab p.ap)),.st (.view (p.aa.map fC)),.st (.view (p.parts.map mi)),.st (J p.dW),.st (J p.eH),.own lg,v,e,x9,h,x11,x12]))
  (h2:H lg=some (.row true 3 (.view (log.map df))))(h9:H 9=some (.aA 17 l))(hi:l[i]? =some (cP u a b c))(ha:H a=some (.row true 1 (.view (ab u.lots))))(hb:H b=some (.row true 4 (.view (u.res.map kE))))(hc:H c=some (.row true 5 (.view (u.gas.map uV)))):
  bN cx fid 79 [(false,[.ptr 1 0]),(false,[.cF 9 17 i 0])] H (bm (.own fid)) [(fid,some (.row true 1 (.view (ab M))))] [1,lg,9,a,b,c]:=by
 subst hM;exact iI (bx (kc (ZK (by simp) h1 h2)) (bx (kc (J1 (by simp) h9 hi ha hb hc)) iW)) (Ns p log u hp hl) (Ez _) ⟨rfl,rfl,rfl⟩
def Nt (E:qH)(p:Pl)(log:List En)(s:bK)(hl:s.units.length<=1000)(x:aj)(n:List Int)(r:aj)(hp:p.aa.length<=1000)(hu: ∀u∈s.units,u.res.length<=1000):
  bt cx 128 1 ((false,[.ptr 1 0])::[wX [x] n r].map dyn) (form p log s) [1] (.val (dyn (I (ba E p log s 14 [x] n r).2))) (form p log (ba E p log s 14 [x] n r).1):=by
 rw[show ba E p log s 14 [x] n r=TG E p log s 14 x [x] n r from rfl];obtain⟨volt,earth,opens,hall,lots,units⟩:=s;by_cases hx:0<=gY ⟨volt,earth,opens,hall,lots,units⟩ x
 ·obtain⟨i,u,h1,h2,h3,h4,h5⟩:=jX hx;have c0:=λfid H=>k7 (fid:=fid) (H:=H) h3 hl h1;have hr:u.res.length<=1000000:=by grind
  obtain⟨M,hM⟩: ∃M,tO p u.res=M:=⟨_,rfl⟩;have hq:aI E p log ⟨volt,earth,opens,hall,lots,units⟩ u 14 [x] n r=if u.rel then(u,20)else if hall=u.name then(u,17)else if tO p u.res= []then({u with rel:=true},0)else(u,14):=rfl
  rw[hM]at hq;obtain⟨name,win,ul,res,failed,rel,shaken,used,gas⟩:=u;dsimp only at hq;by_cases hh:hall=name
  ·cases rel<;>rcases M with _|⟨m,ms⟩
   ·exact K26
   ·exact K26
   ·exact K46
   ·exact K46
  ·cases rel<;>rcases M with _|⟨m,ms⟩
   ·rw[aY hx h2 h4 (show aI E p log ⟨volt,earth,opens,hall,lots,units⟩ _ 14 [x] n r=(_,_)from hq.trans ((if_neg xH).trans ((if_neg hh).trans (if_pos rfl))))];exact K36
   ·rw[aY hx h2 h4 (show aI E p log ⟨volt,earth,opens,hall,lots,units⟩ _ 14 [x] n r=(_,_)from hq.trans ((if_neg xH).trans ((if_neg hh).trans (if_neg (List.cons_ne_nil _ _)))))];exact K36
   ·exact K46
   ·exact K46
 ·rw[oL hx];refine gF f128 hl ?_;exact K15
def gJ {f:FuncId}{c:Code}{p:Pl}{log:List En}{s:bK}{u:Un}{i:Nat}{xs:List DX}{r:DV}(fn:Func)(hi:s.units[i]? =some u)(hl:s.units.length<=1000)
  (h:m6 cx c ⟨iz 0 ((false,[.ptr 1 0])::xs),eh p log s u ((az 0 s.units).set i (cP u 11 13 15)) (ax s.units i),1⟩ (ZJ fn p log s u s.units i r) (λ_ _=>False) (ZJ fn p log s u s.units i r))
  (h1:iG cx.P f=true:=by kernel_rfl)(h2:cx.P.funcs[f]? =some fn:=by kernel_rfl)(h3:fn.body=some c:=by rfl)(h4:bM fn.ntmps c=true:=by kernel_rfl)(h5:xs.length+1<=fn.ntmps:=by exact fP rfl)(h6:aM [0] c=true:=by kernel_rfl):
  bt cx f 1 ((false,[.ptr 1 0])::xs) (eh p log s u ((az 0 s.units).set i (cP u 11 13 15)) (ax s.units i)) [1] r (eh p log s u ((az 0 s.units).set i (cP u 11 13 15)) (ax s.units i)):=
 fw lG h1 h2 h3 h4 af9 [(0,1)] (λp hp=>by rw[lq]at hp;subst hp;exact⟨0,rfl⟩) h6 (λS hS=>TF hi hl hS) h
def Nu {p:Pl}{log:List En}{s:bK}{u:Un}{i:Nat}{x:aj}(hi:s.units[i]? =some u)(hl:s.units.length<=1000)(hx:aZ (s.units.map Un.name) x=(i:Nat)):
  bt cx 206 1 [(false,[.ptr 1 0]),(false,[.st (T x)])] (eh p log s u ((az 0 s.units).set i (cP u 11 13 15)) (ax s.units i)) [1] (.aJ [(false,[.cF 9 17 i 0]),(false,[.st (J (if u.rel then 0 else 20))])]) (eh p log s u ((az 0 s.units).set i (cP u 11 13 15)) (ax s.units i)):=by
 have c0:=λfid H=>k7 (fid:=fid) (H:=H) hi hl hx;have h5:i< (az 0 s.units).length :=by rw[eN];exact(kl.1 hi).1
 obtain⟨name,win,ul,res,failed,rel,shaken,used,gas⟩:=u;cases rel
 all_goals
  refine gJ f206 hi hl ?_;repeat' ((first|(refine kO 7 rfl ?_;first|refine ij (λ_ z=>⟨_,_,_,(c0 _ _ ⟨_,_,rfl,rfl⟩ rfl),z⟩) ?_)|refine tX 0 ?_|exact Zt|refine bR ?_ ?_<;>intro h)<;>(try conv=>whnf))
  all_goals exact Ei
def Cm {E:dP}{hp Lc:Hp}{n:Nat}(h:hp.get=Lc.get):bs ⟨E,hp,n⟩ ⟨E,Lc,n⟩:=by
 rintro F nt a w ⟨N,⟨q1,q2,q0,β,q3,q4⟩,q5⟩;refine⟨N,⟨q1,q2,q0,β,?_,?_⟩,q5⟩
 ·show dD F β N Lc.get w _ _;rw[<- h];exact q3
 ·show ac F β N Lc.get w;rw[<- h];exact q4
def fL {fid nx n' b:Nat}{T T':Hp}{E E':dP}{ks:List Nat}{t:TypeId}{cs:List SC}(hT:KW T 1)(fh:KW T' 1)(hf:tag fid≠0)(hb:tag b≠0)(hbf:tag b≠tag fid)(hbn:tag b<n')
  (hE:eZ (gA (fresh (tag fid) 1) T' [(b,some (.box t (cs.map .st)))]) E.get ks=some E'):
  bs ⟨E,cC T (cN (fresh (tag fid) 1) T')++((b,some (.box t (cs.map .st)))::T),nx⟩ ⟨E',(b,some (.box t (cs.map .st)))::T',n'⟩:=by
 have h1:b∉ah T:=λh=>hb (hT.lt b h).2;have h2:b∉ah T':=λh=>hb (fh.lt b h).2;refine(DK (R:=[(b,some (.box t (cs.map .st)))]) (n':=n') hT fh hf (by simp) (λk hk=>?_) (λid bl e=>?_) K0 hE).trans (Cm ?_)
 ·have:k=b:=by simpa using hk
  subst this;exact⟨h2,h1,hbf,hbn⟩
 ·obtain⟨rfl,rfl⟩:=gE e;exact⟨by rw[Hp.ar,an],tE _ _⟩
 ·have:=ql (A:=T') (F':=[(b,some (.box t (cs.map .st)))]) (B:=[]) (λn hn hm=>by
   have:n=b:=by simpa using hn
   subst this;exact h2 hm)
  simpa using this
def cK {fid b:Nat}{bz:Option co}{p:Pl}{log:List En}{s:bK}{u:Un}{i:Nat}{x:aj}(hi:s.units[i]? =some u)(hl:s.units.length<=1000)(hx:aZ (s.units.map Un.name) x=(i:Nat))(hf:tag fid≠0)(hb:tag b≠0):
  bN cx fid 206 [(false,[.ptr 1 0]),(false,[.st (T x)])] (Hp.get ((b,bz)::eh p log s u ((az 0 s.units).set i (cP u 11 13 15)) (ax s.units i)))
   (KV (fresh (tag fid) 1) (.aJ [(false,[.cF 9 17 i 0]),(false,[.st (J (if u.rel then 0 else 20))])]))
   (cC (eh p log s u ((az 0 s.units).set i (cP u 11 13 15)) (ax s.units i)) (cN (fresh (tag fid) 1) (eh p log s u ((az 0 s.units).set i (cP u 11 13 15)) (ax s.units i)))) (ah (eh p log s u ((az 0 s.units).set i (cP u 11 13 15)) (ax s.units i))):=by
 have hT:=nU p log s (u':=u) hi hl;have hk:=wR p log s u ((az 0 s.units).set i (cP u 11 13 15)) (ax s.units i);refine wM (Nu hi hl hx) hT hT (dw _) hf (λid hid=>(Hp.kI (λe=>hb aj6)).symm) (λy hy=>?_) (λy hy=>?_)
 ·rcases cQ.1 hy with rfl|hy
  ·exact afF
  ·exact K88
 ·rcases cQ.1 hy with rfl|hy
  ·intro d hd;rw[lq]at hd;subst hd;show 9∈ah _;rw[hk];exact i8
  ·exact K88
def gV {f:FuncId}{c:Code}{p:Pl}{log:List En}{s:bK}{xs:List DX}{r:DV}(fn:Func)(hl:s.units.length<=1000)(h:m6 cx c ⟨iz 0 ((false,[.ptr 1 0])::xs),form p log s,1⟩ (ZG fn p log s r) (λ_ _=>False) (ZG fn p log s r))
  (h1:iG cx.P f=true:=by kernel_rfl)(h2:cx.P.funcs[f]? =some fn:=by kernel_rfl)(h3:fn.body=some c:=by rfl)(h4:bM fn.ntmps c=true:=by kernel_rfl)(h5:xs.length+1<=fn.ntmps:=by exact fP rfl)(h6:aM [0] c=true:=by kernel_rfl):
  bt cx f 1 ((false,[.ptr 1 0])::xs) (form p log s) [1] r (form p log s):=
 fw lG h1 h2 h3 h4 af9 [(0,1)] (λp hp=>by rw[lq]at hp;subst hp;exact⟨0,rfl⟩) h6 (λS hS=>Nn hl hS) h
def Nv {p:Pl}{log:List En}{s:bK}{x:aj}(hl:s.units.length<=1000)(hx:aZ (s.units.map Un.name) x<0):
  bt cx 206 1 [(false,[.ptr 1 0]),(false,[.st (T x)])] (form p log s) [1] (.aJ [(false,[.st (.lit (.pointer none))]),(false,[.st (J 6)])]) (form p log s):=by
 refine gV f206 hl ?_;repeat' ((first|(refine kO 7 rfl ?_;first|refine ij (λ_ z=>⟨_,_,_,(Ap hl hx ⟨_,_,rfl,rfl⟩ rfl),z⟩) ?_)|refine tX 0 ?_|exact Zt|refine bR ?_ ?_<;>intro h)<;>(try conv=>whnf))
 all_goals exact Ew
def pM {fid b:Nat}{bz:Option co}{p:Pl}{log:List En}{s:bK}{x:aj}(hl:s.units.length<=1000)(hx:aZ (s.units.map Un.name) x<0)(hf:tag fid≠0)(hb:tag b≠0):
  bN cx fid 206 [(false,[.ptr 1 0]),(false,[.st (T x)])] (Hp.get ((b,bz)::form p log s))
   (KV (fresh (tag fid) 1) (.aJ [(false,[.st (.lit (.pointer none))]),(false,[.st (J 6)])])) (cC (form p log s) (cN (fresh (tag fid) 1) (form p log s))) (ah (form p log s)):=by
 have hT:=dl p log (s:=s) hl;refine wM (Nv hl hx) hT hT (dw _) hf (λid hid=>(Hp.kI (λe=>hb aj6)).symm) (λy hy=>?_) (λy hy=>?_)
 ·rcases cQ.1 hy with rfl|hy
  ·exact afF
  ·exact K88
 ·rcases cQ.1 hy with rfl|hy
  ·exact K92
  ·exact K88
end Go.Proofs.Tryz
