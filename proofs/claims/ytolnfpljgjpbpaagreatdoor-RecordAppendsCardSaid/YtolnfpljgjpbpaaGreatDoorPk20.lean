import Derived.Test.YtolnfpljgjpbpaaGreatDoorPk11
import Derived.Test.YtolnfpljgjpbpaaGreatDoorPk17
import Derived.Test.YtolnfpljgjpbpaaGreatDoorPk19
set_option linter.all false
set_option maxRecDepth 100000
set_option maxHeartbeats 8000000
namespace Go.Proofs.Tryz
open Go.Fw Go.IntWalk Go.Plain
def jl {H:HF}{R:List Nat}: ∀(k:Nat) (d:DC) (c:SC),([]:List DC)[k]? =some d->([]:List SC)[k]? =some c->Full H R d c:=λ_ _ _ h=>by grind
def ak {H:HF}{R:List Nat}{d:DC}{c:SC}{ds:List DC}{cs:List SC}(h:Full H R d c)(t: ∀(k:Nat) (d:DC) (c:SC),ds[k]? =some d->cs[k]? =some c->Full H R d c): ∀(k:Nat) (d':DC) (c':SC),(d::ds)[k]? =some d'->(c::cs)[k]? =some c'->Full H R d' c'
 |0,d',c',h1,h2=>by grind
 |k+1,d',c',h1,h2=>t k d' c' bw bw
def Z8 {H:HF}{R:List Nat}{t:TypeId}{p:Pl}{log:List En}{lg:Nat}{v e h x9 x11 x12:DC}(hR:1∈R/\lg∈R)(h1:H 1=some (.box t [.st (.view (p.ae.map nh)),.st (.view (ab p.ap)),.st (.view (p.aa.map fB)),.st (.view (p.parts.map mj)),.st (J p.dY),.st (J p.eH),.own lg,v,e,x9,h,x11,x12]))
  (h2:H lg=some (.row true 3 (.view (log.map cd)))):Full H R (.ptr 1 0) (.ref (wkA p log)):=
 .box hR.1 h1 rfl (ak (.st _)<|ak (.st _)<|ak (.st _)<|ak (.st _)<|ak (.st _)<|ak (.st _)<|ak (.row hR.2 h2)<|ak (.any _)<|ak (.any _)<|ak (.any _)<|ak (.any _)<|ak (.any _)<|ak (.any _) jl)
def Kq {H:HF}{R:List Nat}{u:Un}{l:List (List DC)}{i a b c:Nat}(hR:9∈R/\a∈R/\b∈R/\c∈R)(h9:H 9=some (.az 17 l))(hi:l[i]? =some (cV u a b c))(ha:H a=some (.row true 1 (.view (ab u.lots))))(hb:H b=some (.row true 4 (.view (u.res.map kg))))(hc:H c=some (.row true 5 (.view (u.gas.map tp)))):
  Full H R (.cK 9 17 i 0) (.ref (jB u)):=
 .XH hR.1 h9 hi rfl (ak (.st _)<|ak (.st _)<|ak (.st _)<|ak (.st _)<|ak (.st _)<|ak (.st _)<|ak (.st _)<|ak (.st _)<|ak (.st _)<|ak (.st _)<|ak (.row hR.2.1 ha)<|ak (.row hR.2.2.1 hb)<|ak (.st _)<|ak (.st _)<|ak (.st _)<|ak (.st _)<|ak (.row hR.2.2.2 hc) jl)
def kj {H:HF}{R:List Nat}{d:DC}{c:SC}(h:Full H R d c):yL H R (false,[d]) (false,[c]):=⟨rfl,rfl,ak h jl⟩
def gZ {H:HF}{R:List Nat}:M6 H R [] []:=⟨rfl,λ_ _ _ h=>by grind⟩
def bp {H:HF}{R:List Nat}{x:DX}{y:SV}{xs:List DX}{l:List SV}(h:yL H R x y)(t:M6 H R xs l):M6 H R (x::xs) (y::l):=
 ⟨by simp[t.1],λk x' y' h1 h2=>by
  cases k with
  |zero=>grind
  |succ k=>exact t.2 k x' y' bw bw⟩
def E3 (l:List aj):JZ (.view (ab l)):=by
 intro i e k x he hx;have he:(ab l)[i]? =some e:=he
 grind
def vH {H:HF}{fid:Nat}{u:Un}{l:List (List DC)}{t:TypeId}{p:Pl}{log:List En}{i lg a b c:Nat}{v e h x9 x11 x12:DC}{M:List aj}(hM:uA p u.res=M)(hp:p.aa.length<=1000)(hl:u.res.length<=1000000)(h1:H 1=some (.box t [.st (.view (p.ae.map nh)),.st (.view (ab p.ap)),.st (.view (p.aa.map fB)),.st (.view (p.parts.map mj)),.st (J p.dY),.st (J p.eH),.own lg,v,e,x9,h,x11,x12]))
  (h2:H lg=some (.row true 3 (.view (log.map cd))))(h9:H 9=some (.az 17 l))(hi:l[i]? =some (cV u a b c))(ha:H a=some (.row true 1 (.view (ab u.lots))))(hb:H b=some (.row true 4 (.view (u.res.map kg))))(hc:H c=some (.row true 5 (.view (u.gas.map tp)))):
  bI cx fid 37 [(false,[.ptr 1 0]),(false,[.cK 9 17 i 0])] H (bh (.own fid)) [(fid,some (.row true 1 (.view (ab M))))] [1,lg,9,a,b,c]:=by
 subst hM;exact iK (bp (kj (Z8 (by simp) h1 h2)) (bp (kj (Kq (by simp) h9 hi ha hb hc)) gZ)) (NW p log u hp hl) (E3 _) ⟨rfl,rfl,rfl⟩
def NY (E:to)(p:Pl)(log:List En)(s:bV)(hl:s.units.length<=1000)(x:aj)(n:List Int)(r:aj)(hp:p.aa.length<=1000)(hu: ∀u∈s.units,u.res.length<=1000):
  bA cx 115 1 ((false,[.ptr 1 0])::[xp [x] n r].map dyn) (form p log s) [1] (.val (dyn (I (bm E p log s 14 [x] n r).2))) (form p log (bm E p log s 14 [x] n r).1):=by
 rw[show bm E p log s 14 [x] n r=T6 E p log s 14 x [x] n r from rfl];obtain⟨volt,earth,opens,hall,lots,units⟩:=s;by_cases hx:0<=iB ⟨volt,earth,opens,hall,lots,units⟩ x
 ·obtain⟨i,u,h1,h2,h3,h4,h5⟩:=j7 hx;have c0:=λfid H=>ld (fid:=fid) (H:=H) h3 hl h1;have hr:u.res.length<=1000000:=by grind
  obtain⟨M,hM⟩: ∃M,uA p u.res=M:=⟨_,rfl⟩;have hq:aQ E p log ⟨volt,earth,opens,hall,lots,units⟩ u 14 [x] n r=if u.rel then(u,20)else if hall=u.name then(u,17)else if uA p u.res= []then({u with rel:=true},0)else(u,14):=rfl
  rw[hM]at hq;obtain⟨name,win,ul,res,failed,rel,shaken,used,gas⟩:=u;dsimp only at hq;by_cases hh:hall=name
  ·cases rel<;>rcases M with _|⟨m,ms⟩
   ·exact K22
   ·exact K22
   ·exact K40
   ·exact K40
  ·cases rel<;>rcases M with _|⟨m,ms⟩
   ·rw[aY hx h2 h4 (show aQ E p log ⟨volt,earth,opens,hall,lots,units⟩ _ 14 [x] n r=(_,_)from hq.trans ((if_neg xZ).trans ((if_neg hh).trans (if_pos rfl))))];exact K30
   ·rw[aY hx h2 h4 (show aQ E p log ⟨volt,earth,opens,hall,lots,units⟩ _ 14 [x] n r=(_,_)from hq.trans ((if_neg xZ).trans ((if_neg hh).trans (if_neg (List.cons_ne_nil _ _)))))];exact K30
   ·exact K40
   ·exact K40
 ·rw[oV hx];refine gF f115 hl ?_;exact K12
def gJ {f:FuncId}{c:Code}{p:Pl}{log:List En}{s:bV}{u:Un}{i:Nat}{xs:List DX}{r:DV}(fn:Func)(hi:s.units[i]? =some u)(hl:s.units.length<=1000)
  (h:m9 cx c ⟨iz 0 ((false,[.ptr 1 0])::xs),ep p log s u ((ay 0 s.units).set i (cV u 11 13 15)) (av s.units i),1⟩ (Z7 fn p log s u s.units i r) (λ_ _=>False) (Z7 fn p log s u s.units i r))
  (h1:iI cx.P f=true:=by kernel_rfl)(h2:cx.P.funcs[f]? =some fn:=by kernel_rfl)(h3:fn.body=some c:=by rfl)(h4:bQ fn.ntmps c=true:=by kernel_rfl)(h5:xs.length+1<=fn.ntmps:=by exact fM rfl)(h6:aJ [0] c=true:=by kernel_rfl):
  bA cx f 1 ((false,[.ptr 1 0])::xs) (ep p log s u ((ay 0 s.units).set i (cV u 11 13 15)) (av s.units i)) [1] r (ep p log s u ((ay 0 s.units).set i (cV u 11 13 15)) (av s.units i)):=
 fw kz h1 h2 h3 h4 af3 [(0,1)] (λp hp=>by rw[mA]at hp;subst hp;exact⟨0,rfl⟩) h6 (λS hS=>T5 hi hl hS) h
def NZ {p:Pl}{log:List En}{s:bV}{u:Un}{i:Nat}{x:aj}(hi:s.units[i]? =some u)(hl:s.units.length<=1000)(hx:be (s.units.map Un.name) x=(i:Nat)):
  bA cx 146 1 [(false,[.ptr 1 0]),(false,[.st (T x)])] (ep p log s u ((ay 0 s.units).set i (cV u 11 13 15)) (av s.units i)) [1] (.aI [(false,[.cK 9 17 i 0]),(false,[.st (J (if u.rel then 0 else 20))])]) (ep p log s u ((ay 0 s.units).set i (cV u 11 13 15)) (av s.units i)):=by
 have c0:=λfid H=>ld (fid:=fid) (H:=H) hi hl hx;have h5:i< (ay 0 s.units).length :=by rw[eN];exact(kF.1 hi).1
 obtain⟨name,win,ul,res,failed,rel,shaken,used,gas⟩:=u;cases rel
 all_goals
  refine gJ f146 hi hl ?_;repeat' ((first|(refine kO 7 rfl ?_;first|refine gu (λ_ z=>⟨_,_,_,(c0 _ _ ⟨_,_,rfl,rfl⟩ rfl),z⟩) ?_)|refine tX 0 ?_|exact Zt|refine bR ?_ ?_<;>intro h)<;>(try conv=>whnf))
  all_goals exact Ei
def CN {E:dS}{hp Gv:Hp}{n:Nat}(h:hp.get=Gv.get):bu ⟨E,hp,n⟩ ⟨E,Gv,n⟩:=by
 rintro F nt a w ⟨N,⟨q1,q2,q0,β,q3,q4⟩,q5⟩;refine⟨N,⟨q1,q2,q0,β,?_,?_⟩,q5⟩
 ·show dH F β N Gv.get w _ _;rw[<- h];exact q3
 ·show ad F β N Gv.get w;rw[<- h];exact q4
def fH {fid nx n' b:Nat}{T T':Hp}{E E':dS}{ks:List Nat}{t:TypeId}{cs:List SC}(hT:LB T 1)(eP:LB T' 1)(hf:tag fid≠0)(hb:tag b≠0)(hbf:tag b≠tag fid)(hbn:tag b<n')
  (hE:eZ (gw (aq (tag fid) 1) T' [(b,some (.box t (cs.map .st)))]) E.get ks=some E'):
  bu ⟨E,cH T (cT (aq (tag fid) 1) T')++((b,some (.box t (cs.map .st)))::T),nx⟩ ⟨E',(b,some (.box t (cs.map .st)))::T',n'⟩:=by
 have h1:b∉ah T:=λh=>hb (hT.lt b h).2;have h2:b∉ah T':=λh=>hb (eP.lt b h).2;refine(Eb (R:=[(b,some (.box t (cs.map .st)))]) (n':=n') hT eP hf (by simp) (λk hk=>?_) (λid bl e=>?_) K0 hE).trans (CN ?_)
 ·have:k=b:=by simpa using hk
  subst this;exact⟨h2,h1,hbf,hbn⟩
 ·obtain⟨rfl,rfl⟩:=fJ e;exact⟨by rw[Hp.au,an],ut _ _⟩
 ·have:=qA (A:=T') (F':=[(b,some (.box t (cs.map .st)))]) (B:=[]) (λn hn hm=>by
   have:n=b:=by simpa using hn
   subst this;exact h2 hm)
  simpa using this
def cP {fid b:Nat}{bC:Option cC}{p:Pl}{log:List En}{s:bV}{u:Un}{i:Nat}{x:aj}(hi:s.units[i]? =some u)(hl:s.units.length<=1000)(hx:be (s.units.map Un.name) x=(i:Nat))(hf:tag fid≠0)(hb:tag b≠0):
  bI cx fid 146 [(false,[.ptr 1 0]),(false,[.st (T x)])] (Hp.get ((b,bC)::ep p log s u ((ay 0 s.units).set i (cV u 11 13 15)) (av s.units i)))
   (LA (aq (tag fid) 1) (.aI [(false,[.cK 9 17 i 0]),(false,[.st (J (if u.rel then 0 else 20))])]))
   (cH (ep p log s u ((ay 0 s.units).set i (cV u 11 13 15)) (av s.units i)) (cT (aq (tag fid) 1) (ep p log s u ((ay 0 s.units).set i (cV u 11 13 15)) (av s.units i)))) (ah (ep p log s u ((ay 0 s.units).set i (cV u 11 13 15)) (av s.units i))):=by
 have hT:=oc p log s (u':=u) hi hl;have hk:=xi p log s u ((ay 0 s.units).set i (cV u 11 13 15)) (av s.units i);refine xb (NZ hi hl hx) hT hT (dG _) hf (λid hid=>(Hp.kL (λe=>hb ajI)).symm) (λy hy=>?_) (λy hy=>?_)
 ·rcases cF.1 hy with rfl|hy
  ·exact afB
  ·exact K80
 ·rcases cF.1 hy with rfl|hy
  ·intro d hd;rw[mA]at hd;subst hd;show 9∈ah _;rw[hk];exact je
  ·exact K80
def gV {f:FuncId}{c:Code}{p:Pl}{log:List En}{s:bV}{xs:List DX}{r:DV}(fn:Func)(hl:s.units.length<=1000)(h:m9 cx c ⟨iz 0 ((false,[.ptr 1 0])::xs),form p log s,1⟩ (Z4 fn p log s r) (λ_ _=>False) (Z4 fn p log s r))
  (h1:iI cx.P f=true:=by kernel_rfl)(h2:cx.P.funcs[f]? =some fn:=by kernel_rfl)(h3:fn.body=some c:=by rfl)(h4:bQ fn.ntmps c=true:=by kernel_rfl)(h5:xs.length+1<=fn.ntmps:=by exact fM rfl)(h6:aJ [0] c=true:=by kernel_rfl):
  bA cx f 1 ((false,[.ptr 1 0])::xs) (form p log s) [1] r (form p log s):=
 fw kz h1 h2 h3 h4 af3 [(0,1)] (λp hp=>by rw[mA]at hp;subst hp;exact⟨0,rfl⟩) h6 (λS hS=>NR hl hS) h
def N4 {p:Pl}{log:List En}{s:bV}{x:aj}(hl:s.units.length<=1000)(hx:be (s.units.map Un.name) x<0):
  bA cx 146 1 [(false,[.ptr 1 0]),(false,[.st (T x)])] (form p log s) [1] (.aI [(false,[.st (.lit (.pointer none))]),(false,[.st (J 6)])]) (form p log s):=by
 refine gV f146 hl ?_;repeat' ((first|(refine kO 7 rfl ?_;first|refine gu (λ_ z=>⟨_,_,_,(AK hl hx ⟨_,_,rfl,rfl⟩ rfl),z⟩) ?_)|refine tX 0 ?_|exact Zt|refine bR ?_ ?_<;>intro h)<;>(try conv=>whnf))
 all_goals exact Ew
def pX {fid b:Nat}{bC:Option cC}{p:Pl}{log:List En}{s:bV}{x:aj}(hl:s.units.length<=1000)(hx:be (s.units.map Un.name) x<0)(hf:tag fid≠0)(hb:tag b≠0):
  bI cx fid 146 [(false,[.ptr 1 0]),(false,[.st (T x)])] (Hp.get ((b,bC)::form p log s))
   (LA (aq (tag fid) 1) (.aI [(false,[.st (.lit (.pointer none))]),(false,[.st (J 6)])])) (cH (form p log s) (cT (aq (tag fid) 1) (form p log s))) (ah (form p log s)):=by
 have hT:=cN p log (s:=s) hl;refine xb (N4 hl hx) hT hT (dG _) hf (λid hid=>(Hp.kL (λe=>hb ajI)).symm) (λy hy=>?_) (λy hy=>?_)
 ·rcases cF.1 hy with rfl|hy
  ·exact afB
  ·exact K80
 ·rcases cF.1 hy with rfl|hy
  ·exact K84
  ·exact K80
def Q7 (x:Ts)(n:aj):ac 175 [(true,fB x),(false,[.ref [T n]])] (.one (Bo (decide (x.name=n)))):=by
 refine sF f175 ?_;exact tL
def Og (ps:List Ts)(n:aj)(hl:ps.length<=1000):ac 174 [(false,[.view (ps.map fB)]),LC 175 [[T n]]] (.one (I (be (ps.map Ts.name) n))):=by
 have hn:(ps.map fB).length =ps.length:=by simp
 have Bf:(ps.map Ts.name).length =ps.length:=by simp
 refine sF f174 ?_
 (try(refine tX 0 ?_;try exact Zt))
 refine af (ι:=Nat) (λi=>i<=ps.length/\n∉(ps.map Ts.name).take i) (λi=>ps.length -i) (λi=>⟨[(0,some (.val (false,[.st (.view (ps.map fB))]))),(1,vF 175 [[T n]]),(7,vI ps.length),(8,vI i)],[],0⟩) 0 (ai P3) ⟨dz _,by simp⟩ ?_;rintro i ⟨hi,dm⟩;by_cases al:i<ps.length
 ·have he:=aZ (f:=fB) al dl;have hg:(ps.map Ts.name).getD i []=(ps.getD i dl).name :=by rw[getD_at al,getD_at K0];simp
  have nP:=λe=>mM (l:=ps.map Ts.name) (x:=n) (i:=i) K0 e dm;have Gt:=iN (l:=ps.map Ts.name) (i:=i) (x:=n) K0;rw[hg]at nP Gt;have hp1:=Q7 (ps.getD i dl) n;by_cases hx:(ps.getD i dl).name =n
  ·exact afN
  ·exact afT
 ·obtain rfl:i=ps.length:=by omega
  rw[pc K0]at dm;rw[dW dm];exact tL
def kE (p:Pl)(n:aj):Ts:=if n∈(cU p.aa)then p.aa.getD (be (cU p.aa) n).toNat dl else dl
def Q8 (p:Pl)(n:aj)(hl:p.aa.length<=1000):ac 141 [(true,bL p),SS n] (.aI [(true,fB (kE p n)),Bo (decide (n∈(cU p.aa)))]):=by
 have Xf:=Og p.aa n hl;have hq:p.aa.map Ts.name=(cU p.aa):=rfl;have pN:(p.aa.map fB).length =p.aa.length:=by simp
 rw[hq]at Xf;by_cases h:n∈(cU p.aa)
 ·obtain⟨k,hk,e⟩:=k9 h;have sC:k<p.aa.length:=by simpa [cU]using hk
  have hd:kE p n=p.aa.getD k dl:=by unfold kE;rw[if_pos h,e,tK]
  have R7:=aZ (f:=fB) sC dl;rw[e]at Xf;rw[hd,fh h];refine sF f141 ?_;exact tL
 ·have hd:kE p n=dl:=by unfold kE;rw[if_neg h]
  rw[dW h]at Xf;rw[hd,eJ h];refine sF f141 ?_;exact tL
def aag (x:aj × Int)(C4:Int)(n tx:aj):ac 57 [(true,nh x),(false,[.ref [J C4,T n,T tx]])] (.one (Bo (decide (x.1=n)))):=by
 refine sF f57 ?_;exact tL
def lZ (ps:List (aj × Int))(C4:Int)(n tx:aj)(hl:ps.length<=1000):ac 56 [(false,[.view (ps.map nh)]),LC 57 [[J C4,T n,T tx]]] (.one (I (be (ps.map Prod.fst) n))):=by
 have hn:(ps.map nh).length =ps.length:=by simp
 have Bf:(ps.map Prod.fst).length =ps.length:=by simp
 refine sF f56 ?_
 (try(refine tX 0 ?_;try exact Zt))
 refine af (ι:=Nat) (λi=>i<=ps.length/\n∉(ps.map Prod.fst).take i) (λi=>ps.length -i) (λi=>⟨[(0,some (.val (false,[.st (.view (ps.map nh))]))),(1,vF 57 [[J C4,T n,T tx]]),(7,vI ps.length),(8,vI i)],[],0⟩) 0 (ai P3) ⟨dz _,by simp⟩ ?_;rintro i ⟨hi,dm⟩;by_cases al:i<ps.length
 ·have he:=aZ (f:=nh) al ([],0);have hg:(ps.map Prod.fst).getD i []=(ps.getD i ([],0)).1:=by rw[getD_at al,getD_at K0];simp
  have nP:=λe=>mM (l:=ps.map Prod.fst) (x:=n) (i:=i) K0 e dm;have Gt:=iN (l:=ps.map Prod.fst) (i:=i) (x:=n) K0;rw[hg]at nP Gt;have hp1:=aag (ps.getD i ([],0)) C4 n tx;by_cases hx:(ps.getD i ([],0)).1=n
  ·exact afN
  ·exact afT
 ·obtain rfl:i=ps.length:=by omega
  rw[pc K0]at dm;rw[dW dm];exact tL
def Kt (u:Un)(l:List aj)(hl:l.length<=1000)(hr:u.res.length<=1000000):ac 220 [V1 l,LC 177 [[.ref (jB u)]]] (.one (I (IH u.res l))):=by
 have hn:(ab l).length =l.length:=by simp
 refine sF f220 ?_
 (try(refine tX 0 ?_;try exact Zt))
 refine af (ι:=Nat) (λi=>i<=l.length/\∀j<i,bK u.res (l.getD j [])=true) (λi=>l.length -i) (λi=>⟨[(0,some (.val (false,[.st (.view (ab l))]))),(1,vF 177 [[.ref (jB u)]]),(7,vI l.length),(8,vI i)],[],0⟩) 0 (ai P3) ⟨dz _,λj hj=>by omega⟩ ?_;rintro i ⟨hi,hp⟩;by_cases al:i<l.length
 ·have he:=sA al;have hv:=Q2 u (l.getD i []) hr;have hge:l.getD i []=l[i]:=by rw[jX,o8 al,vX]
  cases hx:bK u.res (l.getD i [])
  ·rw[hx]at hv
   have hf:IH u.res l=i:=by
    unfold IH
    have h1:l.all (bK u.res)=false:=by
     rw[Bool.eq_false_iff];intro h;rw[tM]at h;have:=h _ (pd al);rw[<- hge,hx]at this;cases this
    rw[h1]
    have h2:l.findIdx (λt=> !bK u.res t)=i:=by
     rw[Yg al];refine⟨by rw[<- hge,hx];rfl,λj hj=>?_⟩;have:=hp j hj;rw[jX,o8 K0,vX]at this;rw[this];rfl
    rw[h2];rfl
   rw[hf];exact tL
  ·rw[hx]at hv
   have io: ∀j<i+1,bK u.res (l.getD j [])=true:=λj hj=>by
    rcases C7.1 hj with h'|rfl
    ·exact hp j h'
    ·exact hx
   exact tL
 ·obtain rfl:i=l.length:=by omega
  have hf:IH u.res l= -1:=by
   unfold IH;rw[if_pos];rw[tM];intro x hx;obtain⟨j,hj,rfl⟩:=Jl.1 hx;have:=hp j hj;rwa [jX,o8 hj,vX]at this
  rw[hf];exact tL
def Q9 (u:Un)(l:List aj)(hl:l.length<=1000)(hr:u.res.length<=1000000):ac 176 [V1 l,LC 177 [[.ref (jB u)]]] (.one (Bo (!l.all (bK u.res)))):=by
 have hi:=Kt u l hl hr;unfold IH at hi;refine sF f176 ?_;cases h:l.all (bK u.res)
 ·rw[h]at hi;exact tL
 ·rw[h]at hi;exact tL
def Oh (u:Un)(t:Ts)(hl:t.bv.length<=1000)(hr:u.res.length<=1000000):ac 142 [UR u,(true,fB t)] (.one (Bo (iV u.res t))):=by
 have hi:=Q9 u t.bv hl hr;refine sF f142 ?_;repeat' ((first|refine tX 0 ?_|exact Zt|refine bR ?_ ?_<;>intro h)<;>(try conv=>whnf))
 all_goals exact gS (by unfold iV;simp)
abbrev enX (e:En):SV:=(true,cd e)
def Wt (s:aj):(Lib.cut s [32]).1=(aH 32 s).getD 0 []:=by grind[vp]
def Ku (log:List En):(log.length=0/\im log=0)\/∃k,log.length=k+1/\(log.map cd)[k]? =some (cd (log.getD k ⟨0,[],[]⟩))/\im log=(log.getD k ⟨0,[],[]⟩).t :=by
 by_cases h:log.length=0
 ·refine .inl ⟨h,?_⟩;rw[C8.1 h];rfl
 ·refine .inr ⟨log.length -1,by omega,aZ K0 _,?_⟩
  grind[im]
def Oi (p:Pl)(log:List En)(s:bV)(hl:s.units.length<=1000)(e:En)(h:60<=log.length):
  bA cx 35 1 ((false,[.ptr 1 0])::[enX e].map dyn) (form p log s) [1] (.val (dyn (I 8))) (form p log s):=by
 have hn:(log.map cd).length =log.length:=by simp
 obtain⟨et,ew,tx⟩:=e;obtain⟨volt,earth,opens,hall,lots,units⟩:=s;refine gF f35 hl ?_;exact K82
section
variable (p:Pl)(log:List En)(s:bV)(et:Int)(ew tx:aj)
noncomputable def s7 (kn:Bool):Int:=fs [if be p.ax ew>=0 then 0 else 6,if 0<=et/\et<=1000000000000 then 0 else 2,if et>=im log then 0 else 9,if((tx.length:Nat):Int)<=400 then 0 else 8,if aU tx then 0 else 3,if kn=true then 0 else 7]
theorem Wu (hl:s.units.length<=1000)(hp:p.ae.length<=1000)(ht:tx.length<=100000)(C0:log.length<60){role w k:Nat}{rest:Bool}{f:FuncId}(hf:iZ uL (B ((aH 32 tx).getD 0 []))=some (Ob role w k rest f))(hX:s7 p log et ew tx true≠0):
  bA cx 35 1 ((false,[.ptr 1 0])::[enX ⟨et,ew,tx⟩].map dyn) (form p log s) [1] (.val (dyn (I (s7 p log et ew tx true)))) (form p log s):=by
 have hn:(log.map cd).length =log.length:=by simp
 have c1:=lZ p.ae et ew tx hp;have c2:=gT tx 32 K0;rw[Wt]at c2;generalize (Lib.cut tx [32]).2.1=q1 at*;generalize (Lib.cut tx [32]).2.2=q2 at*;have c3:=kD tx K0;generalize (aH 32 tx).getD 0 []=wd at*;have hE:s7 p log et ew tx true=fs [if be p.ax ew>=0 then 0 else 6,if 0<=et/\et<=1000000000000 then 0 else 2,if et>=im log then 0 else 9,if((tx.length:Nat):Int)<=400 then 0 else 8,if aU tx then 0 else 3,if true=true then 0 else 7]:=rfl;have C3:=hE.symm;generalize s7 p log et ew tx true=X at*;clear hE;rw[show p.ax=p.ae.map Prod.fst from rfl]at C3;generalize be (p.ae.map Prod.fst) ew=iw at*;exact K2
theorem Wv (hl:s.units.length<=1000)(hp:p.ae.length<=1000)(ht:tx.length<=100000)(C0:log.length<60)(hf:iZ uL (B ((aH 32 tx).getD 0 []))=none)(hX:s7 p log et ew tx false≠0):
  bA cx 35 1 ((false,[.ptr 1 0])::[enX ⟨et,ew,tx⟩].map dyn) (form p log s) [1] (.val (dyn (I (s7 p log et ew tx false)))) (form p log s):=by
 have hn:(log.map cd).length =log.length:=by simp
 have c1:=lZ p.ae et ew tx hp;have c2:=gT tx 32 K0;rw[Wt]at c2;generalize (Lib.cut tx [32]).2.1=q1 at*;generalize (Lib.cut tx [32]).2.2=q2 at*;have c3:=kD tx K0;generalize (aH 32 tx).getD 0 []=wd at*;have hE:s7 p log et ew tx false=fs [if be p.ax ew>=0 then 0 else 6,if 0<=et/\et<=1000000000000 then 0 else 2,if et>=im log then 0 else 9,if((tx.length:Nat):Int)<=400 then 0 else 8,if aU tx then 0 else 3,if false=true then 0 else 7]:=rfl;have C3:=hE.symm;generalize s7 p log et ew tx false=X at*;clear hE;rw[show p.ax=p.ae.map Prod.fst from rfl]at C3;generalize be (p.ae.map Prod.fst) ew=iw at*;exact K2
theorem Oj (hl:s.units.length<=1000)(hp:p.ae.length<=1000)(ht:tx.length<=100000)(C0:log.length<60){role w k:Nat}{rest:Bool}{f:FuncId}(hf:iZ uL (B ((aH 32 tx).getD 0 []))=some (Ob role w k rest f))(hX:s7 p log et ew tx true=0)
  {ik:Nat}(I9:be p.ax ew=(ik:Nat))(Aa:ik<p.ae.length)(hr:(p.ae.getD ik ([],0)).2<role):
  bA cx 35 1 ((false,[.ptr 1 0])::[enX ⟨et,ew,tx⟩].map dyn) (form p log s) [1] (.val (dyn (I 18))) (form p log s):=by
 have hn:(log.map cd).length =log.length:=by simp
 have hpn:(p.ae.map nh).length =p.ae.length:=by simp
 have he:=aZ (f:=nh) Aa ([],0);have c1:=lZ p.ae et ew tx hp;have c2:=gT tx 32 K0;rw[Wt]at c2;generalize (Lib.cut tx [32]).2.1=q1 at*;generalize (Lib.cut tx [32]).2.2=q2 at*;have c3:=kD tx K0;generalize (aH 32 tx).getD 0 []=wd at*;have C3:fs [if be p.ax ew>=0 then 0 else 6,if 0<=et/\et<=1000000000000 then 0 else 2,if et>=im log then 0 else 9,if((tx.length:Nat):Int)<=400 then 0 else 8,if aU tx then 0 else 3,if true=true then 0 else 7]=0:=hX;rw[I9]at C3;rw[show p.ae.map Prod.fst=p.ax from rfl,I9]at c1;generalize p.ae.getD ik ([],0)=pe at*;obtain⟨pn,pr⟩:=pe;dsimp only at hr;exact K2
theorem Ol (hl:s.units.length<=1000)(hp:p.ae.length<=1000)(ht:tx.length<=100000)(C0:log.length<60){role w k:Nat}{rest:Bool}{f:FuncId}(hf:iZ uL (B ((aH 32 tx).getD 0 []))=some (Ob role w k rest f))(hX:s7 p log et ew tx true=0)
  {ik:Nat}(I9:be p.ax ew=(ik:Nat))(Aa:ik<p.ae.length)(hr: ¬(p.ae.getD ik ([],0)).2<role){a:List aj}{n:List Int}{r:aj}(Be:ac 61 [Ob role w k rest f,SS tx] (.aI [xp a n r,Bo false])):
  bA cx 35 1 ((false,[.ptr 1 0])::[enX ⟨et,ew,tx⟩].map dyn) (form p log s) [1] (.val (dyn (I 7))) (form p log s):=by
 have hn:(log.map cd).length =log.length:=by simp
 have hpn:(p.ae.map nh).length =p.ae.length:=by simp
 have he:=aZ (f:=nh) Aa ([],0);have c1:=lZ p.ae et ew tx hp;have c2:=gT tx 32 K0;rw[Wt]at c2;generalize (Lib.cut tx [32]).2.1=q1 at*;generalize (Lib.cut tx [32]).2.2=q2 at*;have c3:=kD tx K0;generalize (aH 32 tx).getD 0 []=wd at*;have C3:fs [if be p.ax ew>=0 then 0 else 6,if 0<=et/\et<=1000000000000 then 0 else 2,if et>=im log then 0 else 9,if((tx.length:Nat):Int)<=400 then 0 else 8,if aU tx then 0 else 3,if true=true then 0 else 7]=0:=hX;rw[I9]at C3;rw[show p.ae.map Prod.fst=p.ax from rfl,I9]at c1;generalize p.ae.getD ik ([],0)=pe at*;obtain⟨pn,pr⟩:=pe;dsimp only at hr;exact K2
end
def CU (s:aj):qE (iE (eD (aH 59 s))).1.2.1/\(∀x∈(iE (eD (aH 59 s))).1.2.2,qE x)/\(iE (eD (aH 59 s))).1.2.2.length <=s.length+1:=by
 have z:qd 0:=by grind[qd]
 have h0:qE ((0,0,0,0):Nk)/\(∀x∈([]:List Nk),qE x)/\([]:List Nk).length <=s.length+1:=⟨⟨z,z,z,z⟩,(λ_ h=>by cases h),dz _⟩;unfold iE
 cases e:eD (aH 59 s)with
 |none=>exact h0
 |some v=>
  obtain⟨e1,q,ch⟩:=v;dsimp only;by_cases h:aV e1 q ch=0
  ·rw[if_pos h];unfold eD at e
   cases e2:wN false 4 ((aH 59 s).getD 0 [])with
   |none=>rw[e2]at e;cases e
   |some n=>
    cases e3:fO BH ((aH 59 s).drop 1)with
    |none=>rw[e2,e3]at e;cases e
    |some l=>
     rw[e2,e3]at e;have Ad:=yY (P:=qE) (λs x=>QD) e3;have bD:=yX e3
     cases l with
     |nil=>cases e
     |cons q' ch'=>
      grind[cj]
  grind
def vN (s:aj):(dT (cI (aH 32 s))).1.2.length <=s.length+1:=by
 unfold dT
 cases e:cI (aH 32 s)with
 |none=>grind
 |some v=>
  obtain⟨st,l⟩:=v;dsimp only;have h:=QC e;have h6:=(cj 32 s).1
  grind
def sf (a b lo hi:Int):Int × Int:=if rZ a b lo hi=0 then(WB a b lo hi,0)else(0,rZ a b lo hi)
def uQ (a b lo hi:Int):ac 178 [F2 a b,F2 lo hi] (.aI [I (sf a b lo hi).1,I (sf a b lo hi).2]):=by
 have h:=G6 a b lo hi;unfold sf
 grind
def OD (s:aj):Option (Int × Int):=Es 32 (wN true 16) (wN true 16) s
def ady {s:aj}(h: ∃y∈s,y=(32:UInt8)):wN true 16 s=none:=by
 cases e:wN true 16 s with
 |none=>rfl
 |some n=>
  obtain⟨y,hy,rfl⟩:=h;rcases Eo e 32 hy with h|h
  grind
  grind[dq]
def uR (lo hi:Int)(rest:aj):Int × Int:=match OD rest with
 |some q=>sf q.1 q.2 lo hi
 |none=>(0,7)
noncomputable def Fq (lo hi:Int)(rest:aj):Int × Int:=if(CO rest).2=0 then(if(T7 (CO rest).1).2=0 then sf (T7 (CO rest).1).1.1 (T7 (CO rest).1).1.2 lo hi else(0,(T7 (CO rest).1).2))else(0,(CO rest).2)
def zE (e:Int)(q:Sp)(ch:List Sp)(l:List Int):(Int × Int) × Int:=
 if jM e q ch (eT (pk l:Nat) (pI l -e) (pI l+e) (Re l e) (Fg l e) (Rf l e) (Fh l e) (ov l e) (hfh l e))=0 then((aak (pI l -e) (iW ch),aal (pI l+e) (iW ch)),0)
 else((0,0),jM e q ch (eT (pk l:Nat) (pI l -e) (pI l+e) (Re l e) (Fg l e) (Rf l e) (Fh l e) (ov l e) (hfh l e)))
def KL (e:Int)(q:Sp)(ch:List Sp)(hq:qE q)(wl: ∀s∈ch,qE s)(hl:ch.length<=4294967296)(l:List Int):ac 184 [Ru e q ch,FG l e] (.aI [F2 (zE e q ch l).1.1 (zE e q ch l).1.2,I (zE e q ch l).2]):=by
 have h:=G8 e q ch hq wl hl (pk l:Nat) (pI l -e) (pI l+e) (Re l e) (Fg l e) (Rf l e) (Fh l e) (ov l e) (hfh l e);unfold zE
 grind
def aaA (e:Int)(q:Sp)(ch:List Sp)(st:Int)(l:List Int)(lo hi:Int):Int × Int:=
 if s8 e q ch st l=0 then(if(zE e q ch l).2=0 then sf (zE e q ch l).1.1 (zE e q ch l).1.2 lo hi else(0,(zE e q ch l).2))else(0,s8 e q ch st l)
def WE (z e:Int)(s:Iv):Int × Int:=if z≠0 then(0,z)else if km s then(0,0)else(2,0)
noncomputable def KM (log:List En)(u:Un)(t:Ts)(rest:aj):Int × Int:=
 if t.kind=0 then uR t.lo t.hi rest else if t.kind=3 then Fq t.lo t.hi rest else
  let R:=(iE (eD (aH 59 t.rules))).1;let X:=dT (cI (aH 32 rest))
  if X.2=0 then
   (if t.kind=2 then
    (let A:=(dT (cI (aH 32 (ci 3 (log.getD ((iO u.res (t.bv.getD 0 [])).getD AC).entry.toNat ⟨0,[],[]⟩).text)))).1
     WE (dx R.1 R.2.1 R.2.2 A.1 A.2 X.1.1 X.1.2) R.1 (Ui R.1 R.2.1 A.2 X.1.2))
   else aaA R.1 R.2.1 R.2.2 X.1.1 X.1.2 t.lo t.hi)
  else(0,X.2)
def alg (p:Pl)(log:List En)(u:Un)(nm:aj)(nd:List aj)(ru:aj)(lo hi:Int)(rest:aj)(hl:rest.length<=10000):
  ac 143 [WR p log,UR u,(true,fB ⟨nm,0,nd,ru,lo,hi⟩),SS rest] (.aI [I (uR lo hi rest).1,I (uR lo hi rest).2]):=by
 have ct:=gT rest 32 K0
 rcases vp rest 32 with⟨h1,h2⟩|⟨a,b,h1,h2,h3,h4⟩
 ·rw[h1]at ct;obtain⟨v,c1,hv⟩:=mQ true 16 bX rest K0;obtain⟨v',c2,PT⟩:=mQ true 16 bX [] (by simp);have e:OD rest=none:=yU h2;unfold uR;rw[e];generalize (wN true 16 rest).isSome =o1 at*;generalize (wN true 16 []).isSome =o2 at*;exact Dp
 ·rw[h1]at ct;obtain⟨v,c1,hv⟩:=mQ true 16 bX a K0;obtain⟨v',c2,PT⟩:=mQ true 16 bX b K0;have e:OD rest=(wN true 16 a).bind λx=>(wN true 16 b).map λy=>(x,y):=yV (λ_ h=>ady h) h2;unfold uR;rw[e]
  cases e1:wN true 16 a with
  |none=>
   rw[e1]at c1;generalize (wN true 16 b).isSome =o2 at*;exact Dp
  |some n=>
   cases e2:wN true 16 b with
   |none=>
    rw[e1]at c1;rw[e2]at c2;exact Dp
   |some n'=>
    rw[e1]at c1;rw[e2]at c2;obtain rfl:=hv _ e1;obtain rfl:=PT _ e2;have c3:=uQ n n' lo hi;show nR _ _ _ _ (.aI [I (sf n n' lo hi).1,I (sf n n' lo hi).2]);generalize sf n n' lo hi=z at*;exact Dp
def alh (p:Pl)(log:List En)(u:Un)(nm:aj)(nd:List aj)(ru:aj)(lo hi:Int)(rest:aj)(hl:rest.length<=10000):
  ac 143 [WR p log,UR u,(true,fB ⟨nm,3,nd,ru,lo,hi⟩),SS rest] (.aI [I (Fq lo hi rest).1,I (Fq lo hi rest).2]):=by
 have c1:=AX rest hl;obtain⟨⟨b1,b2⟩,b3⟩:=aaf rest;have c2:=Hb (CO rest).1 K0 K0 b3;unfold Fq;generalize CO rest=y at*;obtain⟨x,ye⟩:=y;by_cases h1:ye=0
 ·subst h1;rw[if_pos rfl];dsimp only at c1 c2 ⊢;generalize T7 x=w at*;obtain⟨⟨w1,w2⟩,we⟩:=w;by_cases h2:we=0
  ·subst h2;rw[if_pos rfl];have c3:=uQ w1 w2 lo hi;generalize sf w1 w2 lo hi=z at*;exact Dp
  ·rw[if_neg h2];exact Dp
 ·rw[if_neg h1];exact Dp
def ali (p:Pl)(log:List En)(u:Un)(nm:aj)(nd:List aj)(ru:aj)(lo hi:Int)(rest:aj)(hl:rest.length<=10000)(hr:ru.length<=10000):
  ac 143 [WR p log,UR u,(true,fB ⟨nm,1,nd,ru,lo,hi⟩),SS rest] (.aI [I (KM log u ⟨nm,1,nd,ru,lo,hi⟩ rest).1,I (KM log u ⟨nm,1,nd,ru,lo,hi⟩ rest).2]):=by
 have c1:=nj ru hr;have c2:=lY rest hl;obtain⟨b1,b2,b3⟩:=CU ru;have b4:=vN rest;unfold KM;dsimp only;rw[if_neg bX,if_neg bX];generalize iE (eD (aH 59 ru))=y at*;obtain⟨⟨e,q,ch⟩,ye⟩:=y;generalize dT (cI (aH 32 rest))=x at*;obtain⟨⟨st,l⟩,xe⟩:=x;dsimp only at*;by_cases h1:xe=0
 ·subst h1;rw[if_pos rfl,if_neg bX];have c3:=G3 e q ch st l b1 b2 K0 acg;unfold aaA;by_cases h2:s8 e q ch st l=0
  ·rw[if_pos h2]at c3 ⊢;have c4:=KL e q ch b1 b2 K0 l;generalize zE e q ch l=w at*;obtain⟨⟨w1,w2⟩,we⟩:=w;by_cases h3:we=0
   ·subst h3;rw[if_pos rfl];have c5:=uQ w1 w2 lo hi;generalize sf w1 w2 lo hi=z at*;exact Dp
   ·rw[if_neg h3];exact Dp
  ·rw[if_neg h2]at c3 ⊢;generalize s8 e q ch st l=z at*;exact Dp
 ·rw[if_neg h1];exact Dp
abbrev iX:En:=⟨0,[],[]⟩
def Rn (s:aj)(hl:s.length<=100000)(h:4<=(aH 32 s).length):ac 227 [SS s] (.one (SS (ci 3 s))):=by
 have c1:ac 120 [SS s,SS [32],I 4] _:=rY s 4 K0 K0 K0;rw[Kr _ _ K0 h,show 4 -1=3 from rfl]at c1;have al:((aH 32 s).take 3).length =3:=by simp;omega
 generalize (aH 32 s).take 3=l at*;generalize ci 3 s=r at*;have hg:(ab (l++[r]))[3]? =some [T r]:=by simp[ab,al]
 have hn:(ab (l++[r])).length =4:=by simp[ab,al]
 refine sF f227 ?_;exact tA
def OE (p:Pl)(log:List En)(u:Un)(nm n0:aj)(kd:Int)(nd:List aj)(ru:aj)(lo hi:Int)(lE:u.res.length<=1000000){rt:aj}{ra:Int}{k:Nat}{rv:Bool}(hr:iO u.res n0=some ⟨rt,ra,(k:Nat),rv⟩)
  (hk:k<log.length)(h4:4<=(aH 32 (log.getD k iX).text).length)(ht:(log.getD k iX).text.length <=9000)(e:Int)(q:Sp)(ch:List Sp)(hq:qE q)(wl: ∀s∈ch,qE s)(hc:ch.length<=100000)(st:Int)(l:List Int)(hl:l.length<=100000):
  ac 182 [WR p log,UR u,(true,fB ⟨nm,kd,n0::nd,ru,lo,hi⟩),Ru e q ch,Rc st l]
   (.aI [I (WE (dx e q ch (dT (cI (aH 32 (ci 3 (log.getD k iX).text)))).1.1 (dT (cI (aH 32 (ci 3 (log.getD k iX).text)))).1.2 st l) e (Ui e q (dT (cI (aH 32 (ci 3 (log.getD k iX).text)))).1.2 l)).1,
    I (WE (dx e q ch (dT (cI (aH 32 (ci 3 (log.getD k iX).text)))).1.1 (dT (cI (aH 32 (ci 3 (log.getD k iX).text)))).1.2 st l) e (Ui e q (dT (cI (aH 32 (ci 3 (log.getD k iX).text)))).1.2 l)).2]):=by
 have he:=aZ (f:=cd) hk iX;have c1:=NV (T u.name) (J u.win.k1) (J u.win.t1) (J u.win.s1) (K u.win.r1) (J u.win.k2) (J u.win.t2) (J u.win.s2) (K u.win.r2) (J u.win.st) (.view (ab u.lots)) u.res [K u.failed,K u.rel,K u.shaken,J u.used,.view (u.gas.map tp)] n0 lE;replace c1:ac 125 [UR u,SS n0] (.aI [(true,[T rt,J ra,J ((k:Nat):Int),K rv]),Bo true]):=by rw[hr]at c1;exact c1
 generalize hE:log.getD k iX=en at*;obtain⟨et,ew,tx⟩:=en;dsimp only at*;have c2:=Rn tx K0 h4;have hdl:=oh 3 tx;have c3:=lY (ci 3 tx) K0;have b1:=vN (ci 3 tx);have Bf:(log.map cd).length =log.length:=by simp
 generalize dT (cI (aH 32 (ci 3 tx)))=x at*;obtain⟨⟨sa,la⟩,xe⟩:=x;dsimp only at*;generalize ci 3 tx=dr at*;have c4:=AW e q ch sa la st l hq wl K0 ab7 ab7;unfold WC at c4;unfold WE;by_cases h1:dx e q ch sa la st l=0
 ·rw[h1]at c4 ⊢;rw[if_neg K0]at c4 ⊢;by_cases h2:km (Ui e q la l)
  ·rw[if_pos h2]at c4 ⊢;exact acn
  ·rw[if_neg h2]at c4 ⊢;by_cases h3:e=0
   ·rw[if_pos h3]at c4;exact acn
   ·rw[if_neg h3]at c4;exact acn
 ·rw[if_pos h1]at c4 ⊢;generalize dx e q ch sa la st l=z at*;exact acn
def aaB (log:List En)(u:Un)(t:Ts):Prop:=∃n0 nd rt ra,∃k:Nat,∃rv,t.bv=n0::nd/\iO u.res n0=some ⟨rt,ra,(k:Nat),rv⟩/\k<log.length/\4<=(aH 32 (log.getD k iX).text).length /\(log.getD k iX).text.length <=9000
def alj (p:Pl)(log:List En)(u:Un)(nm:aj)(nd:List aj)(ru:aj)(lo hi:Int)(rest:aj)(lE:u.res.length<=1000000)(hl:rest.length<=10000)(hr:ru.length<=10000)(hc:aaB log u ⟨nm,2,nd,ru,lo,hi⟩):
  ac 143 [WR p log,UR u,(true,fB ⟨nm,2,nd,ru,lo,hi⟩),SS rest] (.aI [I (KM log u ⟨nm,2,nd,ru,lo,hi⟩ rest).1,I (KM log u ⟨nm,2,nd,ru,lo,hi⟩ rest).2]):=by
 obtain⟨n0,nd',rt,ra,k,rv,rfl,h1,h2,h3,h4⟩:=hc;have c1:=nj ru hr;have c2:=lY rest hl;obtain⟨b1,b2,b3⟩:=CU ru;have b4:=vN rest;have c3:=λe q ch hq wl hc st l hl=>OE p log u nm n0 2 nd' ru lo hi lE h1 h2 h3 h4 e q ch hq wl hc st l hl;unfold KM;dsimp only;rw[if_neg bX,if_neg bX,L6,h1];simp only[vX,tK];generalize log.getD k iX=en at*;generalize iE (eD (aH 59 ru))=y at*;obtain⟨⟨e,q,ch⟩,ye⟩:=y;generalize dT (cI (aH 32 rest))=x at*;obtain⟨⟨st,l⟩,xe⟩:=x;dsimp only at*;by_cases h1:xe=0
 ·subst h1;rw[if_pos rfl,if_pos trivial];have c4:=c3 e q ch b1 b2 K0 st l K0;generalize WE (dx e q ch (dT (cI (aH 32 (ci 3 en.text)))).1.1 (dT (cI (aH 32 (ci 3 en.text)))).1.2 st l) e (Ui e q (dT (cI (aH 32 (ci 3 en.text)))).1.2 l)=z at*;refine sF f143 ?_;exact tA
 ·rw[if_neg h1];refine sF f143 ?_;exact tA
def KN (p:Pl)(log:List En)(u:Un)(t:Ts)(rest:aj)(lE:u.res.length<=1000000)(hl:rest.length<=10000)(hr:t.rules.length<=10000)(hk:0<=t.kind/\t.kind<=3)(hc:t.kind=2->aaB log u t):
  ac 143 [WR p log,UR u,(true,fB t),SS rest] (.aI [I (KM log u t rest).1,I (KM log u t rest).2]):=by
 obtain⟨nm,kd,nd,ru,lo,hi⟩:=t;dsimp only at hr hk hc;obtain rfl|rfl|rfl|rfl:kd=0\/kd=1\/kd=2\/kd=3:=by omega
 ·exact alg p log u nm nd ru lo hi rest hl
 ·exact ali p log u nm nd ru lo hi rest hl hr
 ·exact alj p log u nm nd ru lo hi rest lE hl hr (hc rfl)
 ·exact alh p log u nm nd ru lo hi rest hl
def vO {E E':dS}{H:Hp}{nx n':Nat}{p:Pl}{log:List En}{s:bV}{u u0:Un}{us:List Un}{i:Nat}{m:List (Nat × Nat)}{X:Hp}{ks:List Nat}(hi:us[i]? =some u0)(hl:us.length<=1000)(hm:Go.Fw.Jf ((9,9)::m)=true)(h9:H.get 9=some (.az 17 ((ay 0 us).set i (cV u 11 13 15))))
  (h1:bU ((9,9)::m) 11=some 11)(h2:bU ((9,9)::m) 13=some 13)(h3:bU ((9,9)::m) 15=some 15)
  (hY:jY ((9,9)::m++mZ (av us i)) H.get m=some (hd p log s++lC u 11 13 15++X))(hX:((ah X).all λk=>Nat.beq (k%2) 0)=true)(hE:gY H (av us i))(hn:(m.all λq=>Nat.blt (tag q.2) n')=true)(h0:Nat.blt 0 n'=true)
  (ahm:eZ ((9,9)::m++mZ (av us i)) E.get ks=some E'):bu ⟨E,H,nx⟩ ⟨E',X++ep p log s u ((ay 0 us).set i (cV u 11 13 15)) (av us i),n'⟩:=by
 have hT:=BV hi hl;have hXe: ∀k∈ah X,k%2=0:=λk hk=>pj (tM.1 hX k hk);have ag5: ∀ {k v:Nat},bU ((9,9)::m) k=some v->bU ((9,9)::m++mZ (av us i)) k=some v:=λ{k v} h=>by rw[kW,h]
 have iG:fC ((9,9)::m++mZ (av us i)) ((ay 0 us).set i (cV u 11 13 15))=some ((ay 0 us).set i (cV u 11 13 15)):=by
  rw[vA hi];refine zg (qJ hT hm λn hn=>?_) ?_
  grind
  ·have h2':=qJ (m:=(9,9)::m) hT hm (k:=i+1) (us:=us.drop (i+1)) λn hn=>by
    grind
   unfold fC;rw[h2'];simp only[cV,eX,na,ag5 h1,ag5 h2,ag5 h3]
 have e8:=cZ.form (Y:=hd p log s++lC u 11 13 15++X) hT hm h9 iG hY (by
  rw[tM];intro k hk;have hk:k∈ah (hd p log s++lC u 11 13 15)++ah X:=by grind
  rcases ig.1 hk with h|h
  ·have:k=1\/k=3\/k=5\/k=7\/k=11\/k=13\/k=15:=by simpa [hd,lC,ah]using h
   rcases this with rfl|rfl|rfl|rfl|rfl|rfl|rfl<;>rfl
  grind[J4]) (hE.get hT)
 refine(CP e8 (λq hq=>?_) ahm).trans (CN ?_)
 ·have h0:0<n':=by simp_all
  rcases ig.1 hq with h|h
  ·rcases cF.1 h with rfl|h
   ·exact h0
   grind[Nat.blt_eq]
  ·exact ahL
 ·generalize (ay 0 us).set i (cV u 11 13 15)=l at*;have e:((9,some (cC.az 17 l))::(hd p log s++lC u 11 13 15++X)++av us i:Hp)=((9,some (.az 17 l))::(hd p log s++lC u 11 13 15))++(X++av us i):=by simp
  rw[e,show X++ep p log s u l (av us i)=X++(((9,some (.az 17 l))::(hd p log s++lC u 11 13 15))++av us i)by simp[ep]];refine qA λn hn hm=>?_;have h1:=hXe n hn;have:n=9\/n=1\/n=3\/n=5\/n=7\/n=11\/n=13\/n=15:=by simpa [hd,lC,ah]using hm
  omega
def voR (vd:List aj)(r:Rs):Rs:={r with void:=r.void || decide (r.test∈vd)}
def i8 (l:List Rs)(vd:List aj)(i:Nat):List Rs:=(l.take i).map (voR vd)++l.drop i
def aaF (l:List Rs)(vd:List aj)(i:Nat):(i8 l vd i).length =l.length:=by grind[i8]
def KO {l:List Rs}{vd:List aj}{i:Nat}(h:i<l.length):((i8 l vd i).map kg)[i]? =some (kg (l.getD i AC)):=by grind[i8]
def Fr {l:List Rs}{vd:List aj}{i:Nat}(h:i<l.length):((i8 l vd i).map kg).set i (kg (voR vd (l.getD i AC)))=(i8 l vd (i+1)).map kg:=by
 rw[<- Tb];congr 1;have al:(l.take i).length =i:=by grind
 unfold i8;rw[SD _ _ bw,jf,al,HI,Db,Aj,HB];congr 1
 grind[List.drop_eq_getElem_cons]
def OF (l:List Rs)(vd:List aj):i8 l vd l.length=l.map (voR vd):=by simp[i8]
def aaG {p:Pl}{y:aj}(h:y∈p.ba):nv p y=p.parts.getD (be p.ba y).toNat ([],[])/\0<=be p.ba y/\nv p y∈p.parts:=by
 obtain⟨k,hk,e⟩:=k9 h;have sC:k<p.parts.length:=by grind[Pl.ba]
 have hd:nv p y=p.parts.getD (be p.ba y).toNat ([],[]):=by unfold nv;grind
 grind
def Rt (E:to)(p:Pl)(log:List En)(s:bV)(hl:s.units.length<=1000)(x y:aj)(n:List Int)(r:aj)(hp:p.aa.length<=1000)(hpp:p.parts.length<=1000)(hpv: ∀q∈p.parts,q.2.length<=1000)(Cu: ∀i<p.aa.length,(p.aa.getD i dl).bv.length <=1000)(hu: ∀u∈s.units,u.res.length<=1000):
  bA cx 114 1 ((false,[.ptr 1 0])::[xp [x,y] n r].map dyn) (form p log s) [1] (.val (dyn (I (bm E p log s 13 [x,y] n r).2))) (form p log (bm E p log s 13 [x,y] n r).1):=by
 rw[show bm E p log s 13 [x,y] n r=T6 E p log s 13 x [x,y] n r from rfl];obtain⟨volt,earth,opens,hall,lots,units⟩:=s;have ct:=Q0 p y hpp;by_cases hx:0<=iB ⟨volt,earth,opens,hall,lots,units⟩ x
 ·obtain⟨i,u,h1,h2,h3,h4,h5⟩:=j7 hx;have c0:=λfid H=>ld (fid:=fid) (H:=H) h3 hl h1;have LI:=jH h3;have hr:u.res.length<=1000:=hu u LI;by_cases hy:y∈p.ba
  ·obtain⟨t1,t2,t3⟩:=aaG hy;rw[fh hy]at ct
   have hq:aQ E p log ⟨volt,earth,opens,hall,lots,units⟩ u 13 [x,y] n r=if u.rel then(u,20)else if hall=u.name/\opens= []then(u,24)else
     ({u with res:=u.res.map (voR (jk p.aa (nv p y).2)),failed:=false},0):=by
    rw[t1];exact if_pos t2
   have cv:=Q1 p (nv p y) hp (hpv _ t3) Cu;have PP:(jk p.aa (nv p y).2).length <=p.aa.length:=rM _ _;generalize jk p.aa (nv p y).2=vd at*;clear t1 t2 t3;generalize nv p y=t at*;obtain⟨nm,vs⟩:=t;obtain⟨name,win,ul,res,failed,rel,shaken,used,gas⟩:=u;dsimp only at hq hr;cases rel
   ·rw[if_neg xZ]at hq;by_cases hh:hall=name/\opens= []
    ·obtain⟨rfl,rfl⟩:=hh;rw[aY hx h2 h4 (hq.trans (if_pos ⟨rfl,rfl⟩))];exact afW
    ·rw[aY hx h2 h4 (hq.trans (if_neg hh))];refine gI f114 h3 hl rfl ?_;have hrl:(res.map kg).length =res.length:=by simp
     have ho:hall=name->((ab opens).length :Int)>0:=λe=>by
      cases opens with
      |nil=>grind
      |cons a l=>grind
     by_cases hn:hall=name
     ·have ho:=ho hn;repeat' ((first|(refine kO 7 rfl ?_;first|refine gu (λ_ z=>⟨_,_,_,(c0 _ _ ⟨_,_,rfl,rfl⟩ rfl),z⟩) ?_|refine rG (λ_ z=>⟨_,aN ho _,z⟩) ?_|refine Rq (bZ _ _) ?_|refine rG (λ_ z=>⟨_,wF (E:=0) rfl,z⟩) ?_)|refine tX 0 ?_|exact Zt|refine bR ?_ ?_<;>intro h)<;>(try conv=>whnf))
      all_goals try contradiction
      refine af (ι:=Nat) (λk=>k<=res.length) (λk=>res.length -k) (λk=>⟨[(0,pP 1),(5,some (.val (false,[.cK 9 17 i 0]))),(9,pO 2),(76,vI res.length),(77,vI k)],[(2,some (.row true 1 (.view (ab vd))))]++ep p log ⟨volt,earth,opens,hall,lots,units⟩ ⟨name,win,ul,i8 res vd k,failed,false,shaken,used,gas⟩ ((ay 0 units).set i (cV ⟨name,win,ul,res,failed,false,shaken,used,gas⟩ 11 13 15)) (av units i),1000⟩) 0
       (vO (ks:=[0,5,9,76,77]) (m:=[(1,1),(3,3),(5,5),(7,7),(11,11),(13,13),(15,15),(134,2)]) h3 hl dy rfl dy dy dy dy dy K41 dy dy U1) (dz _) ?_
      intro k hk;by_cases al:k<res.length
      ·have he:=KO (vd:=vd) al;have nq:=Fr (vd:=vd) al;have sC:((i8 res vd k).map kg).length =res.length:=by exact acb
       generalize res.getD k AC=rr at*;obtain⟨rt,ra,re,rv⟩:=rr;have cc:=bG vd rt K0;cases rv
       ·repeat' ((first|refine tX 0 ?_|exact Zt|refine bR ?_ ?_<;>intro h)<;>(try conv=>whnf))
        all_goals first|exact Zo|exact⟨k+1,al,by omega,vO (ks:=[0,5,9,76,77]) (m:=[(1,1),(3,3),(5,5),(7,7),(11,11),(13,13),(15,15),(2,2)]) h3 hl dy rfl dy dy dy abY dy K41 dy dy dy⟩
       ·repeat' ((first|refine tX 0 ?_|exact Zt|refine bR ?_ ?_<;>intro h)<;>(try conv=>whnf))
        all_goals first|exact Zo|exact⟨k+1,al,by omega,vO (ks:=[0,5,9,76,77]) (m:=[(1,1),(3,3),(5,5),(7,7),(11,11),(13,13),(15,15),(2,2)]) h3 hl dy rfl dy dy dy abY dy K41 dy dy dy⟩
      ·exact ajr
     ·repeat' ((first|(refine kO 7 rfl ?_;first|refine gu (λ_ z=>⟨_,_,_,(c0 _ _ ⟨_,_,rfl,rfl⟩ rfl),z⟩) ?_|refine Rq (bZ _ _) ?_|refine rG (λ_ z=>⟨_,wF (E:=0) rfl,z⟩) ?_)|refine tX 0 ?_|exact Zt|refine bR ?_ ?_<;>intro h)<;>(try conv=>whnf))
      all_goals try contradiction
      refine af (ι:=Nat) (λk=>k<=res.length) (λk=>res.length -k) (λk=>⟨[(0,pP 1),(5,some (.val (false,[.cK 9 17 i 0]))),(9,pO 2),(76,vI res.length),(77,vI k)],[(2,some (.row true 1 (.view (ab vd))))]++ep p log ⟨volt,earth,opens,hall,lots,units⟩ ⟨name,win,ul,i8 res vd k,failed,false,shaken,used,gas⟩ ((ay 0 units).set i (cV ⟨name,win,ul,res,failed,false,shaken,used,gas⟩ 11 13 15)) (av units i),1000⟩) 0
       (vO (ks:=[0,5,9,76,77]) (m:=[(1,1),(3,3),(5,5),(7,7),(11,11),(13,13),(15,15),(134,2)]) h3 hl dy rfl dy dy dy dy dy K41 dy dy U1) (dz _) ?_
      intro k hk;by_cases al:k<res.length
      ·have he:=KO (vd:=vd) al;have nq:=Fr (vd:=vd) al;have sC:((i8 res vd k).map kg).length =res.length:=by exact acb
       generalize res.getD k AC=rr at*;obtain⟨rt,ra,re,rv⟩:=rr;have cc:=bG vd rt K0;cases rv
       ·repeat' ((first|refine tX 0 ?_|exact Zt|refine bR ?_ ?_<;>intro h)<;>(try conv=>whnf))
        all_goals first|exact Zo|exact⟨k+1,al,by omega,vO (ks:=[0,5,9,76,77]) (m:=[(1,1),(3,3),(5,5),(7,7),(11,11),(13,13),(15,15),(2,2)]) h3 hl dy rfl dy dy dy abY dy K41 dy dy dy⟩
       ·repeat' ((first|refine tX 0 ?_|exact Zt|refine bR ?_ ?_<;>intro h)<;>(try conv=>whnf))
        all_goals first|exact Zo|exact⟨k+1,al,by omega,vO (ks:=[0,5,9,76,77]) (m:=[(1,1),(3,3),(5,5),(7,7),(11,11),(13,13),(15,15),(2,2)]) h3 hl dy rfl dy dy dy abY dy K41 dy dy dy⟩
      ·exact ajr
   ·rw[aY hx h2 h4 (hq.trans (if_pos rfl))];exact afW
  ·rw[eJ hy]at ct;have dm: ¬0<=be p.ba y:=by grind[dW]
   generalize nv p y=t at*;obtain⟨nm,vs⟩:=t;rw[aY hx h2 h4 (show aQ E p log ⟨volt,earth,opens,hall,lots,units⟩ u 13 [x,y] n r=(u,6)from if_neg dm)];obtain⟨name,win,ul,res,failed,rel,shaken,used,gas⟩:=u;exact afW
 ·rw[oV hx];generalize nv p y=t at*;obtain⟨nm,vs⟩:=t;generalize decide (y∈p.ba)=is at*;refine gF f114 hl ?_;exact K12
def Uk {H:HF}{fid:Nat}{us:List Un}{i:Nat}(hl:us.length<=1000){x:aj}(hx:be (us.map Un.name) x=(i:Nat))(h1: ∃t cs,H 1=some (.box t cs)/\cs[12]? =some (.own 9))(h9:H 9=some (.az 17 (ay 0 us))):
  bI cx fid 62 [(false,[.ptr 1 0]),(false,[.st (T x)])] H (bh (.cK 9 17 i 0)) [] [1,9]:=
 E1 (ns:=us.map Un.name) x ⟨h1,⟨_,h9,by rw[eN,jf],λ_ _ he=>AJ he⟩,by grind⟩ (.inr ⟨by omega,by grind⟩)
def unZ (u:Un):List DC:=[.st (T u.name),.st (J u.win.k1),.st (J u.win.t1),.st (J u.win.s1),.st (K u.win.r1),.st (J u.win.k2),.st (J u.win.t2),.st (J u.win.s2),.st (K u.win.r2),.st (J u.win.st),.nil,.nil,.st (K u.failed),.st (K u.rel),.st (K u.shaken),.st (J u.used),.nil]
def aaI {E:dS}{Hh:Hp}{nx:Nat}(id:Nat){l:List (List DC)}{u:Un}(hB:Hh.get id=some (.az 17 (l++[unZ u]))):
  ∃X2 X1:List (List DC),bu ⟨E,Hh,nx⟩ ⟨E,(id,some (.az 17 (l++[cV u (2*nx) (2*(nx+1)) (2*(nx+1+1))])))::(2*(nx+1+1),some (.row true 5 (.view [])))::(id,some (.az 17 X2))::(2*(nx+1),some (.row true 4 (.view [])))::(id,some (.az 17 X1))::(2*nx,some (.row true 1 (.view [])))::Hh,nx+1+1+1⟩:=by
 have Gl: ∀e e':List DC,(l++[e]).set l.length e'=l++[e']:=λe e'=>by simp
 have Gu: ∀e:List DC,(l++[e])[l.length]? =some e:=λe=>by simp
 have s1:=E9 (E:=E) (nx:=nx) id l.length 10 1 (.view []) bX rfl rfl hB (Gu _) (show(unZ u)[10]? =some .nil from rfl);rw[Gl]at s1;have s2:=E9 (E:=E) (nx:=nx+1) (Hh:=(id,some (.az 17 (l++[(unZ u).set 10 (.own (2*nx))])))::(2*nx,some (.row true 1 (.view [])))::Hh) id l.length 11 4 (.view []) bX rfl rfl P4 (Gu _) (show((unZ u).set 10 (.own (2*nx)))[11]? =some .nil from rfl);rw[Gl]at s2;have s3:=E9 (E:=E) (nx:=nx+1+1) (Hh:=(id,some (.az 17 (l++[((unZ u).set 10 (.own (2*nx))).set 11 (.own (2*(nx+1)))])))::(2*(nx+1),some (.row true 4 (.view [])))::(id,some (.az 17 (l++[(unZ u).set 10 (.own (2*nx))])))::(2*nx,some (.row true 1 (.view [])))::Hh) id l.length 16 5 (.view []) bX rfl rfl P4 (Gu _) (show(((unZ u).set 10 (.own (2*nx))).set 11 (.own (2*(nx+1))))[16]? =some .nil from rfl);rw[Gl]at s3;exact⟨_,_,(s1.trans s2).trans s3⟩
def agI (fn:Func)(p:Pl)(log:List En)(s:bV)(us:List Un)(u:Un)(r:DV)(S:St):Prop:=∃lg op lt un a b c,
 S.env.get 0=some (.val (false,[.ptr 1 0]))/\S.hp.get 1=some (.box 81 [.st (.view (p.ae.map nh)),.st (.view (ab p.ap)),.st (.view (p.aa.map fB)),.st (.view (p.parts.map mj)),.st (J p.dY),.st (J p.eH),.own lg,.st (K s.volt),.st (K s.earth),.own op,.st (T s.hall),.own lt,.own un])/\
 S.hp.get un=some (.az 17 (ay 0 us++[cV u a b c]))/\
 S.hp.get lg=some (.row true 3 (.view (log.map cd)))/\S.hp.get op=some (.row true 1 (.view (ab s.opens)))/\S.hp.get lt=some (.row true 1 (.view (ab s.lots)))/\
 S.hp.get a=some (.row true 1 (.view (ab u.lots)))/\S.hp.get b=some (.row true 4 (.view (u.res.map kg)))/\S.hp.get c=some (.row true 5 (.view (u.gas.map tp)))/\
 Go.Fw.Jf [(un,9),(1,1),(lg,3),(op,5),(lt,7),(a,11),(b,13),(c,15)]=true/\gY S.hp (bt 0 us)/\
 eu cx S.hp.get S.env.get fn.results.toList λys=>∃zs,kV ([(un,9),(1,1),(lg,3),(op,5),(lt,7),(a,11),(b,13),(c,15)]++mZ (bt 0 us)) ys=some zs/\pv zs=r
def adz {un lg op lt a b c:Nat}(h:Go.Fw.Jf [(un,9),(1,1),(lg,3),(op,5),(lt,7),(a,11),(b,13),(c,15)]=true):
  (1≠un)/\(lg≠un/\lg≠1)/\(op≠un/\op≠1/\op≠lg)/\(lt≠un/\lt≠1/\lt≠lg/\lt≠op)/\(a≠un/\a≠1/\a≠lg/\a≠op/\a≠lt)/\(b≠un/\b≠1/\b≠lg/\b≠op/\b≠lt/\b≠a)/\c≠un/\c≠1/\c≠lg/\c≠op/\c≠lt/\c≠a/\c≠b:=by
 exact ahD
def adA {fn:Func}{p:Pl}{log:List En}{s:bV}{u:Un}{us:List Un}{r:DV}{S:St}(hl:us.length<=1000)(h:agI fn p log s us u r S):
  ∃m:List (Nat × Nat),cZ m S.hp.get (ep p log s u (ay 0 us++[cV u 11 13 15]) (bt 0 us)).get /\(∀q∈[(0,1)],∃o off,S.env.get q.1=some (.val (false,[.ptr o off]))/\(o,q.2)∈m)/\
   eu cx S.hp.get S.env.get fn.results.toList λys=>∃zs,kV m ys=some zs/\pv zs=r:=by
 obtain⟨lg,op,lt,un,a,b,c,h0,h1,h9,h2,h3,h4,h5,h6,h7,hm,hE,hr⟩:=h;have hT:=fW hl;obtain⟨z1,⟨n1,n2⟩,⟨n3,n4,n5⟩,⟨n6,n7,n8,n9⟩,⟨a1,a2,a3,a4,a5⟩,⟨b1,b2,b3,b4,b5,b6⟩,c1,c2,c3,c4,c5,c6,c7⟩:=adz hm;have id1:bU ((un,9)::[(1,1),(lg,3),(op,5),(lt,7),(a,11),(b,13),(c,15)]++mZ (bt 0 us)) lg=some 3:=acr;have id2:bU ((un,9)::[(1,1),(lg,3),(op,5),(lt,7),(a,11),(b,13),(c,15)]++mZ (bt 0 us)) op=some 5:=acr;have id3:bU ((un,9)::[(1,1),(lg,3),(op,5),(lt,7),(a,11),(b,13),(c,15)]++mZ (bt 0 us)) lt=some 7:=ab0;have id5:bU ((un,9)::[(1,1),(lg,3),(op,5),(lt,7),(a,11),(b,13),(c,15)]++mZ (bt 0 us)) a=some 11:=ab0;have id6:bU ((un,9)::[(1,1),(lg,3),(op,5),(lt,7),(a,11),(b,13),(c,15)]++mZ (bt 0 us)) b=some 13:=aiq;have id7:bU ((un,9)::[(1,1),(lg,3),(op,5),(lt,7),(a,11),(b,13),(c,15)]++mZ (bt 0 us)) c=some 15:=ail;have id4:bU ((un,9)::[(1,1),(lg,3),(op,5),(lt,7),(a,11),(b,13),(c,15)]++mZ (bt 0 us)) un=some 9:=by grind[mN]
 have iG:fC ((un,9)::[(1,1),(lg,3),(op,5),(lt,7),(a,11),(b,13),(c,15)]++mZ (bt 0 us)) (ay 0 us++[cV u a b c])=some (ay 0 us++[cV u 11 13 15]):=by
  refine zg (qJ hT hm λn hn=>hn) ?_;unfold fC;simp only[cV,eX,na,id5,id6,id7];rfl
 refine⟨_,cZ.aen (Y:=hd p log s++lC u 11 13 15) hT hm h9 iG ?_ rfl (hE.get hT),λq hq=>?_,hr⟩
 ·exact aiR
 grind
def adB {f:FuncId}{xs:List DX}{Hs:Hp}{p:Pl}{log:List En}{s':bV}{us:List Un}{i:Nat}{u u':Un}{y:SV}(hi:us[i]? =some u)(hl:us.length<=1000)(hs:s'.units=us.set i u')
  (h:bA cx f 1 xs Hs [1] (.val (dyn y)) (ep p log s' u' ((ay 0 us).set i (cV u' 11 13 15)) (av us i))):bA cx f 1 xs Hs [1] (.val (dyn y)) (form p log s'):=by
 have eP:=oc p log s' (u':=u') hi hl;have alR: ∀k∈ah (ep p log s' u' ((ay 0 us).set i (cV u' 11 13 15)) (av us i)),k≠17+6*i/\k≠19+6*i/\k≠21+6*i:=λk qU=>by exact K95
 have ahq: ∀a∈ah (ep p log s' u' ((ay 0 us).set i (cV u' 11 13 15)) (av us i)),∀b∈ah (ep p log s' u' ((ay 0 us).set i (cV u' 11 13 15)) (av us i)),Ir i a=Ir i b->a=b:=λa ha b hb e=>by grind[Ir]
 have u1:Ir i 1=1:=Kh K0 K0 K0
 have g3:=h.out (nf.hp eP ahq) (by
   grind[lH,bd]) (λid hid=>by rw[mA]at hid;subst hid;exact⟨eP.xW,u1⟩)
 have hr:LA (Ir i) (.val (dyn y))= .val (dyn y):=aP DV.val (J5 _ y)
 grind[bA.congr,No]
def gU {f:FuncId}{c:Code}{p:Pl}{log:List En}{s s':bV}{u:Un}{ys:List SV}{y:SV}(fn:Func)(hl:s.units.length<1000)(hs:s'.units=s.units++[u])
  (h:m9 cx c ⟨iz 0 ((false,[.ptr 1 0])::ys.map dyn),form p log s,1⟩ (agI fn p log s' s.units u (.val (dyn y))) (λ_ _=>False) (agI fn p log s' s.units u (.val (dyn y))))
  (h1:iI cx.P f=true:=by kernel_rfl)(h2:cx.P.funcs[f]? =some fn:=by kernel_rfl)(h3:fn.body=some c:=by rfl)(h4:bQ fn.ntmps c=true:=by kernel_rfl)(h5:ys.length+1<=fn.ntmps:=by exact fM rfl)(h6:aJ [0] c=true:=by kernel_rfl):
  bA cx f 1 ((false,[.ptr 1 0])::ys.map dyn) (form p log s) [1] (.val (dyn y)) (form p log s'):=by
 have g:=fw kz h1 h2 h3 h4 bw [(0,1)] (λp hp=>by grind) h6 (λS hS=>adA K0 hS) h;have hi:(s.units++[u])[s.units.length]? =some u:=by simp
 have e1:(ay 0 (s.units++[u])).set s.units.length (cV u 11 13 15)=ay 0 s.units++[cV u 11 13 15]:=by
  rw[vz];show(ay 0 s.units++[cV u _ _ _]).set _ _=_;have:=eN 0 s.units;simp_all
 have e2:av (s.units++[u]) s.units.length=bt 0 s.units:=by grind[bt,List.drop_eq_nil_of_le]
 refine adB (u':=u) hi bw bw ?_;rw[e1,e2];exact g
def OH (E:to)(p:Pl)(log:List En)(s:bV)(hE:E.pu=N8)(hl:s.units.length<=900)(x:aj)(n:List Int)(r:aj)(hx:x.length<=1000)(hr:r.length<=100000):
  bA cx 103 1 ((false,[.ptr 1 0])::[xp [x] n r].map dyn) (form p log s) [1] (.val (dyn (I (bm E p log s 2 [x] n r).2))) (form p log (bm E p log s 2 [x] n r).1):=by
 obtain⟨volt,earth,opens,hall,lots,units⟩:=s;have c1:=gg x K0;have c9:=λ_:Unit=>Ft r hr;unfold jF at c1;have e:bm E p log ⟨volt,earth,opens,hall,lots,units⟩ 2 [x] n r=if jJ x then(if x∈units.map Un.name then(⟨volt,earth,opens,hall,lots,units⟩,5)else if units.length<6 then(if(N8 r).2=0 then(⟨volt,earth,opens,hall,lots,units++[{pA with name:=x,win:=(N8 r).1}]⟩,0)else(⟨volt,earth,opens,hall,lots,units⟩,(N8 r).2))else(⟨volt,earth,opens,hall,lots,units⟩,16))else(⟨volt,earth,opens,hall,lots,units⟩,4):=by rw[<- hE];rfl
 rw[e];clear e;have hl:units.length<=900:=hl;have sP:units.length<=1000:=by omega
 have iG:=eN 0 units;by_cases h2:x∈units.map Un.name
 ·obtain⟨i,hi,e⟩:=k9 h2;have c0:=λfid H=>Uk (fid:=fid) (H:=H) sP e;by_cases h1:jJ x
  ·rw[if_pos h1]at c1 ⊢;rw[if_pos h2];refine gF f103 sP ?_;repeat' ((first|(refine kO 7 rfl ?_;first|refine gu (λ_ z=>⟨_,_,_,(c0 _ _ ⟨_,_,rfl,rfl⟩ rfl),z⟩) ?_|refine Rq (iT _) ?_|refine rG (λ_ z=>⟨_,wF (E:=5) rfl,z⟩) ?_)|refine tX 0 ?_|exact Zt|refine bR ?_ ?_<;>intro h)<;>(try conv=>whnf))
   all_goals first|exact Zo|exact Ew
  ·exact K57
 ·have dm:be (units.map Un.name) x<0:=by grind[dW]
  have c0:=λfid H=>AK (fid:=fid) (H:=H) sP dm;by_cases h1:jJ x
  ·rw[if_pos h1]at c1 ⊢;rw[if_neg h2];by_cases h3:units.length<6
   ·have h3':((ay 0 units).length :Int)<6:=by omega
    rw[if_pos h3];generalize N8 r=w at*;obtain⟨wi,we⟩:=w;by_cases h4:we=0
    ·subst h4;rw[if_pos rfl];refine gU (u:={pA with name:=x,win:=wi}) f103 bw rfl ?_;repeat' ((first|(refine kO 7 rfl ?_;first|refine gu (λ_ z=>⟨_,_,_,(c0 _ _ ⟨_,_,rfl,rfl⟩ rfl),z⟩) ?_|refine rG (λ_ z=>⟨_,aN h3' _,z⟩) ?_|refine rG (λ_ z=>⟨_,wF (E:=0) rfl,z⟩) ?_)|refine tX 0 ?_|exact Zt|refine bR ?_ ?_<;>intro h)<;>(try conv=>whnf))
     all_goals try(exfalso;omega)
     have c2:=c9 ()
     (try(refine tX 2 ?_;try exact Zt))
     refine aM ?_;repeat' ((first|refine rGX rfl trivial ?_|refine oP rfl ?_|refine TH rfl rfl rfl rfl rfl rfl (cvI K0) ?_|refine TH rfl rfl rfl rfl rfl rfl (cv8 K0) ?_|refine rP rfl (λ_ z=>z) ?_|(refine kO 1 rfl ?_;first|refine aeK rfl rfl rfl (by first|omega|(simp;omega)|(simp only[tH,kH,Ai];omega)|decide) ?_|refine akE rfl rfl rfl ?_|refine akF rfl rfl rfl ?_|refine aeQ rfl rfl rfl K0 ?_|refine akn rfl rfl rfl K0 ?_|refine ako rfl rfl rfl K0 ?_|refine akp rfl rfl rfl K0 ?_|refine akq rfl rfl rfl K0 ?_|refine akr rfl rfl rfl K0 ?_|refine aeC rfl rfl rfl K0 ?_|refine aeD rfl rfl rfl K0 ?_|refine rG (λ_ z=>z) ?_)|(refine kO 2 rfl ?_;first|refine aks rfl rfl (by omega) ?_|refine rG (λ_ z=>z) ?_)|(refine kO 3 rfl ?_;first|refine akw rfl rfl rfl rfl rfl ?_|refine akx rfl rfl rfl rfl rfl rfl rfl ?_|refine akt rfl rfl rfl rfl rfl rfl (by first|omega|decide|exact fM rfl|(dsimp only[SC.len];omega)|(simp;done)|(simp;omega)|omega) ?_|refine rG (λ_ z=>z) ?_|refine rG (λ_ z=>⟨_,rfl,z⟩) ?_|refine rG (λ_ z=>⟨_,(by assumption),z⟩) ?_)|(refine kO 4 rfl ?_;first|refine aku rfl rfl rfl rfl rfl rfl (by first|omega|decide|exact fM rfl|(dsimp only[SC.len];omega)|(simp;done)|(simp;omega)|omega) ?_|refine rG (λ_ z=>z) ?_)|(refine kO 5 rfl ?_;first|refine akv rfl rfl rfl rfl rfl rfl rfl (by first|omega|decide|exact fM rfl|(dsimp only[SC.len];omega)|(simp;done)|(simp;omega)|omega) ?_|refine agf rfl rfl rfl rfl rfl rfl rfl (by first|omega|decide|exact fM rfl|(dsimp only[SC.len];omega)|(simp;done)|(simp;omega)|omega) ?_|refine aeE rfl rfl rfl rfl rfl rfl rfl rfl (by first|omega|decide|exact fM rfl|(dsimp only[SC.len];omega)|(simp;done)|(simp;omega)|omega) ?_|refine agh rfl rfl rfl rfl rfl rfl rfl rfl (by first|omega|decide|exact fM rfl|(dsimp only[SC.len];omega)|(simp;done)|(simp;omega)|omega) ?_|refine aeF rfl rfl rfl rfl rfl rfl (by first|assumption|rfl) rfl ?_)|(refine kO 6 rfl ?_;first|refine aeL rfl rfl rfl rfl rfl rfl ?_|refine aky rfl rfl rfl rfl rfl rfl ?_|refine aeG rfl rfl rfl rfl rfl rfl ?_|refine aeH rfl rfl rfl rfl rfl rfl rfl ?_|refine Y6 rfl rfl rfl rfl rfl rfl rfl ?_|refine aeR rfl rfl rfl K0 ?_|refine aeS rfl rfl rfl K0 ?_|refine rG (λ_ z=>z) ?_)|(refine kO 8 rfl ?_;first|refine aeM rfl rfl rfl rfl rfl (by first|omega|(simp;omega)|(simp only[tH,kH,Ai];omega)|decide) ?_|refine aeP rfl rfl rfl rfl rfl rfl (by first|omega|(simp;omega)|(simp only[tH,kH,Ai];omega)|decide) ?_|refine aeN rfl rfl rfl rfl rfl (by first|omega|(simp;omega)|(simp only[tH,kH,Ai];omega)|decide) ?_|refine aeO rfl rfl rfl rfl rfl (by first|omega|(simp;omega)|(simp only[tH,kH,Ai];omega)|decide) ?_|refine akz rfl rfl rfl rfl rfl rfl rfl (by omega) ?_|refine akA rfl rfl rfl rfl rfl rfl rfl (by omega) ?_|refine rG (λ_ z=>z) ?_)|refine rGX rfl trivial ?_|refine rGX rfl (by(first|omega|decide|rfl|exact lnS K0|exact lnN (by decide)|exact lnN K0|exact lnC K0|exact lvS K0|exact lvN (by decide)|exact lvC K0|exact uvS rfl|exact uvN rfl|((try unfold SC.len);(try unfold SC.Ag);(try unfold xP);(try simp);(try omega);done)|omega)) ?_|refine oN ?_|refine aS ?_|refine aR ?_|refine aK ?_|refine aX ?_|refine aB ?_|refine aT ?_|refine aC rfl ?_|refine bT ?_|refine bF ?_|refine bPt K0 ?_|refine bPf K0 ?_|refine aL ?_|refine aE ?_|refine oY rfl rfl rfl ?_|refine oZ rfl rfl rfl ?_|refine oO rfl rfl rfl ?_|refine oIt rfl rfl rfl K0 ?_|refine oIf rfl rfl rfl K0 ?_|refine oUt rfl rfl rfl K0 ?_|refine oUf rfl rfl rfl K0 ?_|refine dI dy ?_|refine rG (λ_ z=>⟨(by(first|omega|decide|rfl|exact lnS (by omega)|exact lnN (by decide)|exact lnN (by omega)|exact lnC (by omega)|exact lvS (by omega)|exact lvN (by decide)|exact lvC (by omega)|exact uvS rfl|exact uvN rfl|((try unfold SC.len);(try unfold SC.Ag);(try unfold xP);(try simp);(try omega);done)|omega)),z⟩) ?_|refine rG (λ_ z=>⟨(by(first|omega|decide|rfl|exact lnS (by omega)|exact lnN (by decide)|exact lnN (by omega)|exact lnC (by omega)|exact lvS (by omega)|exact lvN (by decide)|exact lvC (by omega)|exact uvS rfl|exact uvN rfl|((try unfold SC.len);(try unfold SC.Ag);(try unfold xP);(try simp);(try omega);done)|omega)),(by(first|omega|decide|rfl|exact lnS (by omega)|exact lnN (by decide)|exact lnN (by omega)|exact lnC (by omega)|exact lvS (by omega)|exact lvN (by decide)|exact lvC (by omega)|exact uvS rfl|exact uvN rfl|((try unfold SC.len);(try unfold SC.Ag);(try unfold xP);(try simp);(try omega);done)|omega)),z⟩) ?_|refine brp (λh=>?_) λh=>?_|refine yJ rfl rfl rfl (λh=>?_) λh=>?_|refine nG rfl rfl rfl (λh=>?_) λh=>?_)<;>(try conv=>whnf))
     all_goals try(exfalso;omega)
     refine rGX rfl ⟨(λe he=>by rw[mA]at he;subst he;rfl),(by grind[xP])⟩ ?_
     (try conv=>whnf)
     repeat' ((first|refine tX 0 ?_|exact Zt|refine bR ?_ ?_<;>intro h)<;>(try conv=>whnf))
     refine Exists.elim (aaI 98 (l:=ay 0 units) (u:={pA with name:=x,win:=wi}) ?hB) λX2 h=>h.elim λX1 h=>⟨_,h,?_⟩;case hB=>rfl
     repeat' ((first|refine tX 0 ?_|exact Zt|refine bR ?_ ?_<;>intro h)<;>(try conv=>whnf))
     refine⟨_,_,_,98,_,_,_,rfl,rfl,rfl,?_,?_,?_,rfl,rfl,rfl,rfl,?_,_,rfl,rfl⟩
     ·exact Er
     ·exact Er
     ·exact Er
     ·repeat(first|exact gY.base _|refine gY.step rfl ?_)
    ·rw[if_neg h4];have c2:=c9 ();refine gF f103 sP ?_;repeat' ((first|(refine kO 7 rfl ?_;first|refine gu (λ_ z=>⟨_,_,_,(c0 _ _ ⟨_,_,rfl,rfl⟩ rfl),z⟩) ?_|refine rG (λ_ z=>⟨_,aN h3' _,z⟩) ?_|refine rG (λ_ z=>⟨_,wF (E:=0) rfl,z⟩) ?_)|refine tX 0 ?_|exact Zt|refine bR ?_ ?_<;>intro h)<;>(try conv=>whnf))
     all_goals first|exact Zo|exact Ew
   ·have h3': ¬((ay 0 units).length :Int)<6:=by omega
    rw[if_neg h3];refine gF f103 sP ?_;repeat' ((first|(refine kO 7 rfl ?_;first|refine gu (λ_ z=>⟨_,_,_,(c0 _ _ ⟨_,_,rfl,rfl⟩ rfl),z⟩) ?_|refine rG (λ_ z=>⟨_,bJ h3' _,z⟩) ?_|refine rG (λ_ z=>⟨_,wF (E:=16) rfl,z⟩) ?_)|refine tX 0 ?_|exact Zt|refine bR ?_ ?_<;>intro h)<;>(try conv=>whnf))
    all_goals first|exact Zo|exact Ew
  ·exact K57
def Um (d t:Int):0<=xy d t/\xy d t<=104857600000:=by
 unfold xy;by_cases h:B5 d t
 ·rw[if_pos h];unfold B5 at h;split
  ·omega
  ·exact xz K0 h.2
 ·rw[if_neg h];omega
def aaL (E:to)(p:Pl)(log:List En)(s:bV)(hl:s.units.length<=1000)(x y z':aj)(d t:Int)(r:aj)(hp: -1000000000000000<=p.eH/\p.eH<=1000000000000000)(hu: ∀u∈s.units,0<=u.used/\u.used<=1000000000000000):
  bA cx 118 1 ((false,[.ptr 1 0])::[xp [x,y,z'] [d,t] r].map dyn) (form p log s) [1] (.val (dyn (I (bm E p log s 17 [x,y,z'] [d,t] r).2))) (form p log (bm E p log s 17 [x,y,z'] [d,t] r).1):=by
 rw[show bm E p log s 17 [x,y,z'] [d,t] r=T6 E p log s 17 x [x,y,z'] [d,t] r from rfl];obtain⟨volt,earth,opens,hall,lots,units⟩:=s;have cA:=IU d t;by_cases hx:0<=iB ⟨volt,earth,opens,hall,lots,units⟩ x
 ·obtain⟨i,u,h1,h2,h3,h4,h5⟩:=j7 hx;have c0:=λfid H=>ld (fid:=fid) (H:=H) h3 hl h1;have hT:=oc p log ⟨volt,earth,opens,hall,lots,units⟩ (u':=u) h3 hl;have hu:=hu u (jH h3);have hA:=Um d t;obtain⟨name,win,ul,res,failed,rel,shaken,used,gas⟩:=u;have hu:0<=used/\used<=1000000000000000:=hu;have hq:aQ E p log ⟨volt,earth,opens,hall,lots,units⟩ ⟨name,win,ul,res,failed,rel,shaken,used,gas⟩ 17 [x,y,z'] [d,t] r=if rel then(if shaken then(⟨name,win,ul,res,failed,rel,shaken,used,gas⟩,24)else if B5 d t then(if used+xy d t<=p.eH then(⟨name,win,ul,res,failed,rel,shaken,used+xy d t,gas⟩,0)else(⟨name,win,ul,res,failed,rel,shaken,used,gas⟩,22))else(⟨name,win,ul,res,failed,rel,shaken,used,gas⟩,2))else(⟨name,win,ul,res,failed,rel,shaken,used,gas⟩,20):=rfl
  unfold WH at cA;generalize xy d t=A at*;cases rel
  ·rw[aY hx h2 h4 (hq.trans (if_neg xZ))];refine gI f118 h3 hl rfl ?_;refine aS ?_;(refine aR ?_;conv=>whnf);(try(refine tX 2 ?_;try exact Zt));refine aM ?_;(refine aR ?_;conv=>whnf);repeat((first|(refine kO 7 rfl ?_;first|refine oa (λ_ z=>⟨_,_,_,(cP (fid:=_) h3 hl h1 (fj rfl) (fj rfl)),z⟩) ?_)|refine tX 2 ?_|exact Zt);(try conv=>whnf))
   refine⟨_,fH (E':=[(0,pP 1),(3,pP 2),(5,some (.val (false,[.cK 9 17 i 0]))),(6,some (.val (false,[.st (J 20)])))]) (ks:=[0,3,5,6]) (n':=1000) hT hT (fj rfl) (fj rfl) (fj rfl) (fM rfl) dy,?_⟩;exact ahI
  ·cases shaken
   ·by_cases hk:B5 d t
    ·rw[if_pos hk]at cA;by_cases hb:A<=p.eH -used
     ·rw[aY hx h2 h4 (hq.trans ((if_pos rfl).trans ((if_neg xZ).trans ((if_pos hk).trans (if_pos K0)))))];refine gI f118 h3 hl rfl ?_;refine aS ?_;(refine aR ?_;conv=>whnf);(try(refine tX 2 ?_;try exact Zt));refine aM ?_;(refine aR ?_;conv=>whnf);repeat((first|(refine kO 7 rfl ?_;first|refine oa (λ_ z=>⟨_,_,_,(cP (fid:=_) h3 hl h1 (fj rfl) (fj rfl)),z⟩) ?_)|refine tX 2 ?_|exact Zt);(try conv=>whnf))
      refine⟨_,fH (E':=[(0,pP 1),(3,pP 2),(5,some (.val (false,[.cK 9 17 i 0]))),(6,some (.val (false,[.st (J 0)])))]) (ks:=[0,3,5,6]) (n':=1000) hT hT (fj rfl) (fj rfl) (fj rfl) (fM rfl) dy,?_⟩;repeat' ((first|(refine kO 7 rfl ?_;first|refine Rq cA ?_|refine rG (λ_ z=>⟨_,aN hb _,z⟩) ?_|refine rG (λ_ z=>⟨_,wF rfl,z⟩) ?_)|refine tX 0 ?_|exact Zt|refine bR ?_ ?_<;>intro h)<;>(try conv=>whnf))
      all_goals exact Ei
     ·rw[aY hx h2 h4 (hq.trans ((if_pos rfl).trans ((if_neg xZ).trans ((if_pos hk).trans (if_neg K0)))))];refine gI f118 h3 hl rfl ?_;refine aS ?_;(refine aR ?_;conv=>whnf);(try(refine tX 2 ?_;try exact Zt));refine aM ?_;(refine aR ?_;conv=>whnf);repeat((first|(refine kO 7 rfl ?_;first|refine oa (λ_ z=>⟨_,_,_,(cP (fid:=_) h3 hl h1 (fj rfl) (fj rfl)),z⟩) ?_)|refine tX 2 ?_|exact Zt);(try conv=>whnf))
      refine⟨_,fH (E':=[(0,pP 1),(3,pP 2),(5,some (.val (false,[.cK 9 17 i 0]))),(6,some (.val (false,[.st (J 0)])))]) (ks:=[0,3,5,6]) (n':=1000) hT hT (fj rfl) (fj rfl) (fj rfl) (fM rfl) dy,?_⟩;repeat' ((first|(refine kO 7 rfl ?_;first|refine Rq cA ?_|refine rG (λ_ z=>⟨_,bJ hb _,z⟩) ?_|refine rG (λ_ z=>⟨_,wF rfl,z⟩) ?_)|refine tX 0 ?_|exact Zt|refine bR ?_ ?_<;>intro h)<;>(try conv=>whnf))
      all_goals exact Ei
    ·rw[if_neg hk]at cA;rw[aY hx h2 h4 (hq.trans ((if_pos rfl).trans ((if_neg xZ).trans (if_neg hk))))];refine gI f118 h3 hl rfl ?_;refine aS ?_;(refine aR ?_;conv=>whnf);(try(refine tX 2 ?_;try exact Zt));refine aM ?_;(refine aR ?_;conv=>whnf);repeat((first|(refine kO 7 rfl ?_;first|refine oa (λ_ z=>⟨_,_,_,(cP (fid:=_) h3 hl h1 (fj rfl) (fj rfl)),z⟩) ?_)|refine tX 2 ?_|exact Zt);(try conv=>whnf))
     refine⟨_,fH (E':=[(0,pP 1),(3,pP 2),(5,some (.val (false,[.cK 9 17 i 0]))),(6,some (.val (false,[.st (J 0)])))]) (ks:=[0,3,5,6]) (n':=1000) hT hT (fj rfl) (fj rfl) (fj rfl) (fM rfl) dy,?_⟩;exact K60
   ·rw[aY hx h2 h4 (hq.trans ((if_pos rfl).trans (if_pos rfl)))];refine gI f118 h3 hl rfl ?_;refine aS ?_;(refine aR ?_;conv=>whnf);(try(refine tX 2 ?_;try exact Zt));refine aM ?_;(refine aR ?_;conv=>whnf);repeat((first|(refine kO 7 rfl ?_;first|refine oa (λ_ z=>⟨_,_,_,(cP (fid:=_) h3 hl h1 (fj rfl) (fj rfl)),z⟩) ?_)|refine tX 2 ?_|exact Zt);(try conv=>whnf))
    refine⟨_,fH (E':=[(0,pP 1),(3,pP 2),(5,some (.val (false,[.cK 9 17 i 0]))),(6,some (.val (false,[.st (J 0)])))]) (ks:=[0,3,5,6]) (n':=1000) hT hT (fj rfl) (fj rfl) (fj rfl) (fM rfl) dy,?_⟩;by_cases hk:B5 d t
    all_goals
     first|rw[if_pos hk]at cA|rw[if_neg hk]at cA
     exact K60
 ·rw[oV hx];have hT:=cN p log (s:=⟨volt,earth,opens,hall,lots,units⟩) hl;refine gF f118 hl ?_;refine aS ?_;(refine aR ?_;conv=>whnf);(try(refine tX 2 ?_;try exact Zt));refine aM ?_;(refine aR ?_;conv=>whnf);repeat((first|(refine kO 7 rfl ?_;first|refine oa (λ_ z=>⟨_,_,_,(pX (fid:=_) hl afO (fj rfl) (fj rfl)),z⟩) ?_)|refine tX 2 ?_|exact Zt);(try conv=>whnf))
  refine⟨_,fH (E':=[(0,pP 1),(3,pP 2),(5,some (.val (false,[.st (.lit (.pointer none))]))),(6,some (.val (false,[.st (J 6)])))]) (ks:=[0,3,5,6]) (n':=1000) hT hT (fj rfl) (fj rfl) (fj rfl) (fM rfl) dy,?_⟩;exact K58
def adC (E:to)(p:Pl)(log:List En)(s:bV)(hl:s.units.length<=1000)(x a1 a2 a3 a4 a5:aj)(h m e y a:Int)(r:aj)(hu: ∀u∈s.units,u.gas.length<=1000):
  bA cx 119 1 ((false,[.ptr 1 0])::[xp [x,a1,a2,a3,a4,a5] [h,m,e,y,a] r].map dyn) (form p log s) [1] (.val (dyn (I (bm E p log s 18 [x,a1,a2,a3,a4,a5] [h,m,e,y,a] r).2))) (form p log (bm E p log s 18 [x,a1,a2,a3,a4,a5] [h,m,e,y,a] r).1):=by
 rw[show bm E p log s 18 [x,a1,a2,a3,a4,a5] [h,m,e,y,a] r=T6 E p log s 18 x [x,a1,a2,a3,a4,a5] [h,m,e,y,a] r from rfl];obtain⟨volt,earth,opens,hall,lots,units⟩:=s;have cG:=Fu (h:=h) (m:=m) (e:=e) (y:=y) (a:=a);by_cases hx:0<=iB ⟨volt,earth,opens,hall,lots,units⟩ x
 ·obtain⟨i,u,h1,h2,h3,h4,h5⟩:=j7 hx;have c0:=λfid H=>ld (fid:=fid) (H:=H) h3 hl h1;have hT:=oc p log ⟨volt,earth,opens,hall,lots,units⟩ (u':=u) h3 hl;have hu:=hu u (jH h3);obtain⟨name,win,ul,res,failed,rel,shaken,used,gas⟩:=u;have hu:gas.length<=1000:=hu;have hq:aQ E p log ⟨volt,earth,opens,hall,lots,units⟩ ⟨name,win,ul,res,failed,rel,shaken,used,gas⟩ 18 [x,a1,a2,a3,a4,a5] [h,m,e,y,a] r=if rel then(if gok h m e y a then(if gas.length<10 then(⟨name,win,ul,res,failed,rel,shaken,used,gas++[⟨h,m,e,y,a⟩]⟩,0)else(⟨name,win,ul,res,failed,rel,shaken,used,gas⟩,16))else(⟨name,win,ul,res,failed,rel,shaken,used,gas⟩,2))else(⟨name,win,ul,res,failed,rel,shaken,used,gas⟩,20):=rfl
  unfold WG at cG;have hgl:(gas.map tp).length =gas.length:=by simp
  cases rel
  ·rw[aY hx h2 h4 (hq.trans (if_neg xZ))];refine gI f119 h3 hl rfl ?_;refine aS ?_;(refine aR ?_;conv=>whnf);(try(refine tX 2 ?_;try exact Zt));refine aM ?_;(refine aR ?_;conv=>whnf);repeat((first|(refine kO 7 rfl ?_;first|refine oa (λ_ z=>⟨_,_,_,(cP (fid:=_) h3 hl h1 (fj rfl) (fj rfl)),z⟩) ?_)|refine tX 2 ?_|exact Zt);(try conv=>whnf))
   refine⟨_,fH (E':=[(0,pP 1),(3,pP 2),(5,some (.val (false,[.cK 9 17 i 0]))),(6,some (.val (false,[.st (J 20)])))]) (ks:=[0,3,5,6]) (n':=1000) hT hT (fj rfl) (fj rfl) (fj rfl) (fM rfl) dy,?_⟩;exact ahI
  ·by_cases hk:gok h m e y a
   ·rw[if_pos hk]at cG;by_cases hb:gas.length<10
    ·rw[aY hx h2 h4 (hq.trans ((if_pos rfl).trans ((if_pos hk).trans (if_pos hb))))];refine gI f119 h3 hl rfl ?_;refine aS ?_;(refine aR ?_;conv=>whnf);(try(refine tX 2 ?_;try exact Zt));refine aM ?_;(refine aR ?_;conv=>whnf);repeat((first|(refine kO 7 rfl ?_;first|refine oa (λ_ z=>⟨_,_,_,(cP (fid:=_) h3 hl h1 (fj rfl) (fj rfl)),z⟩) ?_)|refine tX 2 ?_|exact Zt);(try conv=>whnf))
     refine⟨_,fH (E':=[(0,pP 1),(3,pP 2),(5,some (.val (false,[.cK 9 17 i 0]))),(6,some (.val (false,[.st (J 0)])))]) (ks:=[0,3,5,6]) (n':=1000) hT hT (fj rfl) (fj rfl) (fj rfl) (fM rfl) dy,?_⟩;repeat' ((first|(refine kO 7 rfl ?_;first|refine rG (λ_ z=>⟨_,aN acd _,z⟩) ?_|refine rG (λ_ z=>⟨_,wF rfl,z⟩) ?_)|refine tX 0 ?_|exact Zt|refine bR ?_ ?_<;>intro h)<;>(try conv=>whnf))
     all_goals exact Ei
    ·rw[aY hx h2 h4 (hq.trans ((if_pos rfl).trans ((if_pos hk).trans (if_neg hb))))];refine gI f119 h3 hl rfl ?_;refine aS ?_;(refine aR ?_;conv=>whnf);(try(refine tX 2 ?_;try exact Zt));refine aM ?_;(refine aR ?_;conv=>whnf);repeat((first|(refine kO 7 rfl ?_;first|refine oa (λ_ z=>⟨_,_,_,(cP (fid:=_) h3 hl h1 (fj rfl) (fj rfl)),z⟩) ?_)|refine tX 2 ?_|exact Zt);(try conv=>whnf))
     refine⟨_,fH (E':=[(0,pP 1),(3,pP 2),(5,some (.val (false,[.cK 9 17 i 0]))),(6,some (.val (false,[.st (J 0)])))]) (ks:=[0,3,5,6]) (n':=1000) hT hT (fj rfl) (fj rfl) (fj rfl) (fM rfl) dy,?_⟩;repeat' ((first|(refine kO 7 rfl ?_;first|refine rG (λ_ z=>⟨_,bJ acd _,z⟩) ?_|refine rG (λ_ z=>⟨_,wF rfl,z⟩) ?_)|refine tX 0 ?_|exact Zt|refine bR ?_ ?_<;>intro h)<;>(try conv=>whnf))
     all_goals exact Ei
   ·rw[if_neg hk]at cG;rw[aY hx h2 h4 (hq.trans ((if_pos rfl).trans (if_neg hk)))];refine gI f119 h3 hl rfl ?_;refine aS ?_;(refine aR ?_;conv=>whnf);(try(refine tX 2 ?_;try exact Zt));refine aM ?_;(refine aR ?_;conv=>whnf);repeat((first|(refine kO 7 rfl ?_;first|refine oa (λ_ z=>⟨_,_,_,(cP (fid:=_) h3 hl h1 (fj rfl) (fj rfl)),z⟩) ?_)|refine tX 2 ?_|exact Zt);(try conv=>whnf))
    refine⟨_,fH (E':=[(0,pP 1),(3,pP 2),(5,some (.val (false,[.cK 9 17 i 0]))),(6,some (.val (false,[.st (J 0)])))]) (ks:=[0,3,5,6]) (n':=1000) hT hT (fj rfl) (fj rfl) (fj rfl) (fM rfl) dy,?_⟩;by_cases hb:gas.length<10
    all_goals
     repeat' ((first|(refine kO 7 rfl ?_;first|refine rG (λ_ z=>⟨_,aN acd _,z⟩) ?_|refine rG (λ_ z=>⟨_,bJ acd _,z⟩) ?_|refine rG (λ_ z=>⟨_,wF rfl,z⟩) ?_)|refine tX 0 ?_|exact Zt|refine bR ?_ ?_<;>intro h)<;>(try conv=>whnf))
     all_goals exact Ei
 ·rw[oV hx];have hT:=cN p log (s:=⟨volt,earth,opens,hall,lots,units⟩) hl;refine gF f119 hl ?_;refine aS ?_;(refine aR ?_;conv=>whnf);(try(refine tX 2 ?_;try exact Zt));refine aM ?_;(refine aR ?_;conv=>whnf);repeat((first|(refine kO 7 rfl ?_;first|refine oa (λ_ z=>⟨_,_,_,(pX (fid:=_) hl afO (fj rfl) (fj rfl)),z⟩) ?_)|refine tX 2 ?_|exact Zt);(try conv=>whnf))
  refine⟨_,fH (E':=[(0,pP 1),(3,pP 2),(5,some (.val (false,[.st (.lit (.pointer none))]))),(6,some (.val (false,[.st (J 6)])))]) (ks:=[0,3,5,6]) (n':=1000) hT hT (fj rfl) (fj rfl) (fj rfl) (fM rfl) dy,?_⟩;exact K58
def WK (E:to)(p:Pl)(log:List En)(s:bV)(hl:s.units.length<=1000)(x y:aj)(k:Int)(r:aj):
  bA cx 116 1 ((false,[.ptr 1 0])::[xp [x,y] [k] r].map dyn) (form p log s) [1] (.val (dyn (I (bm E p log s 15 [x,y] [k] r).2))) (form p log (bm E p log s 15 [x,y] [k] r).1):=by
 rw[show bm E p log s 15 [x,y] [k] r=T6 E p log s 15 x [x,y] [k] r from rfl];obtain⟨volt,earth,opens,hall,lots,units⟩:=s;by_cases hx:0<=iB ⟨volt,earth,opens,hall,lots,units⟩ x
 ·obtain⟨i,u,h1,h2,h3,h4,h5⟩:=j7 hx;have c0:=λfid H=>ld (fid:=fid) (H:=H) h3 hl h1;have hT:=oc p log ⟨volt,earth,opens,hall,lots,units⟩ (u':=u) h3 hl;obtain⟨name,win,ul,res,failed,rel,shaken,used,gas⟩:=u;have hq:aQ E p log ⟨volt,earth,opens,hall,lots,units⟩ ⟨name,win,ul,res,failed,rel,shaken,used,gas⟩ 15 [x,y] [k] r=if rel then(if k<=1000 then(⟨name,win,ul,res,failed,rel,shaken || decide (k>p.dY),used,gas⟩,0)else(⟨name,win,ul,res,failed,rel,shaken,used,gas⟩,2))else(⟨name,win,ul,res,failed,rel,shaken,used,gas⟩,20):=rfl
  cases rel
  ·by_cases hk:k<=1000
   all_goals
    rw[aY hx h2 h4 (hq.trans (if_neg xZ))];refine gI f116 h3 hl rfl ?_;refine aS ?_;(refine aR ?_;conv=>whnf);(try(refine tX 2 ?_;try exact Zt));refine aM ?_;(refine aR ?_;conv=>whnf);repeat((first|(refine kO 7 rfl ?_;first|refine oa (λ_ z=>⟨_,_,_,(cP (fid:=_) h3 hl h1 (fj rfl) (fj rfl)),z⟩) ?_)|refine tX 2 ?_|exact Zt);(try conv=>whnf))
    refine⟨_,fH (E':=[(0,pP 1),(3,pP 2),(5,some (.val (false,[.cK 9 17 i 0]))),(6,some (.val (false,[.st (J 20)])))]) (ks:=[0,3,5,6]) (n':=1000) hT hT (fj rfl) (fj rfl) (fj rfl) (fM rfl) dy,?_⟩;exact K32
  ·by_cases hk:k<=1000
   ·rw[aY hx h2 h4 (hq.trans ((if_pos rfl).trans (if_pos hk)))];refine gI f116 h3 hl rfl ?_;refine aS ?_;(refine aR ?_;conv=>whnf);(try(refine tX 2 ?_;try exact Zt));refine aM ?_;(refine aR ?_;conv=>whnf);repeat((first|(refine kO 7 rfl ?_;first|refine oa (λ_ z=>⟨_,_,_,(cP (fid:=_) h3 hl h1 (fj rfl) (fj rfl)),z⟩) ?_)|refine tX 2 ?_|exact Zt);(try conv=>whnf))
    refine⟨_,fH (E':=[(0,pP 1),(3,pP 2),(5,some (.val (false,[.cK 9 17 i 0]))),(6,some (.val (false,[.st (J 0)])))]) (ks:=[0,3,5,6]) (n':=1000) hT hT (fj rfl) (fj rfl) (fj rfl) (fM rfl) dy,?_⟩;cases shaken
    all_goals
     exact K32
   ·rw[aY hx h2 h4 (hq.trans ((if_pos rfl).trans (if_neg hk)))];refine gI f116 h3 hl rfl ?_;refine aS ?_;(refine aR ?_;conv=>whnf);(try(refine tX 2 ?_;try exact Zt));refine aM ?_;(refine aR ?_;conv=>whnf);repeat((first|(refine kO 7 rfl ?_;first|refine oa (λ_ z=>⟨_,_,_,(cP (fid:=_) h3 hl h1 (fj rfl) (fj rfl)),z⟩) ?_)|refine tX 2 ?_|exact Zt);(try conv=>whnf))
    refine⟨_,fH (E':=[(0,pP 1),(3,pP 2),(5,some (.val (false,[.cK 9 17 i 0]))),(6,some (.val (false,[.st (J 0)])))]) (ks:=[0,3,5,6]) (n':=1000) hT hT (fj rfl) (fj rfl) (fj rfl) (fM rfl) dy,?_⟩;exact K32
 ·rw[oV hx];have hT:=cN p log (s:=⟨volt,earth,opens,hall,lots,units⟩) hl;refine gF f116 hl ?_;refine aS ?_;(refine aR ?_;conv=>whnf);(try(refine tX 2 ?_;try exact Zt));refine aM ?_;(refine aR ?_;conv=>whnf);repeat((first|(refine kO 7 rfl ?_;first|refine oa (λ_ z=>⟨_,_,_,(pX (fid:=_) hl afO (fj rfl) (fj rfl)),z⟩) ?_)|refine tX 2 ?_|exact Zt);(try conv=>whnf))
  refine⟨_,fH (E':=[(0,pP 1),(3,pP 2),(5,some (.val (false,[.st (.lit (.pointer none))]))),(6,some (.val (false,[.st (J 6)])))]) (ks:=[0,3,5,6]) (n':=1000) hT hT (fj rfl) (fj rfl) (fj rfl) (fM rfl) dy,?_⟩;by_cases hk:k<=1000
  all_goals
   repeat' ((first|(refine kO 7 rfl ?_;first|refine rG (λ_ z=>⟨_,aN hk _,z⟩) ?_|refine rG (λ_ z=>⟨_,bJ hk _,z⟩) ?_|refine rG (λ_ z=>⟨_,wF rfl,z⟩) ?_)|refine tX 0 ?_|exact Zt|refine bR ?_ ?_<;>intro h)<;>(try conv=>whnf))
   all_goals exact Ew
end Go.Proofs.Tryz
