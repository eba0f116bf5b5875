import Derived.Test.YtackacoaaihcjaaGreatDoorPkT20
import Derived.Test.YtackacoaaihcjaaGreatDoorPkT25
import Derived.Test.YtackacoaaihcjaaGreatDoorPkT26
set_option linter.all false
set_option maxRecDepth 100000
set_option maxHeartbeats 8000000
namespace Go.Proofs.Tryz
open Go.Fw Go.IntWalk Go.Plain
def sW {fn:Func}{f:FuncId}{c:Code}{args:List SV}{r:mb}(h:m6 cx c (entry args) (λS=>acD cx fn S λr'=>r'=r) (λ_ _=>False) (λS=>acD cx fn S λr'=>r'=r))
  (h1:iG cx.P f=true:=by kernel_rfl)(h2:cx.P.funcs[f]? =some fn:=by kernel_rfl)(h3:fn.body=some c:=by rfl)(h4:bM fn.ntmps c=true:=by kernel_rfl)(h5:args.length<=fn.ntmps:=by exact fP rfl):ad f args r:=
 My lG h1 h2 h3 h4 h5 h
def Fb: ∀ {k:Nat} {us:List Un} {i:Nat} {u:Un},us[i]? =some u->(bq k us).get (17+6*(k+i))=some (.row true 1 (.view (ab u.lots)))/\(bq k us).get (19+6*(k+i))=some (.row true 4 (.view (u.res.map kE)))/\(bq k us).get (21+6*(k+i))=some (.row true 5 (.view (u.gas.map uV)))
 |k,[],i,u,h=>by grind
 |k,v::us,0,u,h=>by
  simp at h;subst h;have e:bq k (v::us)=lz v (17+6*k) (19+6*k) (21+6*k)++bq (k+1) us:=rfl;rw[e];refine⟨?_,?_,?_⟩
  ·show Hp.get ((17+6*k,_)::_) (17+6*k)=_;exact Pw
  ·show Hp.get ((17+6*k,_)::(19+6*k,_)::_) (19+6*k)=_;rw[Hp.kI K0,Hp.ar,an]
  ·show Hp.get ((17+6*k,_)::(19+6*k,_)::(21+6*k,_)::_) (21+6*k)=_;rw[Hp.kI K0,Hp.kI K0,Hp.ar,an]
 |k,v::us,i+1,u,h=>by
  obtain⟨h1,h2,h3⟩:=Fb (k:=k+1) (us:=us) (i:=i) (u:=u) br;rw[show k+1+i=k+(i+1)by omega]at h1 h2 h3
  have sk: ∀n,23+6*k<=n->(bq k (v::us)).get n=(bq (k+1) us).get n:=λn hn=>by
   show Hp.get ((17+6*k,_)::(19+6*k,_)::(21+6*k,_)::bq (k+1) us) n=_
   grind[Hp.kI]
  grind
theorem Fc (u:Un): ∀c∈jQ u,c.flat=true:=by
 intro c hc;simp only[jQ,cQ,mA,mB]at hc;rcases hc with rfl|rfl|rfl|rfl|rfl|rfl|rfl|rfl|rfl|rfl|rfl|rfl|rfl|rfl|rfl|rfl|rfl<;>rfl
theorem uv {H:HF}{R:List Nat}{u:Un}{a b c:Nat}(hR:a∈R/\b∈R/\c∈R)(ha:H a=some (.row true 1 (.view (ab u.lots))))(hb:H b=some (.row true 4 (.view (u.res.map kE))))(hc:H c=some (.row true 5 (.view (u.gas.map uV)))):
  ∀(k:Nat) (d:DC) (x:SC),(cP u a b c)[k]? =some d->(jQ u)[k]? =some x->Full H R d x:=
 al (.st _)<|al (.st _)<|al (.st _)<|al (.st _)<|al (.st _)<|al (.st _)<|al (.st _)<|al (.st _)<|al (.st _)<|al (.st _)<|al (.row hR.1 ha)<|al (.row hR.2.1 hb)<|al (.st _)<|al (.st _)<|al (.st _)<|al (.st _)<|al (.row hR.2.2 hc) lY
def Fe {H:HF}{R:List Nat}{us:List Un}(h9:H 9=some (.aA 17 (az 0 us)))(hR9:9∈R)(hRr: ∀k∈ah (bq 0 us),k∈R)(hr: ∀k∈ah (bq 0 us),H k=(bq 0 us).get k):Full H R (.own 9) (.view (us.map jQ)):=by
 have FH: ∀ {i:Nat} {e:List DC} {e':List SC},(az 0 us)[i]? =some e->(us.map jQ)[i]? =some e'->∃u,us[i]? =some u/\e=cP u (17+6*(0+i)) (19+6*(0+i)) (21+6*(0+i))/\e'=jQ u:=λ{i e e'} h h'=>by
  rw[gr,my]at h';obtain⟨u,hu,rfl⟩:=h';have:=uW (k:=0) hu
  grind
 refine .aA hR9 h9 (by rw[ja,eN]) (λi e e' h h'=>?_) (λi e e' k d c h h' hd hc=>?_) (λi e' k c h' hc=>?_)
 ·obtain⟨u,_,rfl,rfl⟩:=FH h h';rfl
 ·obtain⟨u,hu,rfl,rfl⟩:=FH h h';obtain⟨g1,g2,g3⟩:=Fb (k:=0) hu
  grind[Hp.dS,uv]
 grind[Fc]
abbrev rQ (s:bK):List DC:=[.st (K s.volt),.st (K s.earth),.own 5,.st (T s.hall),.own 7,.own 9]
def adD {H:HF}{R:List Nat}{s:bK}(h5:H 5=some (.row true 1 (.view (ab s.opens))))(h7:H 7=some (.row true 1 (.view (ab s.lots))))(h9:H 9=some (.aA 17 (az 0 s.units)))(hR:5∈R/\7∈R/\9∈R)(hRr: ∀k∈ah (bq 0 s.units),k∈R)(hr: ∀k∈ah (bq 0 s.units),H k=(bq 0 s.units).get k):
  yu H R (true,rQ s) (true,vz s):=
 ⟨rfl,rfl,al (.st _)<|al (.st _)<|al (.row hR.1 h5)<|al (.st _)<|al (.row hR.2.1 h7)<|al (Fe h9 hR.2.2 hRr hr) lY⟩
def Cv {fid nx n':Nat}{p:Pl}{l:List En}{s:bK}{R hp:Hp}{E E':dP}{ks:List Nat}(hl:s.units.length<=1000)(hR:Go.Fw.eM (ah R)=true)(hRk:((ah R).all λk=>Nat.blt 0 (tag k)&&(!Nat.beq (tag k) (tag fid)&&Nat.blt (tag k) n'))=true)
  (hRg: ∀(id:Nat) (b:co),R.get id=some b->hp.get id=some b/\b.dM λk=>k∈ah R)(hn:Nat.blt 0 n'=true)(hE:eZ (gA (fresh (tag fid) 0) (form p l s) R) E.get ks=some E'):
  bs ⟨E,cC [] (cN (fresh (tag fid) 0) (form p l s))++hp,nx⟩ ⟨E',R++form p l s,n'⟩:=by
 have hT:=E8 (p:=p) (l:=l) hl
 have hX0: ∀k∈ah R,0<tag k/\tag k≠tag fid/\tag k<n':=λk hk=>by
  have:=wC.1 hRk k hk;simp only[sC,AR,Bool.not_eq_true']at this;refine⟨this.1,λe=>?_,this.2.2⟩;simp_all
 refine(acF (R:=R) (n':=n') hT (bW hR) (λk hk=>?_) hRg (by simp_all) hE).trans (Cm ?_)
 ·obtain⟨h1,h2,h3⟩:=hX0 k hk;exact⟨λh=>by have:=(hT.lt k h).2.2;omega,h2,h3⟩
 ·have:=ql (A:=form p l s) (F':=R) (B:=[]) (λn hn hm=>by
   have h1:=(hX0 n hn).1;have h2:=(hT.lt n hm).2.2
   omega)
  grind
def Od {p:Pl}{l:List En}(hs:io p)(hP:(p.err jK).2=0->PB p)(hl:l.length<=1000)(ht: ∀e∈l,e.text.length<=100000):
  ad 17 [(true,bU p),(false,[.view (l.map df)])] (.aJ [(true,vz (if(ee p l).2.2=0 then(ee p l).1 else st0)),I (ee p l).2.2]):=by
 have c1:=λH fid=>Ob H fid hs hP hl ht;have Ld:=λh=>(Cu (p:=p) (l:=l) hP h).1;generalize ee p l=y at*;obtain⟨s,i,z⟩:=y;dsimp only at Ld ⊢;by_cases hz:z=0
 ·subst hz;rw[if_pos rfl];have hu:s.units.length<=1000:=by have:=(Ld rfl).units;omega
  clear Ld;have c2:=λH fid=>show bN cx fid 51 [dyn (true,bU p),(false,[.st (.view (l.map df))])] H (.aJ [(false,[.ptr (fresh (tag fid) 0 1) 0]),dyn (I (0:Nat)),dyn (I 0)]) (cC [] (cN (fresh (tag fid) 0) (form p l s))) _ from c1 H fid;obtain⟨volt,earth,opens,hall,lots,units⟩:=s;refine sW (fn:=f17) ?_;repeat' ((first|refine tX 0 ?_|exact Zt|refine bR ?_ ?_<;>intro h)<;>(try conv=>whnf))
  repeat((first|(refine kO 7 rfl ?_;first|refine Rw (c2 _ _) ?_)|refine tX 2 ?_|exact Zt);(try conv=>whnf))
  refine aS ?_;refine aQ ?_;(refine aR ?_;conv=>whnf);(try(refine tX 2 ?_;try exact Zt))
  refine⟨_,Cv (R:=[(2,some (.box 58 [.st (K false),.st (K false),.nil,.st (T []),.nil,.nil]))]) (E':=[(4,pP 2),(6,pP 1),(8,vI 0),(17,some (lit (.bool (0 != 0))))]) (ks:=[4,6,8,17]) (n':=1000) hu rfl rfl (λid b e=>by
   obtain⟨rfl,rfl⟩:=gE e;refine⟨rfl,λd hd=>?_⟩;simp only[cQ,mA,mB]at hd
   rcases hd with rfl|rfl|rfl|rfl|rfl|rfl<;>trivial) rfl dp,?_⟩
  repeat' ((first|refine tX 0 ?_|exact Zt|refine bR ?_ ?_<;>intro h)<;>(try conv=>whnf))
  all_goals exact⟨[(true,vz ⟨volt,earth,opens,hall,lots,units⟩),I 0],5::7::9::ah (bq 0 units),bx (adD rfl rfl rfl ⟨by simp,by simp,by simp⟩ (λk hk=>by simp only[cQ];exact .inr (.inr (.inr hk))) (λk hk=>ib.get K47 (fX hu) k hk)) (bx (jl _) iW),rfl,rfl⟩
 ·rw[if_neg hz]
  have c2: ∀H fid,bN cx fid 51 [dyn (true,bU p),(false,[.st (.view (l.map df))])] H (.aJ [(false,[.st (.lit (.pointer none))]),dyn (I (i:Nat)),dyn (I z)]) [] []:=λH fid=>by
   have:=c1 H fid;rw[show Q6 (s,i,z)= .aJ [(false,[.st (.lit (.pointer none))]),dyn (I (i:Nat)),dyn (I z)]from if_neg hz,show Kr p l (s,i,z)= []from if_neg hz]at this;exact this
  refine sW (fn:=f17) ?_;repeat' ((first|(refine kO 7 rfl ?_;first|refine Rh (c2 _ _) ?_)|refine tX 0 ?_|exact Zt|refine bR ?_ ?_<;>intro h)<;>(try conv=>whnf))
  all_goals first|exact Zo|skip
  all_goals exact⟨[(true,vz st0),I z],[],bx ⟨rfl,rfl,al (.st _)<|al (.st _)<|al (.nil false)<|al (.st _)<|al (.nil false)<|al (.nil false) lY⟩ (bx (jl _) iW),rfl,rfl⟩
def aaI {H:HF}{p:Pl}{l:List En}{s:bK}(hu:s.units.length<=1000)(h1:H 1=(form p l s).get 1)(h3:H 3=(form p l s).get 3)(h5:H 5=(form p l s).get 5)(h7:H 7=(form p l s).get 7)(h9:H 9=(form p l s).get 9)(hr: ∀k∈ah (bq 0 s.units),H k=(bq 0 s.units).get k):
  cW (sc (ah (form p l s)) λk=>k) H (form p l s).get :=by
 have hT:=dl p l hu
 have hk: ∀k∈ah (form p l s),H k=(form p l s).get k:=λk hk=>by
  rw[qp]at hk;simp only[cQ]at hk;rcases hk with rfl|rfl|rfl|rfl|rfl|h'
  ·exact h9
  ·exact h1
  ·exact h3
  ·exact h5
  ·exact h7
  ·exact(hr k h').trans (ib.get (H:=form p l s) K47 (fX hu) k h').symm
 obtain⟨a,b,c⟩:=E7 hT;refine⟨a,b,λn b' e=>?_⟩;obtain⟨o,b2,q1,q2,q3⟩:=c n b' e;exact⟨o,b2,q1,(hk o (jU.1 q1).1).trans q2,q3⟩
def Ee {p:Prop}(h:p:=by repeat first|exact ib.base _|refine ib.step rfl ?_):p:=h
def Kt {H:Hp}{us:List Un}{k:Nat}{u:Un}(hE:ib H (bq 0 us))(hu:us.length<=1000)(hk:us[k]? =some u):H.get (17+6*(0+k))=some (.row true 1 (.view (ab u.lots)))/\H.get (19+6*(0+k))=some (.row true 4 (.view (u.res.map kE)))/\H.get (21+6*(0+k))=some (.row true 5 (.view (u.gas.map uV))):=by
 obtain⟨g1,g2,g3⟩:=Fb (k:=0) hk;exact⟨(hE.get (fX hu) _ (Hp.dS g1)).trans g1,(hE.get (fX hu) _ (Hp.dS g2)).trans g2,(hE.get (fX hu) _ (Hp.dS g3)).trans g3⟩
def Ex {p:Prop}(h:p:=by exact⟨_,aaI hu rfl rfl rfl rfl rfl (λk hk=>ib.get (by repeat first|exact ib.base _|refine ib.step rfl ?_) (fX hu) k hk),_,rfl,rfl⟩):p:=h
section
variable {p:Pl}{l:List En}(hs:io p)(hP:(p.err jK).2=0->PB p)(hl:l.length<=1000)(ht: ∀e∈l,e.text.length<=100000)
include hs hP hl ht
theorem Oe {s:bK}{i:Nat}(h:ee p l=(s,i,0))(H:HF)(fid:Nat):bN cx fid 51 [dyn (true,bU p),(false,[.st (.view (l.map df))])] H (.aJ [(false,[.ptr (fresh (tag fid) 0 1) 0]),dyn (I (0:Nat)),dyn (I 0)]) (cC [] (cN (fresh (tag fid) 0) (form p l s))) []:=by
 have c1:=Ob H fid hs hP hl ht;rw[h]at c1;exact c1
omit hs hl ht in
theorem vm {s:bK}{i:Nat}(h:ee p l=(s,i,0)):SB p l s/\s.units.length<=1000:=by
 have:=(Cu (l:=l) hP (by rw[h])).1;rw[h]at this;have hu:=this.units;exact⟨this,by dsimp only at hu;omega⟩
variable {x:aj}(hx:x.length<=1000)
include hx
theorem Wt {s:bK}{i:Nat}(h:ee p l=(s,i,0))(hn:eK x){k:Nat}(hi:aZ (s.units.map Un.name) x=(k:Nat)):bt cx 47 1 [dyn (true,bU p),(false,[.st (.view (l.map df))]),dyn (SS x)] [] [] (.aJ [(false,[.ptr 1 0]),(false,[.cF 9 17 k 0]),dyn (I 0)]) (form p l s):=by
 have c1:=gi x K0;have c2:=Oe hs hP hl ht h;obtain⟨_,hu⟩:=vm hP h;have c3:=λfid H=>TU (fid:=fid) (H:=H) hu hi;unfold jG at c1;rw[if_pos hn]at c1;refine gR f47 ?_;refine aS ?_;(refine aR ?_;conv=>whnf);(try(refine tX 2 ?_;try exact Zt));refine aQ ?_;(refine aR ?_;conv=>whnf);repeat((first|(refine kO 7 rfl ?_;first|refine Rw (c2 _ _) ?_)|refine tX 2 ?_|exact Zt);(try conv=>whnf))
 refine⟨_,Cv (R:=[]) (E':=[(2,lS x),(9,pP 1),(11,vI 0)]) (ks:=[2,9,11]) (n':=1000) hu rfl rfl (λid b e=>by simp[Hp.get]at e) rfl dp,?_⟩;exact K96
omit hs hP hl ht hx in
theorem adE: ∀y∈[dyn (true,bU p),(false,[.st (.view (l.map df))]),dyn (SS x)],dY (λ_=>False) y:=λy hy=>by
 simp only[cQ,mA,mB]at hy;rcases hy with rfl|rfl|rfl
 ·exact bA _
 ·exact aje
 ·exact bA _
theorem alQ {s:bK}{i:Nat}(h:ee p l=(s,i,0))(hn:eK x){k:Nat}(hi:aZ (s.units.map Un.name) x=(k:Nat))(H:HF)(fid:Nat):bN cx fid 47 [dyn (true,bU p),(false,[.st (.view (l.map df))]),dyn (SS x)] H (.aJ [(false,[.ptr (fresh (tag fid) 0 1) 0]),(false,[.cF (fresh (tag fid) 0 9) 17 k 0]),dyn (I 0)]) (cC [] (cN (fresh (tag fid) 0) (form p l s))) []:=by
 obtain⟨_,hu⟩:=vm hP h;refine Go.Fw.mq (Wt hs hP hl ht hx h hn hi) (E8 hu) adE λy hy=>?_;simp only[cQ,mA,mB]at hy;rcases hy with rfl|rfl|rfl
 ·exact am7
 ·intro d hd;have:d= .cF 9 17 k 0:=by simpa using hd
  subst this;show 9∈ah (form p l s);rw[qp];exact i8
 ·exact bA _
theorem wl {s:bK}{i:Nat}(h:ee p l=(s,i,0))(hn:eK x){k:Nat}(hi:aZ (s.units.map Un.name) x=(k:Nat)){u:Un}(hk:s.units[k]? =some u):
  ad 29 [(true,bU p),(false,[.view (l.map df)]),SS x] (.aJ [(false,[.view (ab (tO p u.res))]),I 0]):=by
 have c2:=alQ hs hP hl ht hx h hn hi;obtain⟨hS,hu⟩:=vm hP h;have hr:u.res.length<=1000000:=by have:=(hS.unit u (jt hk)).len;omega
 have hp:=hs.te;obtain⟨M,hM⟩: ∃M,tO p u.res=M:=⟨_,rfl⟩;rw[hM];refine sW (fn:=f29) ?_;refine aS ?_;(refine aR ?_;conv=>whnf);(try(refine tX 2 ?_;try exact Zt));refine aQ ?_;(refine aR ?_;conv=>whnf);repeat((first|(refine kO 7 rfl ?_;first|refine Rw (c2 _ _) ?_)|refine tX 2 ?_|exact Zt);(try conv=>whnf))
 refine⟨_,Cv (R:=[]) (E':=[(8,pP 1),(9,some (.val (false,[.cF 9 17 k 0]))),(10,vI 0)]) (ks:=[8,9,10]) (n':=1000) hu rfl rfl (λid b e=>by simp[Hp.get]at e) rfl dp,?_⟩;repeat' ((first|(refine kO 7 rfl ?_;first|refine ij (λ_ z=>⟨_,_,_,(vc hM K0 hr rfl rfl rfl (uW hk) (Kt Ee hu hk).1 (Kt Ee hu hk).2.1 (Kt Ee hu hk).2.2),z⟩) ?_)|refine tX 0 ?_|exact Zt|refine bR ?_ ?_<;>intro h)<;>(try conv=>whnf))
 all_goals first|exact Zo|exact⟨[(false,[.view (ab M)]),I 0],[_],bx ⟨rfl,rfl,al (.row i8 rfl) lY⟩ (bx (jl _) iW),rfl,rfl⟩
end
def Wu {p:Pl}{log:List En}{s:bK}{e:En}(h:(jm p log s e).2=0): ∃k a n r,k<19/\jH ((av 32 e.text).getD 0 [])=k/\eD (vb k) e.text=some (a,n,r)/\jm p log s e=ba EE p log s k a n r/\e.text.length<=400:=by
 unfold jm at h ⊢;by_cases CD:60<=log.length
 ·rw[if_pos CD]at h;exact absurd h (by show ¬(8:Int)=0;decide)
 rw[if_neg CD]at h ⊢;obtain⟨et,ew,tx⟩:=e
 rcases zi EE p log s et ew tx with⟨h1,h2⟩|⟨h1,h2,h3,h4,h5⟩
 ·rw[h2]at h;exact absurd h h1
 ·rw[h5]at h ⊢;unfold N9 at h ⊢;dsimp only at h ⊢;split at h
  ·exact absurd h (by show ¬(18:Int)=0;decide)
  ·split at h
   ·exact absurd h (by show ¬(7:Int)=0;decide)
   ·rename_i g1 _ a n q zB;rw[if_neg g1];exact⟨_,a,n,q,h4,rfl,zB,rfl,h3⟩
def aaJ {p:Pl}{l:List En}(h:(ee p l).2.2=0){i:Nat}(hi:i<l.length): ∃k a n r,k<19/\jH ((av 32 (l.getD i fZ).text).getD 0 [])=k/\eD (vb k) (l.getD i fZ).text =some (a,n,r)/\ba EE p (l.take i) (BD p (l.take i)) k a n r=(BD p (l.take (i+1)),0)/\(l.getD i fZ).text.length <=400:=by
 obtain⟨h1,h2⟩:=aaH h hi;obtain⟨k,a,n,r,g1,g2,g3,g4,g5⟩:=Wu h1;exact⟨k,a,n,r,g1,g2,g3,by rw[h2,<- h1,g4],g5⟩
section
variable {p:Pl}{l:List En}(hs:io p)(hP:(p.err jK).2=0->PB p)(hl:l.length<=1000)(ht: ∀e∈l,e.text.length<=100000)
include hs hP hl ht
end
def HL (tx:aj):List aj × Int × Bool:=
 if 19<=jH ((av 32 tx).getD 0 [])then([],-1,false)else
 if((vb (jH ((av 32 tx).getD 0 []))).rest =false/\(av 32 tx).length ≠(vb (jH ((av 32 tx).getD 0 []))).words +1)\/((vb (jH ((av 32 tx).getD 0 []))).rest =true/\(av 32 tx).length < (vb (jH ((av 32 tx).getD 0 []))).words +2)then([],(jH ((av 32 tx).getD 0 []):Nat),false)else
 if []∈(av 32 tx).take ((vb (jH ((av 32 tx).getD 0 []))).words +1)then([],(jH ((av 32 tx).getD 0 []):Nat),false)
 else((av 32 tx).take ((vb (jH ((av 32 tx).getD 0 []))).words +1)++(if(vb (jH ((av 32 tx).getD 0 []))).rest then [bP ((vb (jH ((av 32 tx).getD 0 []))).words +1) tx]else []),(jH ((av 32 tx).getD 0 []):Nat),true)
abbrev vD:aj × Vb:=([],⟨0,0,0,false⟩)
def adG {w:aj}{i:Nat}(hi:i<19)(hn:w∉(kv.map Prod.fst).take i)(he:(kv.getD i vD).1=w):jH w=i:=by
 unfold jH;have ak:i< (kv.map Prod.fst).length :=hi;have hg:(kv.map Prod.fst)[i]=w:=by grind
 rw[List.idxOf,XT ak];refine⟨by grind,λj hj=>?_⟩;have hv:kv.length=19:=rfl;have:(kv.map Prod.fst)[j]'K0∈(kv.map Prod.fst).take i:=zN.2 ⟨j,by grind,by simp⟩
 grind
def agW {w:aj}(hn:w∉kv.map Prod.fst):19<=jH w:=by
 unfold jH;have:=List.idxOf_eq_length hn;rw[this];decide
def xb {α:Type}{l:List α}{i:Nat}(h:i<l.length){x d:α}:x∈l.take (i+1)↔x∈l.take i\/x=l.getD i d:=by grind[List.take_add_one]
def Oh: ∀k<19,(kv.getD k vD).2.words <=10:=by decide
def jC (tx:aj)(hl:tx.length<=10000):ad 12 [SS tx] (.aJ [(false,[.view (ab (HL tx).1)]),I (HL tx).2.1,Bo (HL tx).2.2]):=by
 have c1:ad 44 [SS tx,(false,[.lit (.int .u8 32)])] (.own 1 (.view (ab (av 32 tx)))):=by
  have:=jV tx 32 K0
  grind[iK]
 have c2:=k9;have h1:=(bZ 32 tx).1;have h2:=(bZ 32 tx).2;have h3:=Lq.2 (lT 32 tx);have ahk:=λk hk=>Is k tx hk;have WZ:(kv.map Q7).length =19:=rfl;have Cz:=sA h3;unfold HL;generalize hws:av 32 tx=ws at*;have hn:(ab ws).length =ws.length:=by simp
 generalize hw:ws.getD 0 []=w0 at*;refine sF f12 ?_;repeat' ((first|refine tX 0 ?_|exact Zt|refine bR ?_ ?_<;>intro h)<;>(try conv=>whnf))
 refine af (ι:=Nat) (λi=>i<=19/\w0∉(kv.map Prod.fst).take i) (λi=>19 -i) (λi=>⟨[(0,lS tx),(5,pO 0),(6,pO 1),(7,vI i)],[(0,some (.row false 1 (.view (ab ws)))),(1,some (.row true 4 (.view (kv.map Q7))))],2⟩) 0 (bs.trans (dh 8 rfl) Zc) ⟨dC _,by simp⟩ ?_;rintro i ⟨hi,dx⟩;by_cases ak:i<19
 ·have he:=bg (f:=Q7) (l:=kv) ak vD;have nK:=λe=>adG ak dx e;have FF:=xb (l:=kv.map Prod.fst) (i:=i) (x:=w0) (d:=[]) ak;have hg:(kv.map Prod.fst).getD i []=(kv.getD i vD).1:=by grind
  rw[hg]at FF;have an4:vb i=(kv.getD i vD).2:=rfl;have hwi:=Oh i ak;generalize kv.getD i vD=q at*;obtain⟨nm,role,w,nu,rest⟩:=q;dsimp only at nK FF hwi;have he:(kv.map Q7)[i]? =some [T nm,J role,J (w:Nat),K rest]:=he;by_cases hx:nm=w0
  ·have hk:=nK hx;rw[hk,an4,if_neg K0];dsimp only;have c3:=dy (ws.take (w+1)) br;by_cases hshape:(rest=false/\ws.length≠w+1)\/(rest=true/\ws.length<w+2)
   ·rw[if_pos hshape];cases rest
    ·have hs':ws.length≠w+1:=by grind
     exact tL
    ·have hs':ws.length<w+2:=by grind
     exact tL
   ·rw[if_neg hshape];have hsh:w+1<=ws.length:=by grind
    have hol:(ws.take (w+1)).length =w+1:=by grind
    have aoD:(ab (ws.take (w+1))).length =w+1:=by grind
    cases rest
    ·have hs':ws.length=w+1:=by grind
     repeat' ((first|refine tX 0 ?_|exact Zt|refine bR ?_ ?_<;>intro h)<;>(try conv=>whnf))
     all_goals try first|exact Zo|(exact absurd hx h)
     refine af (ι:=Nat) (λk=>k<=w+1/\[]∉(ws.take (w+1)).take k) (λk=>w+1 -k) (λk=>⟨[(0,lS tx),(5,pO 0),(7,vI i),(8,pP 1),(9,pO 2),(10,vI k)],[(0,some (.row false 1 (.view (ab ws)))),(1,some (.box 112 [.st (T nm),.st (J role),.st (J w),.st (K false)])),(2,some (.row true 1 (.view (ab (ws.take (w+1))))))],3⟩) 0 Zc ⟨dC _,by simp⟩ ?_;rintro k ⟨Xi,FR⟩;by_cases uD:k<w+1
     ·have RL:=sA (l:=ws.take (w+1)) (i:=k) K0;have ahn:=xb (l:=ws.take (w+1)) (i:=k) (x:=[]) (d:=[]) K0;exact K53
     ·obtain rfl:k=w+1:=by omega
      rw[o0 K0]at FR;rw[if_neg FR];rw[if_neg K9,zP];exact tL
    ·have hs':w+2<=ws.length:=by grind
     repeat' ((first|refine tX 0 ?_|exact Zt|refine bR ?_ ?_<;>intro h)<;>(try conv=>whnf))
     all_goals try first|exact Zo|(exact absurd hx h)
     refine af (ι:=Nat) (λk=>k<=w+1/\[]∉(ws.take (w+1)).take k) (λk=>w+1 -k) (λk=>⟨[(0,lS tx),(5,pO 0),(7,vI i),(8,pP 1),(9,pO 2),(10,vI k)],[(0,some (.row false 1 (.view (ab ws)))),(1,some (.box 112 [.st (T nm),.st (J role),.st (J w),.st (K true)])),(2,some (.row true 1 (.view (ab (ws.take (w+1))))))],3⟩) 0 Zc ⟨dC _,by simp⟩ ?_;rintro k ⟨Xi,FR⟩;by_cases uD:k<w+1
     ·have RL:=sA (l:=ws.take (w+1)) (i:=k) K0;have ahn:=xb (l:=ws.take (w+1)) (i:=k) (x:=[]) (d:=[]) K0;exact K53
     ·obtain rfl:k=w+1:=by omega
      rw[o0 K0]at FR;rw[if_neg FR];rw[if_pos rfl,qx,<- (ahk (w+1) K0).2];have h00:AE ws 0=0:=by cases ws<;>rfl
      repeat' ((first|refine tX 0 ?_|exact Zt|refine bR ?_ ?_<;>intro h)<;>(try conv=>whnf))
      all_goals try(exfalso;omega)
      refine af (ι:=Nat) (λm=>m<=w+1) (λm=>w+1 -m) (λm=>⟨[(0,lS tx),(5,pO 0),(7,vI i),(8,pP 1),(9,pO 2),(11,vI (AE ws m:Nat)),(12,vI m)],[(0,some (.row false 1 (.view (ab ws)))),(1,some (.box 112 [.st (T nm),.st (J role),.st (J w),.st (K true)])),(2,some (.row true 1 (.view (ab (ws.take (w+1))))))],3⟩) 0 (ai (by rw[h00];kernel_rfl)) (dC _) ?_;intro m hm;by_cases hml:m<w+1
      ·have hem:=sA (l:=ws) (i:=m) K0;have hsu:=Ir (l:=ws) (k:=m) K0;have hom:=(ahk m K0).1;have hyl:=h2 (ws.getD m []) (yZ K0);generalize ws.getD m []=y at*;repeat' ((first|refine tX 0 ?_|exact Zt|refine bR ?_ ?_<;>intro h)<;>(try conv=>whnf))
       all_goals first|exact Zo|exact⟨m+1,hml,by omega,ai (by rw[hsu];kernel_rfl)⟩
      ·obtain rfl:m=w+1:=by omega
       have hom:=(ahk (w+1) K0).1;exact tL
  ·exact tL
 ·obtain rfl:i=19:=by omega
  have anV:w0∉kv.map Prod.fst:=dx;rw[if_pos (agW anV)];exact tL
def Fg (l:List aj):Bool:=if(l.getD 0 []≠[115,104,111,99,107]/\l.getD 0 []≠[108,111,97,100])/\l.getD 0 []≠[103,97,115]then true else(jk (l.drop 2)).isSome
def aaK (o:Option (List Int)): ∃n,afd o= [(false,[.ints n]),Bo o.isSome]/\n=o.getD []:=by
 cases o with
 |none=>exact⟨_,rfl,rfl⟩
 |some n=>exact⟨_,rfl,rfl⟩
def zk (l:List aj)(h0:0<l.length)(h2:Fg l=true\/2<=l.length)(hl:l.length<=1000)(hx: ∀x∈l,x.length<=100000)(hs:(l.getD 0 []≠[115,104,111,99,107]/\l.getD 0 []≠[108,111,97,100])/\l.getD 0 []≠[103,97,115]\/2<=l.length):ad 110 [V1 l] (.one (Bo (Fg l))):=by
 have hn:(ab l).length =l.length:=by simp
 have he:=sA h0;unfold Fg;generalize l.getD 0 []=w at*;by_cases h1:(w≠[115,104,111,99,107]/\w≠[108,111,97,100])/\w≠[103,97,115]
 ·rw[if_pos h1];obtain⟨⟨a,b⟩,c⟩:=h1;exact ab5
 ·rw[if_neg h1];have c1:=ld l 2 (hs.resolve_left h1) hl hx;obtain⟨n,e1,e2⟩:=aaK (jk (l.drop 2));rw[e1]at c1;generalize (jk (l.drop 2)).isSome =ok at*;have c2:ad 196 [V1 l,I 2] (.aJ [(false,[.ints n]),Bo ok]):=c1;by_cases a:w= [115,104,111,99,107]
  ·subst a;exact ab5
  ·by_cases b:w= [108,111,97,100]
   ·subst b;exact ab5
   ·have c:w= [103,97,115]:=by
     grind
    subst c;exact ab5
def Fh (l:List Rs)(x:Rs)(t:aj):iM (l++[x]) t=if sG t x then some x else iM l t:=by grind[iM]
abbrev bxU (u:Un):co:=.box 44 ((jQ u).map .st)
def oS (u:Un)(t:aj)(hl:u.res.length<=1000000):ad 83 [(true,jQ u),SS t] (.one (Bo (bH u.res t))):=by
 have hn:(u.res.map kE).length =u.res.length:=by simp
 refine sF f83 ?_
 (try(refine tX 0 ?_;try exact Zt))
 refine af (ι:=Nat) (λn=>n<=u.res.length/\iM u.res t=iM (u.res.take n) t) (λn=>n) (λn=>⟨[(1,lS t),(2,pP 0),(5,vI ((n:Nat) -1:Int))],[(0,some (bxU u))],1⟩) u.res.length (ai Pv) ⟨dw _,by grind⟩ ?_;rintro n ⟨hi,hg⟩
 cases n with
 |zero=>
  have hv:bH u.res t=false:=by unfold bH;rw[hg];rfl
  rw[hv];exact tL
 |succ n=>
  have ak:n<u.res.length:=by omega
  have he:=bg (f:=kE) ak BT;have zx:u.res.take (n+1)=u.res.take n++[u.res.getD n BT]:=by simp_all
  rw[zx,Fh]at hg;generalize u.res.getD n BT=x at*;obtain⟨xt,xa,xe,xv⟩:=x;have he:(u.res.map kE)[n]? =some [T xt,J xa,J xe,K xv]:=he;unfold sG at hg;dsimp only at hg;by_cases hx:xt=t
  ·subst hx;cases xv
   ·rw[if_pos (by simp)]at hg;have hv:bH u.res xt=(xa==2):=by grind[bH]
    rw[hv];exact tL
   ·rw[if_neg (by simp)]at hg;exact K29
  ·rw[if_neg br]at hg;exact K29
abbrev bxT (t:Ts):co:=.box 54 ((fC t).map .st)
def Kx (u:Un)(t:Ts)(ht:t.bu.length<=1000)(hl:u.res.length<=1000000):ad 84 [(true,jQ u),(true,fC t)] (.one (Bo (iU u.res t))):=by
 have hn:(ab t.bu).length =t.bu.length:=by simp
 have hv:=λx=>oS u x hl;have IK:iU u.res t=t.bu.all (bH u.res):=rfl;rw[IK];refine sF f84 ?_
 (try(refine tX 0 ?_;try exact Zt))
 refine af (ι:=Nat) (λi=>i<=t.bu.length/\∀j<i,bH u.res (t.bu.getD j [])=true) (λi=>t.bu.length -i) (λi=>⟨[(2,pP 0),(3,pP 1),(5,vI i)],[(0,some (bxU u)),(1,some (bxT t))],2⟩) 0 Zc ⟨dC _,λj hj=>by omega⟩ ?_;rintro i ⟨hi,hp⟩;by_cases ak:i<t.bu.length
 ·have he:=sA ak;have hc:=hv (t.bu.getD i []);have hge:t.bu.getD i []=t.bu[i]:=by grind
  cases hx:bH u.res (t.bu.getD i [])
  ·have hal:t.bu.all (bH u.res)=false:=by
    grind
   rw[hal];exact ajW
  ·have iT: ∀j<i+1,bH u.res (t.bu.getD j [])=true:=λj hj=>by
    grind
   exact ajW
 ·obtain rfl:i=t.bu.length:=by omega
  have hal:t.bu.all (bH u.res)=true:=by
   rw[wC];intro x hx;obtain⟨j,hj,rfl⟩:=zN.1 hx
   grind
  rw[hal];exact tL
def Fi (p:Pl)(u:Un)(hp:p.aa.length<=1000)(hl:u.res.length<=1000000):ad 35 [(true,bU p),(true,jQ u)] (.own 1 (.view (ab (tO p u.res)))):=by
 have hn:(p.aa.map fC).length =p.aa.length:=by simp
 have hv:=λx=>oS u x hl;refine sF f35 ?_
 (try(refine tX 0 ?_;try exact Zt))
 refine af (ι:=Nat) (λi=>i<=p.aa.length) (λi=>p.aa.length -i) (λi=>⟨[(2,pP 0),(3,pP 1),(5,pO 2),(6,vI i)],[(0,some (.box 27 ((bU p).map .st))),(1,some (bxU u)),(2,some (.row true 1 (.view (ab (((cO p.aa).take i).filter λt=> !bH u.res t)))))],3⟩) 0
  (bs.trans (jz 5 1 (.view []) K9 rfl rfl rfl) Zc) (dC _) ?_
 intro i hi;by_cases ak:i<p.aa.length
 ·have he:=iN ak;have xB:=Ey (l:=u.res) ak;have hc:=hv (p.aa.getD i dt).name;have WZ:(((cO p.aa).take i).filter λt=> !bH u.res t).length <=i:=o3 (UA _ _) wG;generalize ((cO p.aa).take i).filter (λt=> !bH u.res t)=out at*;generalize p.aa.getD i dt=t at*
  rcases t with⟨nm,kd,nd,ru,lo,kA⟩;have he:(p.aa.map fC)[i]? =some [T nm,J kd,.view (ab nd),T ru,J lo,J kA]:=he;dsimp only at xB hc;have hol:(ab out).length =out.length:=by simp
  cases hvv:bH u.res nm
  ·rw[hvv]at hc xB;rw[if_neg K9]at xB;exact K22
  ·rw[hvv]at hc xB;rw[if_pos rfl,zP]at xB;exact K30
 ·exact aio
def BX (s:aj)(hl:s.length<=10000): ∃a b ok,ad 304 [SS s] (.aJ [F2 a b,Bo ok])/\NZ s=if ok=true then some (a,b)else none:=by
 have c1:ad 44 [SS s,(false,[.lit (.int .u8 32)])] (.own 1 (.view (ab (av 32 s)))):=by
  have:=jV s 32 K0
  grind[iK]
 have hm:NZ s=DW (wN true 16) (wN true 16) (av 32 s):=rfl;have h1:=(bZ 32 s).2;rw[hm];generalize av 32 s=ws at*;have hn:(ab ws).length =ws.length:=by simp
 by_cases h2:ws.length=2
 ·obtain⟨x,y,rfl⟩:=E2 h2;have hx:=h1 x (by simp);have hy:=h1 y (by simp);have cx':=iB x 16 K9 K0;have cy':=iB y 16 K9 K0;show ∃a b ok,_/\((wN true 16 x).bind λu=>(wN true 16 y).map λv=>(u,v))=_;rw[Ch,Ch];have aej:ad 148 [SS x,I 16] (.aJ (MO (fQ 16 x))):=cx';have aeh:ad 148 [SS y,I 16] (.aJ (MO (fQ 16 y))):=cy'
  cases e1:fQ 16 x with
  |none=>
   cases e2:fQ 16 y with
   |none=>
    rw[e1]at aej;rw[e2]at aeh;refine⟨0,0,false,?_,rfl⟩;exact X7
   |some b=>
    rw[e1]at aej;rw[e2]at aeh;refine⟨0,b,false,?_,rfl⟩;exact X7
  |some a=>
   cases e2:fQ 16 y with
   |none=>
    rw[e1]at aej;rw[e2]at aeh;refine⟨a,0,false,?_,rfl⟩;exact X7
   |some b=>
    rw[e1]at aej;rw[e2]at aeh;refine⟨a,b,true,?_,rfl⟩;exact X7
 ·refine⟨0,0,false,?_,?_⟩
  ·exact X7
  ·match ws,h2 with
   | [],_=>rfl
   | [_],_=>rfl
   |_::_::_::_,_=>rfl
def Fm (log:List En)(u:Un)(t:aj)(hl:u.res.length<=1000000){rt:aj}{ra:Int}{k:Nat}{rv:Bool}(hr:iM u.res t=some ⟨rt,ra,(k:Nat),rv⟩)(hk:k<log.length){a:List aj}{i:Int}(ha:a.length=3)(hs:HL (log.getD k fZ).text =(a++[bP 3 (log.getD k fZ).text],i,true))(ht:(log.getD k fZ).text.length <=9000):
  ad 308 [(false,[.view (log.map df)]),(true,jQ u),SS t] (.aJ (PR (dQ (cD (av 32 (bP 3 (log.getD k fZ).text)))))):=by
 have hn:(u.res.map kE).length =u.res.length:=by simp
 have zI:(log.map df).length =log.length:=by simp
 have iE:=bg (f:=df) hk fZ;generalize log.getD k fZ=en at*;obtain⟨et,ew,tx⟩:=en;dsimp only at hs ht ⊢;have iE:(log.map df)[k]? =some [J et,T ew,T tx]:=iE;have c1:=jC tx K0;rw[hs]at c1;have hdl:=lZ 3 tx;have c2:=ka (bP 3 tx) K0;generalize bP 3 tx=dr at*;generalize dQ (cD (av 32 dr))=y at*;obtain⟨⟨st,rl⟩,ye⟩:=y;have hw3:(ab (a++[dr]))[3]? =some [T dr]:=by grind
 have Ue:(ab (a++[dr])).length =4:=by grind
 refine sF f308 ?_
 (try(refine tX 0 ?_;try exact Zt))
 refine af (ι:=Nat) (λn=>n<=u.res.length/\iM u.res t=iM (u.res.take n) t) (λn=>n) (λn=>⟨[(0,some (.val (false,[.st (.view (log.map df))]))),(2,lS t),(4,pP 0),(6,pP 1),(8,vI ((n:Nat) -1:Int))],[(0,some (bxU u)),(1,some (.box 168 [.st (J 0),.nil]))],2⟩) u.res.length (ai Pv) ⟨dw _,by grind⟩ ?_;rintro n ⟨hi,hg⟩
 cases n with
 |zero=>
  rw[hr]at hg;exact absurd hg (by simp[iM])
 |succ n=>
  have ak:n<u.res.length:=by omega
  have he:=bg (f:=kE) ak BT;have zx:u.res.take (n+1)=u.res.take n++[u.res.getD n BT]:=by simp_all
  rw[zx,Fh]at hg;generalize u.res.getD n BT=x at*;obtain⟨xt,xa,xe,xv⟩:=x;have he:(u.res.map kE)[n]? =some [T xt,J xa,J xe,K xv]:=he;unfold sG at hg;dsimp only at hg;by_cases hx:xt=t
  ·subst hx;cases xv
   ·rw[if_pos (by simp),hr]at hg;simp only[lK,Rs.mk.injEq]at hg;obtain⟨-,-,rfl,-⟩:=hg;exact tL
   ·rw[if_neg (by simp)]at hg;exact K29
  ·rw[if_neg br]at hg;exact K29
def oT (a b lo hi:Int):ad 305 [F2 a b,F2 lo hi] (.aJ [I (rO a b lo hi).1,I (rO a b lo hi).2]):=by
 have h:=Aw a b lo hi;unfold rO
 grind
def BY (e:Int)(q:Sp)(ch:List Sp)(hq:qr q)(vJ: ∀s∈ch,qr s)(l:List Int):ad 310 [Ru e q ch,FG l e] (.aJ [F2 (zg e q ch l).1.1 (zg e q ch l).1.2,I (zg e q ch l).2]):=by
 have h:=Ax e q ch hq vJ (pk l:Nat) (pA l -e) (pA l+e) (QK l e) (EN l e) (QL l e) (EP l e) (oe l e) (ZX l e);unfold zg
 grind
def aaQ (log:List En)(u:Un)(nm:aj)(nd:List aj)(ru:aj)(lo hi:Int)(rest:aj)(hl:rest.length<=10000):
  ad 280 [(false,[.view (log.map df)]),(true,jQ u),(true,fC ⟨nm,0,nd,ru,lo,hi⟩),SS rest] (.aJ [I (uq lo hi rest).1,I (uq lo hi rest).2]):=by
 obtain⟨a,b,ok,c1,e⟩:=BX rest hl;unfold uq;rw[e];cases ok
 ·rw[if_neg xH];exact xM
 ·rw[if_pos rfl];have c3:=oT a b lo hi;show nN _ _ _ _ (.aJ [I (rO a b lo hi).1,I (rO a b lo hi).2]);generalize rO a b lo hi=z at*;exact xM
def aaR (log:List En)(u:Un)(nm:aj)(nd:List aj)(ru:aj)(lo hi:Int)(rest:aj)(hl:rest.length<=10000):
  ad 280 [(false,[.view (log.map df)]),(true,jQ u),(true,fC ⟨nm,3,nd,ru,lo,hi⟩),SS rest] (.aJ [I (EX lo hi rest).1,I (EX lo hi rest).2]):=by
 have c1:=AG rest hl;obtain⟨⟨b1,b2⟩,b3⟩:=ZR rest;have c2:=GF (Cn rest).1 K0 K0 b3;unfold EX;generalize Cn rest=y at*;obtain⟨x,ye⟩:=y;by_cases h1:ye=0
 ·subst h1;rw[if_pos rfl];dsimp only at c1 c2 ⊢;generalize TH x=w at*;obtain⟨⟨w1,w2⟩,we⟩:=w;by_cases h2:we=0
  ·subst h2;rw[if_pos rfl];have c3:=oT w1 w2 lo hi;generalize rO w1 w2 lo hi=z at*;exact xM
  ·rw[if_neg h2];exact xM
 ·rw[if_neg h1];exact xM
def aaS (log:List En)(u:Un)(nm:aj)(nd:List aj)(ru:aj)(lo hi:Int)(rest:aj)(hl:rest.length<=10000)(hr:ru.length<=10000):
  ad 280 [(false,[.view (log.map df)]),(true,jQ u),(true,fC ⟨nm,1,nd,ru,lo,hi⟩),SS rest] (.aJ [I (Kn log u ⟨nm,1,nd,ru,lo,hi⟩ rest).1,I (Kn log u ⟨nm,1,nd,ru,lo,hi⟩ rest).2]):=by
 have c1:=k5 ru hr;have c2:=ka rest hl;obtain⟨b1,b2,b3⟩:=Ct ru;have b4:=vi rest;unfold Kn;dsimp only;rw[if_neg K9,if_neg K9];generalize iD (eC (av 59 ru))=y at*;obtain⟨⟨e,q,ch⟩,ye⟩:=y;generalize dQ (cD (av 32 rest))=x at*;obtain⟨⟨st,l⟩,xe⟩:=x;dsimp only at*;by_cases h1:xe=0
 ·subst h1;rw[if_pos rfl,if_neg K9];have c3:=Av e q ch st l b1 b2 abX;unfold aaf;by_cases h2:sL e q ch st l=0
  ·rw[if_pos h2]at c3 ⊢;have c4:=BY e q ch b1 b2 l;generalize zg e q ch l=w at*;obtain⟨⟨w1,w2⟩,we⟩:=w;by_cases h3:we=0
   ·subst h3;rw[if_pos rfl];have c5:=oT w1 w2 lo hi;generalize rO w1 w2 lo hi=z at*;exact xM
   ·rw[if_neg h3];exact xM
  ·rw[if_neg h2]at c3 ⊢;generalize sL e q ch st l=z at*;exact xM
 ·rw[if_neg h1];exact xM
def adJ (log:List En)(u:Un)(t:Ts):Prop:=∃n0 nd rt ra,∃k:Nat,∃rv a i,t.bu=n0::nd/\iM u.res n0=some ⟨rt,ra,(k:Nat),rv⟩/\k<log.length/\a.length=3/\HL (log.getD k fZ).text =(a++[bP 3 (log.getD k fZ).text],i,true)/\(log.getD k fZ).text.length <=9000/\(dQ (cD (av 32 (bP 3 (log.getD k fZ).text)))).2=0
def aaT (log:List En)(u:Un)(nm:aj)(nd:List aj)(ru:aj)(lo hi:Int)(rest:aj)(lC:u.res.length<=1000000)(hl:rest.length<=10000)(hr:ru.length<=10000)(hc:adJ log u ⟨nm,2,nd,ru,lo,hi⟩):
  ad 280 [(false,[.view (log.map df)]),(true,jQ u),(true,fC ⟨nm,2,nd,ru,lo,hi⟩),SS rest] (.aJ [I (Kn log u ⟨nm,2,nd,ru,lo,hi⟩ rest).1,I (Kn log u ⟨nm,2,nd,ru,lo,hi⟩ rest).2]):=by
 obtain⟨n0,nd',rt,ra,k,rv,a,i,rfl,h1,h2,h3,h4,h5,h6⟩:=hc;have c1:=k5 ru hr;have c2:=ka rest hl;obtain⟨b1,b2,b3⟩:=Ct ru;have b4:=vi rest;have c3:=Fm log u n0 lC h1 h2 h3 h4 h5;have hdl:=lZ 3 (log.getD k fZ).text;have b5:=vi (bP 3 (log.getD k fZ).text);unfold Kn;dsimp only;rw[if_neg K9,if_neg K9,Lx,h1];simp only[sY,sB];generalize log.getD k fZ=en at*;generalize iD (eC (av 59 ru))=y at*;obtain⟨⟨e,q,ch⟩,ye⟩:=y;generalize dQ (cD (av 32 rest))=x at*;obtain⟨⟨st,l⟩,xe⟩:=x;generalize dQ (cD (av 32 (bP 3 en.text)))=v at*;obtain⟨⟨sa,la⟩,va⟩:=v;dsimp only at*;subst h6;by_cases h1:xe=0
 ·subst h1;rw[if_pos rfl,if_pos trivial];have c4:=vH e q ch sa la st l b1 b2 abX abX;unfold Wf at c4;unfold Wh;by_cases h1:du e q ch sa la st l=0
  ·rw[h1]at c4 ⊢;rw[if_neg K0]at c4 ⊢;by_cases h2:kf (TS e q la l)
   ·rw[if_pos h2]at c4 ⊢;exact xM
   ·rw[if_neg h2]at c4 ⊢;by_cases h3:e=0
    ·rw[if_pos h3]at c4;exact xM
    ·rw[if_neg h3]at c4;exact xM
  ·rw[if_pos h1]at c4 ⊢;generalize du e q ch sa la st l=z at*;exact xM
 ·rw[if_neg h1];exact xM
def BZ (log:List En)(u:Un)(t:Ts)(rest:aj)(lC:u.res.length<=1000000)(hl:rest.length<=10000)(hr:t.rules.length<=10000)(hk:0<=t.kind/\t.kind<=3)(hc:t.kind=2->adJ log u t):
  ad 280 [(false,[.view (log.map df)]),(true,jQ u),(true,fC t),SS rest] (.aJ [I (Kn log u t rest).1,I (Kn log u t rest).2]):=by
 obtain⟨nm,kd,nd,ru,lo,hi⟩:=t;dsimp only at hr hk hc;obtain rfl|rfl|rfl|rfl:kd=0\/kd=1\/kd=2\/kd=3:=by omega
 ·exact aaQ log u nm nd ru lo hi rest hl
 ·exact aaS log u nm nd ru lo hi rest hl hr
 ·exact aaT log u nm nd ru lo hi rest lC hl hr (hc rfl)
 ·exact aaR log u nm nd ru lo hi rest hl
def dU {m:List (Nat × Nat)}{H:HF}{Y:Hp}(h:(Go.Fw.eM (m.map Prod.fst)&&Go.Fw.eM (m.map Prod.snd))=true)(hY:jT m H m=some Y):cW m H Y.get:=by
 simp only[sC]at h;exact⟨bW h.1,bW h.2,λn b' e=>pg hY e⟩
def rU (u:Un)(h1:u.lots.length<=1000)(h2:u.res.length<=1000)(h3:u.gas.length<=1000):ad 200 [(true,jQ u)] (.one (true,jQ u)):=by
 have c1:=dy u.lots K0;have n2:(u.res.map kE).length =u.res.length:=by simp
 have n3:(u.gas.map uV).length =u.gas.length:=by simp
 refine sW (fn:=f200) ?_;repeat' ((first|refine tX 0 ?_|exact Zt|refine bR ?_ ?_<;>intro h)<;>(try conv=>whnf))
 exact⟨[(true,jQ u)],[8,20,32],bx ⟨rfl,rfl,uv (a:=8) (b:=20) (c:=32) (by simp) rfl rfl rfl⟩ iW,rfl,rfl⟩
def KA (u:Un)(h1:u.lots.length<=1000)(h2:u.res.length<=1000)(h3:u.gas.length<=1000):bt cx 200 1 [dyn (true,jQ u)] [] [] (.val (true,cP u 11 13 15)) (lz u 11 13 15):=by
 have c1:=dy u.lots K0;have n2:(u.res.map kE).length =u.res.length:=by simp
 have n3:(u.gas.map uV).length =u.gas.length:=by simp
 refine gR f200 ?_;repeat' ((first|refine tX 0 ?_|exact Zt|refine bR ?_ ?_<;>intro h)<;>(try conv=>whnf))
 exact⟨[(10,11),(22,13),(34,15)],dU rfl rfl,_,rfl,rfl⟩
abbrev stE (s:bK):List DC:=rQ s
def F0 (s:bK):Hp:=[(5,some (.row true 1 (.view (ab s.opens)))),(7,some (.row true 1 (.view (ab s.lots)))),(9,some (.row true 17 (.view (s.units.map jQ))))]
def Ra (s:bK)(h1:s.opens.length<=1000)(h2:s.lots.length<=1000)(h3:s.units.length<=1000)(hu: ∀u∈s.units,(u.lots.length<=1000/\u.res.length<=1000)/\u.gas.length<=1000):bt cx 112 1 [dyn (true,vz s)] [] [] (.val (true,rQ s)) (F0 s):=by
 have c1:=dy s.opens K0;have c2:=dy s.lots K0;have n1:(s.units.map jQ).length =s.units.length:=by simp
 refine gR f112 ?_;repeat' ((first|refine tX 0 ?_|exact Zt|refine bR ?_ ?_<;>intro h)<;>(try conv=>whnf))
 refine af (ι:=Nat) (λi=>i<=s.units.length) (λi=>s.units.length -i) (λi=>⟨[(1,pP 0),(2,pP 1),(3,vI i)],[(0,some (.box 58 [.st (K s.volt),.st (K s.earth),.own 2,.st (T s.hall),.own 3,.own 4])),(1,some (.box 58 [.st (K false),.st (K false),.nil,.st (T []),.nil,.nil])),(2,some (.row true 1 (.view (ab s.opens)))),(3,some (.row true 1 (.view (ab s.lots)))),(4,some (.row true 17 (.view (s.units.map jQ))))],5⟩) 0 Zc (dC _) ?_;intro i hi;by_cases ak:i<s.units.length
 ·have he:=bg (f:=jQ) ak o6;have La:s.units.getD i o6∈s.units:=yZ ak;have c3:=rU (s.units.getD i o6) (hu _ La).1.1 (hu _ La).1.2 (hu _ La).2
  have lj:(s.units.map jQ).set i (jQ (s.units.getD i o6))=s.units.map jQ:=by
   rw[<- LL];congr 1;rw[jE,nM ak,sY,Lv]
  generalize s.units.getD i o6=u at*;repeat' ((first|refine tX 0 ?_|exact Zt|refine bR ?_ ?_<;>intro h)<;>(try conv=>whnf))
  all_goals first|exact Zo|exact⟨i+1,ak,by omega,ai ajP⟩
 ·obtain rfl:i=s.units.length:=by omega
  repeat' ((first|refine tX 0 ?_|exact Zt|refine bR ?_ ?_<;>intro h)<;>(try conv=>whnf))
  all_goals first|exact Zo|exact⟨[(2,5),(3,7),(4,9)],dU rfl rfl,_,rfl,rfl⟩
abbrev fz (n k:Nat):Nat:=2*(n*4294967296+k)+1
theorem rV {m:List (Nat × Nat)}{z:Nat}{l l':List (List DC)}(h:fI m l=some l'):fm m (.aA z l)=some (.aA z l'):=by
 show(match fI m l with|some l'=>some (co.aA z l')|none=>none)=_;rw[h]
abbrev unS (u:Un):List DC:=(jQ u).map .st
abbrev rW (us:List Un):List (List DC):=stL (us.map jQ)
abbrev zG (s:bK):List DC:=[.st (K s.volt),.st (K s.earth),.st (.view (ab s.opens)),.st (T s.hall),.st (.view (ab s.lots)),.own 9]
def F1 (us:List Un)(i:Nat)(u:Un):Hp:=[(9,some (.aA 17 ((rW us).set i (cP u 11 13 15)))),(11,some (.row true 1 (.view (ab u.lots)))),(13,some (.row true 4 (.view (u.res.map kE)))),(15,some (.row true 5 (.view (u.gas.map uV))))]
def GG (H:HF)(fid:Nat)(u:Un)(h1:u.lots.length<=1000)(h2:u.res.length<=1000)(h3:u.gas.length<=1000):
  bN cx fid 200 [dyn (true,jQ u)] H (KV (fresh (tag fid) 0) (.val (true,cP u 11 13 15))) (cC [] (cN (fresh (tag fid) 0) (lz u 11 13 15))) []:=by
 refine Go.Fw.mq (KA u h1 h2 h3) ⟨by simp[lz],λk hk=>?_,λk b e=>?_⟩ (λx hx=>?_) (λd hd=>?_)
 ·exact aiv
 ·exact air
 ·have:x=dyn (true,jQ u):=by simpa using hx
  subst this;exact bA _
 ·exact ahM
def Rb (s:bK){i:Nat}{u:Un}(hi:s.units[i]? =some u)(h1:s.opens.length<=1000)(h2:s.lots.length<=1000)(h3:s.units.length<=1000)(hu: ∀u∈s.units,(u.lots.length<=1000/\u.res.length<=1000)/\u.gas.length<=1000):bt cx 112 1 [dyn (true,vz s)] [] [] (.val (true,zG s)) (F1 s.units i u):=by
 have c1:=(dy s.opens K0).xC;have c2:=(dy s.lots K0).xC;have n1:(s.units.map jQ).length =s.units.length:=by simp
 have Ui:=(kl.1 hi).1;refine gR f112 ?_;repeat' ((first|refine tX 0 ?_|exact Zt|refine bR ?_ ?_<;>intro h)<;>(try conv=>whnf))
 have n2:(rW s.units).length =s.units.length:=by simp[stL]
 have hA: ∀m,fI m (rW s.units)=some (rW s.units):=λm=>KB m _
 refine af (ι:=Nat) (λj=>j<=s.units.length) (λj=>s.units.length -j)
  (λj=>if j<=i then⟨[(1,pP 2),(2,pP 4),(3,vI j)],[(9,some (.aA 17 (rW s.units))),(2,some (.box 58 (zG s))),(4,some (.box 58 [.st (K false),.st (K false),.nil,.st (T []),.nil,.nil]))],1000⟩
   else⟨[(1,pP 2),(2,pP 4),(3,vI j)],[(9,some (.aA 17 ((rW s.units).set i (cP u 11 13 15)))),(2,some (.box 58 (zG s))),(4,some (.box 58 [.st (K false),.st (K false),.nil,.st (T []),.nil,.nil])),(11,some (.row true 1 (.view (ab u.lots)))),(13,some (.row true 4 (.view (u.res.map kE)))),(15,some (.row true 5 (.view (u.gas.map uV))))],1000⟩) 0
  (by
   rw[if_pos (dC _)]
   refine bs.trans (NE 32 (V:=s.units.map jQ) rfl) (vp (ks:=[1,2,3]) (m:=[(32,9),(2,2),(4,4)]) rfl ⟨⟨32,_,by simp,rfl,rV (hA _)⟩,⟨2,_,by simp,rfl,rfl⟩,⟨4,_,by simp,rfl,rfl⟩,trivial⟩ rfl dp)) (dC _) ?_
 intro j hj;by_cases ak:j<s.units.length
 ·have he:(rW s.units)[j]? =some (unS (s.units.getD j o6)):=by
   have:=bg (f:=jQ) ak o6;show((s.units.map jQ).map _)[j]? =_;rw[gr,this];rfl
  have La:s.units.getD j o6∈s.units:=yZ ak
  have lj:(rW s.units).set j (unS (s.units.getD j o6))=rW s.units:=by
   have h:=(kl.1 he).2;rw[<- h,Lv]
  rcases SE j i with hji|hji|hji
  ·rw[if_pos K0];have c3:=rU (s.units.getD j o6) (hu _ La).1.1 (hu _ La).1.2 (hu _ La).2;generalize s.units.getD j o6=v at*;repeat' ((first|refine tX 0 ?_|exact Zt|refine bR ?_ ?_<;>intro h)<;>(try conv=>whnf))
   all_goals first|exact Zo|skip
   refine⟨j+1,ak,by omega,?_⟩;rw[if_pos K0];exact vp (ks:=[1,2,3]) (m:=[(9,9),(2,2),(4,4)]) rfl ⟨⟨9,_,by simp,rfl,rV (show fI _ ((rW s.units).set j (unS v))=_ by rw[lj];exact hA _)⟩,⟨2,_,by simp,rfl,rfl⟩,⟨4,_,by simp,rfl,rfl⟩,trivial⟩ rfl dp
  ·subst hji;rw[if_pos (dw _)];have hgu:s.units.getD j o6=u:=by rw[jE,hi];rfl
   rw[hgu]at he La lj;have c3:=λH fid=>GG H fid u (hu _ La).1.1 (hu _ La).1.2 (hu _ La).2;repeat' ((first|(refine kO 7 rfl ?_;first|refine Rw (c3 _ _) ?_)|refine tX 0 ?_|exact Zt|refine bR ?_ ?_<;>intro h)<;>(try conv=>whnf))
   all_goals first|exact Zo|skip
   refine⟨j+1,ak,by omega,?_⟩;rw[if_neg K0];exact vp (ks:=[1,2,3]) (m:=[(9,9),(2,2),(4,4),(fz 1013 11,11),(fz 1013 13,13),(fz 1013 15,15)]) rfl ⟨⟨9,_,by simp,rfl,rV (show fI _ ((rW s.units).set j (cP u (fz 1013 11) (fz 1013 13) (fz 1013 15)))=_ from kh rfl)⟩,⟨2,_,by simp,rfl,rfl⟩,⟨4,_,by simp,rfl,rfl⟩,⟨fz 1013 11,_,by simp,rfl,rfl⟩,⟨fz 1013 13,_,by simp,rfl,rfl⟩,⟨fz 1013 15,_,by simp,rfl,rfl⟩,trivial⟩ rfl dp
  ·rw[if_neg K0];have c3:=rU (s.units.getD j o6) (hu _ La).1.1 (hu _ La).1.2 (hu _ La).2;have he2:((rW s.units).set i (cP u 11 13 15))[j]? =some (unS (s.units.getD j o6)):=by rw[Pq K0];exact he
   have amJ:((rW s.units).set i (cP u 11 13 15)).set j (unS (s.units.getD j o6))=(rW s.units).set i (cP u 11 13 15):=by
    have h:=(kl.1 he2).2;rw[<- h,Lv]
   have n3:((rW s.units).set i (cP u 11 13 15)).length =s.units.length:=by rw[CJ];exact n2
   generalize s.units.getD j o6=v at*;clear he lj;repeat' ((first|refine tX 0 ?_|exact Zt|refine bR ?_ ?_<;>intro h)<;>(try conv=>whnf))
   all_goals first|exact Zo|skip
   refine⟨j+1,ak,by omega,?_⟩;rw[if_neg K0];exact vp (ks:=[1,2,3]) (m:=[(9,9),(2,2),(4,4),(11,11),(13,13),(15,15)]) rfl ⟨⟨9,_,by simp,rfl,rV (show fI _ (((rW s.units).set i (cP u 11 13 15)).set j (unS v))=_ by rw[amJ];exact kh rfl)⟩,⟨2,_,by simp,rfl,rfl⟩,⟨4,_,by simp,rfl,rfl⟩,⟨11,_,by simp,rfl,rfl⟩,⟨13,_,by simp,rfl,rfl⟩,⟨15,_,by simp,rfl,rfl⟩,trivial⟩ rfl dp
 ·obtain rfl:j=s.units.length:=by omega
  rw[if_neg K0];have n3:((rW s.units).set i (cP u 11 13 15)).length =s.units.length:=by rw[CJ];exact n2
  repeat' ((first|refine tX 0 ?_|exact Zt|refine bR ?_ ?_<;>intro h)<;>(try conv=>whnf))
  all_goals first|exact Zo|exact⟨[(9,9),(11,11),(13,13),(15,15)],nI rfl ⟨⟨9,_,by simp,rfl,rV (kh rfl)⟩,⟨11,_,by simp,rfl,rfl⟩,⟨13,_,by simp,rfl,rfl⟩,⟨15,_,by simp,rfl,rfl⟩,trivial⟩,_,rfl,rfl⟩
abbrev wkS (p:Pl)(log:List En)(s:bK):List SC:=[.view (p.ae.map m9),.view (ab p.ap),.view (p.aa.map fC),.view (p.parts.map mi),J p.dW,J p.eH,.view (log.map df)]++vz s
def wiF (us:List Un)(x:aj):List aj:=(us.filter λu=>decide (x∈u.lots)).map Un.name
def aa2 {us:List Un}{i:Nat}(h:i<us.length)(x:aj):wiF (us.take (i+1)) x=wiF (us.take i) x++(if x∈(us.getD i o6).lots then [(us.getD i o6).name]else []):=by
 have e:us.take (i+1)=us.take i++[us.getD i o6]:=ajb;unfold wiF;rw[e,Sv,wD];congr 1;generalize us.getD i o6=u;by_cases hx:x∈u.lots<;>simp[hx]
def aa3 (p:Pl)(log:List En)(s:bK)(x:aj)(hl:s.units.length<=1000)(hu: ∀u∈s.units,u.lots.length<=1000):ad 56 [(false,[.ref (wkS p log s)]),SS x] (.own 1 (.view (ab (si s x)))):=by
 obtain⟨volt,earth,opens,hall,lots,us⟩:=s;have hn:(us.map jQ).length =us.length:=by simp
 have hl:us.length<=1000:=hl;refine sF f56 ?_
 (try(refine tX 0 ?_;try exact Zt))
 refine af (ι:=Nat) (λi=>i<=us.length) (λi=>us.length -i) (λi=>⟨[(1,lS x),(5,pO 0),(12,some (.val (false,[.st (.view (us.map jQ))]))),(13,vI us.length),(14,vI i)],[(0,some (.row true 1 (.view (ab (wiF (us.take i) x)))))],1⟩) 0
  (bs.trans (jz 5 1 (.view []) K9 rfl rfl rfl) (ai Pv)) (dC _) ?_
 intro i hi;by_cases ak:i<us.length
 ·have he:=bg (f:=jQ) ak o6;have xB:=aa2 ak x;have hc:=bD (us.getD i o6).lots x (by have:=hu (us.getD i o6) (by rw[jE,nM ak,sY];exact oh ak);omega)
  have WZ:(wiF (us.take i) x).length <=i:=by
   unfold wiF;rw[ja];exact o3 (UA _ _) wG
  generalize wiF (us.take i) x=out at*;generalize us.getD i o6=u at*;obtain⟨nm,⟨k1,t1,s1,r1,k2,t2,s2,r2,st⟩,ul,re,fa,rl,sh,ud,ga⟩:=u;dsimp only at xB hc;have hol:(ab out).length =out.length:=by simp
  by_cases hv:x∈ul
  ·rw[fH hv]at hc;rw[if_pos hv]at xB;exact K22
  ·rw[eT hv]at hc;rw[if_neg hv,zP]at xB;exact K30
 ·obtain rfl:i=us.length:=by omega
  rw[lu];exact tA
def WN {H:HF}{fid:Nat}{p:Pl}{l:List En}{s:bK}(x:aj)(hl:s.units.length<=1000)(hu: ∀u∈s.units,u.lots.length<=1000)(h1:H 1=(form p l s).get 1)(h3:H 3=(form p l s).get 3)(h5:H 5=(form p l s).get 5)(h7:H 7=(form p l s).get 7)(h9:H 9=(form p l s).get 9)(hr: ∀k∈ah (bq 0 s.units),H k=(bq 0 s.units).get k):
  bN cx fid 56 [(false,[.ptr 1 0]),(false,[.st (T x)])] H (Fw.bm (.own fid)) [(fid,some (.row true 1 (.view (ab (si s x)))))] (1::3::5::7::9::ah (bq 0 s.units)):=
 iI (bx (kc (.box (by simp) (h1.trans rfl) rfl (al (.st _)<|al (.st _)<|al (.st _)<|al (.st _)<|al (.st _)<|al (.st _)<|al (.row (by simp) (h3.trans rfl))<|al (.st _)<|al (.st _)<|al (.row (by simp) (h5.trans rfl))<|al (.st _)<|al (.row (by simp) (h7.trans rfl))<|al (Fe (h9.trans rfl) (by simp) (λk hk=>by simp only[cQ];exact .inr (.inr (.inr (.inr (.inr hk))))) hr) lY))) (bx (kc (.st _)) iW)) (aa3 p l s x hl hu) (Ez _) ⟨rfl,rfl,rfl⟩
def zu {p:Pl}{l:List En}(hs:io p)(hP:(p.err jK).2=0->PB p)(hl:l.length<=1000)(ht: ∀e∈l,e.text.length<=100000){x:aj}(hx:x.length<=1000){s:bK}{i:Nat}(h:ee p l=(s,i,0))(hn:eK x)(hi:x∈s.lots):
  ad 18 [(true,bU p),(false,[.view (l.map df)]),SS x] (.aJ [(false,[.view (ab (si s x))]),I 0]):=by
 have c1:=gi x K0;have c2:=Oe hs hP hl ht h;obtain⟨hS,hu⟩:=vm hP h;have c4:=bD s.lots x (by have:=hS.lots;omega);have c5:=λfid H=>WN (fid:=fid) (H:=H) (p:=p) (l:=l) x hu (λu h=>by have:=(hS.unit u h).lots;omega);unfold jG at c1;rw[if_pos hn]at c1;rw[fH hi]at c4;refine sW (fn:=f18) ?_;refine aS ?_;(refine aR ?_;conv=>whnf);(try(refine tX 2 ?_;try exact Zt));refine aQ ?_;(refine aR ?_;conv=>whnf);repeat((first|(refine kO 7 rfl ?_;first|refine Rw (c2 _ _) ?_)|refine tX 2 ?_|exact Zt);(try conv=>whnf))
 refine⟨_,Cv (R:=[]) (E':=[(2,lS x),(8,pP 1),(10,vI 0)]) (ks:=[2,8,10]) (n':=1000) hu rfl rfl (λid b e=>by simp[Hp.get]at e) rfl dp,?_⟩;repeat' ((first|(refine kO 7 rfl ?_;first|refine ij (λ_ z=>⟨_,_,_,(c5 _ _ rfl rfl rfl rfl rfl (λk hk=>ib.get Ee (fX hu) k hk)),z⟩) ?_)|refine tX 0 ?_|exact Zt|refine bR ?_ ?_<;>intro h)<;>(try conv=>whnf))
 all_goals first|exact Zo|exact⟨[(false,[.view (ab (si s x))]),I 0],[_],bx ⟨rfl,rfl,al (.row i8 rfl) lY⟩ (bx (jl _) iW),rfl,rfl⟩
set_option maxRecDepth 1000000
set_option maxHeartbeats 80000000
def smF (k:Int)(s:aj):Int:=s.foldl (λk b=>(k*131+b.toNat+1)%1000003) k
def ag7 {k:Int}{s:aj}(h:0<=k/\k<1000003):0<=smF k s/\smF k s<1000003:=by
 unfold smF
 induction s generalizing k with
 |nil=>exact h
 |cons b s ih=>exact ih ⟨CK _ K9,Lr _ K9⟩
def aa7 {k:Int}{s:aj}{i:Nat}(h:i<s.length):smF k (s.take (i+1))=(smF k (s.take i)*131+(s.getD i 0).toNat +1)%1000003:=by
 rw[BH,nM h,jE,nM h];unfold smF;rw[List.foldl_append];rfl
def adX (k:Int)(s:aj)(hk:0<=k/\k<1000003)(hl:s.length<=1000000):bt cx 87 1 ((false,[.ptr 1 0])::[SS s].map dyn) [(1,some (.box 184 ([J k].map .st)))] [1] (.aJ []) [(1,some (.box 184 ([J (smF k s)].map .st)))]:=by
 have hb:=uU s;refine YU (fn:=f87) lG dp dp rfl dp (fP rfl) dp ?_
 (try(refine tX 0 ?_;try exact Zt))
 refine af (ι:=Nat) (λi=>i<=s.length) (λi=>s.length -i) (λi=>⟨[(0,pP 1),(7,some (.val (false,[.st (.view (kP (B s)))]))),(8,vI s.length),(9,vI i)],[(1,some (.box 184 [.st (J (smF k (s.take i)))]))],1000⟩) 0 (ai abO) (dC _) ?_;intro i hi;by_cases ak:i<s.length
 ·have hg:=JQ ak;have FL:((s.getD i 0).toNat :Int)<=255:=by exact UG
  have hs:=aa7 (k:=k) ak;have hc:=ag7 (s:=s.take i) hk;generalize smF k (s.take i)=c at*;generalize (s.getD i 0)=b at*;repeat' ((first|refine tX 0 ?_|exact Zt|refine bR ?_ ?_<;>intro h)<;>(try conv=>whnf))
  all_goals first|exact Zo|exact⟨i+1,ak,by omega,ai (by rw[hs];kernel_rfl)⟩
 ·obtain rfl:i=s.length:=by omega
  rw[lu];repeat' ((first|refine tX 0 ?_|exact Zt|refine bR ?_ ?_<;>intro h)<;>(try conv=>whnf))
  all_goals first|exact Zo|exact⟨rfl,rfl,_,rfl,rfl⟩
def WO (k:Int)(s:aj)(hk:0<=k/\k<1000003)(hl:s.length<=1000000):ad 41 [SS s,I k] (.aJ [I (smF k s),I 0]):=by
 have c1:=adX k s hk hl;have c2:=λ(H:HF) (id fid:Nat) (h:H id=some (.box 184 ([J k].map .st)))=>HG (H:=H) (id:=id) (fid:=fid) (r:=.aJ []) (λ_=>rfl) (λok=>show ∀x∈([]:List DX),dY ok x from λ_ hx=>by cases hx) c1 h;clear c1;refine sF f41 ?_;repeat' ((first|(refine kO 7 rfl ?_;first|refine ij (λ_ z=>⟨_,_,_,(c2 _ _ _ rfl),z⟩) ?_)|refine tX 0 ?_|exact Zt|refine bR ?_ ?_<;>intro h)<;>(try conv=>whnf))
 all_goals exact Z0
def ag8:ad 40 [G5 10 5 1 4 4] (.aJ [A3 1 0 2,I 0]):=by
 have c1:ad 86 [G5 10 5 1 4 4] (.one (A3 1 0 2)):=by
  refine sF f86 ?_;exact tA
 have c2:=E1 10 5 1 4 4;rw[Kq X4]at c2;refine sF f40 ?_;exact tA
def Pe:List (aj × aj):=[([119,105,109],[117,110,105,116,32,116,49,32,100,43,48,47,52,48,48,32,121,43,48,47,50,51,49,32,53]),([119,105,109],[108,111,116,32,119,105,114,101]),([119,105,109],[117,115,101,32,116,49,32,119,105,114,101]),([116,101,97],[111,112,101,110,32,103,49]),([119,105,109],[101,110,116,101,114,32,116,49]),([116,101,97],[115,104,117,116,32,103,49]),([116,101,97],[116,101,115,116,32,116,49,32,114,97,116,105,111,32,57,57,32,49,48,49]),([116,101,97],[108,105,102,116]),([116,101,97],[118,111,108,116,97,103,101]),([116,101,97],[116,101,115,116,32,116,49,32,108,111,119,32,49,32,48,32,51,48,32,54,48,32,49,48,48,32,57,48,32,55,48,32,53,50,32,52,48,32,50,48]),([116,101,97],[116,101,115,116,32,116,49,32,102,117,108,108,32,49,32,48,32,51,48,32,54,48,32,49,48,48,32,57,48,32,55,48,32,53,50,32,52,48,32,50,48])]
def Ua:List En:=Pe.mapIdx λi q=>⟨i,q.1,q.2⟩
abbrev mdL (i:Nat):List (List SC):=Pe.mapIdx λj q=>[J (if j<i then j else 0),T q.1,T q.2]
abbrev mdO (i:Nat):List (List SC):=(Ua.take i).map df
def aa8:ad 38 [] (.one (false,[.view (Ua.map df)])):=by
 refine nN.xC (z:=3) ?_;refine sF f38 ?_
 (try(refine tX 0 ?_;try exact Zt))
 refine af (ι:=Nat) (λi=>i<=11) (λi=>11 -i) (λi=>⟨[(2,pO 0),(3,pO 1),(4,vI i)],[(0,some (.row true 3 (.view (mdO i)))),(1,some (.row true 3 (.view (mdL i))))],2⟩) 0
  (bs.trans (jz 2 3 (.view []) K9 rfl rfl rfl) Zc) (dC _) ?_
 intro i hi;by_cases ak:i<11
 ·have key: ∀i<11,(mdL i)[i]? =some [J 0,T (Pe.getD i ([],[])).1,T (Pe.getD i ([],[])).2]/\(mdL i).set i [J i,T (Pe.getD i ([],[])).1,T (Pe.getD i ([],[])).2]=mdL (i+1)/\mdO (i+1)=mdO i++[[J i,T (Pe.getD i ([],[])).1,T (Pe.getD i ([],[])).2]]:=λi h=>by
   match i,h with
   |0,_|1,_|2,_|3,_|4,_|5,_|6,_|7,_|8,_|9,_|10,_=>exact⟨rfl,rfl,rfl⟩
  obtain⟨k1,k2,k3⟩:=key i ak;have n1:(mdL i).length =11:=by simp[mdL,Pe]
  have n2:(mdO i).length =i:=by simp[mdO,Ua,Pe];omega
  have k4:((mdL i).set i [J i,T (Pe.getD i ([],[])).1,T (Pe.getD i ([],[])).2])[(i:Int).toNat]? =some [J i,T (Pe.getD i ([],[])).1,T (Pe.getD i ([],[])).2]:=by rw[sB];exact IT K0
  generalize (Pe.getD i ([],[])).1=a at*;generalize (Pe.getD i ([],[])).2=b at*;generalize mdL i=L at*;generalize mdO i=O at*;repeat' ((first|refine tX 0 ?_|exact Zt|refine bR ?_ ?_<;>intro h)<;>(try conv=>whnf))
  all_goals first|exact Zo|exact⟨i+1,ak,by omega,ai (by rw[k3,<- k2];kernel_rfl)⟩
 ·obtain rfl:i=11:=by omega
  exact tA
def plQ:Pl:=⟨[([119,105,109],1),([116,101,97],2),([107,97,121],3)],[[103,49]],[⟨[114,97,116,105,111],0,[],[],95,105⟩,⟨[108,111,119],1,[[114,97,116,105,111]],[49,59,49,47,49,32,52,47,49],90,110⟩,⟨[102,117,108,108],2,[[108,111,119]],[49,59,49,47,49,32,52,47,49],0,0⟩],[([108,101,97,100],[[114,97,116,105,111]])],10,100⟩
def WP:ad 37 [] (.one (true,bU plQ)):=by
 refine sF f37 ?_;exact ahR
end Go.Proofs.Tryz
