import Derived.Test.YtackacoaaihcjaaGreatDoorPkF20
import Derived.Test.YtackacoaaihcjaaGreatDoorPkF25
import Derived.Test.YtackacoaaihcjaaGreatDoorPkF26
set_option linter.all false
set_option maxRecDepth 100000
set_option maxHeartbeats 8000000
namespace Go.Proofs.Tryz
open Go.Fw Go.IntWalk Go.Plain
def sW {fn:Func}{f:FuncId}{c:Code}{args:List SV}{r:ma}(h:m6 cx c (entry args) (λS=>acJ cx fn S λr'=>r'=r) (λ_ _=>False) (λS=>acJ cx fn S λr'=>r'=r))
  (h1:iH cx.P f=true:=by kernel_rfl)(h2:cx.P.funcs[f]? =some fn:=by kernel_rfl)(h3:fn.body=some c:=by rfl)(h4:bM fn.ntmps c=true:=by kernel_rfl)(h5:args.length<=fn.ntmps:=by exact fO rfl):ac f args r:=
 MG lH h1 h2 h3 h4 h5 h
def Fc: ∀ {k:Nat} {us:List Un} {i:Nat} {u:Un},us[i]? =some u->(br k us).get (17+6*(k+i))=some (.row true 1 (.view (ab u.lots)))/\(br k us).get (19+6*(k+i))=some (.row true 4 (.view (u.res.map kG)))/\(br k us).get (21+6*(k+i))=some (.row true 5 (.view (u.gas.map uV)))
 |k,[],i,u,h=>by grind
 |k,v::us,0,u,h=>by
  simp at h;subst h;have e:br k (v::us)=lA v (17+6*k) (19+6*k) (21+6*k)++br (k+1) us:=rfl;rw[e];refine⟨?_,?_,?_⟩
  ·show Hp.get ((17+6*k,_)::_) (17+6*k)=_;exact PE
  ·show Hp.get ((17+6*k,_)::(19+6*k,_)::_) (19+6*k)=_;rw[Hp.kJ K0,Hp.au,am]
  ·show Hp.get ((17+6*k,_)::(19+6*k,_)::(21+6*k,_)::_) (21+6*k)=_;rw[Hp.kJ K0,Hp.kJ K0,Hp.au,am]
 |k,v::us,i+1,u,h=>by
  obtain⟨h1,h2,h3⟩:=Fc (k:=k+1) (us:=us) (i:=i) (u:=u) bq;rw[show k+1+i=k+(i+1)by omega]at h1 h2 h3
  have sk: ∀n,23+6*k<=n->(br k (v::us)).get n=(br (k+1) us).get n:=λn hn=>by
   show Hp.get ((17+6*k,_)::(19+6*k,_)::(21+6*k,_)::br (k+1) us) n=_
   grind[Hp.kJ]
  grind
theorem Fe (u:Un): ∀c∈kz u,c.flat=true:=by
 intro c hc;simp only[kz,dh,mV,mY]at hc;rcases hc with rfl|rfl|rfl|rfl|rfl|rfl|rfl|rfl|rfl|rfl|rfl|rfl|rfl|rfl|rfl|rfl|rfl<;>rfl
theorem ut {H:HF}{R:List Nat}{u:Un}{a b c:Nat}(hR:a∈R/\b∈R/\c∈R)(ha:H a=some (.row true 1 (.view (ab u.lots))))(hb:H b=some (.row true 4 (.view (u.res.map kG))))(hc:H c=some (.row true 5 (.view (u.gas.map uV)))):
  ∀(k:Nat) (d:DC) (x:SC),(cP u a b c)[k]? =some d->(kz u)[k]? =some x->Full H R d x:=
 an (.st _)<|an (.st _)<|an (.st _)<|an (.st _)<|an (.st _)<|an (.st _)<|an (.st _)<|an (.st _)<|an (.st _)<|an (.st _)<|an (.row hR.1 ha)<|an (.row hR.2.1 hb)<|an (.st _)<|an (.st _)<|an (.st _)<|an (.st _)<|an (.row hR.2.2 hc) oK
def Rf {H:HF}{R:List Nat}{us:List Un}(h9:H 9=some (.aG 17 (aA 0 us)))(hR9:9∈R)(hRr: ∀k∈ah (br 0 us),k∈R)(hr: ∀k∈ah (br 0 us),H k=(br 0 us).get k):Full H R (.own 9) (.view (us.map kz)):=by
 have FN: ∀ {i:Nat} {e:List DC} {e':List SC},(aA 0 us)[i]? =some e->(us.map kz)[i]? =some e'->∃u,us[i]? =some u/\e=cP u (17+6*(0+i)) (19+6*(0+i)) (21+6*(0+i))/\e'=kz u:=λ{i e e'} h h'=>by
  rw[gq,my]at h';obtain⟨u,hu,rfl⟩:=h';have:=uW (k:=0) hu
  grind
 refine .aG hR9 h9 (by rw[jf,eO]) (λi e e' h h'=>?_) (λi e e' k d c h h' hd hc=>?_) (λi e' k c h' hc=>?_)
 ·obtain⟨u,_,rfl,rfl⟩:=FN h h';rfl
 ·obtain⟨u,hu,rfl,rfl⟩:=FN h h';obtain⟨g1,g2,g3⟩:=Fc (k:=0) hu
  grind[Hp.dV,ut]
 grind[Fe]
abbrev su (s:bQ):List DC:=[.st (K s.volt),.st (K s.earth),.own 5,.st (T s.hall),.own 7,.own 9]
def Cx {fid nx n':Nat}{p:Pl}{l:List En}{s:bQ}{R hp:Hp}{E E':dT}{ks:List Nat}(hl:s.units.length<=1000)(hR:Go.Fw.eM (ah R)=true)(hRk:((ah R).all λk=>Nat.blt 0 (tag k)&&(!Nat.beq (tag k) (tag fid)&&Nat.blt (tag k) n'))=true)
  (hRg: ∀(id:Nat) (b:cB),R.get id=some b->hp.get id=some b/\b.dQ λk=>k∈ah R)(hn:Nat.blt 0 n'=true)(hE:e8 (gz (fresh (tag fid) 0) (form p l s) R) E.get ks=some E'):
  bs ⟨E,cI [] (cS (fresh (tag fid) 0) (form p l s))++hp,nx⟩ ⟨E',R++form p l s,n'⟩:=by
 have hT:=E9 (p:=p) (l:=l) hl
 have hX0: ∀k∈ah R,0<tag k/\tag k≠tag fid/\tag k<n':=λk hk=>by
  have:=ww.1 hRk k hk;simp only[sG,AU,Bool.not_eq_true']at this;refine⟨this.1,λe=>?_,this.2.2⟩;simp_all
 refine(acL (R:=R) (n':=n') hT (bX hR) (λk hk=>?_) hRg (by simp_all) hE).trans (Cq ?_)
 ·obtain⟨h1,h2,h3⟩:=hX0 k hk;exact⟨λh=>by have:=(hT.lt k h).2.2;omega,h2,h3⟩
 ·have:=qt (A:=form p l s) (F':=R) (B:=[]) (λn hn hm=>by
   have h1:=(hX0 n hn).1;have h2:=(hT.lt n hm).2.2
   omega)
  grind
abbrev alR:DX:=(false,[.st (.lit (.pointer none))])
def aaS {H:HF}{p:Pl}{l:List En}{s:bQ}(hu:s.units.length<=1000)(h1:H 1=(form p l s).get 1)(h3:H 3=(form p l s).get 3)(h5:H 5=(form p l s).get 5)(h7:H 7=(form p l s).get 7)(h9:H 9=(form p l s).get 9)(hr: ∀k∈ah (br 0 s.units),H k=(br 0 s.units).get k):
  cW (sn (ah (form p l s)) λk=>k) H (form p l s).get :=by
 have hT:=dq p l hu
 have hk: ∀k∈ah (form p l s),H k=(form p l s).get k:=λk hk=>by
  rw[qw]at hk;simp only[dh]at hk;rcases hk with rfl|rfl|rfl|rfl|rfl|h'
  ·exact h9
  ·exact h1
  ·exact h3
  ·exact h5
  ·exact h7
  ·exact(hr k h').trans (im.get (H:=form p l s) K47 (gZ hu) k h').symm
 obtain⟨a,b,c⟩:=E8 hT;refine⟨a,b,λn b' e=>?_⟩;obtain⟨o,b2,q1,q2,q3⟩:=c n b' e;exact⟨o,b2,q1,(hk o (jX.1 q1).1).trans q2,q3⟩
def Ee {p:Prop}(h:p:=by repeat first|exact im.base _|refine im.step rfl ?_):p:=h
def Kw {H:Hp}{us:List Un}{k:Nat}{u:Un}(hE:im H (br 0 us))(hu:us.length<=1000)(hk:us[k]? =some u):H.get (17+6*(0+k))=some (.row true 1 (.view (ab u.lots)))/\H.get (19+6*(0+k))=some (.row true 4 (.view (u.res.map kG)))/\H.get (21+6*(0+k))=some (.row true 5 (.view (u.gas.map uV))):=by
 obtain⟨g1,g2,g3⟩:=Fc (k:=0) hk;exact⟨(hE.get (gZ hu) _ (Hp.dV g1)).trans g1,(hE.get (gZ hu) _ (Hp.dV g2)).trans g2,(hE.get (gZ hu) _ (Hp.dV g3)).trans g3⟩
def Ex {p:Prop}(h:p:=by exact⟨_,aaS hu rfl rfl rfl rfl rfl (λk hk=>im.get (by repeat first|exact im.base _|refine im.step rfl ?_) (gZ hu) k hk),_,rfl,rfl⟩):p:=h
section
variable {p:Pl}{l:List En}(hs:io p)(hP:(p.err jO).2=0->PB p)(hl:l.length<=1000)(ht: ∀e∈l,e.text.length<=100000)
include hs hP hl ht
theorem adJ (hz:(dH p l).2.2≠0)(H:HF)(fid:Nat):bW cx fid 51 [dyn (true,bU p),(false,[.st (.view (l.map cY))])] H (.aJ [alR,dyn (I (dH p l).2.1),dyn (I (dH p l).2.2)]) [] []:=by
 have c1:=Ol H fid hs hP hl ht;generalize dH p l=y at*;obtain⟨s,i,z⟩:=y;rw[show Re (s,i,z)= .aJ [alR,dyn (I (i:Nat)),dyn (I z)]from if_neg hz,show Kt p l (s,i,z)= []from if_neg hz]at c1;exact c1
theorem Ff {s:bQ}{i:Nat}(h:dH p l=(s,i,0))(H:HF)(fid:Nat):bW cx fid 51 [dyn (true,bU p),(false,[.st (.view (l.map cY))])] H (.aJ [(false,[.ptr (fresh (tag fid) 0 1) 0]),dyn (I (0:Nat)),dyn (I 0)]) (cI [] (cS (fresh (tag fid) 0) (form p l s))) []:=by
 have c1:=Ol H fid hs hP hl ht;rw[h]at c1;exact c1
omit hs hl ht in
theorem qK {s:bQ}{i:Nat}(h:dH p l=(s,i,0)):SB p l s/\s.units.length<=1000:=by
 have:=(Ub (l:=l) hP (by rw[h])).1;rw[h]at this;have hu:=this.units;exact⟨this,by dsimp only at hu;omega⟩
variable {x:aj}(hx:x.length<=1000)
include hx
theorem WF {s:bQ}{i:Nat}(h:dH p l=(s,i,0))(hn:eK x){k:Nat}(hi:aZ (s.units.map Un.name) x=(k:Nat)):bt cx 47 1 [dyn (true,bU p),(false,[.st (.view (l.map cY))]),dyn (SS x)] [] [] (.aJ [(false,[.ptr 1 0]),(false,[.cE 9 17 k 0]),dyn (I 0)]) (form p l s):=by
 have c1:=ge x K0;have c2:=Ff hs hP hl ht h;obtain⟨_,hu⟩:=qK hP h;have c3:=λfid H=>T6 (fid:=fid) (H:=H) hu hi;unfold jI at c1;rw[if_pos hn]at c1;refine gR f47 ?_;refine aS ?_;(refine aR ?_;conv=>whnf);(try(refine tX 2 ?_;try exact Zt));refine aQ ?_;(refine aR ?_;conv=>whnf);repeat((first|(refine kO 7 rfl ?_;first|refine Rw (c2 _ _) ?_)|refine tX 2 ?_|exact Zt);(try conv=>whnf))
 refine⟨_,Cx (R:=[]) (E':=[(2,lS x),(9,pP 1),(11,vI 0)]) (ks:=[2,9,11]) (n':=1000) hu rfl rfl (λid b e=>by simp[Hp.get]at e) rfl dl,?_⟩;exact K96
omit hs hP hl ht hx in
theorem adK: ∀y∈[dyn (true,bU p),(false,[.st (.view (l.map cY))]),dyn (SS x)],ee (λ_=>False) y:=λy hy=>by
 simp only[dh,mV,mY]at hy;rcases hy with rfl|rfl|rfl
 ·exact bz _
 ·exact ajf
 ·exact bz _
theorem alS {s:bQ}{i:Nat}(h:dH p l=(s,i,0))(hn:eK x){k:Nat}(hi:aZ (s.units.map Un.name) x=(k:Nat))(H:HF)(fid:Nat):bW cx fid 47 [dyn (true,bU p),(false,[.st (.view (l.map cY))]),dyn (SS x)] H (.aJ [(false,[.ptr (fresh (tag fid) 0 1) 0]),(false,[.cE (fresh (tag fid) 0 9) 17 k 0]),dyn (I 0)]) (cI [] (cS (fresh (tag fid) 0) (form p l s))) []:=by
 obtain⟨_,hu⟩:=qK hP h;refine Go.Fw.mq (WF hs hP hl ht hx h hn hi) (E9 hu) adK λy hy=>?_;simp only[dh,mV,mY]at hy;rcases hy with rfl|rfl|rfl
 ·exact ana
 ·intro d hd;have:d= .cE 9 17 k 0:=by simpa using hd
  subst this;show 9∈ah (form p l s);rw[qw];exact ja
 ·exact bz _
theorem wg {s:bQ}{i:Nat}(h:dH p l=(s,i,0))(hn:eK x){k:Nat}(hi:aZ (s.units.map Un.name) x=(k:Nat)){u:Un}(hk:s.units[k]? =some u):
  ac 29 [(true,bU p),(false,[.view (l.map cY)]),SS x] (.aJ [(false,[.view (ab (tQ p u.res))]),I 0]):=by
 have c2:=alS hs hP hl ht hx h hn hi;obtain⟨hS,hu⟩:=qK hP h;have hr:u.res.length<=1000000:=by have:=(hS.unit u (jv hk)).len;omega
 have hp:=hs.te;obtain⟨M,hM⟩: ∃M,tQ p u.res=M:=⟨_,rfl⟩;rw[hM];refine sW (fn:=f29) ?_;refine aS ?_;(refine aR ?_;conv=>whnf);(try(refine tX 2 ?_;try exact Zt));refine aQ ?_;(refine aR ?_;conv=>whnf);repeat((first|(refine kO 7 rfl ?_;first|refine Rw (c2 _ _) ?_)|refine tX 2 ?_|exact Zt);(try conv=>whnf))
 refine⟨_,Cx (R:=[]) (E':=[(8,pP 1),(9,some (.val (false,[.cE 9 17 k 0]))),(10,vI 0)]) (ks:=[8,9,10]) (n':=1000) hu rfl rfl (λid b e=>by simp[Hp.get]at e) rfl dl,?_⟩;repeat' ((first|(refine kO 7 rfl ?_;first|refine ii (λ_ z=>⟨_,_,_,(vc hM K0 hr rfl rfl rfl (uW hk) (Kw Ee hu hk).1 (Kw Ee hu hk).2.1 (Kw Ee hu hk).2.2),z⟩) ?_)|refine tX 0 ?_|exact Zt|refine bR ?_ ?_<;>intro h)<;>(try conv=>whnf))
 all_goals first|exact Zo|exact⟨[(false,[.view (ab M)]),I 0],[_],bK ⟨rfl,rfl,an (.row ja rfl) oK⟩ (bK (k9 _) jM),rfl,rfl⟩
end
def WG {p:Pl}{log:List En}{s:bQ}{e:En}(h:(jo p log s e).2=0): ∃k a n r,k<19/\jJ ((ar 32 e.text).getD 0 [])=k/\dU (vb k) e.text=some (a,n,r)/\jo p log s e=ba EE p log s k a n r/\e.text.length<=400:=by
 unfold jo at h ⊢;by_cases Cc:60<=log.length
 ·rw[if_pos Cc]at h;exact absurd h (by show ¬(8:Int)=0;decide)
 rw[if_neg Cc]at h ⊢;obtain⟨et,ew,tx⟩:=e
 rcases zm EE p log s et ew tx with⟨h1,h2⟩|⟨h1,h2,h3,h4,h5⟩
 ·rw[h2]at h;exact absurd h h1
 ·rw[h5]at h ⊢;unfold Oi at h ⊢;dsimp only at h ⊢;split at h
  ·exact absurd h (by show ¬(18:Int)=0;decide)
  ·split at h
   ·exact absurd h (by show ¬(7:Int)=0;decide)
   ·rename_i g1 _ a n q qO;rw[if_neg g1];exact⟨_,a,n,q,h4,rfl,qO,rfl,h3⟩
def Kx {p:Pl}{l:List En}(h:(dH p l).2.2=0){i:Nat}(hi:i<l.length): ∃k a n r,k<19/\jJ ((ar 32 (l.getD i gD).text).getD 0 [])=k/\dU (vb k) (l.getD i gD).text =some (a,n,r)/\ba EE p (l.take i) (Kv p (l.take i)) k a n r=(Kv p (l.take (i+1)),0)/\(l.getD i gD).text.length <=400:=by
 obtain⟨h1,h2⟩:=aaR h hi;obtain⟨k,a,n,r,g1,g2,g3,g4,g5⟩:=WG h1;exact⟨k,a,n,r,g1,g2,g3,by rw[h2,<- h1,g4],g5⟩
abbrev zF9:SV:=F9 0 0 0 0 0 0 0 0 0
def WH (ru r:aj):List SV:=
 if qF (cO (bY (ar 59 ru))).1.1 (cO (bY (ar 59 ru))).1.2.1 (cO (bY (ar 59 ru))).1.2.2 (ci (bC (ar 32 r))).1.1 (ci (bC (ar 32 r))).1.2=0 then [FG (ci (bC (ar 32 r))).1.2 (cO (bY (ar 59 ru))).1.1,I 0]
 else [zF9,I (qF (cO (bY (ar 59 ru))).1.1 (cO (bY (ar 59 ru))).1.2.1 (cO (bY (ar 59 ru))).1.2.2 (ci (bC (ar 32 r))).1.1 (ci (bC (ar 32 r))).1.2)]
def adL (p:Pl)(tx:aj):List SV:=
 if(ar 32 tx).getD 0 []= [116,101,115,116]then
  match dU (vb 12) tx with
  |some (a,_,r)=>if nj (gA p (a.getD 1 [])).kind then WH (gA p (a.getD 1 [])).rules r else [zF9,I 15]
  |none=>[]
 else [zF9,I 15]
noncomputable def WI (p:Pl)(l:List En)(i:Int):List SV:=if 0<=i/\i<l.length then adL p (l.getD i.toNat gD).text else [zF9,I 6]
def w5 (ru r:aj): ∃a b c d i j k m n v,WH ru r= [F9 a b c d i j k m n,I v]:=by unfold WH;split<;>exact⟨_,_,_,_,_,_,_,_,_,_,rfl⟩
def WJ (ru r:aj)(hr:r.length<=10000)(hu:ru.length<=10000):ac 74 [Ru (cO (bY (ar 59 ru))).1.1 (cO (bY (ar 59 ru))).1.2.1 (cO (bY (ar 59 ru))).1.2.2,Rc (ci (bC (ar 32 r))).1.1 (ci (bC (ar 32 r))).1.2] (.aJ (WH ru r)):=by
 obtain⟨b1,b2,b3⟩:=vi ru;have b4:=pC r;exact wc _ _ _ _ _ b1 b2 K0 UV
def BH {p:Pl}(hP:PB p)(y:aj):(gA p y).rules.length <=10000:=by
 unfold gA;split
 ·rename_i h;obtain⟨e,_,hm⟩:=EY h;rw[<- e];exact hP.rules _ hm
 ·exact dM _
def adM {a b:Nat}{x y:Option cB}{id:Nat}{z:cB}(e:Hp.get [(a,x),(b,y)] id=some z):(id=a/\x=some z)\/(id=b/\y=some z):=by
 rw[Hp.au]at e;by_cases h:id=a
 ·subst h;rw[am]at e;exact .inl ⟨rfl,e⟩
 ·rw[az _ _ _ h,Hp.au]at e;by_cases h2:id=b
  ·subst h2;rw[am]at e;exact .inr ⟨rfl,e⟩
  ·rw[az _ _ _ h2]at e;cases e
section
variable {p:Pl}{l:List En}(hs:io p)(hP:(p.err jO).2=0->PB p)(hl:l.length<=1000)(ht: ∀e∈l,e.text.length<=100000)
include hs hP hl ht
theorem Ky (hz:(dH p l).2.2≠0)(i:Int):ac 27 [(true,bU p),(false,[.view (l.map cY)]),I i] (.aJ [zF9,I (dH p l).2.2]):=by
 have c2:=adJ hs hP hl ht hz;generalize (dH p l).2.2=z at*;refine sF f27 ?_;repeat' ((first|(refine kO 7 rfl ?_;first|refine Rh (c2 _ _) ?_)|refine tX 0 ?_|exact Zt|refine bR ?_ ?_<;>intro h)<;>(try conv=>whnf))
 all_goals exact Z0
abbrev alT (p:Pl):Option cB:=some (.box 27 ((bU p).map .st))
abbrev alU:Option cB:=some (.box 78 (zF9.2.map .st))
theorem Kz (hz:(dH p l).2.2=0)(i:Int):ac 27 [(true,bU p),(false,[.view (l.map cY)]),I i] (.aJ (WI p l i)):=by
 obtain⟨hr,he,Cc,_⟩:=wZ hz;have c2:=Ff hs hP hl ht hr;obtain⟨_,hu⟩:=qK hP hr;have uF:(l.map cY).length =l.length:=by simp
 have hPB:=hP he;unfold WI;refine sF f27 ?_;refine aQ ?_;(refine aR ?_;conv=>whnf);(try(refine tX 2 ?_;try exact Zt));refine⟨⟨[(1,some (.val (false,[.st (.view (l.map cY))]))),(2,vI i),(3,pP 2),(6,pP 4)],[(2,alT p),(4,alU)],5⟩,Zc,?_⟩;refine aS ?_;refine aQ ?_;(refine aR ?_;conv=>whnf);repeat((first|(refine kO 7 rfl ?_;first|refine Rw (c2 _ _) ?_)|refine tX 2 ?_|exact Zt);(try conv=>whnf))
 refine⟨_,Cx (R:=[(2,alT p),(4,alU)]) (E':=[(1,some (.val (false,[.st (.view (l.map cY))]))),(2,vI i),(3,pP 2),(6,pP 4),(10,vI 0)]) (ks:=[1,2,3,6,10]) (n':=1000) hu rfl dl (λid b e=>by
  rcases adM e with⟨rfl,e⟩|⟨rfl,e⟩<;>cases e<;>refine⟨rfl,λd hd=>?_⟩<;>obtain⟨c,_,rfl⟩:=dS.1 hd<;>trivial) rfl dl,?_⟩
 by_cases hi:0<=i/\i<l.length;rotate_left
 ·rw[if_neg hi];exact tA
 obtain⟨j,rfl⟩: ∃j:Nat,i=j:=⟨i.toNat,by omega⟩;rw[if_pos hi,p8];have hj:j<l.length:=by omega
 obtain⟨k,a,n,r,RV,hk,qO,_,htx⟩:=Kx hz hj;have uE:=bg (f:=cY) hj gD;generalize l.getD j gD=e at*;obtain⟨et,ew,tx⟩:=e;dsimp only at hk qO htx;have c3:=gh tx 32 K0;rw[QM]at c3;generalize (Lib.cut tx [32]).2.1=q1 at*;generalize (Lib.cut tx [32]).2.2=q2 at*;unfold adL;by_cases hw:(ar 32 tx).getD 0 []= [116,101,115,116];rotate_left
 ·rw[if_neg hw];generalize (ar 32 tx).getD 0 []=wd at*;exact tB0
 obtain rfl:k=12:=by rw[<- hk,hw];rfl
 rw[if_pos hw,qO];obtain⟨a',n',r',ok,cp,hpf⟩:=Ie 2 2 0 true 126 tx K0 K9 K9 (λ_=>rfl);have hpf:dU (vb 12) tx=if ok=true then some (a',n',r')else none:=hpf
 rw[qO]at hpf;cases ok
 ·cases hpf
 rw[if_pos rfl]at hpf;cases hpf;obtain⟨ha2,_,_,Ur,_⟩:=pE qO K9;obtain⟨x,y,rfl⟩:=AE ha2;rw[hw]at c3;have c5:=EJ p y hs.te;have hru:=BH hPB y;dsimp only;rw[show([x,y]:List aj).getD 1 []=y from rfl];generalize gA p y=t at*;obtain⟨nm,kd,nd,ru,lo,kH⟩:=t;dsimp only at hru ⊢;have c6:=jm kd;have c7:=j0 ru hru;have c8:=jD r K0;have c9:=WJ ru r K0 hru;obtain⟨y1,y2,y3,y4,y5,y6,y7,y8,y9,v,hx⟩:=w5 ru r;rw[hx]at c9 ⊢;generalize cO (bY (ar 59 ru))=yy at*;obtain⟨⟨ye,yq,ych⟩,yz⟩:=yy;generalize ci (bC (ar 32 r))=xx at*;obtain⟨⟨xs,xl⟩,xz⟩:=xx;by_cases xw:nj kd
 ·rw[fG xw]at c6;rw[if_pos xw];exact ah7
 ·rw[eU xw]at c6;rw[if_neg xw];exact ah7
end
def HN (tx:aj):List aj × Int × Bool:=
 if 19<=jJ ((ar 32 tx).getD 0 [])then([],-1,false)else
 if((vb (jJ ((ar 32 tx).getD 0 []))).rest =false/\(ar 32 tx).length ≠(vb (jJ ((ar 32 tx).getD 0 []))).words +1)\/((vb (jJ ((ar 32 tx).getD 0 []))).rest =true/\(ar 32 tx).length < (vb (jJ ((ar 32 tx).getD 0 []))).words +2)then([],(jJ ((ar 32 tx).getD 0 []):Nat),false)else
 if []∈(ar 32 tx).take ((vb (jJ ((ar 32 tx).getD 0 []))).words +1)then([],(jJ ((ar 32 tx).getD 0 []):Nat),false)
 else((ar 32 tx).take ((vb (jJ ((ar 32 tx).getD 0 []))).words +1)++(if(vb (jJ ((ar 32 tx).getD 0 []))).rest then [bP ((vb (jJ ((ar 32 tx).getD 0 []))).words +1) tx]else []),(jJ ((ar 32 tx).getD 0 []):Nat),true)
abbrev vl:aj × Vb:=([],⟨0,0,0,false⟩)
def adO {w:aj}{i:Nat}(hi:i<19)(hn:w∉(kf.map Prod.fst).take i)(he:(kf.getD i vl).1=w):jJ w=i:=by
 unfold jJ;have ak:i< (kf.map Prod.fst).length :=hi;have hg:(kf.map Prod.fst)[i]=w:=by grind
 rw[List.idxOf,X7 ak];refine⟨by grind,λj hj=>?_⟩;have hv:kf.length=19:=rfl;have:(kf.map Prod.fst)[j]'K0∈(kf.map Prod.fst).take i:=CI.2 ⟨j,by grind,by simp⟩
 grind
def ag0 {w:aj}(hn:w∉kf.map Prod.fst):19<=jJ w:=by
 unfold jJ;have:=List.idxOf_eq_length hn;rw[this];decide
def w6 {α:Type}{l:List α}{i:Nat}(h:i<l.length){x d:α}:x∈l.take (i+1)↔x∈l.take i\/x=l.getD i d:=by grind[List.take_add_one]
def Oq: ∀k<19,(kf.getD k vl).2.words <=10:=by decide
def jF (tx:aj)(hl:tx.length<=10000):ac 12 [SS tx] (.aJ [(false,[.view (ab (HN tx).1)]),I (HN tx).2.1,Bo (HN tx).2.2]):=by
 have c1:ac 44 [SS tx,(false,[.lit (.int .u8 32)])] (.own 1 (.view (ab (ar 32 tx)))):=by
  have:=jY tx 32 K0
  grind[iL]
 have c2:=lf;have h1:=(cd 32 tx).1;have h2:=(cd 32 tx).2;have h3:=Lx.2 (lU 32 tx);have ahG:=λk hk=>Iu k tx hk;have Xo:(kf.map Rg).length =19:=rfl;have zK:=sA h3;unfold HN;generalize hws:ar 32 tx=ws at*;have hn:(ab ws).length =ws.length:=by simp
 generalize hw:ws.getD 0 []=w0 at*;refine sF f12 ?_;repeat' ((first|refine tX 0 ?_|exact Zt|refine bR ?_ ?_<;>intro h)<;>(try conv=>whnf))
 refine af (ι:=Nat) (λi=>i<=19/\w0∉(kf.map Prod.fst).take i) (λi=>19 -i) (λi=>⟨[(0,lS tx),(5,pO 0),(6,pO 1),(7,vI i)],[(0,some (.row false 1 (.view (ab ws)))),(1,some (.row true 4 (.view (kf.map Rg))))],2⟩) 0 (bs.trans (dj 8 rfl) Zc) ⟨dM _,by simp⟩ ?_;rintro i ⟨hi,dy⟩;by_cases ak:i<19
 ·have he:=bg (f:=Rg) (l:=kf) ak vl;have nM:=λe=>adO ak dy e;have FP:=w6 (l:=kf.map Prod.fst) (i:=i) (x:=w0) (d:=[]) ak;have hg:(kf.map Prod.fst).getD i []=(kf.getD i vl).1:=by grind
  rw[hg]at FP;have an1:vb i=(kf.getD i vl).2:=rfl;have hwi:=Oq i ak;generalize kf.getD i vl=q at*;obtain⟨nm,role,w,nu,rest⟩:=q;dsimp only at nM FP hwi;have he:(kf.map Rg)[i]? =some [T nm,J role,J (w:Nat),K rest]:=he;by_cases hx:nm=w0
  ·have hk:=nM hx;rw[hk,an1,if_neg K0];dsimp only;have c3:=dC (ws.take (w+1)) bq;by_cases hshape:(rest=false/\ws.length≠w+1)\/(rest=true/\ws.length<w+2)
   ·rw[if_pos hshape];cases rest
    ·have hs':ws.length≠w+1:=by grind
     exact tL
    ·have hs':ws.length<w+2:=by grind
     exact tL
   ·rw[if_neg hshape];have hsh:w+1<=ws.length:=by grind
    have hol:(ws.take (w+1)).length =w+1:=by grind
    have aox:(ab (ws.take (w+1))).length =w+1:=by grind
    cases rest
    ·have hs':ws.length=w+1:=by grind
     repeat' ((first|refine tX 0 ?_|exact Zt|refine bR ?_ ?_<;>intro h)<;>(try conv=>whnf))
     all_goals try first|exact Zo|(exact absurd hx h)
     refine af (ι:=Nat) (λk=>k<=w+1/\[]∉(ws.take (w+1)).take k) (λk=>w+1 -k) (λk=>⟨[(0,lS tx),(5,pO 0),(7,vI i),(8,pP 1),(9,pO 2),(10,vI k)],[(0,some (.row false 1 (.view (ab ws)))),(1,some (.box 112 [.st (T nm),.st (J role),.st (J w),.st (K false)])),(2,some (.row true 1 (.view (ab (ws.take (w+1))))))],3⟩) 0 Zc ⟨dM _,by simp⟩ ?_;rintro k ⟨Xx,xw⟩;by_cases uI:k<w+1
     ·have RR:=sA (l:=ws.take (w+1)) (i:=k) K0;have ahn:=w6 (l:=ws.take (w+1)) (i:=k) (x:=[]) (d:=[]) K0;exact K53
     ·obtain rfl:k=w+1:=by omega
      rw[o0 K0]at xw;rw[if_neg xw];rw[if_neg K9,zQ];exact tL
    ·have hs':w+2<=ws.length:=by grind
     repeat' ((first|refine tX 0 ?_|exact Zt|refine bR ?_ ?_<;>intro h)<;>(try conv=>whnf))
     all_goals try first|exact Zo|(exact absurd hx h)
     refine af (ι:=Nat) (λk=>k<=w+1/\[]∉(ws.take (w+1)).take k) (λk=>w+1 -k) (λk=>⟨[(0,lS tx),(5,pO 0),(7,vI i),(8,pP 1),(9,pO 2),(10,vI k)],[(0,some (.row false 1 (.view (ab ws)))),(1,some (.box 112 [.st (T nm),.st (J role),.st (J w),.st (K true)])),(2,some (.row true 1 (.view (ab (ws.take (w+1))))))],3⟩) 0 Zc ⟨dM _,by simp⟩ ?_;rintro k ⟨Xx,xw⟩;by_cases uI:k<w+1
     ·have RR:=sA (l:=ws.take (w+1)) (i:=k) K0;have ahn:=w6 (l:=ws.take (w+1)) (i:=k) (x:=[]) (d:=[]) K0;exact K53
     ·obtain rfl:k=w+1:=by omega
      rw[o0 K0]at xw;rw[if_neg xw];rw[if_pos rfl,qC,<- (ahG (w+1) K0).2];have h00:AG ws 0=0:=by cases ws<;>rfl
      repeat' ((first|refine tX 0 ?_|exact Zt|refine bR ?_ ?_<;>intro h)<;>(try conv=>whnf))
      all_goals try(exfalso;omega)
      refine af (ι:=Nat) (λm=>m<=w+1) (λm=>w+1 -m) (λm=>⟨[(0,lS tx),(5,pO 0),(7,vI i),(8,pP 1),(9,pO 2),(11,vI (AG ws m:Nat)),(12,vI m)],[(0,some (.row false 1 (.view (ab ws)))),(1,some (.box 112 [.st (T nm),.st (J role),.st (J w),.st (K true)])),(2,some (.row true 1 (.view (ab (ws.take (w+1))))))],3⟩) 0 (ai (by rw[h00];kernel_rfl)) (dM _) ?_;intro m hm;by_cases hml:m<w+1
      ·have hem:=sA (l:=ws) (i:=m) K0;have hsu:=It (l:=ws) (k:=m) K0;have hom:=(ahG m K0).1;have hyl:=h2 (ws.getD m []) (yZ K0);generalize ws.getD m []=y at*;repeat' ((first|refine tX 0 ?_|exact Zt|refine bR ?_ ?_<;>intro h)<;>(try conv=>whnf))
       all_goals first|exact Zo|exact⟨m+1,hml,by omega,ai (by rw[hsu];kernel_rfl)⟩
      ·obtain rfl:m=w+1:=by omega
       have hom:=(ahG (w+1) K0).1;exact tL
  ·exact tL
 ·obtain rfl:i=19:=by omega
  have anN:w0∉kf.map Prod.fst:=dy;rw[if_pos (ag0 anN)];exact tL
def Fh (l:List aj):Bool:=if(l.getD 0 []≠[115,104,111,99,107]/\l.getD 0 []≠[108,111,97,100])/\l.getD 0 []≠[103,97,115]then true else(jl (l.drop 2)).isSome
def aaT (o:Option (List Int)): ∃n,afg o= [(false,[.ints n]),Bo o.isSome]/\n=o.getD []:=by
 cases o with
 |none=>exact⟨_,rfl,rfl⟩
 |some n=>exact⟨_,rfl,rfl⟩
def zq (l:List aj)(h0:0<l.length)(h2:Fh l=true\/2<=l.length)(hl:l.length<=1000)(hx: ∀x∈l,x.length<=100000)(hs:(l.getD 0 []≠[115,104,111,99,107]/\l.getD 0 []≠[108,111,97,100])/\l.getD 0 []≠[103,97,115]\/2<=l.length):ac 110 [V1 l] (.one (Bo (Fh l))):=by
 have hn:(ab l).length =l.length:=by simp
 have he:=sA h0;unfold Fh;generalize l.getD 0 []=w at*;by_cases h1:(w≠[115,104,111,99,107]/\w≠[108,111,97,100])/\w≠[103,97,115]
 ·rw[if_pos h1];obtain⟨⟨a,b⟩,c⟩:=h1;exact acb
 ·rw[if_neg h1];have c1:=lh l 2 (hs.resolve_left h1) hl hx;obtain⟨n,e1,e2⟩:=aaT (jl (l.drop 2));rw[e1]at c1;generalize (jl (l.drop 2)).isSome =ok at*;have c2:ac 196 [V1 l,I 2] (.aJ [(false,[.ints n]),Bo ok]):=c1;by_cases a:w= [115,104,111,99,107]
  ·subst a;exact acb
  ·by_cases b:w= [108,111,97,100]
   ·subst b;exact acb
   ·have c:w= [103,97,115]:=by
     grind
    subst c;exact acb
def Fi (l:List Rs)(x:Rs)(t:aj):iN (l++[x]) t=if sJ t x then some x else iN l t:=by grind[iN]
abbrev bxU (u:Un):cB:=.box 44 ((kz u).map .st)
def oR (u:Un)(t:aj)(hl:u.res.length<=1000000):ac 83 [(true,kz u),SS t] (.one (Bo (bH u.res t))):=by
 have hn:(u.res.map kG).length =u.res.length:=by simp
 refine sF f83 ?_
 (try(refine tX 0 ?_;try exact Zt))
 refine af (ι:=Nat) (λn=>n<=u.res.length/\iN u.res t=iN (u.res.take n) t) (λn=>n) (λn=>⟨[(1,lS t),(2,pP 0),(5,vI ((n:Nat) -1:Int))],[(0,some (bxU u))],1⟩) u.res.length (ai PD) ⟨dz _,by grind⟩ ?_;rintro n ⟨hi,hg⟩
 cases n with
 |zero=>
  have hv:bH u.res t=false:=by unfold bH;rw[hg];rfl
  rw[hv];exact tL
 |succ n=>
  have ak:n<u.res.length:=by omega
  have he:=bg (f:=kG) ak BW;have zB:u.res.take (n+1)=u.res.take n++[u.res.getD n BW]:=by simp_all
  rw[zB,Fi]at hg;generalize u.res.getD n BW=x at*;obtain⟨xt,xa,xe,xv⟩:=x;have he:(u.res.map kG)[n]? =some [T xt,J xa,J xe,K xv]:=he;unfold sJ at hg;dsimp only at hg;by_cases hx:xt=t
  ·subst hx;cases xv
   ·rw[if_pos (by simp)]at hg;have hv:bH u.res xt=(xa==2):=by grind[bH]
    rw[hv];exact tL
   ·rw[if_neg (by simp)]at hg;exact K29
  ·rw[if_neg bq]at hg;exact K29
abbrev bxT (t:Ts):cB:=.box 54 ((fq t).map .st)
def KD (u:Un)(t:Ts)(ht:t.bu.length<=1000)(hl:u.res.length<=1000000):ac 84 [(true,kz u),(true,fq t)] (.one (Bo (iV u.res t))):=by
 have hn:(ab t.bu).length =t.bu.length:=by simp
 have hv:=λx=>oR u x hl;have II:iV u.res t=t.bu.all (bH u.res):=rfl;rw[II];refine sF f84 ?_
 (try(refine tX 0 ?_;try exact Zt))
 refine af (ι:=Nat) (λi=>i<=t.bu.length/\∀j<i,bH u.res (t.bu.getD j [])=true) (λi=>t.bu.length -i) (λi=>⟨[(2,pP 0),(3,pP 1),(5,vI i)],[(0,some (bxU u)),(1,some (bxT t))],2⟩) 0 Zc ⟨dM _,λj hj=>by omega⟩ ?_;rintro i ⟨hi,hp⟩;by_cases ak:i<t.bu.length
 ·have he:=sA ak;have hc:=hv (t.bu.getD i []);have hge:t.bu.getD i []=t.bu[i]:=by grind
  cases hx:bH u.res (t.bu.getD i [])
  ·have hal:t.bu.all (bH u.res)=false:=by
    grind
   rw[hal];exact ajW
  ·have iU: ∀j<i+1,bH u.res (t.bu.getD j [])=true:=λj hj=>by
    grind
   exact ajW
 ·obtain rfl:i=t.bu.length:=by omega
  have hal:t.bu.all (bH u.res)=true:=by
   rw[ww];intro x hx;obtain⟨j,hj,rfl⟩:=CI.1 hx
   grind
  rw[hal];exact tL
def Fj (p:Pl)(u:Un)(hp:p.aa.length<=1000)(hl:u.res.length<=1000000):ac 35 [(true,bU p),(true,kz u)] (.own 1 (.view (ab (tQ p u.res)))):=by
 have hn:(p.aa.map fq).length =p.aa.length:=by simp
 have hv:=λx=>oR u x hl;refine sF f35 ?_
 (try(refine tX 0 ?_;try exact Zt))
 refine af (ι:=Nat) (λi=>i<=p.aa.length) (λi=>p.aa.length -i) (λi=>⟨[(2,pP 0),(3,pP 1),(5,pO 2),(6,vI i)],[(0,some (.box 27 ((bU p).map .st))),(1,some (bxU u)),(2,some (.row true 1 (.view (ab (((cL p.aa).take i).filter λt=> !bH u.res t)))))],3⟩) 0
  (bs.trans (jB 5 1 (.view []) K9 rfl rfl rfl) Zc) (dM _) ?_
 intro i hi;by_cases ak:i<p.aa.length
 ·have he:=iO ak;have xu:=Ev (l:=u.res) ak;have hc:=hv (p.aa.getD i dk).name;have Xo:(((cL p.aa).take i).filter λt=> !bH u.res t).length <=i:=o3 (LB _ _) wA;generalize ((cL p.aa).take i).filter (λt=> !bH u.res t)=out at*;generalize p.aa.getD i dk=t at*
  rcases t with⟨nm,kd,nd,ru,lo,kH⟩;have he:(p.aa.map fq)[i]? =some [T nm,J kd,.view (ab nd),T ru,J lo,J kH]:=he;dsimp only at xu hc;have hol:(ab out).length =out.length:=by simp
  cases hvv:bH u.res nm
  ·rw[hvv]at hc xu;rw[if_neg K9]at xu;exact K22
  ·rw[hvv]at hc xu;rw[if_pos rfl,zQ]at xu;exact K30
 ·exact air
def B0 (s:aj)(hl:s.length<=10000): ∃a b ok,ac 304 [SS s] (.aJ [F2 a b,Bo ok])/\Oc s=if ok=true then some (a,b)else none:=by
 have c1:ac 44 [SS s,(false,[.lit (.int .u8 32)])] (.own 1 (.view (ab (ar 32 s)))):=by
  have:=jY s 32 K0
  grind[iL]
 have hm:Oc s=DU (wN true 16) (wN true 16) (ar 32 s):=rfl;have h1:=(cd 32 s).2;rw[hm];generalize ar 32 s=ws at*;have hn:(ab ws).length =ws.length:=by simp
 by_cases h2:ws.length=2
 ·obtain⟨x,y,rfl⟩:=AE h2;have hx:=h1 x (by simp);have hy:=h1 y (by simp);have cx':=iC x 16 K9 K0;have cy':=iC y 16 K9 K0;show ∃a b ok,_/\((wN true 16 x).bind λu=>(wN true 16 y).map λv=>(u,v))=_;rw[Cl,Cl];have ael:ac 148 [SS x,I 16] (.aJ (MX (fP 16 x))):=cx';have aen:ac 148 [SS y,I 16] (.aJ (MX (fP 16 y))):=cy'
  cases e1:fP 16 x with
  |none=>
   cases e2:fP 16 y with
   |none=>
    rw[e1]at ael;rw[e2]at aen;refine⟨0,0,false,?_,rfl⟩;exact Yj
   |some b=>
    rw[e1]at ael;rw[e2]at aen;refine⟨0,b,false,?_,rfl⟩;exact Yj
  |some a=>
   cases e2:fP 16 y with
   |none=>
    rw[e1]at ael;rw[e2]at aen;refine⟨a,0,false,?_,rfl⟩;exact Yj
   |some b=>
    rw[e1]at ael;rw[e2]at aen;refine⟨a,b,true,?_,rfl⟩;exact Yj
 ·refine⟨0,0,false,?_,?_⟩
  ·exact Yj
  ·match ws,h2 with
   | [],_=>rfl
   | [_],_=>rfl
   |_::_::_::_,_=>rfl
def Fo (log:List En)(u:Un)(t:aj)(hl:u.res.length<=1000000){rt:aj}{ra:Int}{k:Nat}{rv:Bool}(hr:iN u.res t=some ⟨rt,ra,(k:Nat),rv⟩)(hk:k<log.length){a:List aj}{i:Int}(ha:a.length=3)(hs:HN (log.getD k gD).text =(a++[bP 3 (log.getD k gD).text],i,true))(ht:(log.getD k gD).text.length <=9000):
  ac 308 [(false,[.view (log.map cY)]),(true,kz u),SS t] (.aJ (PR (ci (bC (ar 32 (bP 3 (log.getD k gD).text)))))):=by
 have hn:(u.res.map kG).length =u.res.length:=by simp
 have AP:(log.map cY).length =log.length:=by simp
 have iF:=bg (f:=cY) hk gD;generalize log.getD k gD=en at*;obtain⟨et,ew,tx⟩:=en;dsimp only at hs ht ⊢;have iF:(log.map cY)[k]? =some [J et,T ew,T tx]:=iF;have c1:=jF tx K0;rw[hs]at c1;have hdl:=lY 3 tx;have c2:=iE (bP 3 tx) K0;generalize bP 3 tx=dr at*;generalize ci (bC (ar 32 dr))=y at*;obtain⟨⟨st,rl⟩,ye⟩:=y;have hw3:(ab (a++[dr]))[3]? =some [T dr]:=by grind
 have Uy:(ab (a++[dr])).length =4:=by grind
 refine sF f308 ?_
 (try(refine tX 0 ?_;try exact Zt))
 refine af (ι:=Nat) (λn=>n<=u.res.length/\iN u.res t=iN (u.res.take n) t) (λn=>n) (λn=>⟨[(0,some (.val (false,[.st (.view (log.map cY))]))),(2,lS t),(4,pP 0),(6,pP 1),(8,vI ((n:Nat) -1:Int))],[(0,some (bxU u)),(1,some (.box 168 [.st (J 0),.nil]))],2⟩) u.res.length (ai PD) ⟨dz _,by grind⟩ ?_;rintro n ⟨hi,hg⟩
 cases n with
 |zero=>
  rw[hr]at hg;exact absurd hg (by simp[iN])
 |succ n=>
  have ak:n<u.res.length:=by omega
  have he:=bg (f:=kG) ak BW;have zB:u.res.take (n+1)=u.res.take n++[u.res.getD n BW]:=by simp_all
  rw[zB,Fi]at hg;generalize u.res.getD n BW=x at*;obtain⟨xt,xa,xe,xv⟩:=x;have he:(u.res.map kG)[n]? =some [T xt,J xa,J xe,K xv]:=he;unfold sJ at hg;dsimp only at hg;by_cases hx:xt=t
  ·subst hx;cases xv
   ·rw[if_pos (by simp),hr]at hg;simp only[lL,Rs.mk.injEq]at hg;obtain⟨-,-,rfl,-⟩:=hg;exact tL
   ·rw[if_neg (by simp)]at hg;exact K29
  ·rw[if_neg bq]at hg;exact K29
def oS (a b lo hi:Int):ac 305 [F2 a b,F2 lo hi] (.aJ [I (rY a b lo hi).1,I (rY a b lo hi).2]):=by
 have h:=Ax a b lo hi;unfold rY
 grind
def B4 (e:Int)(q:Sp)(ch:List Sp)(hq:qy q)(vH: ∀s∈ch,qy s)(l:List Int):ac 310 [Ru e q ch,FG l e] (.aJ [F2 (zk e q ch l).1.1 (zk e q ch l).1.2,I (zk e q ch l).2]):=by
 have h:=Ay e q ch hq vH (pk l:Nat) (py l -e) (py l+e) (QQ l e) (EN l e) (QR l e) (EP l e) (og l e) (hfh l e);unfold zk
 grind
def aaZ (log:List En)(u:Un)(nm:aj)(nd:List aj)(ru:aj)(lo hi:Int)(rest:aj)(hl:rest.length<=10000):
  ac 280 [(false,[.view (log.map cY)]),(true,kz u),(true,fq ⟨nm,0,nd,ru,lo,hi⟩),SS rest] (.aJ [I (ur lo hi rest).1,I (ur lo hi rest).2]):=by
 obtain⟨a,b,ok,c1,e⟩:=B0 rest hl;unfold ur;rw[e];cases ok
 ·rw[if_neg xH];exact xK
 ·rw[if_pos rfl];have c3:=oS a b lo hi;show nN _ _ _ _ (.aJ [I (rY a b lo hi).1,I (rY a b lo hi).2]);generalize rY a b lo hi=z at*;exact xK
def aa0 (log:List En)(u:Un)(nm:aj)(nd:List aj)(ru:aj)(lo hi:Int)(rest:aj)(hl:rest.length<=10000):
  ac 280 [(false,[.view (log.map cY)]),(true,kz u),(true,fq ⟨nm,3,nd,ru,lo,hi⟩),SS rest] (.aJ [I (EX lo hi rest).1,I (EX lo hi rest).2]):=by
 have c1:=AI rest hl;obtain⟨⟨b1,b2⟩,b3⟩:=Z6 rest;have c2:=GF (Cr rest).1 K0 K0 b3;unfold EX;generalize Cr rest=y at*;obtain⟨x,ye⟩:=y;by_cases h1:ye=0
 ·subst h1;rw[if_pos rfl];dsimp only at c1 c2 ⊢;generalize TT x=w at*;obtain⟨⟨w1,w2⟩,we⟩:=w;by_cases h2:we=0
  ·subst h2;rw[if_pos rfl];have c3:=oS w1 w2 lo hi;generalize rY w1 w2 lo hi=z at*;exact xK
  ·rw[if_neg h2];exact xK
 ·rw[if_neg h1];exact xK
def aa1 (log:List En)(u:Un)(nm:aj)(nd:List aj)(ru:aj)(lo hi:Int)(rest:aj)(hl:rest.length<=10000)(hr:ru.length<=10000):
  ac 280 [(false,[.view (log.map cY)]),(true,kz u),(true,fq ⟨nm,1,nd,ru,lo,hi⟩),SS rest] (.aJ [I (Kp log u ⟨nm,1,nd,ru,lo,hi⟩ rest).1,I (Kp log u ⟨nm,1,nd,ru,lo,hi⟩ rest).2]):=by
 have c1:=i7 ru hr;have c2:=iE rest hl;obtain⟨b1,b2,b3⟩:=vi ru;have b4:=pC rest;unfold Kp;dsimp only;rw[if_neg K9,if_neg K9];generalize cO (bY (ar 59 ru))=y at*;obtain⟨⟨e,q,ch⟩,ye⟩:=y;generalize ci (bC (ar 32 rest))=x at*;obtain⟨⟨st,l⟩,xe⟩:=x;dsimp only at*;by_cases h1:xe=0
 ·subst h1;rw[if_pos rfl,if_neg K9];have c3:=qG e q ch st l b1 b2 ab3;unfold aar;by_cases h2:qF e q ch st l=0
  ·rw[if_pos h2]at c3 ⊢;have c4:=B4 e q ch b1 b2 l;generalize zk e q ch l=w at*;obtain⟨⟨w1,w2⟩,we⟩:=w;by_cases h3:we=0
   ·subst h3;rw[if_pos rfl];have c5:=oS w1 w2 lo hi;generalize rY w1 w2 lo hi=z at*;exact xK
   ·rw[if_neg h3];exact xK
  ·rw[if_neg h2]at c3 ⊢;generalize qF e q ch st l=z at*;exact xK
 ·rw[if_neg h1];exact xK
def adR (log:List En)(u:Un)(t:Ts):Prop:=∃n0 nd rt ra,∃k:Nat,∃rv a i,t.bu=n0::nd/\iN u.res n0=some ⟨rt,ra,(k:Nat),rv⟩/\k<log.length/\a.length=3/\HN (log.getD k gD).text =(a++[bP 3 (log.getD k gD).text],i,true)/\(log.getD k gD).text.length <=9000/\(ci (bC (ar 32 (bP 3 (log.getD k gD).text)))).2=0
def aa2 (log:List En)(u:Un)(nm:aj)(nd:List aj)(ru:aj)(lo hi:Int)(rest:aj)(lD:u.res.length<=1000000)(hl:rest.length<=10000)(hr:ru.length<=10000)(hc:adR log u ⟨nm,2,nd,ru,lo,hi⟩):
  ac 280 [(false,[.view (log.map cY)]),(true,kz u),(true,fq ⟨nm,2,nd,ru,lo,hi⟩),SS rest] (.aJ [I (Kp log u ⟨nm,2,nd,ru,lo,hi⟩ rest).1,I (Kp log u ⟨nm,2,nd,ru,lo,hi⟩ rest).2]):=by
 obtain⟨n0,nd',rt,ra,k,rv,a,i,rfl,h1,h2,h3,h4,h5,h6⟩:=hc;have c1:=i7 ru hr;have c2:=iE rest hl;obtain⟨b1,b2,b3⟩:=vi ru;have b4:=pC rest;have c3:=Fo log u n0 lD h1 h2 h3 h4 h5;have hdl:=lY 3 (log.getD k gD).text;have b5:=pC (bP 3 (log.getD k gD).text);unfold Kp;dsimp only;rw[if_neg K9,if_neg K9,LF,h1];simp only[sZ,p8];generalize log.getD k gD=en at*;generalize cO (bY (ar 59 ru))=y at*;obtain⟨⟨e,q,ch⟩,ye⟩:=y;generalize ci (bC (ar 32 rest))=x at*;obtain⟨⟨st,l⟩,xe⟩:=x;generalize ci (bC (ar 32 (bP 3 en.text)))=v at*;obtain⟨⟨sa,la⟩,va⟩:=v;dsimp only at*;subst h6;by_cases h1:xe=0
 ·subst h1;rw[if_pos rfl,if_pos trivial];have c4:=vD e q ch sa la st l b1 b2 ab3 ab3;unfold Ws at c4;unfold Wu;by_cases h1:dx e q ch sa la st l=0
  ·rw[h1]at c4 ⊢;rw[if_neg K0]at c4 ⊢;by_cases h2:ki (T4 e q la l)
   ·rw[if_pos h2]at c4 ⊢;exact xK
   ·rw[if_neg h2]at c4 ⊢;by_cases h3:e=0
    ·rw[if_pos h3]at c4;exact xK
    ·rw[if_neg h3]at c4;exact xK
  ·rw[if_pos h1]at c4 ⊢;generalize dx e q ch sa la st l=z at*;exact xK
 ·rw[if_neg h1];exact xK
def B5 (log:List En)(u:Un)(t:Ts)(rest:aj)(lD:u.res.length<=1000000)(hl:rest.length<=10000)(hr:t.rules.length<=10000)(hk:0<=t.kind/\t.kind<=3)(hc:t.kind=2->adR log u t):
  ac 280 [(false,[.view (log.map cY)]),(true,kz u),(true,fq t),SS rest] (.aJ [I (Kp log u t rest).1,I (Kp log u t rest).2]):=by
 obtain⟨nm,kd,nd,ru,lo,hi⟩:=t;dsimp only at hr hk hc;obtain rfl|rfl|rfl|rfl:kd=0\/kd=1\/kd=2\/kd=3:=by omega
 ·exact aaZ log u nm nd ru lo hi rest hl
 ·exact aa1 log u nm nd ru lo hi rest hl hr
 ·exact aa2 log u nm nd ru lo hi rest lD hl hr (hc rfl)
 ·exact aa0 log u nm nd ru lo hi rest hl
def dX {m:List (Nat × Nat)}{H:HF}{Y:Hp}(h:(Go.Fw.eM (m.map Prod.fst)&&Go.Fw.eM (m.map Prod.snd))=true)(hY:jW m H m=some Y):cW m H Y.get:=by
 simp only[sG]at h;exact⟨bX h.1,bX h.2,λn b' e=>pf hY e⟩
def r9 (u:Un)(h1:u.lots.length<=1000)(h2:u.res.length<=1000)(h3:u.gas.length<=1000):ac 200 [(true,kz u)] (.one (true,kz u)):=by
 have c1:=dC u.lots K0;have n2:(u.res.map kG).length =u.res.length:=by simp
 have n3:(u.gas.map uV).length =u.gas.length:=by simp
 refine sW (fn:=f200) ?_;repeat' ((first|refine tX 0 ?_|exact Zt|refine bR ?_ ?_<;>intro h)<;>(try conv=>whnf))
 exact⟨[(true,kz u)],[8,20,32],bK ⟨rfl,rfl,ut (a:=8) (b:=20) (c:=32) (by simp) rfl rfl rfl⟩ jM,rfl,rfl⟩
def KG (u:Un)(h1:u.lots.length<=1000)(h2:u.res.length<=1000)(h3:u.gas.length<=1000):bt cx 200 1 [dyn (true,kz u)] [] [] (.val (true,cP u 11 13 15)) (lA u 11 13 15):=by
 have c1:=dC u.lots K0;have n2:(u.res.map kG).length =u.res.length:=by simp
 have n3:(u.gas.map uV).length =u.gas.length:=by simp
 refine gR f200 ?_;repeat' ((first|refine tX 0 ?_|exact Zt|refine bR ?_ ?_<;>intro h)<;>(try conv=>whnf))
 exact⟨[(10,11),(22,13),(34,15)],dX rfl rfl,_,rfl,rfl⟩
abbrev stE (s:bQ):List DC:=su s
def F0 (s:bQ):Hp:=[(5,some (.row true 1 (.view (ab s.opens)))),(7,some (.row true 1 (.view (ab s.lots)))),(9,some (.row true 17 (.view (s.units.map kz))))]
def Rk (s:bQ)(h1:s.opens.length<=1000)(h2:s.lots.length<=1000)(h3:s.units.length<=1000)(hu: ∀u∈s.units,(u.lots.length<=1000/\u.res.length<=1000)/\u.gas.length<=1000):bt cx 112 1 [dyn (true,Aj s)] [] [] (.val (true,su s)) (F0 s):=by
 have c1:=dC s.opens K0;have c2:=dC s.lots K0;have n1:(s.units.map kz).length =s.units.length:=by simp
 refine gR f112 ?_;repeat' ((first|refine tX 0 ?_|exact Zt|refine bR ?_ ?_<;>intro h)<;>(try conv=>whnf))
 refine af (ι:=Nat) (λi=>i<=s.units.length) (λi=>s.units.length -i) (λi=>⟨[(1,pP 0),(2,pP 1),(3,vI i)],[(0,some (.box 58 [.st (K s.volt),.st (K s.earth),.own 2,.st (T s.hall),.own 3,.own 4])),(1,some (.box 58 [.st (K false),.st (K false),.nil,.st (T []),.nil,.nil])),(2,some (.row true 1 (.view (ab s.opens)))),(3,some (.row true 1 (.view (ab s.lots)))),(4,some (.row true 17 (.view (s.units.map kz))))],5⟩) 0 Zc (dM _) ?_;intro i hi;by_cases ak:i<s.units.length
 ·have he:=bg (f:=kz) ak pX;have Li:s.units.getD i pX∈s.units:=yZ ak;have c3:=r9 (s.units.getD i pX) (hu _ Li).1.1 (hu _ Li).1.2 (hu _ Li).2
  have lq:(s.units.map kz).set i (kz (s.units.getD i pX))=s.units.map kz:=by
   rw[<- LU];congr 1;rw[jP,oX ak,sZ,LC]
  generalize s.units.getD i pX=u at*;repeat' ((first|refine tX 0 ?_|exact Zt|refine bR ?_ ?_<;>intro h)<;>(try conv=>whnf))
  all_goals first|exact Zo|exact⟨i+1,ak,by omega,ai ajP⟩
 ·obtain rfl:i=s.units.length:=by omega
  repeat' ((first|refine tX 0 ?_|exact Zt|refine bR ?_ ?_<;>intro h)<;>(try conv=>whnf))
  all_goals first|exact Zo|exact⟨[(2,5),(3,7),(4,9)],dX rfl rfl,_,rfl,rfl⟩
abbrev fz (n k:Nat):Nat:=2*(n*4294967296+k)+1
theorem sc {m:List (Nat × Nat)}{z:Nat}{l l':List (List DC)}(h:fH m l=some l'):fp m (.aG z l)=some (.aG z l'):=by
 show(match fH m l with|some l'=>some (cB.aG z l')|none=>none)=_;rw[h]
abbrev unS (u:Un):List DC:=(kz u).map .st
abbrev se (us:List Un):List (List DC):=stL (us.map kz)
abbrev zJ (s:bQ):List DC:=[.st (K s.volt),.st (K s.earth),.st (.view (ab s.opens)),.st (T s.hall),.st (.view (ab s.lots)),.own 9]
def F1 (us:List Un)(i:Nat)(u:Un):Hp:=[(9,some (.aG 17 ((se us).set i (cP u 11 13 15)))),(11,some (.row true 1 (.view (ab u.lots)))),(13,some (.row true 4 (.view (u.res.map kG)))),(15,some (.row true 5 (.view (u.gas.map uV))))]
def GG (H:HF)(fid:Nat)(u:Un)(h1:u.lots.length<=1000)(h2:u.res.length<=1000)(h3:u.gas.length<=1000):
  bW cx fid 200 [dyn (true,kz u)] H (Lc (fresh (tag fid) 0) (.val (true,cP u 11 13 15))) (cI [] (cS (fresh (tag fid) 0) (lA u 11 13 15))) []:=by
 refine Go.Fw.mq (KG u h1 h2 h3) ⟨by simp[lA],λk hk=>?_,λk b e=>?_⟩ (λx hx=>?_) (λd hd=>?_)
 ·exact aiy
 ·exact aiu
 ·have:x=dyn (true,kz u):=by simpa using hx
  subst this;exact bz _
 ·exact ahO
def Rl (s:bQ){i:Nat}{u:Un}(hi:s.units[i]? =some u)(h1:s.opens.length<=1000)(h2:s.lots.length<=1000)(h3:s.units.length<=1000)(hu: ∀u∈s.units,(u.lots.length<=1000/\u.res.length<=1000)/\u.gas.length<=1000):bt cx 112 1 [dyn (true,Aj s)] [] [] (.val (true,zJ s)) (F1 s.units i u):=by
 have c1:=(dC s.opens K0).xD;have c2:=(dC s.lots K0).xD;have n1:(s.units.map kz).length =s.units.length:=by simp
 have Uw:=(kp.1 hi).1;refine gR f112 ?_;repeat' ((first|refine tX 0 ?_|exact Zt|refine bR ?_ ?_<;>intro h)<;>(try conv=>whnf))
 have n2:(se s.units).length =s.units.length:=by simp[stL]
 have hA: ∀m,fH m (se s.units)=some (se s.units):=λm=>KH m _
 refine af (ι:=Nat) (λj=>j<=s.units.length) (λj=>s.units.length -j)
  (λj=>if j<=i then⟨[(1,pP 2),(2,pP 4),(3,vI j)],[(9,some (.aG 17 (se s.units))),(2,some (.box 58 (zJ s))),(4,some (.box 58 [.st (K false),.st (K false),.nil,.st (T []),.nil,.nil]))],1000⟩
   else⟨[(1,pP 2),(2,pP 4),(3,vI j)],[(9,some (.aG 17 ((se s.units).set i (cP u 11 13 15)))),(2,some (.box 58 (zJ s))),(4,some (.box 58 [.st (K false),.st (K false),.nil,.st (T []),.nil,.nil])),(11,some (.row true 1 (.view (ab u.lots)))),(13,some (.row true 4 (.view (u.res.map kG)))),(15,some (.row true 5 (.view (u.gas.map uV))))],1000⟩) 0
  (by
   rw[if_pos (dM _)]
   refine bs.trans (NN 32 (V:=s.units.map kz) rfl) (vn (ks:=[1,2,3]) (m:=[(32,9),(2,2),(4,4)]) rfl ⟨⟨32,_,by simp,rfl,sc (hA _)⟩,⟨2,_,by simp,rfl,rfl⟩,⟨4,_,by simp,rfl,rfl⟩,trivial⟩ rfl dl)) (dM _) ?_
 intro j hj;by_cases ak:j<s.units.length
 ·have he:(se s.units)[j]? =some (unS (s.units.getD j pX)):=by
   have:=bg (f:=kz) ak pX;show((s.units.map kz).map _)[j]? =_;rw[gq,this];rfl
  have Li:s.units.getD j pX∈s.units:=yZ ak
  have lq:(se s.units).set j (unS (s.units.getD j pX))=se s.units:=by
   have h:=(kp.1 he).2;rw[<- h,LC]
  rcases SO j i with hji|hji|hji
  ·rw[if_pos K0];have c3:=r9 (s.units.getD j pX) (hu _ Li).1.1 (hu _ Li).1.2 (hu _ Li).2;generalize s.units.getD j pX=v at*;repeat' ((first|refine tX 0 ?_|exact Zt|refine bR ?_ ?_<;>intro h)<;>(try conv=>whnf))
   all_goals first|exact Zo|skip
   refine⟨j+1,ak,by omega,?_⟩;rw[if_pos K0];exact vn (ks:=[1,2,3]) (m:=[(9,9),(2,2),(4,4)]) rfl ⟨⟨9,_,by simp,rfl,sc (show fH _ ((se s.units).set j (unS v))=_ by rw[lq];exact hA _)⟩,⟨2,_,by simp,rfl,rfl⟩,⟨4,_,by simp,rfl,rfl⟩,trivial⟩ rfl dl
  ·subst hji;rw[if_pos (dz _)];have hgu:s.units.getD j pX=u:=by rw[jP,hi];rfl
   rw[hgu]at he Li lq;have c3:=λH fid=>GG H fid u (hu _ Li).1.1 (hu _ Li).1.2 (hu _ Li).2;repeat' ((first|(refine kO 7 rfl ?_;first|refine Rw (c3 _ _) ?_)|refine tX 0 ?_|exact Zt|refine bR ?_ ?_<;>intro h)<;>(try conv=>whnf))
   all_goals first|exact Zo|skip
   refine⟨j+1,ak,by omega,?_⟩;rw[if_neg K0];exact vn (ks:=[1,2,3]) (m:=[(9,9),(2,2),(4,4),(fz 1013 11,11),(fz 1013 13,13),(fz 1013 15,15)]) rfl ⟨⟨9,_,by simp,rfl,sc (show fH _ ((se s.units).set j (cP u (fz 1013 11) (fz 1013 13) (fz 1013 15)))=_ from kl rfl)⟩,⟨2,_,by simp,rfl,rfl⟩,⟨4,_,by simp,rfl,rfl⟩,⟨fz 1013 11,_,by simp,rfl,rfl⟩,⟨fz 1013 13,_,by simp,rfl,rfl⟩,⟨fz 1013 15,_,by simp,rfl,rfl⟩,trivial⟩ rfl dl
  ·rw[if_neg K0];have c3:=r9 (s.units.getD j pX) (hu _ Li).1.1 (hu _ Li).1.2 (hu _ Li).2;have he2:((se s.units).set i (cP u 11 13 15))[j]? =some (unS (s.units.getD j pX)):=by rw[Pz K0];exact he
   have amo:((se s.units).set i (cP u 11 13 15)).set j (unS (s.units.getD j pX))=(se s.units).set i (cP u 11 13 15):=by
    have h:=(kp.1 he2).2;rw[<- h,LC]
   have n3:((se s.units).set i (cP u 11 13 15)).length =s.units.length:=by rw[CM];exact n2
   generalize s.units.getD j pX=v at*;clear he lq;repeat' ((first|refine tX 0 ?_|exact Zt|refine bR ?_ ?_<;>intro h)<;>(try conv=>whnf))
   all_goals first|exact Zo|skip
   refine⟨j+1,ak,by omega,?_⟩;rw[if_neg K0];exact vn (ks:=[1,2,3]) (m:=[(9,9),(2,2),(4,4),(11,11),(13,13),(15,15)]) rfl ⟨⟨9,_,by simp,rfl,sc (show fH _ (((se s.units).set i (cP u 11 13 15)).set j (unS v))=_ by rw[amo];exact kl rfl)⟩,⟨2,_,by simp,rfl,rfl⟩,⟨4,_,by simp,rfl,rfl⟩,⟨11,_,by simp,rfl,rfl⟩,⟨13,_,by simp,rfl,rfl⟩,⟨15,_,by simp,rfl,rfl⟩,trivial⟩ rfl dl
 ·obtain rfl:j=s.units.length:=by omega
  rw[if_neg K0];have n3:((se s.units).set i (cP u 11 13 15)).length =s.units.length:=by rw[CM];exact n2
  repeat' ((first|refine tX 0 ?_|exact Zt|refine bR ?_ ?_<;>intro h)<;>(try conv=>whnf))
  all_goals first|exact Zo|exact⟨[(9,9),(11,11),(13,13),(15,15)],nJ rfl ⟨⟨9,_,by simp,rfl,sc (kl rfl)⟩,⟨11,_,by simp,rfl,rfl⟩,⟨13,_,by simp,rfl,rfl⟩,⟨15,_,by simp,rfl,rfl⟩,trivial⟩,_,rfl,rfl⟩
abbrev wkS (p:Pl)(log:List En)(s:bQ):List SC:=[.view (p.ae.map na),.view (ab p.ap),.view (p.aa.map fq),.view (p.parts.map mh),J p.dY,J p.eH,.view (log.map cY)]++Aj s
def wiF (us:List Un)(x:aj):List aj:=(us.filter λu=>decide (x∈u.lots)).map Un.name
def abb {us:List Un}{i:Nat}(h:i<us.length)(x:aj):wiF (us.take (i+1)) x=wiF (us.take i) x++(if x∈(us.getD i pX).lots then [(us.getD i pX).name]else []):=by
 have e:us.take (i+1)=us.take i++[us.getD i pX]:=anb;unfold wiF;rw[e,SH,wx];congr 1;generalize us.getD i pX=u;by_cases hx:x∈u.lots<;>simp[hx]
def abc (p:Pl)(log:List En)(s:bQ)(x:aj)(hl:s.units.length<=1000)(hu: ∀u∈s.units,u.lots.length<=1000):ac 56 [(false,[.ref (wkS p log s)]),SS x] (.own 1 (.view (ab (TF s x)))):=by
 obtain⟨volt,earth,opens,hall,lots,us⟩:=s;have hn:(us.map kz).length =us.length:=by simp
 have hl:us.length<=1000:=hl;refine sF f56 ?_
 (try(refine tX 0 ?_;try exact Zt))
 refine af (ι:=Nat) (λi=>i<=us.length) (λi=>us.length -i) (λi=>⟨[(1,lS x),(5,pO 0),(12,some (.val (false,[.st (.view (us.map kz))]))),(13,vI us.length),(14,vI i)],[(0,some (.row true 1 (.view (ab (wiF (us.take i) x)))))],1⟩) 0
  (bs.trans (jB 5 1 (.view []) K9 rfl rfl rfl) (ai PD)) (dM _) ?_
 intro i hi;by_cases ak:i<us.length
 ·have he:=bg (f:=kz) ak pX;have xu:=abb ak x;have hc:=bD (us.getD i pX).lots x (by have:=hu (us.getD i pX) (by rw[jP,oX ak,sZ];exact pH ak);omega)
  have Xo:(wiF (us.take i) x).length <=i:=by
   unfold wiF;rw[jf];exact o3 (LB _ _) wA
  generalize wiF (us.take i) x=out at*;generalize us.getD i pX=u at*;obtain⟨nm,⟨k1,t1,s1,r1,k2,t2,s2,r2,st⟩,ul,re,fa,rl,sh,ud,ga⟩:=u;dsimp only at xu hc;have hol:(ab out).length =out.length:=by simp
  by_cases hv:x∈ul
  ·rw[fG hv]at hc;rw[if_pos hv]at xu;exact K22
  ·rw[eU hv]at hc;rw[if_neg hv,zQ]at xu;exact K30
 ·obtain rfl:i=us.length:=by omega
  rw[mW];exact tA
def W6 {H:HF}{fid:Nat}{p:Pl}{l:List En}{s:bQ}(x:aj)(hl:s.units.length<=1000)(hu: ∀u∈s.units,u.lots.length<=1000)(h1:H 1=(form p l s).get 1)(h3:H 3=(form p l s).get 3)(h5:H 5=(form p l s).get 5)(h7:H 7=(form p l s).get 7)(h9:H 9=(form p l s).get 9)(hr: ∀k∈ah (br 0 s.units),H k=(br 0 s.units).get k):
  bW cx fid 56 [(false,[.ptr 1 0]),(false,[.st (T x)])] H (Fw.bm (.own fid)) [(fid,some (.row true 1 (.view (ab (TF s x)))))] (1::3::5::7::9::ah (br 0 s.units)):=
 iJ (bK (kh (.box (by simp) (h1.trans rfl) rfl (an (.st _)<|an (.st _)<|an (.st _)<|an (.st _)<|an (.st _)<|an (.st _)<|an (.row (by simp) (h3.trans rfl))<|an (.st _)<|an (.st _)<|an (.row (by simp) (h5.trans rfl))<|an (.st _)<|an (.row (by simp) (h7.trans rfl))<|an (Rf (h9.trans rfl) (by simp) (λk hk=>by simp only[dh];exact .inr (.inr (.inr (.inr (.inr hk))))) hr) oK))) (bK (kh (.st _)) jM)) (abc p l s x hl hu) (Ey _) ⟨rfl,rfl,rfl⟩
def KP {p:Pl}{l:List En}(hs:io p)(hP:(p.err jO).2=0->PB p)(hl:l.length<=1000)(ht: ∀e∈l,e.text.length<=100000){x:aj}(hx:x.length<=1000){s:bQ}{i:Nat}(h:dH p l=(s,i,0))(hn:eK x)(hi:x∈s.lots):
  ac 18 [(true,bU p),(false,[.view (l.map cY)]),SS x] (.aJ [(false,[.view (ab (TF s x))]),I 0]):=by
 have c1:=ge x K0;have c2:=Ff hs hP hl ht h;obtain⟨hS,hu⟩:=qK hP h;have c4:=bD s.lots x (by have:=hS.lots;omega);have c5:=λfid H=>W6 (fid:=fid) (H:=H) (p:=p) (l:=l) x hu (λu h=>by have:=(hS.unit u h).lots;omega);unfold jI at c1;rw[if_pos hn]at c1;rw[fG hi]at c4;refine sW (fn:=f18) ?_;refine aS ?_;(refine aR ?_;conv=>whnf);(try(refine tX 2 ?_;try exact Zt));refine aQ ?_;(refine aR ?_;conv=>whnf);repeat((first|(refine kO 7 rfl ?_;first|refine Rw (c2 _ _) ?_)|refine tX 2 ?_|exact Zt);(try conv=>whnf))
 refine⟨_,Cx (R:=[]) (E':=[(2,lS x),(8,pP 1),(10,vI 0)]) (ks:=[2,8,10]) (n':=1000) hu rfl rfl (λid b e=>by simp[Hp.get]at e) rfl dl,?_⟩;repeat' ((first|(refine kO 7 rfl ?_;first|refine ii (λ_ z=>⟨_,_,_,(c5 _ _ rfl rfl rfl rfl rfl (λk hk=>im.get Ee (gZ hu) k hk)),z⟩) ?_)|refine tX 0 ?_|exact Zt|refine bR ?_ ?_<;>intro h)<;>(try conv=>whnf))
 all_goals first|exact Zo|exact⟨[(false,[.view (ab (TF s x))]),I 0],[_],bK ⟨rfl,rfl,an (.row ja rfl) oK⟩ (bK (k9 _) jM),rfl,rfl⟩
set_option maxRecDepth 1000000
set_option maxHeartbeats 80000000
def smF (k:Int)(s:aj):Int:=s.foldl (λk b=>(k*131+b.toNat+1)%1000003) k
def ag9 {k:Int}{s:aj}(h:0<=k/\k<1000003):0<=smF k s/\smF k s<1000003:=by
 unfold smF
 induction s generalizing k with
 |nil=>exact h
 |cons b s ih=>exact ih ⟨CN _ K9,Ly _ K9⟩
def abf {k:Int}{s:aj}{i:Nat}(h:i<s.length):smF k (s.take (i+1))=(smF k (s.take i)*131+(s.getD i 0).toNat +1)%1000003:=by
 rw[CK,oX h,jP,oX h];unfold smF;rw[List.foldl_append];rfl
def ad2 (k:Int)(s:aj)(hk:0<=k/\k<1000003)(hl:s.length<=1000000):bt cx 87 1 ((false,[.ptr 1 0])::[SS s].map dyn) [(1,some (.box 184 ([J k].map .st)))] [1] (.aJ []) [(1,some (.box 184 ([J (smF k s)].map .st)))]:=by
 have hb:=uU s;refine Y7 (fn:=f87) lH dl dl rfl dl (fO rfl) dl ?_
 (try(refine tX 0 ?_;try exact Zt))
 refine af (ι:=Nat) (λi=>i<=s.length) (λi=>s.length -i) (λi=>⟨[(0,pP 1),(7,some (.val (false,[.st (.view (kS (B s)))]))),(8,vI s.length),(9,vI i)],[(1,some (.box 184 [.st (J (smF k (s.take i)))]))],1000⟩) 0 (ai abU) (dM _) ?_;intro i hi;by_cases ak:i<s.length
 ·have hg:=JS ak;have FJ:((s.getD i 0).toNat :Int)<=255:=by exact UT
  have hs:=abf (k:=k) ak;have hc:=ag9 (s:=s.take i) hk;generalize smF k (s.take i)=c at*;generalize (s.getD i 0)=b at*;repeat' ((first|refine tX 0 ?_|exact Zt|refine bR ?_ ?_<;>intro h)<;>(try conv=>whnf))
  all_goals first|exact Zo|exact⟨i+1,ak,by omega,ai (by rw[hs];kernel_rfl)⟩
 ·obtain rfl:i=s.length:=by omega
  rw[mW];repeat' ((first|refine tX 0 ?_|exact Zt|refine bR ?_ ?_<;>intro h)<;>(try conv=>whnf))
  all_goals first|exact Zo|exact⟨rfl,rfl,_,rfl,rfl⟩
def W7 (k:Int)(s:aj)(hk:0<=k/\k<1000003)(hl:s.length<=1000000):ac 41 [SS s,I k] (.aJ [I (smF k s),I 0]):=by
 have c1:=ad2 k s hk hl;have c2:=λ(H:HF) (id fid:Nat) (h:H id=some (.box 184 ([J k].map .st)))=>HI (H:=H) (id:=id) (fid:=fid) (r:=.aJ []) (λ_=>rfl) (λok=>show ∀x∈([]:List DX),ee ok x from λ_ hx=>by cases hx) c1 h;clear c1;refine sF f41 ?_;repeat' ((first|(refine kO 7 rfl ?_;first|refine ii (λ_ z=>⟨_,_,_,(c2 _ _ _ rfl),z⟩) ?_)|refine tX 0 ?_|exact Zt|refine bR ?_ ?_<;>intro h)<;>(try conv=>whnf))
 all_goals exact Z0
def aha:ac 40 [G5 10 5 1 4 4] (.aJ [A3 1 0 2,I 0]):=by
 have c1:ac 86 [G5 10 5 1 4 4] (.one (A3 1 0 2)):=by
  refine sF f86 ?_;exact tA
 have c2:=E3 10 5 1 4 4;rw[Ks Yg]at c2;refine sF f40 ?_;exact tA
def Pn:List (aj × aj):=[([119,105,109],[117,110,105,116,32,116,49,32,100,43,48,47,52,48,48,32,121,43,48,47,50,51,49,32,53]),([119,105,109],[108,111,116,32,119,105,114,101]),([119,105,109],[117,115,101,32,116,49,32,119,105,114,101]),([116,101,97],[111,112,101,110,32,103,49]),([119,105,109],[101,110,116,101,114,32,116,49]),([116,101,97],[115,104,117,116,32,103,49]),([116,101,97],[116,101,115,116,32,116,49,32,114,97,116,105,111,32,57,57,32,49,48,49]),([116,101,97],[108,105,102,116]),([116,101,97],[118,111,108,116,97,103,101]),([116,101,97],[116,101,115,116,32,116,49,32,108,111,119,32,49,32,48,32,51,48,32,54,48,32,49,48,48,32,57,48,32,55,48,32,53,50,32,52,48,32,50,48]),([116,101,97],[116,101,115,116,32,116,49,32,102,117,108,108,32,49,32,48,32,51,48,32,54,48,32,49,48,48,32,57,48,32,55,48,32,53,50,32,52,48,32,50,48])]
def Um:List En:=Pn.mapIdx λi q=>⟨i,q.1,q.2⟩
abbrev mdL (i:Nat):List (List SC):=Pn.mapIdx λj q=>[J (if j<i then j else 0),T q.1,T q.2]
abbrev mdO (i:Nat):List (List SC):=(Um.take i).map cY
def abg:ac 38 [] (.one (false,[.view (Um.map cY)])):=by
 refine nN.xD (z:=3) ?_;refine sF f38 ?_
 (try(refine tX 0 ?_;try exact Zt))
 refine af (ι:=Nat) (λi=>i<=11) (λi=>11 -i) (λi=>⟨[(2,pO 0),(3,pO 1),(4,vI i)],[(0,some (.row true 3 (.view (mdO i)))),(1,some (.row true 3 (.view (mdL i))))],2⟩) 0
  (bs.trans (jB 2 3 (.view []) K9 rfl rfl rfl) Zc) (dM _) ?_
 intro i hi;by_cases ak:i<11
 ·have key: ∀i<11,(mdL i)[i]? =some [J 0,T (Pn.getD i ([],[])).1,T (Pn.getD i ([],[])).2]/\(mdL i).set i [J i,T (Pn.getD i ([],[])).1,T (Pn.getD i ([],[])).2]=mdL (i+1)/\mdO (i+1)=mdO i++[[J i,T (Pn.getD i ([],[])).1,T (Pn.getD i ([],[])).2]]:=λi h=>by
   match i,h with
   |0,_|1,_|2,_|3,_|4,_|5,_|6,_|7,_|8,_|9,_|10,_=>exact⟨rfl,rfl,rfl⟩
  obtain⟨k1,k2,k3⟩:=key i ak;have n1:(mdL i).length =11:=by simp[mdL,Pn]
  have n2:(mdO i).length =i:=by simp[mdO,Um,Pn];omega
  have k4:((mdL i).set i [J i,T (Pn.getD i ([],[])).1,T (Pn.getD i ([],[])).2])[(i:Int).toNat]? =some [J i,T (Pn.getD i ([],[])).1,T (Pn.getD i ([],[])).2]:=by rw[p8];exact IT K0
  generalize (Pn.getD i ([],[])).1=a at*;generalize (Pn.getD i ([],[])).2=b at*;generalize mdL i=L at*;generalize mdO i=O at*;repeat' ((first|refine tX 0 ?_|exact Zt|refine bR ?_ ?_<;>intro h)<;>(try conv=>whnf))
  all_goals first|exact Zo|exact⟨i+1,ak,by omega,ai (by rw[k3,<- k2];kernel_rfl)⟩
 ·obtain rfl:i=11:=by omega
  exact tA
def plQ:Pl:=⟨[([119,105,109],1),([116,101,97],2),([107,97,121],3)],[[103,49]],[⟨[114,97,116,105,111],0,[],[],95,105⟩,⟨[108,111,119],1,[[114,97,116,105,111]],[49,59,49,47,49,32,52,47,49],90,110⟩,⟨[102,117,108,108],2,[[108,111,119]],[49,59,49,47,49,32,52,47,49],0,0⟩],[([108,101,97,100],[[114,97,116,105,111]])],10,100⟩
def W8:ac 37 [] (.one (true,bU plQ)):=by
 refine sF f37 ?_;exact ahT
end Go.Proofs.Tryz
