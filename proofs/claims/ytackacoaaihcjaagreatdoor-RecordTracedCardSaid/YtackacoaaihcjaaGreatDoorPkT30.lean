import Derived.Test.YtackacoaaihcjaaGreatDoorPkT29
set_option linter.all false
set_option maxRecDepth 100000
set_option maxHeartbeats 8000000
namespace Go.Proofs.Tryz
open Go.Fw Go.IntWalk Go.Plain
abbrev unY (u:Un):List DC:=[.st (T u.name),.st (J u.win.k1),.st (J u.win.t1),.st (J u.win.s1),.st (K u.win.r1),.st (J u.win.k2),.st (J u.win.t2),.st (J u.win.s2),.st (K u.win.r2),.st (J u.win.st),.st .any,.st .any,.st (K u.failed),.st (K u.rel),.st (K u.shaken),.st (J u.used),.st .any]
def Oz (u:Un)(a b c:Nat): ∀(k:Nat) (d d':DC),(cP u a b c)[k]? =some d->(unY u)[k]? =some d'->Oo d d':=λk d d' h h'=>by
 match k with
 |0|1|2|3|4|5|6|7|8|9|12|13|14|15=>cases h;cases h';exact .inl rfl
 |10|11|16=>cases h';exact .inr rfl
 |k+17=>simp_all
def aaX {H:HF}{us:List Un}{i:Nat}{u:Un}(hi:us[i]? =some u)(h9:H 9=some (.aA 17 ((rW us).set i (cP u 11 13 15))))(ha:H 11=some (.row true 1 (.view (ab u.lots))))(hb:H 13=some (.row true 4 (.view (u.res.map kE))))(hc:H 15=some (.row true 5 (.view (u.gas.map uV)))):
  Full H [9,11,13,15] (.own 9) (.view (us.map jQ)):=by
 have Ui:=(kl.1 hi).1;have n2:(rW us).length =us.length:=by grind
 have FH: ∀ {j:Nat} {e:List DC} {e':List SC},((rW us).set i (cP u 11 13 15))[j]? =some e->(us.map jQ)[j]? =some e'->(e=cP u 11 13 15/\e'=jQ u)\/e=e'.map .st :=λ{j e e'} h h'=>by grind
 refine .aA (by simp) h9 br (λj e e' h h'=>?_) (λj e e' k d c h h' hd IC=>?_) (λj e' k c h' IC=>?_)
 ·exact aj7
 ·rcases FH h h' with⟨rfl,rfl⟩|rfl
  ·exact uv (by simp) ha hb hc k d c hd IC
  ·exact akc
 grind[Fc]
def zm {H:HF}{fid:Nat}{s:bK}{n:aj}{i:Nat}{u:Un}(hi:s.units[i]? =some u)(hl:s.units.length<=1000)(h9:H 9=some (.aA 17 ((rW s.units).set i (cP u 11 13 15))))(ha:H 11=some (.row true 1 (.view (ab u.lots))))(hb:H 13=some (.row true 4 (.view (u.res.map kE))))(hc:H 15=some (.row true 5 (.view (u.gas.map uV)))):
  bN cx fid 82 [(true,zG s),(false,[.st (T n)])] H (.val (dyn (I (gY s n)))) [] [9,11,13,15]:=
 iI (bx ⟨rfl,rfl,al (.st _)<|al (.st _)<|al (.st _)<|al (.st _)<|al (.st _)<|al (aaX hi h9 ha hb hc) lY⟩ (bx (kc (.st _)) iW)) (wv s n hl) rfl ⟨rfl,rfl,rfl⟩
def OA (s:bK)(p:Pl)(log:List En)(u:Un)(w:List aj): ∀(k:Nat) (x x':DX),[dyn (true,bU p),nJ log,dyn (KZ s),(true,cP u 11 13 15),dyn (V1 w)][k]? =some x->[dyn (true,bU p),nJ log,(true,zG s),(true,cP u 11 13 15),dyn (V1 w)][k]? =some x'->x.1=x'.1/\x.2.length=x'.2.length/\∀(j:Nat) (d d':DC),x'.2[j]? =some d->x.2[j]? =some d'->Oo d d':=λk x x' h h'=>by
 match k with
 |0|1|3|4=>cases h;cases h';exact⟨rfl,rfl,λj d d' a b=>by rw[a]at b;cases b;exact .inl rfl⟩
 |2=>
  cases h;cases h';refine⟨rfl,rfl,λj d d' a b=>?_⟩
  match j with
  |0|1|2|3|4=>cases a;cases b;exact .inl rfl
  |5=>cases b;exact .inr rfl
  |j+6=>simp_all
 |k+5=>grind
def FY (us:List Un)(i:Nat)(u:Un):Hp:=[(9,some (.aA 17 ((rW us).set i (unY u))))]
def al0 (p:Pl)(log:List En)(s:bK)(u:Un)(w:List aj): ∀x'∈[dyn (true,bU p),nJ log,dyn (KZ s),(true,cP u 11 13 15),dyn (V1 w)],dY (· ∈ah (lz u 11 13 15)) x':=λx' AN=>by
 simp only[cQ,mA,mB]at AN;rcases AN with rfl|rfl|rfl|rfl|rfl
 grind[bA]
 ·exact afJ
 grind[bA]
 grind[ux]
 grind[bA]
abbrev sX (s:bK)(i:Nat)(u u':Un):Hp:=[(9,some (.aA 17 ((rW s.units).set i (unY u)))),(4,some (.box 58 (zG s))),(6,some (.box 58 [.st (K false),.st (K false),.nil,.st (T []),.nil,.nil])),(94,some (.box 44 (cP u' 11 13 15))),(11,some (.row true 1 (.view (ab u'.lots)))),(13,some (.row true 4 (.view (u'.res.map kE)))),(15,some (.row true 5 (.view (u'.gas.map uV))))]
abbrev mX:List (Nat × Nat):=[(9,9),(4,4),(6,6),(94,94),(fz 43 11,11),(fz 43 13,13),(fz 43 15,15)]
section
variable (p:Pl)(log:List En)(s:bK){i:Nat}{u u':Un}{w0 x:aj}{ws:List aj}{e:Int}
theorem KF (hi:s.units[i]? =some u)(hl:s.units.length<=1000)(hx:gY s x=(i:Nat))(n1: ¬w0= [110,111,116,101])(n2: ¬w0= [108,111,116])(n3: ¬w0= [117,110,105,116])(n4: ¬w0=lJ)(n5: ¬w0=nk)(n6: ¬w0=lf)(n7: ¬w0=sn)(n8: ¬w0=wt)(n9: ¬w0=Ox)
  (hU:GU 199 [dyn (true,bU p),nJ log,dyn (KZ s),(true,cP u 11 13 15),dyn (V1 (w0::x::ws))] u (u',e))(he:e≠0):
  bt cx 111 1 [dyn (true,bU p),nJ log,(true,zG s),dyn (V1 (w0::x::ws))] (F1 s.units i u) [] (.aJ [(true,zG s),dyn (I e)]) (FY s.units i u):=by
 have Ui:=(kl.1 hi).1;have bB:(rW s.units).length =s.units.length:=by grind
 have ak:i< (rW s.units).length :=by omega
 have cu:=λH fid=>zm (H:=H) (fid:=fid) (s:=s) (n:=x) hi hl;rw[hx]at cu;have hm:=al0 p log s u (w0::x::ws);refine gH f111 ?_;repeat' ((first|(refine kO 7 rfl ?_;first|refine ij (λ_ z=>⟨_,_,_,(cu _ _ rfl rfl rfl rfl),z⟩) ?_)|refine tX 0 ?_|exact Zt|refine bR ?_ ?_<;>intro h)<;>(try conv=>whnf))
 all_goals try exact Ze
 repeat((first|(refine kO 7 rfl ?_;first|refine se (λ_ z=>⟨_,_,_,(bN.Pk (Cx hU (uH rfl rfl rfl) hm) rfl (OA s p log u _)),z⟩) ?_)|refine tX 2 ?_|exact Zt);(try conv=>whnf))
 refine aS ?_;refine aQ ?_;(refine aR ?_;conv=>whnf);(try(refine tX 2 ?_;try exact Zt));refine⟨_,bs.trans (Fo 9 i (e':=unY u) rfl (IT ak) rfl (Oz u 11 13 15)) (vp (E':=[(3,some (.val (dyn (V1 (w0::x::ws))))),(6,pP 4),(8,pP 6),(12,vI i),(13,pP 94),(14,vI e),(127,vBo (e != 0))]) (X:=sX s i u u') (m:=mX) (ks:=[3,6,8,12,13,14,127]) (n':=1000) rfl ⟨⟨9,_,by simp,rfl,by rw[List.set_set];exact rV (kh rfl)⟩,⟨4,_,by simp,rfl,rfl⟩,⟨6,_,by simp,rfl,rfl⟩,⟨94,_,by simp,rfl,rfl⟩,⟨fz 43 11,_,by simp,rfl,rfl⟩,⟨fz 43 13,_,by simp,rfl,rfl⟩,⟨fz 43 15,_,by simp,rfl,rfl⟩,trivial⟩ rfl rfl),?_⟩;repeat' ((first|refine tX 0 ?_|exact Zt|refine bR ?_ ?_<;>intro h)<;>(try conv=>whnf))
 all_goals first|exact Ze|exact⟨[(9,9)],nI rfl ⟨⟨9,_,by simp,rfl,rV (kh rfl)⟩,trivial⟩,_,rfl,rfl⟩
theorem anE (s:bK)(i:Nat)(u u':Un)(m:List (Nat × Nat))(h:eX m (cP u' 11 13 15)=some (cP u' 11 13 15):=by rfl):fm m (.aA 17 (((rW s.units).set i (unY u)).set i (cP u' 11 13 15)))=some (.aA 17 ((rW s.units).set i (cP u' 11 13 15))):=by grind[List.set_set,rV,kh]
theorem KG (hi:s.units[i]? =some u)(hl:s.units.length<=1000)(hx:gY s x=(i:Nat))(n1: ¬w0= [110,111,116,101])(n2: ¬w0= [108,111,116])(n3: ¬w0= [117,110,105,116])(n4: ¬w0=lJ)(n5: ¬w0=nk)(n6: ¬w0=lf)(n7: ¬w0=sn)(n8: ¬w0=wt)(n9: ¬w0=Ox)
  (hU:GU 199 [dyn (true,bU p),nJ log,dyn (KZ s),(true,cP u 11 13 15),dyn (V1 (w0::x::ws))] u (u',0))(hw:w0= [101,110,116,101,114]):
  bt cx 111 1 [dyn (true,bU p),nJ log,(true,zG s),dyn (V1 (w0::x::ws))] (F1 s.units i u) [] (.aJ [(true,zG {s with hall:=u'.name}),dyn (I 0)]) (F1 s.units i u'):=by
 exact K2
theorem OB (hi:s.units[i]? =some u)(hl:s.units.length<=1000)(hx:gY s x=(i:Nat))(n1: ¬w0= [110,111,116,101])(n2: ¬w0= [108,111,116])(n3: ¬w0= [117,110,105,116])(n4: ¬w0=lJ)(n5: ¬w0=nk)(n6: ¬w0=lf)(n7: ¬w0=sn)(n8: ¬w0=wt)(n9: ¬w0=Ox)
  (hU:GU 199 [dyn (true,bU p),nJ log,dyn (KZ s),(true,cP u 11 13 15),dyn (V1 (w0::x::ws))] u (u',0))(hw:w0= [108,101,97,118,101]):
  bt cx 111 1 [dyn (true,bU p),nJ log,(true,zG s),dyn (V1 (w0::x::ws))] (F1 s.units i u) [] (.aJ [(true,zG {s with hall:=[]}),dyn (I 0)]) (F1 s.units i u'):=by
 exact K2
theorem GJ (hi:s.units[i]? =some u)(hl:s.units.length<=1000)(hx:gY s x=(i:Nat))(n1: ¬w0= [110,111,116,101])(n2: ¬w0= [108,111,116])(n3: ¬w0= [117,110,105,116])(n4: ¬w0=lJ)(n5: ¬w0=nk)(n6: ¬w0=lf)(n7: ¬w0=sn)(n8: ¬w0=wt)(n9: ¬w0=Ox)
  (hU:GU 199 [dyn (true,bU p),nJ log,dyn (KZ s),(true,cP u 11 13 15),dyn (V1 (w0::x::ws))] u (u',0))(ne: ¬w0= [101,110,116,101,114])(nl: ¬w0= [108,101,97,118,101]):
  bt cx 111 1 [dyn (true,bU p),nJ log,(true,zG s),dyn (V1 (w0::x::ws))] (F1 s.units i u) [] (.aJ [(true,zG s),dyn (I 0)]) (F1 s.units i u'):=by
 exact K2
end
def OC (p:Pl)(log:List En)(s:bK){w0 x:aj}{ws:List aj}(hl:s.units.length<=1000)(hx:gY s x<0)(n1: ¬w0= [110,111,116,101])(n2: ¬w0= [108,111,116])(n3: ¬w0= [117,110,105,116])(n4: ¬w0=lJ)(n5: ¬w0=nk)(n6: ¬w0=lf)(n7: ¬w0=sn)(n8: ¬w0=wt)(n9: ¬w0=Ox):
  GS 111 [dyn (true,bU p),nJ log,(true,rQ s),dyn (V1 (w0::x::ws))] s (s,6):=by
 have cu:=λH fid=>zl (H:=H) (fid:=fid) (s:=s) (n:=x) hl;generalize gY s x=ix at*;exact K27
section
variable {s:bK}(H:HF)(fid:Nat)
abbrev zD (n:Nat)(s:bK):List DC:=[.st (K s.volt),.st (K s.earth),.own (fz n 5),.st (T s.hall),.own (fz n 7),.own (fz n 9)]
abbrev zV (n:Nat)(s:bK):List DC:=[.st (K s.volt),.st (K s.earth),.st (.view (ab s.opens)),.st (T s.hall),.st (.view (ab s.lots)),.own (fz n 9)]
theorem Rl (h1:s.opens.length<=1000)(h2:s.lots.length<=1000)(h3:s.units.length<=1000)(hu: ∀u∈s.units,(u.lots.length<=1000/\u.res.length<=1000)/\u.gas.length<=1000):
  bN cx fid 112 [dyn (true,vz s)] H (.val (true,zD (tag fid) s)) (cC [] (cN (fresh (tag fid) 0) (F0 s))) []:=
 Go.Fw.mq (Ra s h1 h2 h3 hu) (Fs s) (λx hx=>by
  have:x=dyn (true,vz s):=by grind
  grind[bA]) (uA s)
theorem KH (us:List Un)(i:Nat)(u:Un):Mz (F1 us i u):=by
 have hm: ∀e∈(rW us).set i (cP u 11 13 15),∀d∈e,d.dM (· ∈[9,11,13,15]):=λe he d hd=>by
  rcases R8 he with h|rfl
  ·exact ai5
  ·have:=ux u d hd
   exact DC.dJ (λk hk=>by have:k=11\/k=13\/k=15:=by simpa [lz,ah]using hk
                          grind) this
 refine⟨by simp[F1],λk hk=>?_,λk b e=>?_⟩
 ·have:k=9\/k=11\/k=13\/k=15:=by simpa [F1,ah]using hk
  rcases this with rfl|rfl|rfl|rfl<;>exact⟨by decide,by decide,rfl⟩
 ·have hk:=Hp.dS e;have:k=9\/k=11\/k=13\/k=15:=by simpa [F1,ah]using hk
  rcases this with rfl|rfl|rfl|rfl
  ·cases e;exact hm
  all_goals(cases e;trivial)
theorem agY (us:List Un)(i:Nat)(u:Un):Mz (FY us i u):=by
 refine⟨by simp[FY],λk hk=>?_,λk b e=>?_⟩
 ·have:k=9:=by simpa [FY,ah]using hk
  subst this;exact⟨by decide,by decide,rfl⟩
 ·have hk:=Hp.dS e;have:k=9:=by simpa [FY,ah]using hk
  subst this;cases e;intro e he d hd;rcases R8 he with h|rfl
  ·exact ai5
  ·simp only[unY,cQ,mA,mB]at hd;rcases hd with rfl|rfl|rfl|rfl|rfl|rfl|rfl|rfl|rfl|rfl|rfl|rfl|rfl|rfl|rfl|rfl|rfl<;>trivial
theorem uB {ok:Nat->Prop}(h:ok 9)(s:bK):dY ok (true,zG s):=by
 intro d hd;simp only[zG,cQ,mA,mB]at hd;rcases hd with rfl|rfl|rfl|rfl|rfl|rfl<;>first|trivial|exact h
theorem Ft {i:Nat}{u:Un}(hi:s.units[i]? =some u)(h1:s.opens.length<=1000)(h2:s.lots.length<=1000)(h3:s.units.length<=1000)(hu: ∀u∈s.units,(u.lots.length<=1000/\u.res.length<=1000)/\u.gas.length<=1000):
  bN cx fid 112 [dyn (true,vz s)] H (.val (true,zV (tag fid) s)) (cC [] (cN (fresh (tag fid) 0) (F1 s.units i u))) []:=
 Go.Fw.mq (Rb s hi h1 h2 h3 hu) (KH s.units i u) (λx hx=>by
  have:x=dyn (true,vz s):=by grind
  grind[bA]) (uB acb s)
end
section
variable {p:Pl}{log:List En}{s:bK}{w:List aj}{H:HF}{fid n:Nat}
def AJ {ok:Nat->Prop}{st:List DC}(h:dY ok (true,st)): ∀x∈[dyn (true,bU p),nJ log,(true,st),dyn (V1 w)],dY ok x:=λx hx=>by
 simp only[cQ,mA,mB]at hx;rcases hx with rfl|rfl|rfl|rfl
 grind[bA]
 ·exact afJ
 grind
 ·exact bA _
def Fu {ok:Nat->Prop}{st:List DC}{e:Int}(h:dY ok (true,st)):lF ok (.aJ [(true,st),dyn (I e)]):=λx hx=>by
 simp only[cQ,mA,mB]at hx
 grind[bA]
def Rm {y:bK × Int}(h:GS 111 [dyn (true,bU p),nJ log,(true,rQ s),dyn (V1 w)] s y)(h5:some (.row true 1 (.view (ab s.opens)))=H (fz n 5))(h7:some (.row true 1 (.view (ab s.lots)))=H (fz n 7))(h9:some (.row true 17 (.view (s.units.map jQ)))=H (fz n 9)):
  bN cx fid 111 [dyn (true,bU p),nJ log,(true,zD n s),dyn (V1 w)] H (.aJ [(true,zD (tag fid) y.1),dyn (I y.2)]) (cC (cN (fresh n 0) (F0 s)) (cN (fresh (tag fid) 0) (F0 y.1))) (ah (cN (fresh n 0) (F0 s))):=by
 have:=xd (fid:=fid) (n:=n) (H:=H) h (Fs s) (Fs y.1) (λk hk=>?_) (AJ (uA s)) (Fu (uA y.1))
 ·exact this
 ·have:k=5\/k=7\/k=9:=by exact ab6
  rcases this with rfl|rfl|rfl
  ·exact h5
  ·exact h7
  ·exact h9
def Rn {i:Nat}{u u':Un}{y:bK × Int}(h:bt cx 111 1 [dyn (true,bU p),nJ log,(true,zG s),dyn (V1 w)] (F1 s.units i u) [] (.aJ [(true,zG y.1),dyn (I y.2)]) (F1 s.units i u'))
  (h9:some (.aA 17 (((rW s.units).set i (cP u 11 13 15)).map λe=>e.map (DC.rn (fresh n 0))))=H (fz n 9))(ha:some (.row true 1 (.view (ab u.lots)))=H (fz n 11))(hb:some (.row true 4 (.view (u.res.map kE)))=H (fz n 13))(hc:some (.row true 5 (.view (u.gas.map uV)))=H (fz n 15)):
  bN cx fid 111 [dyn (true,bU p),nJ log,(true,zV n s),dyn (V1 w)] H (.aJ [(true,zV (tag fid) y.1),dyn (I y.2)]) (cC (cN (fresh n 0) (F1 s.units i u)) (cN (fresh (tag fid) 0) (F1 s.units i u'))) (ah (cN (fresh n 0) (F1 s.units i u))):=by
 have:=xd (fid:=fid) (n:=n) (H:=H) h (KH s.units i u) (KH s.units i u') (λk hk=>?_) (AJ (uB acb s)) (Fu (uB acb y.1))
 ·exact this
 ·exact aid
def Ro {i:Nat}{u:Un}{e:Int}(h:bt cx 111 1 [dyn (true,bU p),nJ log,(true,zG s),dyn (V1 w)] (F1 s.units i u) [] (.aJ [(true,zG s),dyn (I e)]) (FY s.units i u))
  (h9:some (.aA 17 (((rW s.units).set i (cP u 11 13 15)).map λe=>e.map (DC.rn (fresh n 0))))=H (fz n 9))(ha:some (.row true 1 (.view (ab u.lots)))=H (fz n 11))(hb:some (.row true 4 (.view (u.res.map kE)))=H (fz n 13))(hc:some (.row true 5 (.view (u.gas.map uV)))=H (fz n 15)):
  bN cx fid 111 [dyn (true,bU p),nJ log,(true,zV n s),dyn (V1 w)] H (.aJ [(true,zV (tag fid) s),dyn (I e)]) (cC (cN (fresh n 0) (F1 s.units i u)) (cN (fresh (tag fid) 0) (FY s.units i u))) (ah (cN (fresh n 0) (F1 s.units i u))):=by
 have:=xd (fid:=fid) (n:=n) (H:=H) h (KH s.units i u) (agY s.units i u) (λk hk=>?_) (AJ (uB acb s)) (Fu (uB (by simp[FY]) s))
 ·exact this
 ·exact aid
end
abbrev adM:List SC:=[.any,.any,.any,.any,.any,.any]
abbrev nxR (y:bK × Int):mb:=.aJ [(true,if y.2=0 then vz y.1 else adM),I y.2]
def Stp (p:Pl)(log:List En)(s:bK)(w:List aj)(y:bK × Int):Prop:=
 GS 111 [dyn (true,bU p),nJ log,(true,rQ s),dyn (V1 w)] s y\/
 (∃i u,s.units[i]? =some u/\y.2≠0/\bt cx 111 1 [dyn (true,bU p),nJ log,(true,zG s),dyn (V1 w)] (F1 s.units i u) [] (.aJ [(true,zG s),dyn (I y.2)]) (FY s.units i u))\/
 (∃i u u',s.units[i]? =some u/\y.2=0/\y.1.units=s.units.set i u'/\bt cx 111 1 [dyn (true,bU p),nJ log,(true,zG s),dyn (V1 w)] (F1 s.units i u) [] (.aJ [(true,zG y.1),dyn (I y.2)]) (F1 s.units i u'))
def fS (p:Pl)(lk:aj):Int:=if lk∈p.ay then(p.ae.getD (aZ p.ay lk).toNat ([],0)).2 else -1
def pre (p:Pl)(log:List En)(e:En):Int:=
 if fS p e.lk<0 then 6 else if ¬(0<=e.t/\e.t<=1000000000000)then 2 else if e.t<im log then 9 else if 400<e.text.length then 8 else 0
def pT {H:HF}(ds:List DC)(s:bK)(e:Int)(he:e≠0)(hd:ds.length=6:=by rfl):HE H [(true,ds),dyn (I e)] (λr'=>r'=nxR (s,e)):=by
 refine⟨[(true,adM),I e],[],bx ⟨rfl,hd.symm,λk d c _ hc=>?_⟩ (bx (jl _) iW),rfl,?_⟩
 ·have:c= .any :=by
   have:=jt hc;simpa using this
  subst this;exact .any d
 ·show YR _=mb.aJ _;rw[if_neg he];rfl
section
variable (p:Pl)(log:List En)(s:bK)(e:En)
theorem aaY (hp:p.ae.length<=1000)(hl:log.length<=1000)(ht:e.text.length<=100000)(h:pre p log e≠0):
  ad 65 [(true,bU p),(false,[.view (log.map df)]),(true,vz s),(true,df e)] (nxR (s,pre p log e)):=by
 have c1:=mU p e.lk hp;have c2:=gm e.t;have vN:(log.map df).length =log.length:=by simp
 have amL:0<log.length->(log.map df)[log.length -1]? =some (df (log.getD (log.length -1) fZ))/\im log=(log.getD (log.length -1) fZ).t :=λh=>⟨bg (f:=df) K0 fZ,by
  unfold im;rw[List.getLast?_eq_getElem?,jE]
  rw[nM K0];rfl⟩
 have amf:log.length=0->im log=0:=λh=>by rw[CG.1 h];rfl
 rw[show(if e.lk∈p.ay then(p.ae.getD (aZ p.ay e.lk).toNat ([],0)).2 else -1)=fS p e.lk from rfl]at c1;have h6:fS p e.lk<0->pre p log e=6:=λa=>by simp[pre,a]
 have h2:0<=fS p e.lk->¬(0<=e.t/\e.t<=1000000000000)->pre p log e=2:=λa b=>by unfold pre;rw[if_neg K0,if_pos b]
 have h9:0<=fS p e.lk->(0<=e.t/\e.t<=1000000000000)->e.t<im log->pre p log e=9:=λa b c=>by unfold pre;rw[if_neg K0,if_neg (λx=>x b),if_pos c]
 have h8:0<=fS p e.lk->(0<=e.t/\e.t<=1000000000000)->¬e.t<im log->400<e.text.length->pre p log e=8:=λa b c d=>by unfold pre;rw[if_neg K0,if_neg (λx=>x b),if_neg c,if_pos d]
 have h0:0<=fS p e.lk->(0<=e.t/\e.t<=1000000000000)->¬e.t<im log->¬400<e.text.length->pre p log e=0:=λa b c d=>by unfold pre;rw[if_neg K0,if_neg (λx=>x b),if_neg c,if_neg d]
 generalize pre p log e=P at*;generalize fS p e.lk=ro at*;generalize im log=lt at*;by_cases sq:log.length=0
 ·have:=amf sq;refine sW (fn:=f65) ?_;repeat' ((first|refine tX 0 ?_|exact Zt|refine bR ?_ ?_<;>intro h)<;>(try conv=>whnf))
  all_goals try(exfalso;omega)
  all_goals first|(obtain rfl:P=6:=by omega);exact pT _ _ 6 K9|(obtain rfl:P=2:=by omega);exact pT _ _ 2 K9|(obtain rfl:P=9:=by omega);exact pT _ _ 9 K9|(obtain rfl:P=8:=by omega);exact pT _ _ 8 K9
 ·obtain⟨vK,ak⟩:=amL K0;haveI hnat:dK (((log.map df).length :Int) -1) (log.length -1):=⟨by omega⟩;generalize log.getD (log.length -1) fZ=en at*;refine sW (fn:=f65) ?_;repeat' ((first|refine tX 0 ?_|exact Zt|refine bR ?_ ?_<;>intro h)<;>(try conv=>whnf))
  all_goals try(exfalso;omega)
  all_goals first|(obtain rfl:P=6:=by omega);exact pT _ _ 6 K9|(obtain rfl:P=2:=by omega);exact pT _ _ 2 K9|(obtain rfl:P=9:=by omega);exact pT _ _ 9 K9|(obtain rfl:P=8:=by omega);exact pT _ _ 8 K9
end
def Fv {p:Pl}{log:List En}{e:En}(h:pre p log e=0):0<=fS p e.lk/\(0<=e.t/\e.t<=1000000000000)/\im log<=e.t/\e.text.length<=400:=by
 unfold pre at h
 grind
def zp {log:List En}(h: ¬log.length=0):(log.map df)[log.length -1]? =some (df (log.getD (log.length -1) fZ))/\im log=(log.getD (log.length -1) fZ).t :=⟨bg (f:=df) K0 fZ,by
  grind[im]⟩
abbrev nS (p:Pl)(log:List En)(s:bK)(e:En)(ro:Int)(i:Nat):St:=⟨[(1,some (.val (nJ log))),(4,pP 0),(6,pP 2),(7,pP 4),(8,pP 6),(10,vI ro),(11,vI i)],[(0,some (.box 27 (dyn (true,bU p)).2)),(2,some (.box 58 (dyn (true,vz s)).2)),(4,some (.box 36 (dyn (true,df e)).2)),(6,some (.box 58 [.st (K false),.st (K false),.nil,.st (T []),.nil,.nil]))],1000⟩
section
variable (p:Pl)(log:List En)(s:bK)(e:En)
theorem qE (hp:p.ae.length<=1000)(hl:log.length<=1000)(o7:pre p log e=0){ws:List aj}{k:Int}{ok nb:Bool}(Ul:HL e.text=(ws,k,ok))(hk:k<0\/∃j:Nat,k=j/\j<19)(hnb:ok=true->ad 110 [V1 ws] (.one (Bo nb)))
  (P:Int)(h0:P≠0)(h3: ¬aU e.text->P=3)(h7:aU e.text->k<0->P=7)(h18: ∀j:Nat,aU e.text->k=j->fS p e.lk< (vb j).role ->P=18)(h7': ∀j:Nat,aU e.text->k=j->(vb j).role <=fS p e.lk->ok=false\/nb=false->P=7)
  (hz: ∀j:Nat,aU e.text->k=j->(vb j).role <=fS p e.lk->ok=true->nb=true->P=0):
  ad 65 [(true,bU p),(false,[.view (log.map df)]),(true,vz s),(true,df e)] (nxR (s,P)):=by
 have c1:=mU p e.lk hp;have c2:=gm e.t;have vN:(log.map df).length =log.length:=by simp
 obtain⟨g1,g2,g3,g4⟩:=Fv o7;have c3:=jC e.text K0;rw[Ul]at c3;dsimp only at c3;have c4:=k9;rw[show(if e.lk∈p.ay then(p.ae.getD (aZ p.ay e.lk).toNat ([],0)).2 else -1)=fS p e.lk from rfl]at c1;generalize fS p e.lk=ro at*;refine sW (fn:=f65) ?_;by_cases sq:log.length=0;rotate_left
 ·obtain⟨vK,ak⟩:=zp sq;haveI hnat:dK (((log.map df).length :Int) -1) (log.length -1):=⟨by omega⟩;generalize log.getD (log.length -1) fZ=en at*;repeat' ((first|refine tX 0 ?_|exact Zt|refine bR ?_ ?_<;>intro h)<;>(try conv=>whnf))
  all_goals try(exfalso;omega)
  ·refine af (ι:=Nat) (λi=>i<=e.text.length/\sJ e.text i) (λi=>e.text.length -i) (nS p log s e ro) 0 Zc ⟨dC _,λj hj=>by omega⟩ ?_;rintro i ⟨hi,hp⟩;by_cases ak:i<e.text.length
   ·have dx: ¬(32<=(e.text.getD i 0).toNat /\(e.text.getD i 0).toNat <=126)->¬aU e.text:=λh hh=>h (hh i ak);have ma:32<=(e.text.getD i 0).toNat /\(e.text.getD i 0).toNat <=126->sJ e.text (i+1):=λh j hj=>by exact afK
    have FL:((e.text.getD i 0).toNat :Int)<=255:=by exact LN
    repeat' ((first|refine tX 0 ?_|exact Zt|refine bR ?_ ?_<;>intro h)<;>(try conv=>whnf))
    all_goals first|exact Zo|exact⟨i+1,⟨ak,ma K0⟩,by omega,Zc⟩|(obtain rfl:P=3:=h3 (dx K0);exact pT _ _ 3 K9)
   ·obtain rfl:i=e.text.length:=by omega
    have zA:aU e.text:=hp;have h3:=h3;clear h3;rcases hk with hk|⟨j,rfl,hj⟩
    ·obtain rfl:P=7:=h7 zA hk;repeat' ((first|refine tX 0 ?_|exact Zt|refine bR ?_ ?_<;>intro h)<;>(try conv=>whnf))
     all_goals first|exact Zo|exact pT _ _ 7 K9
    ·have WZ:(kv.map Q7).length =19:=rfl;have hv:=bg (f:=Q7) (l:=kv) hj vD;replace h18:=h18 j zA rfl;replace h7':=h7' j zA rfl;replace hz:=hz j zA rfl;rw[show vb j=(kv.getD j vD).2 from rfl]at h18 h7' hz;generalize kv.getD j vD=q at*;by_cases hr:ro<q.2.role
     ·obtain rfl:P=18:=h18 hr;repeat' ((first|refine tX 0 ?_|exact Zt|refine bR ?_ ?_<;>intro h)<;>(try conv=>whnf))
      all_goals first|exact Zo|exact pT _ _ 18 K9
     ·cases ok
      ·obtain rfl:P=7:=h7' K0 (.inl rfl);repeat' ((first|refine tX 0 ?_|exact Zt|refine bR ?_ ?_<;>intro h)<;>(try conv=>whnf))
       all_goals first|exact Zo|exact pT _ _ 7 K9
      ·have c5:=hnb rfl;cases nb
       ·obtain rfl:P=7:=h7' K0 (.inr rfl);repeat' ((first|refine tX 0 ?_|exact Zt|refine bR ?_ ?_<;>intro h)<;>(try conv=>whnf))
        all_goals first|exact Zo|exact pT _ _ 7 K9
       grind
 ·repeat' ((first|refine tX 0 ?_|exact Zt|refine bR ?_ ?_<;>intro h)<;>(try conv=>whnf))
  all_goals try(exfalso;omega)
  ·refine af (ι:=Nat) (λi=>i<=e.text.length/\sJ e.text i) (λi=>e.text.length -i) (nS p log s e ro) 0 Zc ⟨dC _,λj hj=>by omega⟩ ?_;rintro i ⟨hi,hp⟩;by_cases ak:i<e.text.length
   ·have dx: ¬(32<=(e.text.getD i 0).toNat /\(e.text.getD i 0).toNat <=126)->¬aU e.text:=λh hh=>h (hh i ak);have ma:32<=(e.text.getD i 0).toNat /\(e.text.getD i 0).toNat <=126->sJ e.text (i+1):=λh j hj=>by exact afK
    have FL:((e.text.getD i 0).toNat :Int)<=255:=by exact LN
    repeat' ((first|refine tX 0 ?_|exact Zt|refine bR ?_ ?_<;>intro h)<;>(try conv=>whnf))
    all_goals first|exact Zo|exact⟨i+1,⟨ak,ma K0⟩,by omega,Zc⟩|(obtain rfl:P=3:=h3 (dx K0);exact pT _ _ 3 K9)
   ·obtain rfl:i=e.text.length:=by omega
    have zA:aU e.text:=hp;have h3:=h3;clear h3;rcases hk with hk|⟨j,rfl,hj⟩
    ·obtain rfl:P=7:=h7 zA hk;repeat' ((first|refine tX 0 ?_|exact Zt|refine bR ?_ ?_<;>intro h)<;>(try conv=>whnf))
     all_goals first|exact Zo|exact pT _ _ 7 K9
    ·have WZ:(kv.map Q7).length =19:=rfl;have hv:=bg (f:=Q7) (l:=kv) hj vD;replace h18:=h18 j zA rfl;replace h7':=h7' j zA rfl;replace hz:=hz j zA rfl;rw[show vb j=(kv.getD j vD).2 from rfl]at h18 h7' hz;generalize kv.getD j vD=q at*;by_cases hr:ro<q.2.role
     ·obtain rfl:P=18:=h18 hr;repeat' ((first|refine tX 0 ?_|exact Zt|refine bR ?_ ?_<;>intro h)<;>(try conv=>whnf))
      all_goals first|exact Zo|exact pT _ _ 18 K9
     ·cases ok
      ·obtain rfl:P=7:=h7' K0 (.inl rfl);repeat' ((first|refine tX 0 ?_|exact Zt|refine bR ?_ ?_<;>intro h)<;>(try conv=>whnf))
       all_goals first|exact Zo|exact pT _ _ 7 K9
      ·have c5:=hnb rfl;cases nb
       ·obtain rfl:P=7:=h7' K0 (.inr rfl);repeat' ((first|refine tX 0 ?_|exact Zt|refine bR ?_ ?_<;>intro h)<;>(try conv=>whnf))
        all_goals first|exact Zo|exact pT _ _ 7 K9
       grind
end
end Go.Proofs.Tryz
