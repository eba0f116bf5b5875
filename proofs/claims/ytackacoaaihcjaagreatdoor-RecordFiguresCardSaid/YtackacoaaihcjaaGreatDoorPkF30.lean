import Derived.Test.YtackacoaaihcjaaGreatDoorPkF29
set_option linter.all false
set_option maxRecDepth 100000
set_option maxHeartbeats 8000000
namespace Go.Proofs.Tryz
open Go.Fw Go.IntWalk Go.Plain
abbrev unY (u:Un):List DC:=[.st (T u.name),.st (J u.win.k1),.st (J u.win.t1),.st (J u.win.s1),.st (K u.win.r1),.st (J u.win.k2),.st (J u.win.t2),.st (J u.win.s2),.st (K u.win.r2),.st (J u.win.st),.st .any,.st .any,.st (K u.failed),.st (K u.rel),.st (K u.shaken),.st (J u.used),.st .any]
def OG (u:Un)(a b c:Nat): ∀(k:Nat) (d d':DC),(cP u a b c)[k]? =some d->(unY u)[k]? =some d'->Oy d d':=λk d d' h h'=>by
 match k with
 |0|1|2|3|4|5|6|7|8|9|12|13|14|15=>cases h;cases h';exact .inl rfl
 |10|11|16=>cases h';exact .inr rfl
 |k+17=>simp_all
def aa6 {H:HF}{us:List Un}{i:Nat}{u:Un}(hi:us[i]? =some u)(h9:H 9=some (.aG 17 ((se us).set i (cP u 11 13 15))))(ha:H 11=some (.row true 1 (.view (ab u.lots))))(hb:H 13=some (.row true 4 (.view (u.res.map kG))))(hc:H 15=some (.row true 5 (.view (u.gas.map uV)))):
  Full H [9,11,13,15] (.own 9) (.view (us.map kz)):=by
 have Uw:=(kp.1 hi).1;have n2:(se us).length =us.length:=by grind
 have FN: ∀ {j:Nat} {e:List DC} {e':List SC},((se us).set i (cP u 11 13 15))[j]? =some e->(us.map kz)[j]? =some e'->(e=cP u 11 13 15/\e'=kz u)\/e=e'.map .st :=λ{j e e'} h h'=>by grind
 refine .aG (by simp) h9 bq (λj e e' h h'=>?_) (λj e e' k d c h h' hd IK=>?_) (λj e' k c h' IK=>?_)
 ·exact aj7
 ·rcases FN h h' with⟨rfl,rfl⟩|rfl
  ·exact ut (by simp) ha hb hc k d c hd IK
  ·exact akc
 grind[Fe]
def zw {H:HF}{fid:Nat}{s:bQ}{n:aj}{i:Nat}{u:Un}(hi:s.units[i]? =some u)(hl:s.units.length<=1000)(h9:H 9=some (.aG 17 ((se s.units).set i (cP u 11 13 15))))(ha:H 11=some (.row true 1 (.view (ab u.lots))))(hb:H 13=some (.row true 4 (.view (u.res.map kG))))(hc:H 15=some (.row true 5 (.view (u.gas.map uV)))):
  bW cx fid 82 [(true,zJ s),(false,[.st (T n)])] H (.val (dyn (I (gY s n)))) [] [9,11,13,15]:=
 iJ (bK ⟨rfl,rfl,an (.st _)<|an (.st _)<|an (.st _)<|an (.st _)<|an (.st _)<|an (aa6 hi h9 ha hb hc) oK⟩ (bK (kh (.st _)) jM)) (wl s n hl) rfl ⟨rfl,rfl,rfl⟩
def OH (s:bQ)(p:Pl)(log:List En)(u:Un)(w:List aj): ∀(k:Nat) (x x':DX),[dyn (true,bU p),nK log,dyn (Lg s),(true,cP u 11 13 15),dyn (V1 w)][k]? =some x->[dyn (true,bU p),nK log,(true,zJ s),(true,cP u 11 13 15),dyn (V1 w)][k]? =some x'->x.1=x'.1/\x.2.length=x'.2.length/\∀(j:Nat) (d d':DC),x'.2[j]? =some d->x.2[j]? =some d'->Oy d d':=λk x x' h h'=>by
 match k with
 |0|1|3|4=>cases h;cases h';exact⟨rfl,rfl,λj d d' a b=>by rw[a]at b;cases b;exact .inl rfl⟩
 |2=>
  cases h;cases h';refine⟨rfl,rfl,λj d d' a b=>?_⟩
  match j with
  |0|1|2|3|4=>cases a;cases b;exact .inl rfl
  |5=>cases b;exact .inr rfl
  |j+6=>simp_all
 |k+5=>grind
def FY (us:List Un)(i:Nat)(u:Un):Hp:=[(9,some (.aG 17 ((se us).set i (unY u))))]
def al4 (p:Pl)(log:List En)(s:bQ)(u:Un)(w:List aj): ∀x'∈[dyn (true,bU p),nK log,dyn (Lg s),(true,cP u 11 13 15),dyn (V1 w)],ee (· ∈ah (lA u 11 13 15)) x':=λx' AO=>by
 simp only[dh,mV,mY]at AO;rcases AO with rfl|rfl|rfl|rfl|rfl
 grind[bz]
 ·exact afM
 grind[bz]
 grind[uw]
 grind[bz]
abbrev sX (s:bQ)(i:Nat)(u u':Un):Hp:=[(9,some (.aG 17 ((se s.units).set i (unY u)))),(4,some (.box 58 (zJ s))),(6,some (.box 58 [.st (K false),.st (K false),.nil,.st (T []),.nil,.nil])),(94,some (.box 44 (cP u' 11 13 15))),(11,some (.row true 1 (.view (ab u'.lots)))),(13,some (.row true 4 (.view (u'.res.map kG)))),(15,some (.row true 5 (.view (u'.gas.map uV))))]
abbrev mX:List (Nat × Nat):=[(9,9),(4,4),(6,6),(94,94),(fz 43 11,11),(fz 43 13,13),(fz 43 15,15)]
section
variable (p:Pl)(log:List En)(s:bQ){i:Nat}{u u':Un}{w0 x:aj}{ws:List aj}{e:Int}
theorem KL (hi:s.units[i]? =some u)(hl:s.units.length<=1000)(hx:gY s x=(i:Nat))(n1: ¬w0= [110,111,116,101])(n2: ¬w0= [108,111,116])(n3: ¬w0= [117,110,105,116])(n4: ¬w0=lK)(n5: ¬w0=nn)(n6: ¬w0=lj)(n7: ¬w0=sv)(n8: ¬w0=wj)(n9: ¬w0=OE)
  (hU:GU 199 [dyn (true,bU p),nK log,dyn (Lg s),(true,cP u 11 13 15),dyn (V1 (w0::x::ws))] u (u',e))(he:e≠0):
  bt cx 111 1 [dyn (true,bU p),nK log,(true,zJ s),dyn (V1 (w0::x::ws))] (F1 s.units i u) [] (.aJ [(true,zJ s),dyn (I e)]) (FY s.units i u):=by
 have Uw:=(kp.1 hi).1;have bA:(se s.units).length =s.units.length:=by grind
 have ak:i< (se s.units).length :=by omega
 have cu:=λH fid=>zw (H:=H) (fid:=fid) (s:=s) (n:=x) hi hl;rw[hx]at cu;have hm:=al4 p log s u (w0::x::ws);refine gH f111 ?_;repeat' ((first|(refine kO 7 rfl ?_;first|refine ii (λ_ z=>⟨_,_,_,(cu _ _ rfl rfl rfl rfl),z⟩) ?_)|refine tX 0 ?_|exact Zt|refine bR ?_ ?_<;>intro h)<;>(try conv=>whnf))
 all_goals try exact Ze
 repeat((first|(refine kO 7 rfl ?_;first|refine so (λ_ z=>⟨_,_,_,(bW.Pt (Cz hU (uH rfl rfl rfl) hm) rfl (OH s p log u _)),z⟩) ?_)|refine tX 2 ?_|exact Zt);(try conv=>whnf))
 refine aS ?_;refine aQ ?_;(refine aR ?_;conv=>whnf);(try(refine tX 2 ?_;try exact Zt));refine⟨_,bs.trans (Fp 9 i (e':=unY u) rfl (IT ak) rfl (OG u 11 13 15)) (vn (E':=[(3,some (.val (dyn (V1 (w0::x::ws))))),(6,pP 4),(8,pP 6),(12,vI i),(13,pP 94),(14,vI e),(127,vBo (e != 0))]) (X:=sX s i u u') (m:=mX) (ks:=[3,6,8,12,13,14,127]) (n':=1000) rfl ⟨⟨9,_,by simp,rfl,by rw[List.set_set];exact sc (kl rfl)⟩,⟨4,_,by simp,rfl,rfl⟩,⟨6,_,by simp,rfl,rfl⟩,⟨94,_,by simp,rfl,rfl⟩,⟨fz 43 11,_,by simp,rfl,rfl⟩,⟨fz 43 13,_,by simp,rfl,rfl⟩,⟨fz 43 15,_,by simp,rfl,rfl⟩,trivial⟩ rfl rfl),?_⟩;repeat' ((first|refine tX 0 ?_|exact Zt|refine bR ?_ ?_<;>intro h)<;>(try conv=>whnf))
 all_goals first|exact Ze|exact⟨[(9,9)],nJ rfl ⟨⟨9,_,by simp,rfl,sc (kl rfl)⟩,trivial⟩,_,rfl,rfl⟩
theorem anJ (s:bQ)(i:Nat)(u u':Un)(m:List (Nat × Nat))(h:eZ m (cP u' 11 13 15)=some (cP u' 11 13 15):=by rfl):fp m (.aG 17 (((se s.units).set i (unY u)).set i (cP u' 11 13 15)))=some (.aG 17 ((se s.units).set i (cP u' 11 13 15))):=by grind[List.set_set,sc,kl]
theorem KM (hi:s.units[i]? =some u)(hl:s.units.length<=1000)(hx:gY s x=(i:Nat))(n1: ¬w0= [110,111,116,101])(n2: ¬w0= [108,111,116])(n3: ¬w0= [117,110,105,116])(n4: ¬w0=lK)(n5: ¬w0=nn)(n6: ¬w0=lj)(n7: ¬w0=sv)(n8: ¬w0=wj)(n9: ¬w0=OE)
  (hU:GU 199 [dyn (true,bU p),nK log,dyn (Lg s),(true,cP u 11 13 15),dyn (V1 (w0::x::ws))] u (u',0))(hw:w0= [101,110,116,101,114]):
  bt cx 111 1 [dyn (true,bU p),nK log,(true,zJ s),dyn (V1 (w0::x::ws))] (F1 s.units i u) [] (.aJ [(true,zJ {s with hall:=u'.name}),dyn (I 0)]) (F1 s.units i u'):=by
 exact K2
theorem OI (hi:s.units[i]? =some u)(hl:s.units.length<=1000)(hx:gY s x=(i:Nat))(n1: ¬w0= [110,111,116,101])(n2: ¬w0= [108,111,116])(n3: ¬w0= [117,110,105,116])(n4: ¬w0=lK)(n5: ¬w0=nn)(n6: ¬w0=lj)(n7: ¬w0=sv)(n8: ¬w0=wj)(n9: ¬w0=OE)
  (hU:GU 199 [dyn (true,bU p),nK log,dyn (Lg s),(true,cP u 11 13 15),dyn (V1 (w0::x::ws))] u (u',0))(hw:w0= [108,101,97,118,101]):
  bt cx 111 1 [dyn (true,bU p),nK log,(true,zJ s),dyn (V1 (w0::x::ws))] (F1 s.units i u) [] (.aJ [(true,zJ {s with hall:=[]}),dyn (I 0)]) (F1 s.units i u'):=by
 exact K2
theorem GK (hi:s.units[i]? =some u)(hl:s.units.length<=1000)(hx:gY s x=(i:Nat))(n1: ¬w0= [110,111,116,101])(n2: ¬w0= [108,111,116])(n3: ¬w0= [117,110,105,116])(n4: ¬w0=lK)(n5: ¬w0=nn)(n6: ¬w0=lj)(n7: ¬w0=sv)(n8: ¬w0=wj)(n9: ¬w0=OE)
  (hU:GU 199 [dyn (true,bU p),nK log,dyn (Lg s),(true,cP u 11 13 15),dyn (V1 (w0::x::ws))] u (u',0))(ne: ¬w0= [101,110,116,101,114])(nl: ¬w0= [108,101,97,118,101]):
  bt cx 111 1 [dyn (true,bU p),nK log,(true,zJ s),dyn (V1 (w0::x::ws))] (F1 s.units i u) [] (.aJ [(true,zJ s),dyn (I 0)]) (F1 s.units i u'):=by
 exact K2
end
def OJ (p:Pl)(log:List En)(s:bQ){w0 x:aj}{ws:List aj}(hl:s.units.length<=1000)(hx:gY s x<0)(n1: ¬w0= [110,111,116,101])(n2: ¬w0= [108,111,116])(n3: ¬w0= [117,110,105,116])(n4: ¬w0=lK)(n5: ¬w0=nn)(n6: ¬w0=lj)(n7: ¬w0=sv)(n8: ¬w0=wj)(n9: ¬w0=OE):
  GS 111 [dyn (true,bU p),nK log,(true,su s),dyn (V1 (w0::x::ws))] s (s,6):=by
 have cu:=λH fid=>zu (H:=H) (fid:=fid) (s:=s) (n:=x) hl;generalize gY s x=ix at*;exact K27
section
variable {s:bQ}(H:HF)(fid:Nat)
abbrev zD (n:Nat)(s:bQ):List DC:=[.st (K s.volt),.st (K s.earth),.own (fz n 5),.st (T s.hall),.own (fz n 7),.own (fz n 9)]
abbrev zV (n:Nat)(s:bQ):List DC:=[.st (K s.volt),.st (K s.earth),.st (.view (ab s.opens)),.st (T s.hall),.st (.view (ab s.lots)),.own (fz n 9)]
theorem Ry (h1:s.opens.length<=1000)(h2:s.lots.length<=1000)(h3:s.units.length<=1000)(hu: ∀u∈s.units,(u.lots.length<=1000/\u.res.length<=1000)/\u.gas.length<=1000):
  bW cx fid 112 [dyn (true,Aj s)] H (.val (true,zD (tag fid) s)) (cI [] (cS (fresh (tag fid) 0) (F0 s))) []:=
 Go.Fw.mq (Rk s h1 h2 h3 hu) (Ft s) (λx hx=>by
  have:x=dyn (true,Aj s):=by grind
  grind[bz]) (uz s)
theorem KN (us:List Un)(i:Nat)(u:Un):MH (F1 us i u):=by
 have hm: ∀e∈(se us).set i (cP u 11 13 15),∀d∈e,d.dQ (· ∈[9,11,13,15]):=λe he d hd=>by
  rcases Sh he with h|rfl
  ·exact ai8
  ·have:=uw u d hd
   exact DC.dL (λk hk=>by have:k=11\/k=13\/k=15:=by simpa [lA,ah]using hk
                          grind) this
 refine⟨by simp[F1],λk hk=>?_,λk b e=>?_⟩
 ·have:k=9\/k=11\/k=13\/k=15:=by simpa [F1,ah]using hk
  rcases this with rfl|rfl|rfl|rfl<;>exact⟨by decide,by decide,rfl⟩
 ·have hk:=Hp.dV e;have:k=9\/k=11\/k=13\/k=15:=by simpa [F1,ah]using hk
  rcases this with rfl|rfl|rfl|rfl
  ·cases e;exact hm
  all_goals(cases e;trivial)
theorem ag2 (us:List Un)(i:Nat)(u:Un):MH (FY us i u):=by
 refine⟨by simp[FY],λk hk=>?_,λk b e=>?_⟩
 ·have:k=9:=by simpa [FY,ah]using hk
  subst this;exact⟨by decide,by decide,rfl⟩
 ·have hk:=Hp.dV e;have:k=9:=by simpa [FY,ah]using hk
  subst this;cases e;intro e he d hd;rcases Sh he with h|rfl
  ·exact ai8
  ·simp only[unY,dh,mV,mY]at hd;rcases hd with rfl|rfl|rfl|rfl|rfl|rfl|rfl|rfl|rfl|rfl|rfl|rfl|rfl|rfl|rfl|rfl|rfl<;>trivial
theorem uA {ok:Nat->Prop}(h:ok 9)(s:bQ):ee ok (true,zJ s):=by
 intro d hd;simp only[zJ,dh,mV,mY]at hd;rcases hd with rfl|rfl|rfl|rfl|rfl|rfl<;>first|trivial|exact h
theorem Fu {i:Nat}{u:Un}(hi:s.units[i]? =some u)(h1:s.opens.length<=1000)(h2:s.lots.length<=1000)(h3:s.units.length<=1000)(hu: ∀u∈s.units,(u.lots.length<=1000/\u.res.length<=1000)/\u.gas.length<=1000):
  bW cx fid 112 [dyn (true,Aj s)] H (.val (true,zV (tag fid) s)) (cI [] (cS (fresh (tag fid) 0) (F1 s.units i u))) []:=
 Go.Fw.mq (Rl s hi h1 h2 h3 hu) (KN s.units i u) (λx hx=>by
  have:x=dyn (true,Aj s):=by grind
  grind[bz]) (uA aci s)
end
section
variable {p:Pl}{log:List En}{s:bQ}{w:List aj}{H:HF}{fid n:Nat}
def AL {ok:Nat->Prop}{st:List DC}(h:ee ok (true,st)): ∀x∈[dyn (true,bU p),nK log,(true,st),dyn (V1 w)],ee ok x:=λx hx=>by
 simp only[dh,mV,mY]at hx;rcases hx with rfl|rfl|rfl|rfl
 grind[bz]
 ·exact afM
 grind
 ·exact bz _
def Fv {ok:Nat->Prop}{st:List DC}{e:Int}(h:ee ok (true,st)):lG ok (.aJ [(true,st),dyn (I e)]):=λx hx=>by
 simp only[dh,mV,mY]at hx
 grind[bz]
def Rz {y:bQ × Int}(h:GS 111 [dyn (true,bU p),nK log,(true,su s),dyn (V1 w)] s y)(h5:some (.row true 1 (.view (ab s.opens)))=H (fz n 5))(h7:some (.row true 1 (.view (ab s.lots)))=H (fz n 7))(h9:some (.row true 17 (.view (s.units.map kz)))=H (fz n 9)):
  bW cx fid 111 [dyn (true,bU p),nK log,(true,zD n s),dyn (V1 w)] H (.aJ [(true,zD (tag fid) y.1),dyn (I y.2)]) (cI (cS (fresh n 0) (F0 s)) (cS (fresh (tag fid) 0) (F0 y.1))) (ah (cS (fresh n 0) (F0 s))):=by
 have:=w7 (fid:=fid) (n:=n) (H:=H) h (Ft s) (Ft y.1) (λk hk=>?_) (AL (uz s)) (Fv (uz y.1))
 ·exact this
 ·have:k=5\/k=7\/k=9:=by exact acd
  rcases this with rfl|rfl|rfl
  ·exact h5
  ·exact h7
  ·exact h9
def RA {i:Nat}{u u':Un}{y:bQ × Int}(h:bt cx 111 1 [dyn (true,bU p),nK log,(true,zJ s),dyn (V1 w)] (F1 s.units i u) [] (.aJ [(true,zJ y.1),dyn (I y.2)]) (F1 s.units i u'))
  (h9:some (.aG 17 (((se s.units).set i (cP u 11 13 15)).map λe=>e.map (DC.rn (fresh n 0))))=H (fz n 9))(ha:some (.row true 1 (.view (ab u.lots)))=H (fz n 11))(hb:some (.row true 4 (.view (u.res.map kG)))=H (fz n 13))(hc:some (.row true 5 (.view (u.gas.map uV)))=H (fz n 15)):
  bW cx fid 111 [dyn (true,bU p),nK log,(true,zV n s),dyn (V1 w)] H (.aJ [(true,zV (tag fid) y.1),dyn (I y.2)]) (cI (cS (fresh n 0) (F1 s.units i u)) (cS (fresh (tag fid) 0) (F1 s.units i u'))) (ah (cS (fresh n 0) (F1 s.units i u))):=by
 have:=w7 (fid:=fid) (n:=n) (H:=H) h (KN s.units i u) (KN s.units i u') (λk hk=>?_) (AL (uA aci s)) (Fv (uA aci y.1))
 ·exact this
 ·exact aig
def RC {i:Nat}{u:Un}{e:Int}(h:bt cx 111 1 [dyn (true,bU p),nK log,(true,zJ s),dyn (V1 w)] (F1 s.units i u) [] (.aJ [(true,zJ s),dyn (I e)]) (FY s.units i u))
  (h9:some (.aG 17 (((se s.units).set i (cP u 11 13 15)).map λe=>e.map (DC.rn (fresh n 0))))=H (fz n 9))(ha:some (.row true 1 (.view (ab u.lots)))=H (fz n 11))(hb:some (.row true 4 (.view (u.res.map kG)))=H (fz n 13))(hc:some (.row true 5 (.view (u.gas.map uV)))=H (fz n 15)):
  bW cx fid 111 [dyn (true,bU p),nK log,(true,zV n s),dyn (V1 w)] H (.aJ [(true,zV (tag fid) s),dyn (I e)]) (cI (cS (fresh n 0) (F1 s.units i u)) (cS (fresh (tag fid) 0) (FY s.units i u))) (ah (cS (fresh n 0) (F1 s.units i u))):=by
 have:=w7 (fid:=fid) (n:=n) (H:=H) h (KN s.units i u) (ag2 s.units i u) (λk hk=>?_) (AL (uA aci s)) (Fv (uA (by simp[FY]) s))
 ·exact this
 ·exact aig
end
abbrev adU:List SC:=[.any,.any,.any,.any,.any,.any]
abbrev nxR (y:bQ × Int):ma:=.aJ [(true,if y.2=0 then Aj y.1 else adU),I y.2]
def Stp (p:Pl)(log:List En)(s:bQ)(w:List aj)(y:bQ × Int):Prop:=
 GS 111 [dyn (true,bU p),nK log,(true,su s),dyn (V1 w)] s y\/
 (∃i u,s.units[i]? =some u/\y.2≠0/\bt cx 111 1 [dyn (true,bU p),nK log,(true,zJ s),dyn (V1 w)] (F1 s.units i u) [] (.aJ [(true,zJ s),dyn (I y.2)]) (FY s.units i u))\/
 (∃i u u',s.units[i]? =some u/\y.2=0/\y.1.units=s.units.set i u'/\bt cx 111 1 [dyn (true,bU p),nK log,(true,zJ s),dyn (V1 w)] (F1 s.units i u) [] (.aJ [(true,zJ y.1),dyn (I y.2)]) (F1 s.units i u'))
def fR (p:Pl)(lu:aj):Int:=if lu∈p.ay then(p.ae.getD (aZ p.ay lu).toNat ([],0)).2 else -1
def pre (p:Pl)(log:List En)(e:En):Int:=
 if fR p e.lu<0 then 6 else if ¬(0<=e.t/\e.t<=1000000000000)then 2 else if e.t<il log then 9 else if 400<e.text.length then 8 else 0
def pV {H:HF}(ds:List DC)(s:bQ)(e:Int)(he:e≠0)(hd:ds.length=6:=by rfl):HH H [(true,ds),dyn (I e)] (λr'=>r'=nxR (s,e)):=by
 refine⟨[(true,adU),I e],[],bK ⟨rfl,hd.symm,λk d c _ hc=>?_⟩ (bK (k9 _) jM),rfl,?_⟩
 ·have:c= .any :=by
   have:=jv hc;simpa using this
  subst this;exact .any d
 ·show Y4 _=ma.aJ _;rw[if_neg he];rfl
section
variable (p:Pl)(log:List En)(s:bQ)(e:En)
theorem aa7 (hp:p.ae.length<=1000)(hl:log.length<=1000)(ht:e.text.length<=100000)(h:pre p log e≠0):
  ac 65 [(true,bU p),(false,[.view (log.map cY)]),(true,Aj s),(true,cY e)] (nxR (s,pre p log e)):=by
 have c1:=mR p e.lu hp;have c2:=gj e.t;have uF:(log.map cY).length =log.length:=by simp
 have amI:0<log.length->(log.map cY)[log.length -1]? =some (cY (log.getD (log.length -1) gD))/\il log=(log.getD (log.length -1) gD).t :=λh=>⟨bg (f:=cY) K0 gD,by
  unfold il;rw[List.getLast?_eq_getElem?,jP]
  rw[oX K0];rfl⟩
 have amA:log.length=0->il log=0:=λh=>by rw[CG.1 h];rfl
 rw[show(if e.lu∈p.ay then(p.ae.getD (aZ p.ay e.lu).toNat ([],0)).2 else -1)=fR p e.lu from rfl]at c1;have h6:fR p e.lu<0->pre p log e=6:=λa=>by simp[pre,a]
 have h2:0<=fR p e.lu->¬(0<=e.t/\e.t<=1000000000000)->pre p log e=2:=λa b=>by unfold pre;rw[if_neg K0,if_pos b]
 have h9:0<=fR p e.lu->(0<=e.t/\e.t<=1000000000000)->e.t<il log->pre p log e=9:=λa b c=>by unfold pre;rw[if_neg K0,if_neg (λx=>x b),if_pos c]
 have h8:0<=fR p e.lu->(0<=e.t/\e.t<=1000000000000)->¬e.t<il log->400<e.text.length->pre p log e=8:=λa b c d=>by unfold pre;rw[if_neg K0,if_neg (λx=>x b),if_neg c,if_pos d]
 have h0:0<=fR p e.lu->(0<=e.t/\e.t<=1000000000000)->¬e.t<il log->¬400<e.text.length->pre p log e=0:=λa b c d=>by unfold pre;rw[if_neg K0,if_neg (λx=>x b),if_neg c,if_neg d]
 generalize pre p log e=P at*;generalize fR p e.lu=ro at*;generalize il log=lt at*;by_cases sC:log.length=0
 ·have:=amA sC;refine sW (fn:=f65) ?_;repeat' ((first|refine tX 0 ?_|exact Zt|refine bR ?_ ?_<;>intro h)<;>(try conv=>whnf))
  all_goals try(exfalso;omega)
  all_goals first|(obtain rfl:P=6:=by omega);exact pV _ _ 6 K9|(obtain rfl:P=2:=by omega);exact pV _ _ 2 K9|(obtain rfl:P=9:=by omega);exact pV _ _ 9 K9|(obtain rfl:P=8:=by omega);exact pV _ _ 8 K9
 ·obtain⟨uE,ak⟩:=amI K0;haveI hnat:dN (((log.map cY).length :Int) -1) (log.length -1):=⟨by omega⟩;generalize log.getD (log.length -1) gD=en at*;refine sW (fn:=f65) ?_;repeat' ((first|refine tX 0 ?_|exact Zt|refine bR ?_ ?_<;>intro h)<;>(try conv=>whnf))
  all_goals try(exfalso;omega)
  all_goals first|(obtain rfl:P=6:=by omega);exact pV _ _ 6 K9|(obtain rfl:P=2:=by omega);exact pV _ _ 2 K9|(obtain rfl:P=9:=by omega);exact pV _ _ 9 K9|(obtain rfl:P=8:=by omega);exact pV _ _ 8 K9
end
def Fx {p:Pl}{log:List En}{e:En}(h:pre p log e=0):0<=fR p e.lu/\(0<=e.t/\e.t<=1000000000000)/\il log<=e.t/\e.text.length<=400:=by
 unfold pre at h
 grind
def zx {log:List En}(h: ¬log.length=0):(log.map cY)[log.length -1]? =some (cY (log.getD (log.length -1) gD))/\il log=(log.getD (log.length -1) gD).t :=⟨bg (f:=cY) K0 gD,by
  grind[il]⟩
abbrev nS (p:Pl)(log:List En)(s:bQ)(e:En)(ro:Int)(i:Nat):St:=⟨[(1,some (.val (nK log))),(4,pP 0),(6,pP 2),(7,pP 4),(8,pP 6),(10,vI ro),(11,vI i)],[(0,some (.box 27 (dyn (true,bU p)).2)),(2,some (.box 58 (dyn (true,Aj s)).2)),(4,some (.box 36 (dyn (true,cY e)).2)),(6,some (.box 58 [.st (K false),.st (K false),.nil,.st (T []),.nil,.nil]))],1000⟩
section
variable (p:Pl)(log:List En)(s:bQ)(e:En)
theorem qM (hp:p.ae.length<=1000)(hl:log.length<=1000)(o6:pre p log e=0){ws:List aj}{k:Int}{ok nb:Bool}(Xu:HN e.text=(ws,k,ok))(hk:k<0\/∃j:Nat,k=j/\j<19)(hnb:ok=true->ac 110 [V1 ws] (.one (Bo nb)))
  (P:Int)(h0:P≠0)(h3: ¬aU e.text->P=3)(h7:aU e.text->k<0->P=7)(h18: ∀j:Nat,aU e.text->k=j->fR p e.lu< (vb j).role ->P=18)(h7': ∀j:Nat,aU e.text->k=j->(vb j).role <=fR p e.lu->ok=false\/nb=false->P=7)
  (hz: ∀j:Nat,aU e.text->k=j->(vb j).role <=fR p e.lu->ok=true->nb=true->P=0):
  ac 65 [(true,bU p),(false,[.view (log.map cY)]),(true,Aj s),(true,cY e)] (nxR (s,P)):=by
 have c1:=mR p e.lu hp;have c2:=gj e.t;have uF:(log.map cY).length =log.length:=by simp
 obtain⟨g1,g2,g3,g4⟩:=Fx o6;have c3:=jF e.text K0;rw[Xu]at c3;dsimp only at c3;have c4:=lf;rw[show(if e.lu∈p.ay then(p.ae.getD (aZ p.ay e.lu).toNat ([],0)).2 else -1)=fR p e.lu from rfl]at c1;generalize fR p e.lu=ro at*;refine sW (fn:=f65) ?_;by_cases sC:log.length=0;rotate_left
 ·obtain⟨uE,ak⟩:=zx sC;haveI hnat:dN (((log.map cY).length :Int) -1) (log.length -1):=⟨by omega⟩;generalize log.getD (log.length -1) gD=en at*;repeat' ((first|refine tX 0 ?_|exact Zt|refine bR ?_ ?_<;>intro h)<;>(try conv=>whnf))
  all_goals try(exfalso;omega)
  ·refine af (ι:=Nat) (λi=>i<=e.text.length/\sL e.text i) (λi=>e.text.length -i) (nS p log s e ro) 0 Zc ⟨dM _,λj hj=>by omega⟩ ?_;rintro i ⟨hi,hp⟩;by_cases ak:i<e.text.length
   ·have dy: ¬(32<=(e.text.getD i 0).toNat /\(e.text.getD i 0).toNat <=126)->¬aU e.text:=λh hh=>h (hh i ak);have l8:32<=(e.text.getD i 0).toNat /\(e.text.getD i 0).toNat <=126->sL e.text (i+1):=λh j hj=>by exact afN
    have FJ:((e.text.getD i 0).toNat :Int)<=255:=by exact LW
    repeat' ((first|refine tX 0 ?_|exact Zt|refine bR ?_ ?_<;>intro h)<;>(try conv=>whnf))
    all_goals first|exact Zo|exact⟨i+1,⟨ak,l8 K0⟩,by omega,Zc⟩|(obtain rfl:P=3:=h3 (dy K0);exact pV _ _ 3 K9)
   ·obtain rfl:i=e.text.length:=by omega
    have zC:aU e.text:=hp;have h3:=h3;clear h3;rcases hk with hk|⟨j,rfl,hj⟩
    ·obtain rfl:P=7:=h7 zC hk;repeat' ((first|refine tX 0 ?_|exact Zt|refine bR ?_ ?_<;>intro h)<;>(try conv=>whnf))
     all_goals first|exact Zo|exact pV _ _ 7 K9
    ·have Xo:(kf.map Rg).length =19:=rfl;have hv:=bg (f:=Rg) (l:=kf) hj vl;replace h18:=h18 j zC rfl;replace h7':=h7' j zC rfl;replace hz:=hz j zC rfl;rw[show vb j=(kf.getD j vl).2 from rfl]at h18 h7' hz;generalize kf.getD j vl=q at*;by_cases hr:ro<q.2.role
     ·obtain rfl:P=18:=h18 hr;repeat' ((first|refine tX 0 ?_|exact Zt|refine bR ?_ ?_<;>intro h)<;>(try conv=>whnf))
      all_goals first|exact Zo|exact pV _ _ 18 K9
     ·cases ok
      ·obtain rfl:P=7:=h7' K0 (.inl rfl);repeat' ((first|refine tX 0 ?_|exact Zt|refine bR ?_ ?_<;>intro h)<;>(try conv=>whnf))
       all_goals first|exact Zo|exact pV _ _ 7 K9
      ·have c5:=hnb rfl;cases nb
       ·obtain rfl:P=7:=h7' K0 (.inr rfl);repeat' ((first|refine tX 0 ?_|exact Zt|refine bR ?_ ?_<;>intro h)<;>(try conv=>whnf))
        all_goals first|exact Zo|exact pV _ _ 7 K9
       grind
 ·repeat' ((first|refine tX 0 ?_|exact Zt|refine bR ?_ ?_<;>intro h)<;>(try conv=>whnf))
  all_goals try(exfalso;omega)
  ·refine af (ι:=Nat) (λi=>i<=e.text.length/\sL e.text i) (λi=>e.text.length -i) (nS p log s e ro) 0 Zc ⟨dM _,λj hj=>by omega⟩ ?_;rintro i ⟨hi,hp⟩;by_cases ak:i<e.text.length
   ·have dy: ¬(32<=(e.text.getD i 0).toNat /\(e.text.getD i 0).toNat <=126)->¬aU e.text:=λh hh=>h (hh i ak);have l8:32<=(e.text.getD i 0).toNat /\(e.text.getD i 0).toNat <=126->sL e.text (i+1):=λh j hj=>by exact afN
    have FJ:((e.text.getD i 0).toNat :Int)<=255:=by exact LW
    repeat' ((first|refine tX 0 ?_|exact Zt|refine bR ?_ ?_<;>intro h)<;>(try conv=>whnf))
    all_goals first|exact Zo|exact⟨i+1,⟨ak,l8 K0⟩,by omega,Zc⟩|(obtain rfl:P=3:=h3 (dy K0);exact pV _ _ 3 K9)
   ·obtain rfl:i=e.text.length:=by omega
    have zC:aU e.text:=hp;have h3:=h3;clear h3;rcases hk with hk|⟨j,rfl,hj⟩
    ·obtain rfl:P=7:=h7 zC hk;repeat' ((first|refine tX 0 ?_|exact Zt|refine bR ?_ ?_<;>intro h)<;>(try conv=>whnf))
     all_goals first|exact Zo|exact pV _ _ 7 K9
    ·have Xo:(kf.map Rg).length =19:=rfl;have hv:=bg (f:=Rg) (l:=kf) hj vl;replace h18:=h18 j zC rfl;replace h7':=h7' j zC rfl;replace hz:=hz j zC rfl;rw[show vb j=(kf.getD j vl).2 from rfl]at h18 h7' hz;generalize kf.getD j vl=q at*;by_cases hr:ro<q.2.role
     ·obtain rfl:P=18:=h18 hr;repeat' ((first|refine tX 0 ?_|exact Zt|refine bR ?_ ?_<;>intro h)<;>(try conv=>whnf))
      all_goals first|exact Zo|exact pV _ _ 18 K9
     ·cases ok
      ·obtain rfl:P=7:=h7' K0 (.inl rfl);repeat' ((first|refine tX 0 ?_|exact Zt|refine bR ?_ ?_<;>intro h)<;>(try conv=>whnf))
       all_goals first|exact Zo|exact pV _ _ 7 K9
      ·have c5:=hnb rfl;cases nb
       ·obtain rfl:P=7:=h7' K0 (.inr rfl);repeat' ((first|refine tX 0 ?_|exact Zt|refine bR ?_ ?_<;>intro h)<;>(try conv=>whnf))
        all_goals first|exact Zo|exact pV _ _ 7 K9
       grind
end
end Go.Proofs.Tryz
