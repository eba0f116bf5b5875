import Derived.Test.YtolnfpljgjpbpaaGreatDoorPk30
set_option linter.all false
set_option maxRecDepth 100000
set_option maxHeartbeats 8000000
namespace Go.Proofs.Tryz
open Go.Fw Go.IntWalk Go.Plain
abbrev unY (u:Un):List DC:=[.st (T u.name),.st (J u.win.k1),.st (J u.win.t1),.st (J u.win.s1),.st (K u.win.r1),.st (J u.win.k2),.st (J u.win.t2),.st (J u.win.s2),.st (K u.win.r2),.st (J u.win.st),.st .any,.st .any,.st (K u.failed),.st (K u.rel),.st (K u.shaken),.st (J u.used),.st .any]
def zJ (u:Un)(a b c:Nat): ∀(k:Nat) (d d':DC),(cV u a b c)[k]? =some d->(unY u)[k]? =some d'->OS d d':=λk d d' h h'=>by
 match k with
 |0|1|2|3|4|5|6|7|8|9|12|13|14|15=>cases h;cases h';exact .inl rfl
 |10|11|16=>cases h';exact .inr rfl
 |k+17=>simp_all
def abc {H:HF}{us:List Un}{i:Nat}{u:Un}(hi:us[i]? =some u)(h9:H 9=some (.az 17 ((qa us).set i (cV u 11 13 15))))(ha:H 11=some (.row true 1 (.view (ab u.lots))))(hb:H 13=some (.row true 4 (.view (u.res.map kg))))(hc:H 15=some (.row true 5 (.view (u.gas.map tp)))):
  Full H [9,11,13,15] (.own 9) (.view (us.map jB)):=by
 have R8:=(kF.1 hi).1;have n2:(qa us).length =us.length:=by grind
 have C4: ∀ {j:Nat} {e:List DC} {e':List SC},((qa us).set i (cV u 11 13 15))[j]? =some e->(us.map jB)[j]? =some e'->(e=cV u 11 13 15/\e'=jB u)\/e=e'.map .st :=λ{j e e'} h h'=>by grind
 refine .az (by simp) h9 (by grind) (λj e e' h h'=>?_) (λj e e' k d c h h' hd Hq=>?_) (λj e' k c h' Hq=>?_)
 ·rcases C4 h h' with⟨rfl,rfl⟩|rfl
  ·rfl
  ·simp
 ·rcases C4 h h' with⟨rfl,rfl⟩|rfl
  ·exact uU (by simp) ha hb hc k d c hd Hq
  ·rw[gA,Hq]at hd;cases hd;exact .st _
 grind[FR]
def nO {H:HF}{fid:Nat}{s:bV}{n:aj}{i:Nat}{u:Un}(hi:s.units[i]? =some u)(hl:s.units.length<=1000)(h9:H 9=some (.az 17 ((qa s.units).set i (cV u 11 13 15))))(ha:H 11=some (.row true 1 (.view (ab u.lots))))(hb:H 13=some (.row true 4 (.view (u.res.map kg))))(hc:H 15=some (.row true 5 (.view (u.gas.map tp)))):
  bI cx fid 133 [(true,Ab s),(false,[.st (T n)])] H (.val (dyn (I (iB s n)))) [] [9,11,13,15]:=
 iK (bp ⟨rfl,rfl,ak (.st _)<|ak (.st _)<|ak (.st _)<|ak (.st _)<|ak (.st _)<|ak (abc hi h9 ha hb hc) jl⟩ (bp (kj (.st _)) gZ)) (wQ s n hl) rfl ⟨rfl,rfl,rfl⟩
def zK (s:bV)(p:Pl)(log:List En)(u:Un)(w:List aj): ∀(k:Nat) (x x':DX),[dyn (true,bL p),nN log,dyn (LF s),(true,cV u 11 13 15),dyn (V1 w)][k]? =some x->[dyn (true,bL p),nN log,(true,Ab s),(true,cV u 11 13 15),dyn (V1 w)][k]? =some x'->x.1=x'.1/\x.2.length=x'.2.length/\∀(j:Nat) (d d':DC),x'.2[j]? =some d->x.2[j]? =some d'->OS d d':=λk x x' h h'=>by
 match k with
 |0|1|3|4=>cases h;cases h';exact⟨rfl,rfl,λj d d' a b=>by rw[a]at b;cases b;exact .inl rfl⟩
 |2=>
  cases h;cases h';refine⟨rfl,rfl,λj d d' a b=>?_⟩
  match j with
  |0|1|2|3|4=>cases a;cases b;exact .inl rfl
  |5=>cases b;exact .inr rfl
  |j+6=>simp_all
 |k+5=>grind
def FY (us:List Un)(i:Nat)(u:Un):Hp:=[(9,some (.az 17 ((qa us).set i (unY u))))]
def adZ (p:Pl)(log:List En)(s:bV)(u:Un)(w:List aj): ∀x'∈[dyn (true,bL p),nN log,dyn (LF s),(true,cV u 11 13 15),dyn (V1 w)],ec (· ∈ah (lC u 11 13 15)) x':=λx' tu=>by
 simp only[cF,jN,jO]at tu;rcases tu with rfl|rfl|rfl|rfl|rfl
 grind[bd]
 ·intro d hd;have:d= .st (.view (log.map cd)):=by grind
  subst this;trivial
 grind[bd]
 grind[uV]
 grind[bd]
abbrev sX (s:bV)(i:Nat)(u u':Un):Hp:=[(9,some (.az 17 ((qa s.units).set i (unY u)))),(4,some (.box 35 (Ab s))),(6,some (.box 35 [.st (K false),.st (K false),.nil,.st (T []),.nil,.nil])),(94,some (.box 94 (cV u' 11 13 15))),(11,some (.row true 1 (.view (ab u'.lots)))),(13,some (.row true 4 (.view (u'.res.map kg)))),(15,some (.row true 5 (.view (u'.gas.map tp))))]
abbrev mX:List (Nat × Nat):=[(9,9),(4,4),(6,6),(94,94),(fz 43 11,11),(fz 43 13,13),(fz 43 15,15)]
section
variable (p:Pl)(log:List En)(s:bV){i:Nat}{u u':Un}{w0 x:aj}{ws:List aj}{e:Int}
theorem Lc (hi:s.units[i]? =some u)(hl:s.units.length<=1000)(hx:iB s x=(i:Nat))(n1: ¬w0= [110,111,116,101])(n2: ¬w0= [108,111,116])(n3: ¬w0= [117,110,105,116])(n4: ¬w0=lL)(n5: ¬w0=nw)(n6: ¬w0=lq)(n7: ¬w0=sN)(n8: ¬w0=wP)(n9: ¬w0=OY)
  (hU:GU 136 [dyn (true,bL p),nN log,dyn (LF s),(true,cV u 11 13 15),dyn (V1 (w0::x::ws))] u (u',e))(he:e≠0):
  bA cx 98 1 [dyn (true,bL p),nN log,(true,Ab s),dyn (V1 (w0::x::ws))] (F1 s.units i u) [] (.aI [(true,Ab s),dyn (I e)]) (FY s.units i u):=by
 have R8:=(kF.1 hi).1;have bD:(qa s.units).length =s.units.length:=by grind
 have al:i< (qa s.units).length :=by omega
 have cu:=λH fid=>nO (H:=H) (fid:=fid) (s:=s) (n:=x) hi hl;rw[hx]at cu;have hm:=adZ p log s u (w0::x::ws);refine gH f98 ?_;repeat' ((first|(refine kO 7 rfl ?_;first|refine gu (λ_ z=>⟨_,_,_,(cu _ _ rfl rfl rfl rfl),z⟩) ?_)|refine tX 0 ?_|exact Zt|refine bR ?_ ?_<;>intro h)<;>(try conv=>whnf))
 all_goals try exact Ze
 repeat((first|(refine kO 7 rfl ?_;first|refine oa (λ_ z=>⟨_,_,_,(bI.Jh (vS hU (uH rfl rfl rfl) hm) rfl (zK s p log u _)),z⟩) ?_)|refine tX 2 ?_|exact Zt);(try conv=>whnf))
 refine aS ?_;refine aM ?_;(refine aR ?_;conv=>whnf);(try(refine tX 2 ?_;try exact Zt));refine⟨_,bu.trans (sr 9 i (e':=unY u) rfl (C9 al) rfl (zJ u 11 13 15)) (pM (E':=[(3,some (.val (dyn (V1 (w0::x::ws))))),(6,pP 4),(8,pP 6),(12,vI i),(13,pP 94),(14,vI e),(127,vBo (e != 0))]) (X:=sX s i u u') (m:=mX) (ks:=[3,6,8,12,13,14,127]) (n':=1000) rfl ⟨⟨9,_,by simp,rfl,by rw[Mi];exact o5 (iF rfl)⟩,⟨4,_,by simp,rfl,rfl⟩,⟨6,_,by simp,rfl,rfl⟩,⟨94,_,by simp,rfl,rfl⟩,⟨fz 43 11,_,by simp,rfl,rfl⟩,⟨fz 43 13,_,by simp,rfl,rfl⟩,⟨fz 43 15,_,by simp,rfl,rfl⟩,trivial⟩ rfl rfl),?_⟩;repeat' ((first|refine tX 0 ?_|exact Zt|refine bR ?_ ?_<;>intro h)<;>(try conv=>whnf))
 all_goals first|exact Ze|exact⟨[(9,9)],ln rfl ⟨⟨9,_,by simp,rfl,o5 (iF rfl)⟩,trivial⟩,_,rfl,rfl⟩
theorem agS (s:bV)(i:Nat)(u u':Un)(m:List (Nat × Nat))(h:eX m (cV u' 11 13 15)=some (cV u' 11 13 15):=by rfl):fq m (.az 17 (((qa s.units).set i (unY u)).set i (cV u' 11 13 15)))=some (.az 17 ((qa s.units).set i (cV u' 11 13 15))):=by grind[List.set_set,o5,iF]
theorem Ld (hi:s.units[i]? =some u)(hl:s.units.length<=1000)(hx:iB s x=(i:Nat))(n1: ¬w0= [110,111,116,101])(n2: ¬w0= [108,111,116])(n3: ¬w0= [117,110,105,116])(n4: ¬w0=lL)(n5: ¬w0=nw)(n6: ¬w0=lq)(n7: ¬w0=sN)(n8: ¬w0=wP)(n9: ¬w0=OY)
  (hU:GU 136 [dyn (true,bL p),nN log,dyn (LF s),(true,cV u 11 13 15),dyn (V1 (w0::x::ws))] u (u',0))(hw:w0= [101,110,116,101,114]):
  bA cx 98 1 [dyn (true,bL p),nN log,(true,Ab s),dyn (V1 (w0::x::ws))] (F1 s.units i u) [] (.aI [(true,Ab {s with hall:=u'.name}),dyn (I 0)]) (F1 s.units i u'):=by
 have R8:=(kF.1 hi).1;have bD:(qa s.units).length =s.units.length:=by grind
 have al:i< (qa s.units).length :=by omega
 have cu:=λH fid=>nO (H:=H) (fid:=fid) (s:=s) (n:=x) hi hl;rw[hx]at cu;have hm:=adZ p log s u (w0::x::ws);refine gH f98 ?_;repeat' ((first|(refine kO 7 rfl ?_;first|refine gu (λ_ z=>⟨_,_,_,(cu _ _ rfl rfl rfl rfl),z⟩) ?_)|refine tX 0 ?_|exact Zt|refine bR ?_ ?_<;>intro h)<;>(try conv=>whnf))
 all_goals try exact Ze
 repeat((first|(refine kO 7 rfl ?_;first|refine oa (λ_ z=>⟨_,_,_,(bI.Jh (vS hU (uH rfl rfl rfl) hm) rfl (zK s p log u _)),z⟩) ?_)|refine tX 2 ?_|exact Zt);(try conv=>whnf))
 refine aS ?_;refine aM ?_;(refine aR ?_;conv=>whnf);(try(refine tX 2 ?_;try exact Zt));refine⟨_,bu.trans (sr 9 i (e':=unY u) rfl (C9 al) rfl (zJ u 11 13 15)) (pM (E':=[(3,some (.val (dyn (V1 (w0::x::ws))))),(6,pP 4),(8,pP 6),(12,vI i),(13,pP 94),(14,vI 0),(127,vBo (0 != 0))]) (X:=sX s i u u') (m:=mX) (ks:=[3,6,8,12,13,14,127]) (n':=1000) rfl ⟨⟨9,_,by simp,rfl,by rw[Mi];exact o5 (iF rfl)⟩,⟨4,_,by simp,rfl,rfl⟩,⟨6,_,by simp,rfl,rfl⟩,⟨94,_,by simp,rfl,rfl⟩,⟨fz 43 11,_,by simp,rfl,rfl⟩,⟨fz 43 13,_,by simp,rfl,rfl⟩,⟨fz 43 15,_,by simp,rfl,rfl⟩,trivial⟩ rfl rfl),?_⟩;repeat' ((first|refine tX 0 ?_|exact Zt|refine bR ?_ ?_<;>intro h)<;>(try conv=>whnf))
 all_goals first|exact Zs|exact⟨[(9,9),(11,11),(13,13),(15,15)],ln rfl ⟨⟨9,_,by simp,rfl,agS s i u u' _⟩,⟨11,_,by simp,rfl,rfl⟩,⟨13,_,by simp,rfl,rfl⟩,⟨15,_,by simp,rfl,rfl⟩,trivial⟩,_,rfl,rfl⟩
theorem O0 (hi:s.units[i]? =some u)(hl:s.units.length<=1000)(hx:iB s x=(i:Nat))(n1: ¬w0= [110,111,116,101])(n2: ¬w0= [108,111,116])(n3: ¬w0= [117,110,105,116])(n4: ¬w0=lL)(n5: ¬w0=nw)(n6: ¬w0=lq)(n7: ¬w0=sN)(n8: ¬w0=wP)(n9: ¬w0=OY)
  (hU:GU 136 [dyn (true,bL p),nN log,dyn (LF s),(true,cV u 11 13 15),dyn (V1 (w0::x::ws))] u (u',0))(hw:w0= [108,101,97,118,101]):
  bA cx 98 1 [dyn (true,bL p),nN log,(true,Ab s),dyn (V1 (w0::x::ws))] (F1 s.units i u) [] (.aI [(true,Ab {s with hall:=[]}),dyn (I 0)]) (F1 s.units i u'):=by
 have R8:=(kF.1 hi).1;have bD:(qa s.units).length =s.units.length:=by grind
 have al:i< (qa s.units).length :=by omega
 have cu:=λH fid=>nO (H:=H) (fid:=fid) (s:=s) (n:=x) hi hl;rw[hx]at cu;have hm:=adZ p log s u (w0::x::ws);refine gH f98 ?_;repeat' ((first|(refine kO 7 rfl ?_;first|refine gu (λ_ z=>⟨_,_,_,(cu _ _ rfl rfl rfl rfl),z⟩) ?_)|refine tX 0 ?_|exact Zt|refine bR ?_ ?_<;>intro h)<;>(try conv=>whnf))
 all_goals try exact Ze
 repeat((first|(refine kO 7 rfl ?_;first|refine oa (λ_ z=>⟨_,_,_,(bI.Jh (vS hU (uH rfl rfl rfl) hm) rfl (zK s p log u _)),z⟩) ?_)|refine tX 2 ?_|exact Zt);(try conv=>whnf))
 refine aS ?_;refine aM ?_;(refine aR ?_;conv=>whnf);(try(refine tX 2 ?_;try exact Zt));refine⟨_,bu.trans (sr 9 i (e':=unY u) rfl (C9 al) rfl (zJ u 11 13 15)) (pM (E':=[(3,some (.val (dyn (V1 (w0::x::ws))))),(6,pP 4),(8,pP 6),(12,vI i),(13,pP 94),(14,vI 0),(127,vBo (0 != 0))]) (X:=sX s i u u') (m:=mX) (ks:=[3,6,8,12,13,14,127]) (n':=1000) rfl ⟨⟨9,_,by simp,rfl,by rw[Mi];exact o5 (iF rfl)⟩,⟨4,_,by simp,rfl,rfl⟩,⟨6,_,by simp,rfl,rfl⟩,⟨94,_,by simp,rfl,rfl⟩,⟨fz 43 11,_,by simp,rfl,rfl⟩,⟨fz 43 13,_,by simp,rfl,rfl⟩,⟨fz 43 15,_,by simp,rfl,rfl⟩,trivial⟩ rfl rfl),?_⟩;repeat' ((first|refine tX 0 ?_|exact Zt|refine bR ?_ ?_<;>intro h)<;>(try conv=>whnf))
 all_goals first|exact Zs|exact⟨[(9,9),(11,11),(13,13),(15,15)],ln rfl ⟨⟨9,_,by simp,rfl,agS s i u u' _⟩,⟨11,_,by simp,rfl,rfl⟩,⟨13,_,by simp,rfl,rfl⟩,⟨15,_,by simp,rfl,rfl⟩,trivial⟩,_,rfl,rfl⟩
theorem Ho (hi:s.units[i]? =some u)(hl:s.units.length<=1000)(hx:iB s x=(i:Nat))(n1: ¬w0= [110,111,116,101])(n2: ¬w0= [108,111,116])(n3: ¬w0= [117,110,105,116])(n4: ¬w0=lL)(n5: ¬w0=nw)(n6: ¬w0=lq)(n7: ¬w0=sN)(n8: ¬w0=wP)(n9: ¬w0=OY)
  (hU:GU 136 [dyn (true,bL p),nN log,dyn (LF s),(true,cV u 11 13 15),dyn (V1 (w0::x::ws))] u (u',0))(ne: ¬w0= [101,110,116,101,114])(nl: ¬w0= [108,101,97,118,101]):
  bA cx 98 1 [dyn (true,bL p),nN log,(true,Ab s),dyn (V1 (w0::x::ws))] (F1 s.units i u) [] (.aI [(true,Ab s),dyn (I 0)]) (F1 s.units i u'):=by
 have R8:=(kF.1 hi).1;have bD:(qa s.units).length =s.units.length:=by grind
 have al:i< (qa s.units).length :=by omega
 have cu:=λH fid=>nO (H:=H) (fid:=fid) (s:=s) (n:=x) hi hl;rw[hx]at cu;have hm:=adZ p log s u (w0::x::ws);refine gH f98 ?_;repeat' ((first|(refine kO 7 rfl ?_;first|refine gu (λ_ z=>⟨_,_,_,(cu _ _ rfl rfl rfl rfl),z⟩) ?_)|refine tX 0 ?_|exact Zt|refine bR ?_ ?_<;>intro h)<;>(try conv=>whnf))
 all_goals try exact Ze
 repeat((first|(refine kO 7 rfl ?_;first|refine oa (λ_ z=>⟨_,_,_,(bI.Jh (vS hU (uH rfl rfl rfl) hm) rfl (zK s p log u _)),z⟩) ?_)|refine tX 2 ?_|exact Zt);(try conv=>whnf))
 refine aS ?_;refine aM ?_;(refine aR ?_;conv=>whnf);(try(refine tX 2 ?_;try exact Zt));refine⟨_,bu.trans (sr 9 i (e':=unY u) rfl (C9 al) rfl (zJ u 11 13 15)) (pM (E':=[(3,some (.val (dyn (V1 (w0::x::ws))))),(6,pP 4),(8,pP 6),(12,vI i),(13,pP 94),(14,vI 0),(127,vBo (0 != 0))]) (X:=sX s i u u') (m:=mX) (ks:=[3,6,8,12,13,14,127]) (n':=1000) rfl ⟨⟨9,_,by simp,rfl,by rw[Mi];exact o5 (iF rfl)⟩,⟨4,_,by simp,rfl,rfl⟩,⟨6,_,by simp,rfl,rfl⟩,⟨94,_,by simp,rfl,rfl⟩,⟨fz 43 11,_,by simp,rfl,rfl⟩,⟨fz 43 13,_,by simp,rfl,rfl⟩,⟨fz 43 15,_,by simp,rfl,rfl⟩,trivial⟩ rfl rfl),?_⟩;repeat' ((first|refine tX 0 ?_|exact Zt|refine bR ?_ ?_<;>intro h)<;>(try conv=>whnf))
 all_goals first|exact Zs|exact⟨[(9,9),(11,11),(13,13),(15,15)],ln rfl ⟨⟨9,_,by simp,rfl,agS s i u u' _⟩,⟨11,_,by simp,rfl,rfl⟩,⟨13,_,by simp,rfl,rfl⟩,⟨15,_,by simp,rfl,rfl⟩,trivial⟩,_,rfl,rfl⟩
end
def O1 (p:Pl)(log:List En)(s:bV){w0 x:aj}{ws:List aj}(hl:s.units.length<=1000)(hx:iB s x<0)(n1: ¬w0= [110,111,116,101])(n2: ¬w0= [108,111,116])(n3: ¬w0= [117,110,105,116])(n4: ¬w0=lL)(n5: ¬w0=nw)(n6: ¬w0=lq)(n7: ¬w0=sN)(n8: ¬w0=wP)(n9: ¬w0=OY):
  GS 98 [dyn (true,bL p),nN log,(true,so s),dyn (V1 (w0::x::ws))] s (s,6):=by
 have cu:=λH fid=>zI (H:=H) (fid:=fid) (s:=s) (n:=x) hl;generalize iB s x=ix at*;refine gH f98 ?_;repeat' ((first|(refine kO 7 rfl ?_;first|refine gu (λ_ z=>⟨_,_,_,(cu _ _ rfl rfl rfl),z⟩) ?_)|refine tX 0 ?_|exact Zt|refine bR ?_ ?_<;>intro h)<;>(try conv=>whnf))
 all_goals first|exact Zs|exact⟨m0,bq rfl rfl,_,rfl,rfl⟩
section
variable {s:bV}(H:HF)(fid:Nat)
abbrev zD (n:Nat)(s:bV):List DC:=[.st (K s.volt),.st (K s.earth),.own (fz n 5),.st (T s.hall),.own (fz n 7),.own (fz n 9)]
abbrev zV (n:Nat)(s:bV):List DC:=[.st (K s.volt),.st (K s.earth),.st (.view (ab s.opens)),.st (T s.hall),.st (.view (ab s.lots)),.own (fz n 9)]
theorem FZ (h1:s.opens.length<=1000)(h2:s.lots.length<=1000)(h3:s.units.length<=1000)(hu: ∀u∈s.units,(u.lots.length<=1000/\u.res.length<=1000)/\u.gas.length<=1000):
  bI cx fid 99 [dyn (true,tq s)] H (.val (true,zD (tag fid) s)) (cH [] (cT (aq (tag fid) 0) (F0 s))) []:=
 Go.Fw.mw (RH s h1 h2 h3 hu) (FX s) (λx hx=>by
  have:x=dyn (true,tq s):=by grind
  grind[bd]) (jV s)
theorem Le (us:List Un)(i:Nat)(u:Un):Na (F1 us i u):=by
 have hm: ∀e∈(qa us).set i (cV u 11 13 15),∀d∈e,d.dQ (· ∈[9,11,13,15]):=λe he d hd=>by
  rcases Sv he with h|rfl
  ·obtain⟨c,_,rfl⟩:=dC.1 h;obtain⟨c',_,rfl⟩:=dC.1 hd;trivial
  ·have:=uV u d hd
   exact DC.dN (λk hk=>by have:k=11\/k=13\/k=15:=by simpa [lC,ah]using hk
                          grind) this
 refine⟨by simp[F1],λk hk=>?_,λk b e=>?_⟩
 ·have:k=9\/k=11\/k=13\/k=15:=by simpa [F1,ah]using hk
  rcases this with rfl|rfl|rfl|rfl<;>exact⟨by decide,by decide,rfl⟩
 ·have hk:=Hp.dU e;have:k=9\/k=11\/k=13\/k=15:=by simpa [F1,ah]using hk
  rcases this with rfl|rfl|rfl|rfl
  ·cases e;exact hm
  all_goals(cases e;trivial)
theorem agT (us:List Un)(i:Nat)(u:Un):Na (FY us i u):=by
 refine⟨by simp[FY],λk hk=>?_,λk b e=>?_⟩
 ·have:k=9:=by simpa [FY,ah]using hk
  subst this;exact⟨by decide,by decide,rfl⟩
 ·have hk:=Hp.dU e;have:k=9:=by simpa [FY,ah]using hk
  subst this;cases e;intro e he d hd;rcases Sv he with h|rfl
  ·obtain⟨c,_,rfl⟩:=dC.1 h;obtain⟨c',_,rfl⟩:=dC.1 hd;trivial
  ·simp only[unY,cF,jN,jO]at hd;rcases hd with rfl|rfl|rfl|rfl|rfl|rfl|rfl|rfl|rfl|rfl|rfl|rfl|rfl|rfl|rfl|rfl|rfl<;>trivial
theorem uX {ok:Nat->Prop}(h:ok 9)(s:bV):ec ok (true,Ab s):=by
 intro d hd;simp only[Ab,cF,jN,jO]at hd;rcases hd with rfl|rfl|rfl|rfl|rfl|rfl<;>first|trivial|exact h
theorem su {i:Nat}{u:Un}(hi:s.units[i]? =some u)(h1:s.opens.length<=1000)(h2:s.lots.length<=1000)(h3:s.units.length<=1000)(hu: ∀u∈s.units,(u.lots.length<=1000/\u.res.length<=1000)/\u.gas.length<=1000):
  bI cx fid 99 [dyn (true,tq s)] H (.val (true,zV (tag fid) s)) (cH [] (cT (aq (tag fid) 0) (F1 s.units i u))) []:=
 Go.Fw.mw (RJ s hi h1 h2 h3 hu) (Le s.units i u) (λx hx=>by
  have:x=dyn (true,tq s):=by grind
  grind[bd]) (uX (by simp[F1]) s)
end
section
variable {p:Pl}{log:List En}{s:bV}{w:List aj}{H:HF}{fid n:Nat}
def A8 {ok:Nat->Prop}{st:List DC}(h:ec ok (true,st)): ∀x∈[dyn (true,bL p),nN log,(true,st),dyn (V1 w)],ec ok x:=λx hx=>by
 simp only[cF,jN,jO]at hx;rcases hx with rfl|rfl|rfl|rfl
 grind[bd]
 ·intro d hd;have:d= .st (.view (log.map cd)):=by grind
  subst this;trivial
 grind
 ·exact bd _
def F3 {ok:Nat->Prop}{st:List DC}{e:Int}(h:ec ok (true,st)):lH ok (.aI [(true,st),dyn (I e)]):=λx hx=>by
 simp only[cF,jN,jO]at hx
 grind[bd]
def F5 {y:bV × Int}(h:GS 98 [dyn (true,bL p),nN log,(true,so s),dyn (V1 w)] s y)(h5:some (.row true 1 (.view (ab s.opens)))=H (fz n 5))(h7:some (.row true 1 (.view (ab s.lots)))=H (fz n 7))(h9:some (.row true 17 (.view (s.units.map jB)))=H (fz n 9)):
  bI cx fid 98 [dyn (true,bL p),nN log,(true,zD n s),dyn (V1 w)] H (.aI [(true,zD (tag fid) y.1),dyn (I y.2)]) (cH (cT (aq n 0) (F0 s)) (cT (aq (tag fid) 0) (F0 y.1))) (ah (cT (aq n 0) (F0 s))):=by
 have:=xC (fid:=fid) (n:=n) (H:=H) h (FX s) (FX y.1) (λk hk=>?_) (A8 (jV s)) (F3 (jV y.1))
 ·exact this
 ·have:k=5\/k=7\/k=9:=by simpa [F0,ah]using hk
  rcases this with rfl|rfl|rfl
  ·exact h5
  ·exact h7
  ·exact h9
def F6 {i:Nat}{u u':Un}{y:bV × Int}(h:bA cx 98 1 [dyn (true,bL p),nN log,(true,Ab s),dyn (V1 w)] (F1 s.units i u) [] (.aI [(true,Ab y.1),dyn (I y.2)]) (F1 s.units i u'))
  (h9:some (.az 17 (((qa s.units).set i (cV u 11 13 15)).map λe=>e.map (DC.rn (aq n 0))))=H (fz n 9))(ha:some (.row true 1 (.view (ab u.lots)))=H (fz n 11))(hb:some (.row true 4 (.view (u.res.map kg)))=H (fz n 13))(hc:some (.row true 5 (.view (u.gas.map tp)))=H (fz n 15)):
  bI cx fid 98 [dyn (true,bL p),nN log,(true,zV n s),dyn (V1 w)] H (.aI [(true,zV (tag fid) y.1),dyn (I y.2)]) (cH (cT (aq n 0) (F1 s.units i u)) (cT (aq (tag fid) 0) (F1 s.units i u'))) (ah (cT (aq n 0) (F1 s.units i u))):=by
 have:=xC (fid:=fid) (n:=n) (H:=H) h (Le s.units i u) (Le s.units i u') (λk hk=>?_) (A8 (uX (by simp[F1]) s)) (F3 (uX (by simp[F1]) y.1))
 ·exact this
 ·have:k=9\/k=11\/k=13\/k=15:=by simpa [F1,ah]using hk
  rcases this with rfl|rfl|rfl|rfl
  ·exact h9
  ·exact ha
  ·exact hb
  ·exact hc
def F7 {i:Nat}{u:Un}{e:Int}(h:bA cx 98 1 [dyn (true,bL p),nN log,(true,Ab s),dyn (V1 w)] (F1 s.units i u) [] (.aI [(true,Ab s),dyn (I e)]) (FY s.units i u))
  (h9:some (.az 17 (((qa s.units).set i (cV u 11 13 15)).map λe=>e.map (DC.rn (aq n 0))))=H (fz n 9))(ha:some (.row true 1 (.view (ab u.lots)))=H (fz n 11))(hb:some (.row true 4 (.view (u.res.map kg)))=H (fz n 13))(hc:some (.row true 5 (.view (u.gas.map tp)))=H (fz n 15)):
  bI cx fid 98 [dyn (true,bL p),nN log,(true,zV n s),dyn (V1 w)] H (.aI [(true,zV (tag fid) s),dyn (I e)]) (cH (cT (aq n 0) (F1 s.units i u)) (cT (aq (tag fid) 0) (FY s.units i u))) (ah (cT (aq n 0) (F1 s.units i u))):=by
 have:=xC (fid:=fid) (n:=n) (H:=H) h (Le s.units i u) (agT s.units i u) (λk hk=>?_) (A8 (uX (by simp[F1]) s)) (F3 (uX (by simp[FY]) s))
 ·exact this
 ·have:k=9\/k=11\/k=13\/k=15:=by simpa [F1,ah]using hk
  rcases this with rfl|rfl|rfl|rfl
  ·exact h9
  ·exact ha
  ·exact hb
  ·exact hc
end
abbrev ad1:List SC:=[.any,.any,.any,.any,.any,.any]
abbrev nxR (y:bV × Int):mc:=.aI [(true,if y.2=0 then tq y.1 else ad1),I y.2]
def Stp (p:Pl)(log:List En)(s:bV)(w:List aj)(y:bV × Int):Prop:=
 GS 98 [dyn (true,bL p),nN log,(true,so s),dyn (V1 w)] s y\/
 (∃i u,s.units[i]? =some u/\y.2≠0/\bA cx 98 1 [dyn (true,bL p),nN log,(true,Ab s),dyn (V1 w)] (F1 s.units i u) [] (.aI [(true,Ab s),dyn (I y.2)]) (FY s.units i u))\/
 (∃i u u',s.units[i]? =some u/\y.2=0/\y.1.units=s.units.set i u'/\bA cx 98 1 [dyn (true,bL p),nN log,(true,Ab s),dyn (V1 w)] (F1 s.units i u) [] (.aI [(true,Ab y.1),dyn (I y.2)]) (F1 s.units i u'))
def fP (p:Pl)(lz:aj):Int:=if lz∈p.ax then(p.ae.getD (be p.ax lz).toNat ([],0)).2 else -1
def pre (p:Pl)(log:List En)(e:En):Int:=
 if fP p e.lz<0 then 6 else if ¬(0<=e.t/\e.t<=1000000000000)then 2 else if e.t<im log then 9 else if 400<e.text.length then 8 else 0
def qb {H:HF}(ds:List DC)(s:bV)(e:Int)(he:e≠0)(hd:ds.length=6:=by rfl):Ij H [(true,ds),dyn (I e)] (λr'=>r'=nxR (s,e)):=by
 refine⟨[(true,ad1),I e],[],bp ⟨rfl,hd.symm,λk d c _ hc=>?_⟩ (bp (ia _) gZ),rfl,?_⟩
 ·have:c= .any :=by
   have:=jH hc;simpa using this
  subst this;exact .any d
 ·show Zk _=mc.aI _;rw[if_neg he];rfl
section
variable (p:Pl)(log:List En)(s:bV)(e:En)
theorem abd (hp:p.ae.length<=1000)(hl:log.length<=1000)(ht:e.text.length<=100000)(h:pre p log e≠0):
  ac 55 [(true,bL p),(false,[.view (log.map cd)]),(true,tq s),(true,cd e)] (nxR (s,pre p log e)):=by
 have c1:=mT p e.lz hp;have c2:=gj e.t;have wu:(log.map cd).length =log.length:=by simp
 have amb:0<log.length->(log.map cd)[log.length -1]? =some (cd (log.getD (log.length -1) iX))/\im log=(log.getD (log.length -1) iX).t :=λh=>⟨aZ (f:=cd) (by omega) iX,by
  unfold im;rw[List.getLast?_eq_getElem?,jX]
  rw[o8 (by omega)];rfl⟩
 have ama:log.length=0->im log=0:=λh=>by rw[C8.1 h];rfl
 rw[show(if e.lz∈p.ax then(p.ae.getD (be p.ax e.lz).toNat ([],0)).2 else -1)=fP p e.lz from rfl]at c1;have h6:fP p e.lz<0->pre p log e=6:=λa=>by simp[pre,a]
 have h2:0<=fP p e.lz->¬(0<=e.t/\e.t<=1000000000000)->pre p log e=2:=λa b=>by unfold pre;rw[if_neg (by omega),if_pos b]
 have h9:0<=fP p e.lz->(0<=e.t/\e.t<=1000000000000)->e.t<im log->pre p log e=9:=λa b c=>by unfold pre;rw[if_neg (by omega),if_neg (λx=>x b),if_pos c]
 have h8:0<=fP p e.lz->(0<=e.t/\e.t<=1000000000000)->¬e.t<im log->400<e.text.length->pre p log e=8:=λa b c d=>by unfold pre;rw[if_neg (by omega),if_neg (λx=>x b),if_neg c,if_pos d]
 have h0:0<=fP p e.lz->(0<=e.t/\e.t<=1000000000000)->¬e.t<im log->¬400<e.text.length->pre p log e=0:=λa b c d=>by unfold pre;rw[if_neg (by omega),if_neg (λx=>x b),if_neg c,if_neg d]
 generalize pre p log e=P at*;generalize fP p e.lz=ro at*;generalize im log=lt at*;by_cases qe:log.length=0
 ·have:=ama qe;refine sW (fn:=f55) ?_;repeat' ((first|refine tX 0 ?_|exact Zt|refine bR ?_ ?_<;>intro h)<;>(try conv=>whnf))
  all_goals try(exfalso;omega)
  all_goals first|(obtain rfl:P=6:=by omega);exact qb _ _ 6 (by decide)|(obtain rfl:P=2:=by omega);exact qb _ _ 2 (by decide)|(obtain rfl:P=9:=by omega);exact qb _ _ 9 (by decide)|(obtain rfl:P=8:=by omega);exact qb _ _ 8 (by decide)
 ·obtain⟨tm,al⟩:=amb (by omega);haveI hnat:dJ (((log.map cd).length :Int) -1) (log.length -1):=⟨by omega⟩;generalize log.getD (log.length -1) iX=en at*;refine sW (fn:=f55) ?_;repeat' ((first|refine tX 0 ?_|exact Zt|refine bR ?_ ?_<;>intro h)<;>(try conv=>whnf))
  all_goals try(exfalso;omega)
  all_goals first|(obtain rfl:P=6:=by omega);exact qb _ _ 6 (by decide)|(obtain rfl:P=2:=by omega);exact qb _ _ 2 (by decide)|(obtain rfl:P=9:=by omega);exact qb _ _ 9 (by decide)|(obtain rfl:P=8:=by omega);exact qb _ _ 8 (by decide)
end
def F8 {p:Pl}{log:List En}{e:En}(h:pre p log e=0):0<=fP p e.lz/\(0<=e.t/\e.t<=1000000000000)/\im log<=e.t/\e.text.length<=400:=by
 unfold pre at h
 grind
def zL {log:List En}(h: ¬log.length=0):(log.map cd)[log.length -1]? =some (cd (log.getD (log.length -1) iX))/\im log=(log.getD (log.length -1) iX).t :=⟨aZ (f:=cd) (by omega) iX,by
  grind[im]⟩
abbrev nS (p:Pl)(log:List En)(s:bV)(e:En)(ro:Int)(i:Nat):St:=⟨[(1,some (.val (nN log))),(4,pP 0),(6,pP 2),(7,pP 4),(8,pP 6),(10,vI ro),(11,vI i)],[(0,some (.box 27 (dyn (true,bL p)).2)),(2,some (.box 35 (dyn (true,tq s)).2)),(4,some (.box 51 (dyn (true,cd e)).2)),(6,some (.box 35 [.st (K false),.st (K false),.nil,.st (T []),.nil,.nil]))],1000⟩
section
variable (p:Pl)(log:List En)(s:bV)(e:En)
theorem qQ (hp:p.ae.length<=1000)(hl:log.length<=1000)(mY:pre p log e=0){ws:List aj}{k:Int}{ok nb:Bool}(Xy:Kd e.text=(ws,k,ok))(hk:k<0\/∃j:Nat,k=j/\j<19)(hnb:ok=true->ac 97 [V1 ws] (.one (Bo nb)))
  (P:Int)(h0:P≠0)(h3: ¬aU e.text->P=3)(h7:aU e.text->k<0->P=7)(h18: ∀j:Nat,aU e.text->k=j->fP p e.lz< (vb j).role ->P=18)(h7': ∀j:Nat,aU e.text->k=j->(vb j).role <=fP p e.lz->ok=false\/nb=false->P=7)
  (hz: ∀j:Nat,aU e.text->k=j->(vb j).role <=fP p e.lz->ok=true->nb=true->P=0):
  ac 55 [(true,bL p),(false,[.view (log.map cd)]),(true,tq s),(true,cd e)] (nxR (s,P)):=by
 have c1:=mT p e.lz hp;have c2:=gj e.t;have wu:(log.map cd).length =log.length:=by simp
 obtain⟨g1,g2,g3,g4⟩:=F8 mY;have c3:=lk e.text (by omega);rw[Xy]at c3;dsimp only at c3;have c4:=lh;rw[show(if e.lz∈p.ax then(p.ae.getD (be p.ax e.lz).toNat ([],0)).2 else -1)=fP p e.lz from rfl]at c1;generalize fP p e.lz=ro at*;refine sW (fn:=f55) ?_;by_cases qe:log.length=0;rotate_left
 ·obtain⟨tm,al⟩:=zL qe;haveI hnat:dJ (((log.map cd).length :Int) -1) (log.length -1):=⟨by omega⟩;generalize log.getD (log.length -1) iX=en at*;repeat' ((first|refine tX 0 ?_|exact Zt|refine bR ?_ ?_<;>intro h)<;>(try conv=>whnf))
  all_goals try(exfalso;omega)
  ·refine af (ι:=Nat) (λi=>i<=e.text.length/\s6 e.text i) (λi=>e.text.length -i) (nS p log s e ro) 0 Zc ⟨dz _,λj hj=>by omega⟩ ?_;rintro i ⟨hi,hp⟩;by_cases al:i<e.text.length
   ·have dm: ¬(32<=(e.text.getD i 0).toNat /\(e.text.getD i 0).toNat <=126)->¬aU e.text:=λh hh=>h (hh i al)
    have l6:32<=(e.text.getD i 0).toNat /\(e.text.getD i 0).toNat <=126->s6 e.text (i+1):=λh j hj=>by
     rcases C7.1 hj with h'|rfl
     ·exact hp j h'
     ·exact h
    have Gq:((e.text.getD i 0).toNat :Int)<=255:=by have:=(e.text.getD i 0).toNat_lt;omega
    repeat' ((first|refine tX 0 ?_|exact Zt|refine bR ?_ ?_<;>intro h)<;>(try conv=>whnf))
    all_goals first|exact Zo|exact⟨i+1,⟨al,l6 (by omega)⟩,by omega,Zc⟩|(obtain rfl:P=3:=h3 (dm (by omega));exact qb _ _ 3 (by decide))
   ·obtain rfl:i=e.text.length:=by omega
    have zZ:aU e.text:=hp;have h3:=h3;clear h3;rcases hk with hk|⟨j,rfl,hj⟩
    ·obtain rfl:P=7:=h7 zZ hk;repeat' ((first|refine tX 0 ?_|exact Zt|refine bR ?_ ?_<;>intro h)<;>(try conv=>whnf))
     all_goals first|exact Zo|exact qb _ _ 7 (by decide)
    ·have PP:(jL.map Hf).length =19:=rfl;have hv:=aZ (f:=Hf) (l:=jL) hj si;replace h18:=h18 j zZ rfl;replace h7':=h7' j zZ rfl;replace hz:=hz j zZ rfl;rw[show vb j=(jL.getD j si).2 from rfl]at h18 h7' hz;generalize jL.getD j si=q at*;by_cases hr:ro<q.2.role
     ·obtain rfl:P=18:=h18 hr;repeat' ((first|refine tX 0 ?_|exact Zt|refine bR ?_ ?_<;>intro h)<;>(try conv=>whnf))
      all_goals first|exact Zo|exact qb _ _ 18 (by decide)
     ·cases ok
      ·obtain rfl:P=7:=h7' (by omega) (.inl rfl);repeat' ((first|refine tX 0 ?_|exact Zt|refine bR ?_ ?_<;>intro h)<;>(try conv=>whnf))
       all_goals first|exact Zo|exact qb _ _ 7 (by decide)
      ·have c5:=hnb rfl;cases nb
       ·obtain rfl:P=7:=h7' (by omega) (.inr rfl);repeat' ((first|refine tX 0 ?_|exact Zt|refine bR ?_ ?_<;>intro h)<;>(try conv=>whnf))
        all_goals first|exact Zo|exact qb _ _ 7 (by decide)
       grind
 ·repeat' ((first|refine tX 0 ?_|exact Zt|refine bR ?_ ?_<;>intro h)<;>(try conv=>whnf))
  all_goals try(exfalso;omega)
  ·refine af (ι:=Nat) (λi=>i<=e.text.length/\s6 e.text i) (λi=>e.text.length -i) (nS p log s e ro) 0 Zc ⟨dz _,λj hj=>by omega⟩ ?_;rintro i ⟨hi,hp⟩;by_cases al:i<e.text.length
   ·have dm: ¬(32<=(e.text.getD i 0).toNat /\(e.text.getD i 0).toNat <=126)->¬aU e.text:=λh hh=>h (hh i al)
    have l6:32<=(e.text.getD i 0).toNat /\(e.text.getD i 0).toNat <=126->s6 e.text (i+1):=λh j hj=>by
     rcases C7.1 hj with h'|rfl
     ·exact hp j h'
     ·exact h
    have Gq:((e.text.getD i 0).toNat :Int)<=255:=by have:=(e.text.getD i 0).toNat_lt;omega
    repeat' ((first|refine tX 0 ?_|exact Zt|refine bR ?_ ?_<;>intro h)<;>(try conv=>whnf))
    all_goals first|exact Zo|exact⟨i+1,⟨al,l6 (by omega)⟩,by omega,Zc⟩|(obtain rfl:P=3:=h3 (dm (by omega));exact qb _ _ 3 (by decide))
   ·obtain rfl:i=e.text.length:=by omega
    have zZ:aU e.text:=hp;have h3:=h3;clear h3;rcases hk with hk|⟨j,rfl,hj⟩
    ·obtain rfl:P=7:=h7 zZ hk;repeat' ((first|refine tX 0 ?_|exact Zt|refine bR ?_ ?_<;>intro h)<;>(try conv=>whnf))
     all_goals first|exact Zo|exact qb _ _ 7 (by decide)
    ·have PP:(jL.map Hf).length =19:=rfl;have hv:=aZ (f:=Hf) (l:=jL) hj si;replace h18:=h18 j zZ rfl;replace h7':=h7' j zZ rfl;replace hz:=hz j zZ rfl;rw[show vb j=(jL.getD j si).2 from rfl]at h18 h7' hz;generalize jL.getD j si=q at*;by_cases hr:ro<q.2.role
     ·obtain rfl:P=18:=h18 hr;repeat' ((first|refine tX 0 ?_|exact Zt|refine bR ?_ ?_<;>intro h)<;>(try conv=>whnf))
      all_goals first|exact Zo|exact qb _ _ 18 (by decide)
     ·cases ok
      ·obtain rfl:P=7:=h7' (by omega) (.inl rfl);repeat' ((first|refine tX 0 ?_|exact Zt|refine bR ?_ ?_<;>intro h)<;>(try conv=>whnf))
       all_goals first|exact Zo|exact qb _ _ 7 (by decide)
      ·have c5:=hnb rfl;cases nb
       ·obtain rfl:P=7:=h7' (by omega) (.inr rfl);repeat' ((first|refine tX 0 ?_|exact Zt|refine bR ?_ ?_<;>intro h)<;>(try conv=>whnf))
        all_goals first|exact Zo|exact qb _ _ 7 (by decide)
       grind
end
end Go.Proofs.Tryz
