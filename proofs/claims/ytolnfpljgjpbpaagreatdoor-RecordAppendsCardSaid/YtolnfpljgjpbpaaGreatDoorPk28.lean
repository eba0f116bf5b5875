import Derived.Test.YtolnfpljgjpbpaaGreatDoorPk26
set_option linter.all false
namespace Go.Proofs.Tryz
open Go.Fw Go.IntWalk Go.Plain
set_option maxRecDepth 100000
set_option maxHeartbeats 8000000
abbrev LF (s:bV):SV:=(true,[K s.volt,K s.earth,.view (ab s.opens),T s.hall,.view (ab s.lots),.any])
abbrev nN (log:List En):DX:=(false,[.st (.view (log.map cd))])
section
variable {H:HF}{fid:Nat}{u:Un}{a b c:Nat}
def CW (ha:H a=some (.row true 1 (.view (ab u.lots))))(hb:H b=some (.row true 4 (.view (u.res.map kg))))(hc:H c=some (.row true 5 (.view (u.gas.map tp)))):yL H [a,b,c] (true,cV u a b c) (true,jB u):=
 ⟨rfl,rfl,uU (by simp) ha hb hc⟩
def OU {t:aj}{V:Bool}(hV:bK u.res t=V)(hl:u.res.length<=1000000)(ha:H a=some (.row true 1 (.view (ab u.lots))))(hb:H b=some (.row true 4 (.view (u.res.map kg))))(hc:H c=some (.row true 5 (.view (u.gas.map tp)))):
  bI cx fid 206 [(true,cV u a b c),(false,[.st (T t)])] H (.val (dyn (Bo V))) [] [a,b,c]:=by
 subst hV;exact iK (bp (CW ha hb hc) (bp (kj (.st _)) gZ)) (o3 u t hl) rfl ⟨rfl,rfl,rfl⟩
def OV {t:Ts}{V:Bool}(hV:iV u.res t=V)(ht:t.bv.length<=1000)(hl:u.res.length<=1000000)(ha:H a=some (.row true 1 (.view (ab u.lots))))(hb:H b=some (.row true 4 (.view (u.res.map kg))))(hc:H c=some (.row true 5 (.view (u.gas.map tp)))):
  bI cx fid 207 [(true,cV u a b c),dyn (true,fB t)] H (.val (dyn (Bo V))) [] [a,b,c]:=by
 subst hV;exact iK (bp (CW ha hb hc) (bp (ia _) gZ)) (KT u t ht hl) rfl ⟨rfl,rfl,rfl⟩
def RN {log:List En}{t:Ts}{r:aj}{y:Int × Int}(hs:ac 208 [(false,[.view (log.map cd)]),(true,jB u),(true,fB t),SS r] (.aI [I y.1,I y.2]))(ha:H a=some (.row true 1 (.view (ab u.lots))))(hb:H b=some (.row true 4 (.view (u.res.map kg))))(hc:H c=some (.row true 5 (.view (u.gas.map tp)))):
  bI cx fid 208 [nN log,(true,cV u a b c),dyn (true,fB t),(false,[.st (T r)])] H (.aI [dyn (I y.1),dyn (I y.2)]) [] [a,b,c]:=
 iK (bp (kj (.st _)) (bp (CW ha hb hc) (bp (ia _) (bp (kj (.st _)) gZ)))) hs ai5 ⟨rfl,rfl,rfl⟩
def RO {p:Pl}{M:List aj}(hM:uA p u.res=M)(hp:p.aa.length<=1000)(hl:u.res.length<=1000000)(ha:H a=some (.row true 1 (.view (ab u.lots))))(hb:H b=some (.row true 4 (.view (u.res.map kg))))(hc:H c=some (.row true 5 (.view (u.gas.map tp)))):
  bI cx fid 165 [dyn (true,bL p),(true,cV u a b c)] H (Fw.bh (.own fid)) [(fid,some (.row true 1 (.view (ab M))))] [a,b,c]:=by
 subst hM;exact iK (bp (ia _) (bp (CW ha hb hc) gZ)) (FH p u hp hl) (E3 _) ⟨rfl,rfl,rfl⟩
end
def WW (E:to)(p:Pl)(log:List En)(s:bV)(u:Un)(w0 x y q:aj)(n:List Int)(hp:p.aa.length<=1000)(Cu: ∀t∈p.aa,t.bv.length<=1000)(hu:u.res.length<=1000)(ag4:log.length<=1000)
  (pb: ∀t∈p.aa,iV u.res t=true->ac 208 [(false,[.view (log.map cd)]),(true,jB u),(true,fB t),SS q] (.aI [I (E.ev log u t q).1,I (E.ev log u t q).2])):
  GU 162 [dyn (true,bL p),nN log,dyn (LF s),(true,cV u 11 13 15),dyn (V1 [w0,x,y,q])] u (aQ E p log s u 12 [x,y] n q):=by
 have ct:=p8 p y hp;have hn1:(p.aa.map fB).length =p.aa.length:=by simp
 have bD:(log.map cd).length =log.length:=by simp
 have hrl:(u.res.map kg).length =u.res.length:=by simp
 have hr:u.res.length<=1000000:=by omega
 by_cases hy:y∈cU p.aa
 ·obtain⟨j,hj,e⟩:=k9 hy;have hjl:j<p.aa.length:=by simpa [cU]using hj
  have htm:p.aa.getD j dl∈p.aa:=zl hjl;have he:=aZ (f:=fB) hjl dl
  have hq:aQ E p log s u 12 [x,y] n q=if s.hall=u.name/\u.failed=false then(if bK u.res (p.aa.getD j dl).name then(u,23)else if iV u.res (p.aa.getD j dl)=false then(u,14)else if decide ((p.aa.getD j dl).kind =0)=s.volt then(u,24)else
     if(E.ev log u (p.aa.getD j dl) q).2=0 then({u with res:=u.res++[⟨(p.aa.getD j dl).name,(E.ev log u (p.aa.getD j dl) q).1,log.length,false⟩],failed:=decide ((E.ev log u (p.aa.getD j dl) q).1=0)},0)else(u,(E.ev log u (p.aa.getD j dl) q).2))else(u,20):=by
   have h0:0<=be (cU p.aa) y:=by omega
   show(if 0<=be (cU p.aa) y then _ else _)=_;rw[if_pos h0];simp only[SN,L6];rw[e,tK]
  rw[hq];rw[e]at ct;have pb:=pb _ htm;have Cu:=Cu _ htm;clear hq;generalize p.aa.getD j dl=t at*;obtain⟨V,hV⟩: ∃V,bK u.res t.name=V:=⟨_,rfl⟩;obtain⟨D,hD⟩: ∃D,iV u.res t=D:=⟨_,rfl⟩;rw[hV,hD];rw[hD]at pb;have Xn:=λhs=> @RN (u:=u) (t:=t) (r:=q) (y:=E.ev log u t q) (log:=log) (hs:=hs);generalize E.ev log u t q=z at*;obtain⟨z1,z2⟩:=z;have cv:=λH fid a b c=> @OU H fid u a b c t.name V hV hr;have cr:=λH fid a b c=> @OV H fid u a b c t D hD Cu hr;clear hV hD;obtain⟨nm,kd,nd,ru,lo,hi⟩:=t;have he:(p.aa.map fB)[j]? =some [T nm,J kd,.view (ab nd),T ru,J lo,J hi]:=he;dsimp only at Xn pb;dsimp only;by_cases hh:s.hall=u.name
  ·by_cases hf:u.failed=false
   ·rw[if_pos ⟨hh,hf⟩];cases V
    ·rw[if_neg xZ];cases D
     ·rw[if_pos rfl];exact K62
     ·rw[if_neg bX];have Xn:=λH fid a b c=> @Xn (pb rfl) H fid a b c;by_cases hk:decide (kd=0)=s.volt
      ·rw[if_pos hk];have Xu:((kd==0)==s.volt)=true:=by rw[show(kd==0)=decide (kd=0)from rfl,hk];simp
       exact K62
      ·rw[if_neg hk];have Xu: ¬((kd==0)==s.volt)=true:=λh=>hk (by rw[show(kd==0)=decide (kd=0)from rfl]at h;simpa using h);by_cases hz:z2=0
       ·subst hz;rw[if_pos rfl];refine gH f162 ?_;repeat' ((first|(refine kO 7 rfl ?_;first|refine gu (λ_ z=>⟨_,_,_,(cv _ _ _ _ _ rfl rfl rfl),z⟩) ?_|refine gu (λ_ z=>⟨_,_,_,(cr _ _ _ _ _ rfl rfl rfl),z⟩) ?_|refine gu (λ_ z=>⟨_,_,_,(Xn _ _ _ _ _ rfl rfl rfl),z⟩) ?_)|refine tX 0 ?_|exact Zt|refine bR ?_ ?_<;>intro h)<;>(try conv=>whnf))
        all_goals first|exact Zs|exact⟨[(11,11),(134,13),(15,15)],ln rfl ⟨⟨11,_,by simp,rfl,rfl⟩,⟨134,_,by simp,rfl,by rw[Aj,<- bD];kernel_rfl⟩,⟨15,_,by simp,rfl,rfl⟩,trivial⟩,_,rfl,rfl⟩
       ·rw[if_neg hz];refine gH f162 ?_;repeat' ((first|(refine kO 7 rfl ?_;first|refine gu (λ_ z=>⟨_,_,_,(cv _ _ _ _ _ rfl rfl rfl),z⟩) ?_|refine gu (λ_ z=>⟨_,_,_,(cr _ _ _ _ _ rfl rfl rfl),z⟩) ?_|refine gu (λ_ z=>⟨_,_,_,(Xn _ _ _ _ _ rfl rfl rfl),z⟩) ?_)|refine tX 0 ?_|exact Zt|refine bR ?_ ?_<;>intro h)<;>(try conv=>whnf))
        all_goals first|exact Zs|exact⟨m3,bq rfl rfl,_,rfl,rfl⟩
    ·rw[if_pos rfl];refine gH f162 ?_;repeat' ((first|(refine kO 7 rfl ?_;first|refine gu (λ_ z=>⟨_,_,_,(cv _ _ _ _ _ rfl rfl rfl),z⟩) ?_)|refine tX 0 ?_|exact Zt|refine bR ?_ ?_<;>intro h)<;>(try conv=>whnf))
     all_goals first|exact Zs|exact⟨m3,bq rfl rfl,_,rfl,rfl⟩
   ·rw[if_neg (λh=>hf h.2)];refine gH f162 ?_;exact K6
  ·rw[if_neg (λh=>hh h.1)];refine gH f162 ?_;exact K6
 ·rw[dW hy]at ct
  have hq:aQ E p log s u 12 [x,y] n q=(u,6):=by
   show(if 0<=be (cU p.aa) y then _ else _)=_;rw[dW hy,if_neg bX]
  rw[hq];refine gH f162 ?_;exact K7
def Uw (u:Un):Na (lC u 11 13 15):=by
 refine⟨by simp[lC],λk hk=>?_,λk b e=>?_⟩
 ·exact aie
 ·exact aia
theorem uV (u:Un):ec (· ∈ah (lC u 11 13 15)) (true,cV u 11 13 15):=by
 intro d hd;exact K93
def vS {H:HF}{fid:Nat}{f:FuncId}{xs:List DX}{u:Un}{y:Un × Int}(h:GU f xs u y)(hH: ∀k∈ah (lC u 11 13 15),(lC u 11 13 15).get k=H k)(Cv: ∀x∈xs,ec (· ∈ah (lC u 11 13 15)) x):
  bI cx fid f xs H (LA (aq (tag fid) 0) (.aI [(true,cV y.1 11 13 15),dyn (I y.2)])) (cH (lC u 11 13 15) (cT (aq (tag fid) 0) (lC y.1 11 13 15))) (ah (lC u 11 13 15)):=by
 refine IJ h (Uw u) (Uw y.1) (dG _) hH Cv (λx hx=>?_);simp only[cF,jN,jO]at hx
 grind[uV,bd]
def uH {u:Un}{H:HF}(h1:H 11=some (.row true 1 (.view (ab u.lots))))(h2:H 13=some (.row true 4 (.view (u.res.map kg))))(h3:H 15=some (.row true 5 (.view (u.gas.map tp)))): ∀k∈ah (lC u 11 13 15),(lC u 11 13 15).get k=H k:=λk hk=>by
 have:k=11\/k=13\/k=15:=by simpa [lC,ah]using hk
 rcases this with rfl|rfl|rfl
 ·rw[h1];rfl
 ·rw[h2];rfl
 ·rw[h3];rfl
section
variable (E:to)(p:Pl)(log:List En)(s:bV)(u:Un)(q:aj)(n:List Int)
theorem WX {w0:aj}(hw:w0= [117,115,101])(x y:aj)(hs:s.lots.length<=1000)(hu:u.lots.length<=1000):
  GU 136 [dyn (true,bL p),nN log,dyn (LF s),(true,cV u 11 13 15),dyn (V1 [w0,x,y])] u (aQ E p log s u 3 [x,y] n q):=by
 have c1:=cD s.lots y K0;have c2:=cD u.lots y K0;have wu:(ab u.lots).length =u.lots.length:=by simp
 have hq:aQ E p log s u 3 [x,y] n q=if y∈s.lots then(if u.rel then(u,20)else if y∈u.lots then(u,23)else({u with lots:=u.lots++[y]},0))else(u,6):=rfl
 rw[hq];clear hq;by_cases h1:y∈s.lots
 ·rw[if_pos h1];rw[fh h1]at c1;by_cases h2:u.rel=true
  ·rw[if_pos h2];refine gH f136 ?_;exact K6
  ·rw[if_neg h2];by_cases h3:y∈u.lots
   ·rw[if_pos h3];rw[fh h3]at c2;refine gH f136 ?_;exact K6
   ·rw[if_neg h3];rw[eJ h3]at c2;refine gH f136 ?_;repeat' ((first|refine tX 0 ?_|exact Zt|refine bR ?_ ?_<;>intro h)<;>(try conv=>whnf))
    all_goals first|exact Zs|exact⟨[(74,11),(13,13),(15,15)],ln rfl ⟨⟨74,_,by simp,rfl,by rw[qI];kernel_rfl⟩,⟨13,_,by simp,rfl,rfl⟩,⟨15,_,by simp,rfl,rfl⟩,trivial⟩,_,rfl,rfl⟩
 ·rw[if_neg h1];rw[eJ h1]at c1;refine gH f136 ?_;exact K6
theorem OW {w0:aj}(hw:w0= [101,110,116,101,114])(x:aj):
  GU 136 [dyn (true,bL p),nN log,dyn (LF s),(true,cV u 11 13 15),dyn (V1 [w0,x])] u (aQ E p log s u 10 [x] n q):=by
 have I8: ¬w0= [117,115,101]:=by grind
 have hq:aQ E p log s u 10 [x] n q=if u.rel then(u,20)else if s.hall= []then(if s.opens= []then(u,24)else(u,0))else(u,17):=rfl
 rw[hq];clear hq;have ho:s.opens= []↔((ab s.opens).length :Int)=0:=by simp[ab]
 by_cases h1:u.rel=true
 ·rw[if_pos h1];refine gH f136 ?_;exact K6
 ·rw[if_neg h1];by_cases h2:s.hall= []
  ·rw[if_pos h2];by_cases h3:s.opens= []
   ·rw[if_pos h3];have h4:=ho.1 h3;refine gH f136 ?_;exact K6
   ·rw[if_neg h3];have h4:=λh=>h3 (ho.2 h);clear h3 ho;refine gH f136 ?_;exact K6
  ·rw[if_neg h2];refine gH f136 ?_;exact K6
theorem OX {w0:aj}(hw:w0= [108,101,97,118,101])(x:aj):
  GU 136 [dyn (true,bL p),nN log,dyn (LF s),(true,cV u 11 13 15),dyn (V1 [w0,x])] u (aQ E p log s u 11 [x] n q):=by
 have I8: ¬w0= [117,115,101]:=by grind
 have zY: ¬w0= [101,110,116,101,114]:=by grind
 have hq:aQ E p log s u 11 [x] n q=if s.hall=u.name then(if s.opens= []then(u,24)else(u,0))else(u,20):=rfl
 rw[hq];clear hq;have ho:s.opens= []↔((ab s.opens).length :Int)=0:=by simp[ab]
 by_cases h2:s.hall=u.name
 ·rw[if_pos h2];by_cases h3:s.opens= []
  ·rw[if_pos h3];have h4:=ho.1 h3;refine gH f136 ?_;exact K6
  ·rw[if_neg h3];have h4:=λh=>h3 (ho.2 h);clear h3 ho;refine gH f136 ?_;exact K6
 ·rw[if_neg h2];refine gH f136 ?_;exact K6
theorem RP {w0:aj}(hw:w0= [116,101,115,116])(x y:aj)(hg:GU 162 [dyn (true,bL p),nN log,dyn (LF s),(true,cV u 11 13 15),dyn (V1 [w0,x,y,q])] u (aQ E p log s u 12 [x,y] n q)):
  GU 136 [dyn (true,bL p),nN log,dyn (LF s),(true,cV u 11 13 15),dyn (V1 [w0,x,y,q])] u (aQ E p log s u 12 [x,y] n q):=by
 have I8: ¬w0= [117,115,101]:=by grind
 have zY: ¬w0= [101,110,116,101,114]:=by grind
 have CZ: ¬w0= [108,101,97,118,101]:=by grind
 have hm: ∀x'∈[dyn (true,bL p),nN log,dyn (LF s),(true,cV u 11 13 15),dyn (V1 [w0,x,y,q])],ec (· ∈ah (lC u 11 13 15)) x':=λx' tu=>by
  simp only[cF,jN,jO]at tu;rcases tu with rfl|rfl|rfl|rfl|rfl
  grind[bd]
  ·intro d hd;have:d= .st (.view (log.map cd)):=by grind
   subst this;trivial
  grind[bd]
  ·exact uV u
  grind[bd]
 generalize aQ E p log s u 12 [x,y] n q=y at*;obtain⟨u',e⟩:=y;refine gH f136 ?_;repeat' ((first|refine tX 0 ?_|exact Zt|refine bR ?_ ?_<;>intro h)<;>(try conv=>whnf))
 all_goals try exact Ze
 repeat((first|(refine kO 7 rfl ?_;first|refine oa (λ_ z=>⟨_,_,_,(vS hg (uH rfl rfl rfl) hm),z⟩) ?_)|refine tX 2 ?_|exact Zt);(try conv=>whnf))
 repeat' ((first|refine tX 0 ?_|exact Zt|refine bR ?_ ?_<;>intro h)<;>(try conv=>whnf))
 all_goals exact⟨[(fz 27 11,11),(fz 27 13,13),(fz 27 15,15)],bq rfl rfl,_,rfl,rfl⟩
theorem Hl {w0:aj}(hw:w0= [114,101,108,101,97,115,101])(x:aj)(hp:p.aa.length<=1000)(hu:u.res.length<=1000):
  GU 136 [dyn (true,bL p),nN log,dyn (LF s),(true,cV u 11 13 15),dyn (V1 [w0,x])] u (aQ E p log s u 14 [x] n q):=by
 have I8: ¬w0= [117,115,101]:=by grind
 have zY: ¬w0= [101,110,116,101,114]:=by grind
 have CZ: ¬w0= [108,101,97,118,101]:=by grind
 have Sa: ¬w0= [116,101,115,116]:=by grind
 have Ps: ¬w0= [114,101,112,97,105,114]:=by grind
 have hr:u.res.length<=1000000:=by omega
 obtain⟨M,hM⟩: ∃M,uA p u.res=M:=⟨_,rfl⟩;have hq:aQ E p log s u 14 [x] n q=if u.rel then(u,20)else if s.hall=u.name then(u,17)else if uA p u.res= []then({u with rel:=true},0)else(u,14):=rfl
 rw[hq,hM];clear hq;have cm:=λH fid a b c=> @RO H fid u a b c p M hM hp hr;have ho:M= []↔((ab M).length :Int)=0:=by simp[ab]
 by_cases h1:u.rel=true
 ·rw[if_pos h1];refine gH f136 ?_;exact K6
 ·rw[if_neg h1];by_cases h2:s.hall=u.name
  ·rw[if_pos h2];refine gH f136 ?_;exact K6
  ·rw[if_neg h2];by_cases h3:M= []
   ·rw[if_pos h3];have h4:=ho.1 h3;exact K78
   ·rw[if_neg h3];have h4: ¬((ab M).length :Int)=0:=λh=>h3 (ho.2 h);exact K78
theorem Hm {w0:aj}(hw:w0= [105,110,115,112,101,99,116])(x:aj):
  GU 136 [dyn (true,bL p),nN log,dyn (LF s),(true,cV u 11 13 15),dyn (V1 [w0,x])] u (aQ E p log s u 16 [x] n q):=by
 have I8: ¬w0= [117,115,101]:=by grind
 have zY: ¬w0= [101,110,116,101,114]:=by grind
 have CZ: ¬w0= [108,101,97,118,101]:=by grind
 have Sa: ¬w0= [116,101,115,116]:=by grind
 have Ps: ¬w0= [114,101,112,97,105,114]:=by grind
 have Xg: ¬w0= [114,101,108,101,97,115,101]:=by grind
 have hq:aQ E p log s u 16 [x] n q=if u.shaken then({u with shaken:=false},0)else(u,20):=rfl
 rw[hq];clear hq;by_cases h1:u.shaken=true
 ·rw[if_pos h1];refine gH f136 ?_;exact K6
 ·rw[if_neg h1];refine gH f136 ?_;exact K6
theorem uW {w0:aj}(w:List aj)(y:Un × Int)(I8: ¬w0= [117,115,101])(zY: ¬w0= [101,110,116,101,114])(CZ: ¬w0= [108,101,97,118,101])(Sa: ¬w0= [116,101,115,116])(Ps: ¬w0= [114,101,112,97,105,114])(Xg: ¬w0= [114,101,108,101,97,115,101])(ahy: ¬w0= [105,110,115,112,101,99,116])
  (hg:GU 166 [dyn (true,bL p),(true,cV u 11 13 15),dyn (V1 (w0::w))] u y):
  GU 136 [dyn (true,bL p),nN log,dyn (LF s),(true,cV u 11 13 15),dyn (V1 (w0::w))] u y:=by
 have hm: ∀x'∈[dyn (true,bL p),(true,cV u 11 13 15),dyn (V1 (w0::w))],ec (· ∈ah (lC u 11 13 15)) x':=λx' tu=>by
  simp only[cF,jN,jO]at tu;rcases tu with rfl|rfl|rfl
  ·exact bd _
  grind[uV]
  ·exact bd _
 obtain⟨u',e⟩:=y;refine gH f136 ?_;repeat' ((first|refine tX 0 ?_|exact Zt|refine bR ?_ ?_<;>intro h)<;>(try conv=>whnf))
 all_goals try exact Ze
 repeat((first|(refine kO 7 rfl ?_;first|refine oa (λ_ z=>⟨_,_,_,(vS hg (uH rfl rfl rfl) hm),z⟩) ?_)|refine tX 2 ?_|exact Zt);(try conv=>whnf))
 repeat' ((first|refine tX 0 ?_|exact Zt|refine bR ?_ ?_<;>intro h)<;>(try conv=>whnf))
 all_goals exact⟨[(fz 31 11,11),(fz 31 13,13),(fz 31 15,15)],bq rfl rfl,_,rfl,rfl⟩
end
end Go.Proofs.Tryz
