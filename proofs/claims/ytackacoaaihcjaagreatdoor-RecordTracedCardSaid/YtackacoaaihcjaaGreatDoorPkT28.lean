import Derived.Test.YtackacoaaihcjaaGreatDoorPkT27
set_option linter.all false
set_option maxRecDepth 100000
set_option maxHeartbeats 8000000
namespace Go.Proofs.Tryz
open Go.Fw Go.IntWalk Go.Plain
abbrev GU (f:FuncId)(xs:List DX)(u:Un)(y:Un × Int):Prop:=bt cx f 1 xs (lz u 11 13 15) [] (.aJ [(true,cP y.1 11 13 15),dyn (I y.2)]) (lz y.1 11 13 15)
def gH {f:FuncId}{c:Code}{xs:List DX}{r:DV}{T T':Hp}(fn:Func)(h:m6 cx c ⟨iz 0 xs,T,1⟩ (ac3 fn r T') (λ_ _=>False) (ac3 fn r T'))
  (h1:iG cx.P f=true:=by kernel_rfl)(h2:cx.P.funcs[f]? =some fn:=by kernel_rfl)(h3:fn.body=some c:=by rfl)(h4:bM fn.ntmps c=true:=by kernel_rfl)(h5:xs.length<=fn.ntmps:=by exact fP rfl)(h6:aM [] c=true:=by kernel_rfl):
  bt cx f 1 xs T [] r T':=
 fw lG h1 h2 h3 h4 h5 [] (λ_ h=>by cases h) h6 (λS hS=>by
  obtain⟨m,g1,g2⟩:=hS
  exact⟨m,g1,(λ_ h=>by cases h),g2⟩) h
abbrev m3:List (Nat × Nat):=[(11,11),(13,13),(15,15)]
abbrev Rd:aj:=[115,104,111,99,107]
abbrev afg:aj:=[108,111,97,100]
abbrev anD:aj:=[103,97,115]
def Fr (p:Pl)(u:Un)(w:List aj)(hr:u.rel=false):GU 244 [dyn (true,bU p),(true,cP u 11 13 15),dyn (V1 w)] u (u,20):=by
 obtain⟨name,win,ul,res,failed,rel,shaken,used,gas⟩:=u;have hr:rel=false:=hr;subst hr;refine gH f244 ?_;exact UC
def Oq (p:Pl)(u:Un)(x s:aj)(k:Int){w0:aj}(hw:w0=Rd)(hr:u.rel=true)(hl: ∀y∈[w0,x,s],y.length<=100000)(hn:jk [s]=some [k]):
  GU 244 [dyn (true,bU p),(true,cP u 11 13 15),dyn (V1 [w0,x,s])] u (if k<=1000 then({u with shaken:=u.shaken || decide (k>p.dW)},0)else(u,2)):=by
 have c1:=ld [w0,x,s] 2 (by simp) (by simp) hl;rw[show [w0,x,s].drop 2= [s]from rfl,hn]at c1;have c2:ad 196 [V1 [w0,x,s],I 2] (.aJ [(false,[.ints [k]]),Bo true]):=c1;obtain⟨name,win,ul,res,failed,rel,shaken,used,gas⟩:=u;have hr:rel=true:=hr;have e0:([k]:List Int).getD 0 0=k:=rfl;subst hr;by_cases hk:k<=1000
 ·rw[if_pos hk];cases shaken
  ·refine gH f244 ?_;exact UC
  ·refine gH f244 ?_;exact UC
 ·rw[if_neg hk];refine gH f244 ?_;exact UC
def Re (p:Pl)(u:Un)(x s1 s2:aj)(d t:Int){w0:aj}(hw:w0=afg)(hr:u.rel=true)(hl: ∀y∈[w0,x,s1,s2],y.length<=100000)(hn:jk [s1,s2]=some [d,t])(hp:0<=p.eH/\p.eH<=1000000000000)(hu:0<=u.used/\u.used<=1000000000000):
  GU 244 [dyn (true,bU p),(true,cP u 11 13 15),dyn (V1 [w0,x,s1,s2])] u (if u.shaken then(u,24)else if BB d t then(if u.used+w6 d t<=p.eH then({u with used:=u.used+w6 d t},0)else(u,22))else(u,2)):=by
 have n0: ¬w0=Rd:=by rw[hw];decide
 have c1:=ld [w0,x,s1,s2] 2 (by simp) (by simp) hl;rw[show [w0,x,s1,s2].drop 2= [s1,s2]from rfl,hn]at c1;have c2:ad 196 [V1 [w0,x,s1,s2],I 2] (.aJ [(false,[.ints [d,t]]),Bo true]):=c1;have c3:=QY d t;have hA:=TW d t;unfold Wl at c3;generalize w6 d t=A at*;have e0:([d,t]:List Int).getD 0 0=d:=rfl;have e1:([d,t]:List Int).getD 1 0=t:=rfl;by_cases hs:u.shaken=true;rotate_left
 ·rw[if_neg hs];by_cases ha:BB d t
  ·rw[if_pos ha]at c3 ⊢;by_cases hb:u.used+A<=p.eH
   ·rw[if_pos hb];refine gH f244 ?_;exact UC
   ·rw[if_neg hb];refine gH f244 ?_;exact UC
  ·rw[if_neg ha]at c3 ⊢;refine gH f244 ?_;exact UC
 ·rw[if_pos hs];refine gH f244 ?_;exact UC
def WA (p:Pl)(u:Un)(x s1 s2 s3 s4 s5:aj)(h m e y a:Int){w0:aj}(hw:w0=anD)(hr:u.rel=true)(hl: ∀y∈[w0,x,s1,s2,s3,s4,s5],y.length<=100000)(hn:jk [s1,s2,s3,s4,s5]=some [h,m,e,y,a])(hg:u.gas.length<=1000):
  GU 244 [dyn (true,bU p),(true,cP u 11 13 15),dyn (V1 [w0,x,s1,s2,s3,s4,s5])] u (if gok h m e y a then(if u.gas.length<10 then({u with gas:=u.gas++[⟨h,m,e,y,a⟩]},0)else(u,16))else(u,2)):=by
 have n0: ¬w0=Rd:=by rw[hw];decide
 have n1: ¬w0=afg:=by rw[hw];decide
 have c1:=ld [w0,x,s1,s2,s3,s4,s5] 2 (by simp) (by simp) hl;rw[show [w0,x,s1,s2,s3,s4,s5].drop 2= [s1,s2,s3,s4,s5]from rfl,hn]at c1;have c2:ad 196 [V1 [w0,x,s1,s2,s3,s4,s5],I 2] (.aJ [(false,[.ints [h,m,e,y,a]]),Bo true]):=c1;have c3:=GA (h:=h) (m:=m) (e:=e) (y:=y) (a:=a);unfold Wj at c3;have hgl:(u.gas.map uV).length =u.gas.length:=by simp
 by_cases ho:gok h m e y a
 ·rw[if_pos ho]at c3 ⊢;by_cases hb:u.gas.length<10
  ·rw[if_pos hb];refine gH f244 ?_;repeat' ((first|refine tX 0 ?_|exact Zt|refine bR ?_ ?_<;>intro h)<;>(try conv=>whnf))
   all_goals first|exact Ze|exact⟨[(11,11),(13,13),(110,15)],nI rfl ⟨⟨11,_,by simp,rfl,rfl⟩,⟨13,_,by simp,rfl,rfl⟩,⟨110,_,by simp,rfl,by rw[wD];kernel_rfl⟩,trivial⟩,_,rfl,rfl⟩
  ·rw[if_neg hb];refine gH f244 ?_;exact UC
 ·rw[if_neg ho]at c3 ⊢;refine gH f244 ?_;exact UC
abbrev KZ (s:bK):SV:=(true,[K s.volt,K s.earth,.view (ab s.opens),T s.hall,.view (ab s.lots),.any])
abbrev nJ (log:List En):DX:=(false,[.st (.view (log.map df))])
section
variable {H:HF}{fid:Nat}{u:Un}{a b c:Nat}
def Cw (ha:H a=some (.row true 1 (.view (ab u.lots))))(hb:H b=some (.row true 4 (.view (u.res.map kE))))(hc:H c=some (.row true 5 (.view (u.gas.map uV)))):yu H [a,b,c] (true,cP u a b c) (true,jQ u):=
 ⟨rfl,rfl,uv (by simp) ha hb hc⟩
def Ot {t:aj}{V:Bool}(hV:bH u.res t=V)(hl:u.res.length<=1000000)(ha:H a=some (.row true 1 (.view (ab u.lots))))(hb:H b=some (.row true 4 (.view (u.res.map kE))))(hc:H c=some (.row true 5 (.view (u.gas.map uV)))):
  bN cx fid 83 [(true,cP u a b c),(false,[.st (T t)])] H (.val (dyn (Bo V))) [] [a,b,c]:=by
 subst hV;exact iI (bx (Cw ha hb hc) (bx (kc (.st _)) iW)) (oS u t hl) rfl ⟨rfl,rfl,rfl⟩
def Ou {t:Ts}{V:Bool}(hV:iU u.res t=V)(ht:t.bu.length<=1000)(hl:u.res.length<=1000000)(ha:H a=some (.row true 1 (.view (ab u.lots))))(hb:H b=some (.row true 4 (.view (u.res.map kE))))(hc:H c=some (.row true 5 (.view (u.gas.map uV)))):
  bN cx fid 84 [(true,cP u a b c),dyn (true,fC t)] H (.val (dyn (Bo V))) [] [a,b,c]:=by
 subst hV;exact iI (bx (Cw ha hb hc) (bx (jl _) iW)) (Kx u t ht hl) rfl ⟨rfl,rfl,rfl⟩
def Rf {log:List En}{t:Ts}{r:aj}{y:Int × Int}(hs:ad 280 [(false,[.view (log.map df)]),(true,jQ u),(true,fC t),SS r] (.aJ [I y.1,I y.2]))(ha:H a=some (.row true 1 (.view (ab u.lots))))(hb:H b=some (.row true 4 (.view (u.res.map kE))))(hc:H c=some (.row true 5 (.view (u.gas.map uV)))):
  bN cx fid 280 [nJ log,(true,cP u a b c),dyn (true,fC t),(false,[.st (T r)])] H (.aJ [dyn (I y.1),dyn (I y.2)]) [] [a,b,c]:=
 iI (bx (kc (.st _)) (bx (Cw ha hb hc) (bx (jl _) (bx (kc (.st _)) iW)))) hs ajq ⟨rfl,rfl,rfl⟩
def Rg {p:Pl}{M:List aj}(hM:tO p u.res=M)(hp:p.aa.length<=1000)(hl:u.res.length<=1000000)(ha:H a=some (.row true 1 (.view (ab u.lots))))(hb:H b=some (.row true 4 (.view (u.res.map kE))))(hc:H c=some (.row true 5 (.view (u.gas.map uV)))):
  bN cx fid 35 [dyn (true,bU p),(true,cP u a b c)] H (Fw.bm (.own fid)) [(fid,some (.row true 1 (.view (ab M))))] [a,b,c]:=by
 subst hM;exact iI (bx (jl _) (bx (Cw ha hb hc) iW)) (Fi p u hp hl) (Ez _) ⟨rfl,rfl,rfl⟩
end
def WB (E:qH)(p:Pl)(log:List En)(s:bK)(u:Un)(w0 x y q:aj)(n:List Int)(hp:p.aa.length<=1000)(AM: ∀t∈p.aa,t.bu.length<=1000)(hu:u.res.length<=1000)(aht:log.length<=1000)
  (oX: ∀t∈p.aa,iU u.res t=true->ad 280 [(false,[.view (log.map df)]),(true,jQ u),(true,fC t),SS q] (.aJ [I (E.ev log u t q).1,I (E.ev log u t q).2])):
  GU 243 [dyn (true,bU p),nJ log,dyn (KZ s),(true,cP u 11 13 15),dyn (V1 [w0,x,y,q])] u (aI E p log s u 12 [x,y] n q):=by
 have ct:=pR p y hp;have hn1:(p.aa.map fC).length =p.aa.length:=by simp
 have bB:(log.map df).length =log.length:=by simp
 have Xj:(u.res.map kE).length =u.res.length:=by simp
 have hr:u.res.length<=1000000:=by omega
 by_cases hy:y∈cO p.aa
 ·obtain⟨j,hj,e⟩:=k6 hy;have hjl:j<p.aa.length:=by simpa [cO]using hj
  have htm:p.aa.getD j dt∈p.aa:=yZ hjl;have he:=bg (f:=fC) hjl dt
  have hq:aI E p log s u 12 [x,y] n q=if s.hall=u.name/\u.failed=false then(if bH u.res (p.aa.getD j dt).name then(u,23)else if iU u.res (p.aa.getD j dt)=false then(u,14)else if decide ((p.aa.getD j dt).kind =0)=s.volt then(u,24)else
     if(E.ev log u (p.aa.getD j dt) q).2=0 then({u with res:=u.res++[⟨(p.aa.getD j dt).name,(E.ev log u (p.aa.getD j dt) q).1,log.length,false⟩],failed:=decide ((E.ev log u (p.aa.getD j dt) q).1=0)},0)else(u,(E.ev log u (p.aa.getD j dt) q).2))else(u,20):=by
   have h0:0<=aZ (cO p.aa) y:=by omega
   show(if 0<=aZ (cO p.aa) y then _ else _)=_;rw[if_pos h0];simp only[Sr,Lx];rw[e,sB]
  rw[hq];rw[e]at ct;have oX:=oX _ htm;have AM:=AM _ htm;clear hq;generalize p.aa.getD j dt=t at*;obtain⟨V,hV⟩: ∃V,bH u.res t.name=V:=⟨_,rfl⟩;obtain⟨D,hD⟩: ∃D,iU u.res t=D:=⟨_,rfl⟩;rw[hV,hD];rw[hD]at oX;have W7:=λhs=> @Rf (u:=u) (t:=t) (r:=q) (y:=E.ev log u t q) (log:=log) (hs:=hs);generalize E.ev log u t q=z at*;obtain⟨z1,z2⟩:=z;have cv:=λH fid a b c=> @Ot H fid u a b c t.name V hV hr;have cr:=λH fid a b c=> @Ou H fid u a b c t D hD AM hr;clear hV hD;obtain⟨nm,kd,nd,ru,lo,hi⟩:=t;have he:(p.aa.map fC)[j]? =some [T nm,J kd,.view (ab nd),T ru,J lo,J hi]:=he;dsimp only at W7 oX;dsimp only;by_cases hh:s.hall=u.name
  ·by_cases hf:u.failed=false
   ·rw[if_pos ⟨hh,hf⟩];cases V
    ·rw[if_neg xH];cases D
     ·rw[if_pos rfl];exact K69
     ·rw[if_neg K9];have W7:=λH fid a b c=> @W7 (oX rfl) H fid a b c;by_cases hk:decide (kd=0)=s.volt
      ·rw[if_pos hk];have Xi:((kd==0)==s.volt)=true:=by rw[show(kd==0)=decide (kd=0)from rfl,hk];simp
       exact K69
      ·rw[if_neg hk];have Xi: ¬((kd==0)==s.volt)=true:=λh=>hk (by rw[show(kd==0)=decide (kd=0)from rfl]at h;simpa using h);by_cases hz:z2=0
       ·subst hz;rw[if_pos rfl];refine gH f243 ?_;repeat' ((first|(refine kO 7 rfl ?_;first|refine ij (λ_ z=>⟨_,_,_,(cv _ _ _ _ _ rfl rfl rfl),z⟩) ?_|refine ij (λ_ z=>⟨_,_,_,(cr _ _ _ _ _ rfl rfl rfl),z⟩) ?_|refine ij (λ_ z=>⟨_,_,_,(W7 _ _ _ _ _ rfl rfl rfl),z⟩) ?_)|refine tX 0 ?_|exact Zt|refine bR ?_ ?_<;>intro h)<;>(try conv=>whnf))
        all_goals first|exact Zs|exact⟨[(11,11),(134,13),(15,15)],nI rfl ⟨⟨11,_,by simp,rfl,rfl⟩,⟨134,_,by simp,rfl,by rw[wD,<- bB];kernel_rfl⟩,⟨15,_,by simp,rfl,rfl⟩,trivial⟩,_,rfl,rfl⟩
       ·rw[if_neg hz];refine gH f243 ?_;repeat' ((first|(refine kO 7 rfl ?_;first|refine ij (λ_ z=>⟨_,_,_,(cv _ _ _ _ _ rfl rfl rfl),z⟩) ?_|refine ij (λ_ z=>⟨_,_,_,(cr _ _ _ _ _ rfl rfl rfl),z⟩) ?_|refine ij (λ_ z=>⟨_,_,_,(W7 _ _ _ _ _ rfl rfl rfl),z⟩) ?_)|refine tX 0 ?_|exact Zt|refine bR ?_ ?_<;>intro h)<;>(try conv=>whnf))
        all_goals first|exact Zs|exact⟨m3,dU rfl rfl,_,rfl,rfl⟩
    ·rw[if_pos rfl];refine gH f243 ?_;repeat' ((first|(refine kO 7 rfl ?_;first|refine ij (λ_ z=>⟨_,_,_,(cv _ _ _ _ _ rfl rfl rfl),z⟩) ?_)|refine tX 0 ?_|exact Zt|refine bR ?_ ?_<;>intro h)<;>(try conv=>whnf))
     all_goals first|exact Zs|exact⟨m3,dU rfl rfl,_,rfl,rfl⟩
   ·rw[if_neg (λh=>hf h.2)];refine gH f243 ?_;exact K8
  ·rw[if_neg (λh=>hh h.1)];refine gH f243 ?_;exact K8
 ·rw[fp hy]at ct
  have hq:aI E p log s u 12 [x,y] n q=(u,6):=by
   show(if 0<=aZ (cO p.aa) y then _ else _)=_;rw[fp hy,if_neg K9]
  rw[hq];refine gH f243 ?_;exact UC
def T5 (u:Un):Mz (lz u 11 13 15):=by
 refine⟨by simp[lz],λk hk=>?_,λk b e=>?_⟩
 ·exact aiv
 ·exact air
theorem ux (u:Un):dY (· ∈ah (lz u 11 13 15)) (true,cP u 11 13 15):=by
 intro d hd;exact ahM
def Cx {H:HF}{fid:Nat}{f:FuncId}{xs:List DX}{u:Un}{y:Un × Int}(h:GU f xs u y)(hH: ∀k∈ah (lz u 11 13 15),(lz u 11 13 15).get k=H k)(B6: ∀x∈xs,dY (· ∈ah (lz u 11 13 15)) x):
  bN cx fid f xs H (KV (fresh (tag fid) 0) (.aJ [(true,cP y.1 11 13 15),dyn (I y.2)])) (cC (lz u 11 13 15) (cN (fresh (tag fid) 0) (lz y.1 11 13 15))) (ah (lz u 11 13 15)):=by
 refine H9 h (T5 u) (T5 y.1) (dw _) hH B6 (λx hx=>?_);simp only[cQ,mA,mB]at hx
 grind[ux,bA]
def uH {u:Un}{H:HF}(h1:H 11=some (.row true 1 (.view (ab u.lots))))(h2:H 13=some (.row true 4 (.view (u.res.map kE))))(h3:H 15=some (.row true 5 (.view (u.gas.map uV)))): ∀k∈ah (lz u 11 13 15),(lz u 11 13 15).get k=H k:=λk hk=>by
 have:k=11\/k=13\/k=15:=by simpa [lz,ah]using hk
 exact ajo
section
variable (E:qH)(p:Pl)(log:List En)(s:bK)(u:Un)(q:aj)(n:List Int)
theorem WC {w0:aj}(hw:w0= [117,115,101])(x y:aj)(hs:s.lots.length<=1000)(hu:u.lots.length<=1000):
  GU 199 [dyn (true,bU p),nJ log,dyn (KZ s),(true,cP u 11 13 15),dyn (V1 [w0,x,y])] u (aI E p log s u 3 [x,y] n q):=by
 have c1:=cj s.lots y K0;have c2:=cj u.lots y K0;have vN:(ab u.lots).length =u.lots.length:=by simp
 have hq:aI E p log s u 3 [x,y] n q=if y∈s.lots then(if u.rel then(u,20)else if y∈u.lots then(u,23)else({u with lots:=u.lots++[y]},0))else(u,6):=rfl
 rw[hq];clear hq;by_cases h1:y∈s.lots
 ·rw[if_pos h1];rw[fH h1]at c1;by_cases h2:u.rel=true
  ·rw[if_pos h2];refine gH f199 ?_;exact K8
  ·rw[if_neg h2];by_cases h3:y∈u.lots
   ·rw[if_pos h3];rw[fH h3]at c2;refine gH f199 ?_;exact K8
   ·rw[if_neg h3];rw[eT h3]at c2;refine gH f199 ?_;repeat' ((first|refine tX 0 ?_|exact Zt|refine bR ?_ ?_<;>intro h)<;>(try conv=>whnf))
    all_goals first|exact Zs|exact⟨[(74,11),(13,13),(15,15)],nI rfl ⟨⟨74,_,by simp,rfl,by rw[qx];kernel_rfl⟩,⟨13,_,by simp,rfl,rfl⟩,⟨15,_,by simp,rfl,rfl⟩,trivial⟩,_,rfl,rfl⟩
 ·rw[if_neg h1];rw[eT h1]at c1;refine gH f199 ?_;exact K8
theorem Ov {w0:aj}(hw:w0= [101,110,116,101,114])(x:aj):
  GU 199 [dyn (true,bU p),nJ log,dyn (KZ s),(true,cP u 11 13 15),dyn (V1 [w0,x])] u (aI E p log s u 10 [x] n q):=by
 have IG: ¬w0= [117,115,101]:=by grind
 have hq:aI E p log s u 10 [x] n q=if u.rel then(u,20)else if s.hall= []then(if s.opens= []then(u,24)else(u,0))else(u,17):=rfl
 rw[hq];clear hq;have ho:s.opens= []↔((ab s.opens).length :Int)=0:=by simp[ab]
 by_cases h1:u.rel=true
 ·rw[if_pos h1];refine gH f199 ?_;exact K8
 ·rw[if_neg h1];by_cases h2:s.hall= []
  ·rw[if_pos h2];by_cases h3:s.opens= []
   ·rw[if_pos h3];have h4:=ho.1 h3;refine gH f199 ?_;exact K8
   ·rw[if_neg h3];have h4:=λh=>h3 (ho.2 h);clear h3 ho;refine gH f199 ?_;exact K8
  ·rw[if_neg h2];refine gH f199 ?_;exact K8
theorem Ow {w0:aj}(hw:w0= [108,101,97,118,101])(x:aj):
  GU 199 [dyn (true,bU p),nJ log,dyn (KZ s),(true,cP u 11 13 15),dyn (V1 [w0,x])] u (aI E p log s u 11 [x] n q):=by
 have IG: ¬w0= [117,115,101]:=by grind
 have zF: ¬w0= [101,110,116,101,114]:=by grind
 have hq:aI E p log s u 11 [x] n q=if s.hall=u.name then(if s.opens= []then(u,24)else(u,0))else(u,20):=rfl
 rw[hq];clear hq;have ho:s.opens= []↔((ab s.opens).length :Int)=0:=by simp[ab]
 by_cases h2:s.hall=u.name
 ·rw[if_pos h2];by_cases h3:s.opens= []
  ·rw[if_pos h3];have h4:=ho.1 h3;refine gH f199 ?_;exact K8
  ·rw[if_neg h3];have h4:=λh=>h3 (ho.2 h);clear h3 ho;refine gH f199 ?_;exact K8
 ·rw[if_neg h2];refine gH f199 ?_;exact K8
theorem Ri {w0:aj}(hw:w0= [116,101,115,116])(x y:aj)(hg:GU 243 [dyn (true,bU p),nJ log,dyn (KZ s),(true,cP u 11 13 15),dyn (V1 [w0,x,y,q])] u (aI E p log s u 12 [x,y] n q)):
  GU 199 [dyn (true,bU p),nJ log,dyn (KZ s),(true,cP u 11 13 15),dyn (V1 [w0,x,y,q])] u (aI E p log s u 12 [x,y] n q):=by
 have IG: ¬w0= [117,115,101]:=by grind
 have zF: ¬w0= [101,110,116,101,114]:=by grind
 have CA: ¬w0= [108,101,97,118,101]:=by grind
 have hm: ∀x'∈[dyn (true,bU p),nJ log,dyn (KZ s),(true,cP u 11 13 15),dyn (V1 [w0,x,y,q])],dY (· ∈ah (lz u 11 13 15)) x':=λx' AN=>by
  simp only[cQ,mA,mB]at AN;rcases AN with rfl|rfl|rfl|rfl|rfl
  grind[bA]
  ·exact afJ
  grind[bA]
  ·exact ux u
  grind[bA]
 generalize aI E p log s u 12 [x,y] n q=y at*;obtain⟨u',e⟩:=y;refine gH f199 ?_;repeat' ((first|refine tX 0 ?_|exact Zt|refine bR ?_ ?_<;>intro h)<;>(try conv=>whnf))
 all_goals try exact Ze
 repeat((first|(refine kO 7 rfl ?_;first|refine se (λ_ z=>⟨_,_,_,(Cx hg (uH rfl rfl rfl) hm),z⟩) ?_)|refine tX 2 ?_|exact Zt);(try conv=>whnf))
 repeat' ((first|refine tX 0 ?_|exact Zt|refine bR ?_ ?_<;>intro h)<;>(try conv=>whnf))
 all_goals exact⟨[(fz 27 11,11),(fz 27 13,13),(fz 27 15,15)],dU rfl rfl,_,rfl,rfl⟩
theorem GH {w0:aj}(hw:w0= [114,101,108,101,97,115,101])(x:aj)(hp:p.aa.length<=1000)(hu:u.res.length<=1000):
  GU 199 [dyn (true,bU p),nJ log,dyn (KZ s),(true,cP u 11 13 15),dyn (V1 [w0,x])] u (aI E p log s u 14 [x] n q):=by
 have IG: ¬w0= [117,115,101]:=by grind
 have zF: ¬w0= [101,110,116,101,114]:=by grind
 have CA: ¬w0= [108,101,97,118,101]:=by grind
 have RJ: ¬w0= [116,101,115,116]:=by grind
 have O8: ¬w0= [114,101,112,97,105,114]:=by grind
 have hr:u.res.length<=1000000:=by omega
 obtain⟨M,hM⟩: ∃M,tO p u.res=M:=⟨_,rfl⟩;have hq:aI E p log s u 14 [x] n q=if u.rel then(u,20)else if s.hall=u.name then(u,17)else if tO p u.res= []then({u with rel:=true},0)else(u,14):=rfl
 rw[hq,hM];clear hq;have cm:=λH fid a b c=> @Rg H fid u a b c p M hM hp hr;have ho:M= []↔((ab M).length :Int)=0:=by simp[ab]
 by_cases h1:u.rel=true
 ·rw[if_pos h1];refine gH f199 ?_;exact K8
 ·rw[if_neg h1];by_cases h2:s.hall=u.name
  ·rw[if_pos h2];refine gH f199 ?_;exact K8
  ·rw[if_neg h2];by_cases h3:M= []
   ·rw[if_pos h3];have h4:=ho.1 h3;exact K86
   ·rw[if_neg h3];have h4: ¬((ab M).length :Int)=0:=λh=>h3 (ho.2 h);exact K86
theorem GI {w0:aj}(hw:w0= [105,110,115,112,101,99,116])(x:aj):
  GU 199 [dyn (true,bU p),nJ log,dyn (KZ s),(true,cP u 11 13 15),dyn (V1 [w0,x])] u (aI E p log s u 16 [x] n q):=by
 have IG: ¬w0= [117,115,101]:=by grind
 have zF: ¬w0= [101,110,116,101,114]:=by grind
 have CA: ¬w0= [108,101,97,118,101]:=by grind
 have RJ: ¬w0= [116,101,115,116]:=by grind
 have O8: ¬w0= [114,101,112,97,105,114]:=by grind
 have W5: ¬w0= [114,101,108,101,97,115,101]:=by grind
 have hq:aI E p log s u 16 [x] n q=if u.shaken then({u with shaken:=false},0)else(u,20):=rfl
 rw[hq];clear hq;by_cases h1:u.shaken=true
 ·rw[if_pos h1];refine gH f199 ?_;exact K8
 ·rw[if_neg h1];refine gH f199 ?_;exact K8
theorem uz {w0:aj}(w:List aj)(y:Un × Int)(IG: ¬w0= [117,115,101])(zF: ¬w0= [101,110,116,101,114])(CA: ¬w0= [108,101,97,118,101])(RJ: ¬w0= [116,101,115,116])(O8: ¬w0= [114,101,112,97,105,114])(W5: ¬w0= [114,101,108,101,97,115,101])(ahK: ¬w0= [105,110,115,112,101,99,116])
  (hg:GU 244 [dyn (true,bU p),(true,cP u 11 13 15),dyn (V1 (w0::w))] u y):
  GU 199 [dyn (true,bU p),nJ log,dyn (KZ s),(true,cP u 11 13 15),dyn (V1 (w0::w))] u y:=by
 have hm: ∀x'∈[dyn (true,bU p),(true,cP u 11 13 15),dyn (V1 (w0::w))],dY (· ∈ah (lz u 11 13 15)) x':=λx' AN=>by
  simp only[cQ,mA,mB]at AN;rcases AN with rfl|rfl|rfl
  ·exact bA _
  grind[ux]
  ·exact bA _
 obtain⟨u',e⟩:=y;refine gH f199 ?_;repeat' ((first|refine tX 0 ?_|exact Zt|refine bR ?_ ?_<;>intro h)<;>(try conv=>whnf))
 all_goals try exact Ze
 repeat((first|(refine kO 7 rfl ?_;first|refine se (λ_ z=>⟨_,_,_,(Cx hg (uH rfl rfl rfl) hm),z⟩) ?_)|refine tX 2 ?_|exact Zt);(try conv=>whnf))
 repeat' ((first|refine tX 0 ?_|exact Zt|refine bR ?_ ?_<;>intro h)<;>(try conv=>whnf))
 all_goals exact⟨[(fz 31 11,11),(fz 31 13,13),(fz 31 15,15)],dU rfl rfl,_,rfl,rfl⟩
end
end Go.Proofs.Tryz
