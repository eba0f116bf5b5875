import Derived.Test.YtackacoaaihcjaaGreatDoorPkF27
set_option linter.all false
set_option maxRecDepth 100000
set_option maxHeartbeats 8000000
namespace Go.Proofs.Tryz
open Go.Fw Go.IntWalk Go.Plain
abbrev GU (f:FuncId)(xs:List DX)(u:Un)(y:Un × Int):Prop:=bt cx f 1 xs (lA u 11 13 15) [] (.aJ [(true,cP y.1 11 13 15),dyn (I y.2)]) (lA y.1 11 13 15)
def gH {f:FuncId}{c:Code}{xs:List DX}{r:DV}{T T':Hp}(fn:Func)(h:m6 cx c ⟨iz 0 xs,T,1⟩ (ac9 fn r T') (λ_ _=>False) (ac9 fn r T'))
  (h1:iH cx.P f=true:=by kernel_rfl)(h2:cx.P.funcs[f]? =some fn:=by kernel_rfl)(h3:fn.body=some c:=by rfl)(h4:bM fn.ntmps c=true:=by kernel_rfl)(h5:xs.length<=fn.ntmps:=by exact fO rfl)(h6:aM [] c=true:=by kernel_rfl):
  bt cx f 1 xs T [] r T':=
 fA lH h1 h2 h3 h4 h5 [] (λ_ h=>by cases h) h6 (λS hS=>by
  obtain⟨m,g1,g2⟩:=hS
  exact⟨m,g1,(λ_ h=>by cases h),g2⟩) h
abbrev m3:List (Nat × Nat):=[(11,11),(13,13),(15,15)]
abbrev Rm:aj:=[115,104,111,99,107]
abbrev afj:aj:=[108,111,97,100]
abbrev anI:aj:=[103,97,115]
def Fs (p:Pl)(u:Un)(w:List aj)(hr:u.rel=false):GU 244 [dyn (true,bU p),(true,cP u 11 13 15),dyn (V1 w)] u (u,20):=by
 obtain⟨name,win,ul,res,failed,rel,shaken,used,gas⟩:=u;have hr:rel=false:=hr;subst hr;refine gH f244 ?_;exact UO
def Oz (p:Pl)(u:Un)(x s:aj)(k:Int){w0:aj}(hw:w0=Rm)(hr:u.rel=true)(hl: ∀y∈[w0,x,s],y.length<=100000)(hn:jl [s]=some [k]):
  GU 244 [dyn (true,bU p),(true,cP u 11 13 15),dyn (V1 [w0,x,s])] u (if k<=1000 then({u with shaken:=u.shaken || decide (k>p.dY)},0)else(u,2)):=by
 have c1:=lh [w0,x,s] 2 (by simp) (by simp) hl;rw[show [w0,x,s].drop 2= [s]from rfl,hn]at c1;have c2:ac 196 [V1 [w0,x,s],I 2] (.aJ [(false,[.ints [k]]),Bo true]):=c1;obtain⟨name,win,ul,res,failed,rel,shaken,used,gas⟩:=u;have hr:rel=true:=hr;have e0:([k]:List Int).getD 0 0=k:=rfl;subst hr;by_cases hk:k<=1000
 ·rw[if_pos hk];cases shaken
  ·refine gH f244 ?_;exact UO
  ·refine gH f244 ?_;exact UO
 ·rw[if_neg hk];refine gH f244 ?_;exact UO
def Rn (p:Pl)(u:Un)(x s1 s2:aj)(d t:Int){w0:aj}(hw:w0=afj)(hr:u.rel=true)(hl: ∀y∈[w0,x,s1,s2],y.length<=100000)(hn:jl [s1,s2]=some [d,t])(hp:0<=p.eH/\p.eH<=1000000000000)(hu:0<=u.used/\u.used<=1000000000000):
  GU 244 [dyn (true,bU p),(true,cP u 11 13 15),dyn (V1 [w0,x,s1,s2])] u (if u.shaken then(u,24)else if BF d t then(if u.used+wW d t<=p.eH then({u with used:=u.used+wW d t},0)else(u,22))else(u,2)):=by
 have n0: ¬w0=Rm:=by rw[hw];decide
 have c1:=lh [w0,x,s1,s2] 2 (by simp) (by simp) hl;rw[show [w0,x,s1,s2].drop 2= [s1,s2]from rfl,hn]at c1;have c2:ac 196 [V1 [w0,x,s1,s2],I 2] (.aJ [(false,[.ints [d,t]]),Bo true]):=c1;have c3:=Q4 d t;have hA:=T8 d t;unfold Wx at c3;generalize wW d t=A at*;have e0:([d,t]:List Int).getD 0 0=d:=rfl;have e1:([d,t]:List Int).getD 1 0=t:=rfl;by_cases hs:u.shaken=true;rotate_left
 ·rw[if_neg hs];by_cases ha:BF d t
  ·rw[if_pos ha]at c3 ⊢;by_cases hb:u.used+A<=p.eH
   ·rw[if_pos hb];refine gH f244 ?_;exact UO
   ·rw[if_neg hb];refine gH f244 ?_;exact UO
  ·rw[if_neg ha]at c3 ⊢;refine gH f244 ?_;exact UO
 ·rw[if_pos hs];refine gH f244 ?_;exact UO
def WP (p:Pl)(u:Un)(x s1 s2 s3 s4 s5:aj)(h m e y a:Int){w0:aj}(hw:w0=anI)(hr:u.rel=true)(hl: ∀y∈[w0,x,s1,s2,s3,s4,s5],y.length<=100000)(hn:jl [s1,s2,s3,s4,s5]=some [h,m,e,y,a])(hg:u.gas.length<=1000):
  GU 244 [dyn (true,bU p),(true,cP u 11 13 15),dyn (V1 [w0,x,s1,s2,s3,s4,s5])] u (if gok h m e y a then(if u.gas.length<10 then({u with gas:=u.gas++[⟨h,m,e,y,a⟩]},0)else(u,16))else(u,2)):=by
 have n0: ¬w0=Rm:=by rw[hw];decide
 have n1: ¬w0=afj:=by rw[hw];decide
 have c1:=lh [w0,x,s1,s2,s3,s4,s5] 2 (by simp) (by simp) hl;rw[show [w0,x,s1,s2,s3,s4,s5].drop 2= [s1,s2,s3,s4,s5]from rfl,hn]at c1;have c2:ac 196 [V1 [w0,x,s1,s2,s3,s4,s5],I 2] (.aJ [(false,[.ints [h,m,e,y,a]]),Bo true]):=c1;have c3:=GA (h:=h) (m:=m) (e:=e) (y:=y) (a:=a);unfold Ww at c3;have hgl:(u.gas.map uV).length =u.gas.length:=by simp
 by_cases ho:gok h m e y a
 ·rw[if_pos ho]at c3 ⊢;by_cases hb:u.gas.length<10
  ·rw[if_pos hb];refine gH f244 ?_;repeat' ((first|refine tX 0 ?_|exact Zt|refine bR ?_ ?_<;>intro h)<;>(try conv=>whnf))
   all_goals first|exact Ze|exact⟨[(11,11),(13,13),(110,15)],nJ rfl ⟨⟨11,_,by simp,rfl,rfl⟩,⟨13,_,by simp,rfl,rfl⟩,⟨110,_,by simp,rfl,by rw[wx];kernel_rfl⟩,trivial⟩,_,rfl,rfl⟩
  ·rw[if_neg hb];refine gH f244 ?_;exact UO
 ·rw[if_neg ho]at c3 ⊢;refine gH f244 ?_;exact UO
abbrev Lg (s:bQ):SV:=(true,[K s.volt,K s.earth,.view (ab s.opens),T s.hall,.view (ab s.lots),.any])
abbrev nK (log:List En):DX:=(false,[.st (.view (log.map cY))])
section
variable {H:HF}{fid:Nat}{u:Un}{a b c:Nat}
def Cy (ha:H a=some (.row true 1 (.view (ab u.lots))))(hb:H b=some (.row true 4 (.view (u.res.map kG))))(hc:H c=some (.row true 5 (.view (u.gas.map uV)))):Bg H [a,b,c] (true,cP u a b c) (true,kz u):=
 ⟨rfl,rfl,ut (by simp) ha hb hc⟩
def OA {t:aj}{V:Bool}(hV:bH u.res t=V)(hl:u.res.length<=1000000)(ha:H a=some (.row true 1 (.view (ab u.lots))))(hb:H b=some (.row true 4 (.view (u.res.map kG))))(hc:H c=some (.row true 5 (.view (u.gas.map uV)))):
  bW cx fid 83 [(true,cP u a b c),(false,[.st (T t)])] H (.val (dyn (Bo V))) [] [a,b,c]:=by
 subst hV;exact iJ (bK (Cy ha hb hc) (bK (kh (.st _)) jM)) (oR u t hl) rfl ⟨rfl,rfl,rfl⟩
def OB {t:Ts}{V:Bool}(hV:iV u.res t=V)(ht:t.bu.length<=1000)(hl:u.res.length<=1000000)(ha:H a=some (.row true 1 (.view (ab u.lots))))(hb:H b=some (.row true 4 (.view (u.res.map kG))))(hc:H c=some (.row true 5 (.view (u.gas.map uV)))):
  bW cx fid 84 [(true,cP u a b c),dyn (true,fq t)] H (.val (dyn (Bo V))) [] [a,b,c]:=by
 subst hV;exact iJ (bK (Cy ha hb hc) (bK (k9 _) jM)) (KD u t ht hl) rfl ⟨rfl,rfl,rfl⟩
def Ro {log:List En}{t:Ts}{r:aj}{y:Int × Int}(hs:ac 280 [(false,[.view (log.map cY)]),(true,kz u),(true,fq t),SS r] (.aJ [I y.1,I y.2]))(ha:H a=some (.row true 1 (.view (ab u.lots))))(hb:H b=some (.row true 4 (.view (u.res.map kG))))(hc:H c=some (.row true 5 (.view (u.gas.map uV)))):
  bW cx fid 280 [nK log,(true,cP u a b c),dyn (true,fq t),(false,[.st (T r)])] H (.aJ [dyn (I y.1),dyn (I y.2)]) [] [a,b,c]:=
 iJ (bK (kh (.st _)) (bK (Cy ha hb hc) (bK (k9 _) (bK (kh (.st _)) jM)))) hs ajr ⟨rfl,rfl,rfl⟩
def Rp {p:Pl}{M:List aj}(hM:tQ p u.res=M)(hp:p.aa.length<=1000)(hl:u.res.length<=1000000)(ha:H a=some (.row true 1 (.view (ab u.lots))))(hb:H b=some (.row true 4 (.view (u.res.map kG))))(hc:H c=some (.row true 5 (.view (u.gas.map uV)))):
  bW cx fid 35 [dyn (true,bU p),(true,cP u a b c)] H (Fw.bm (.own fid)) [(fid,some (.row true 1 (.view (ab M))))] [a,b,c]:=by
 subst hM;exact iJ (bK (k9 _) (bK (Cy ha hb hc) jM)) (Fj p u hp hl) (Ey _) ⟨rfl,rfl,rfl⟩
end
def WQ (E:qp)(p:Pl)(log:List En)(s:bQ)(u:Un)(w0 x y q:aj)(n:List Int)(hp:p.aa.length<=1000)(AR: ∀t∈p.aa,t.bu.length<=1000)(hu:u.res.length<=1000)(ahA:log.length<=1000)
  (oW: ∀t∈p.aa,iV u.res t=true->ac 280 [(false,[.view (log.map cY)]),(true,kz u),(true,fq t),SS q] (.aJ [I (E.ev log u t q).1,I (E.ev log u t q).2])):
  GU 243 [dyn (true,bU p),nK log,dyn (Lg s),(true,cP u 11 13 15),dyn (V1 [w0,x,y,q])] u (aI E p log s u 12 [x,y] n q):=by
 have ct:=mj p y hp;have hn1:(p.aa.map fq).length =p.aa.length:=by simp
 have bA:(log.map cY).length =log.length:=by simp
 have Ur:(u.res.map kG).length =u.res.length:=by simp
 have hr:u.res.length<=1000000:=by omega
 by_cases hy:y∈cL p.aa
 ·obtain⟨j,hj,e⟩:=k7 hy;have hjl:j<p.aa.length:=by simpa [cL]using hj
  have htm:p.aa.getD j dk∈p.aa:=yZ hjl;have he:=bg (f:=fq) hjl dk
  have hq:aI E p log s u 12 [x,y] n q=if s.hall=u.name/\u.failed=false then(if bH u.res (p.aa.getD j dk).name then(u,23)else if iV u.res (p.aa.getD j dk)=false then(u,14)else if decide ((p.aa.getD j dk).kind =0)=s.volt then(u,24)else
     if(E.ev log u (p.aa.getD j dk) q).2=0 then({u with res:=u.res++[⟨(p.aa.getD j dk).name,(E.ev log u (p.aa.getD j dk) q).1,log.length,false⟩],failed:=decide ((E.ev log u (p.aa.getD j dk) q).1=0)},0)else(u,(E.ev log u (p.aa.getD j dk) q).2))else(u,20):=by
   have h0:0<=aZ (cL p.aa) y:=by omega
   show(if 0<=aZ (cL p.aa) y then _ else _)=_;rw[if_pos h0];simp only[SE,LF];rw[e,p8]
  rw[hq];rw[e]at ct;have oW:=oW _ htm;have AR:=AR _ htm;clear hq;generalize p.aa.getD j dk=t at*;obtain⟨V,hV⟩: ∃V,bH u.res t.name=V:=⟨_,rfl⟩;obtain⟨D,hD⟩: ∃D,iV u.res t=D:=⟨_,rfl⟩;rw[hV,hD];rw[hD]at oW;have Xp:=λhs=> @Ro (u:=u) (t:=t) (r:=q) (y:=E.ev log u t q) (log:=log) (hs:=hs);generalize E.ev log u t q=z at*;obtain⟨z1,z2⟩:=z;have cv:=λH fid a b c=> @OA H fid u a b c t.name V hV hr;have cr:=λH fid a b c=> @OB H fid u a b c t D hD AR hr;clear hV hD;obtain⟨nm,kd,nd,ru,lo,hi⟩:=t;have he:(p.aa.map fq)[j]? =some [T nm,J kd,.view (ab nd),T ru,J lo,J hi]:=he;dsimp only at Xp oW;dsimp only;by_cases hh:s.hall=u.name
  ·by_cases hf:u.failed=false
   ·rw[if_pos ⟨hh,hf⟩];cases V
    ·rw[if_neg xH];cases D
     ·rw[if_pos rfl];exact K69
     ·rw[if_neg K9];have Xp:=λH fid a b c=> @Xp (oW rfl) H fid a b c;by_cases hk:decide (kd=0)=s.volt
      ·rw[if_pos hk];have Xx:((kd==0)==s.volt)=true:=by rw[show(kd==0)=decide (kd=0)from rfl,hk];simp
       exact K69
      ·rw[if_neg hk];have Xx: ¬((kd==0)==s.volt)=true:=λh=>hk (by rw[show(kd==0)=decide (kd=0)from rfl]at h;simpa using h);by_cases hz:z2=0
       ·subst hz;rw[if_pos rfl];refine gH f243 ?_;repeat' ((first|(refine kO 7 rfl ?_;first|refine ii (λ_ z=>⟨_,_,_,(cv _ _ _ _ _ rfl rfl rfl),z⟩) ?_|refine ii (λ_ z=>⟨_,_,_,(cr _ _ _ _ _ rfl rfl rfl),z⟩) ?_|refine ii (λ_ z=>⟨_,_,_,(Xp _ _ _ _ _ rfl rfl rfl),z⟩) ?_)|refine tX 0 ?_|exact Zt|refine bR ?_ ?_<;>intro h)<;>(try conv=>whnf))
        all_goals first|exact Zs|exact⟨[(11,11),(134,13),(15,15)],nJ rfl ⟨⟨11,_,by simp,rfl,rfl⟩,⟨134,_,by simp,rfl,by rw[wx,<- bA];kernel_rfl⟩,⟨15,_,by simp,rfl,rfl⟩,trivial⟩,_,rfl,rfl⟩
       ·rw[if_neg hz];refine gH f243 ?_;repeat' ((first|(refine kO 7 rfl ?_;first|refine ii (λ_ z=>⟨_,_,_,(cv _ _ _ _ _ rfl rfl rfl),z⟩) ?_|refine ii (λ_ z=>⟨_,_,_,(cr _ _ _ _ _ rfl rfl rfl),z⟩) ?_|refine ii (λ_ z=>⟨_,_,_,(Xp _ _ _ _ _ rfl rfl rfl),z⟩) ?_)|refine tX 0 ?_|exact Zt|refine bR ?_ ?_<;>intro h)<;>(try conv=>whnf))
        all_goals first|exact Zs|exact⟨m3,dX rfl rfl,_,rfl,rfl⟩
    ·rw[if_pos rfl];refine gH f243 ?_;repeat' ((first|(refine kO 7 rfl ?_;first|refine ii (λ_ z=>⟨_,_,_,(cv _ _ _ _ _ rfl rfl rfl),z⟩) ?_)|refine tX 0 ?_|exact Zt|refine bR ?_ ?_<;>intro h)<;>(try conv=>whnf))
     all_goals first|exact Zs|exact⟨m3,dX rfl rfl,_,rfl,rfl⟩
   ·rw[if_neg (λh=>hf h.2)];refine gH f243 ?_;exact K8
  ·rw[if_neg (λh=>hh h.1)];refine gH f243 ?_;exact K8
 ·rw[eN hy]at ct
  have hq:aI E p log s u 12 [x,y] n q=(u,6):=by
   show(if 0<=aZ (cL p.aa) y then _ else _)=_;rw[eN hy,if_neg K9]
  rw[hq];refine gH f243 ?_;exact UO
def Ui (u:Un):MH (lA u 11 13 15):=by
 refine⟨by simp[lA],λk hk=>?_,λk b e=>?_⟩
 ·exact aiy
 ·exact aiu
theorem uw (u:Un):ee (· ∈ah (lA u 11 13 15)) (true,cP u 11 13 15):=by
 intro d hd;exact ahO
def Cz {H:HF}{fid:Nat}{f:FuncId}{xs:List DX}{u:Un}{y:Un × Int}(h:GU f xs u y)(hH: ∀k∈ah (lA u 11 13 15),(lA u 11 13 15).get k=H k)(B9: ∀x∈xs,ee (· ∈ah (lA u 11 13 15)) x):
  bW cx fid f xs H (Lc (fresh (tag fid) 0) (.aJ [(true,cP y.1 11 13 15),dyn (I y.2)])) (cI (lA u 11 13 15) (cS (fresh (tag fid) 0) (lA y.1 11 13 15))) (ah (lA u 11 13 15)):=by
 refine Ia h (Ui u) (Ui y.1) (dz _) hH B9 (λx hx=>?_);simp only[dh,mV,mY]at hx
 grind[uw,bz]
def uH {u:Un}{H:HF}(h1:H 11=some (.row true 1 (.view (ab u.lots))))(h2:H 13=some (.row true 4 (.view (u.res.map kG))))(h3:H 15=some (.row true 5 (.view (u.gas.map uV)))): ∀k∈ah (lA u 11 13 15),(lA u 11 13 15).get k=H k:=λk hk=>by
 have:k=11\/k=13\/k=15:=by simpa [lA,ah]using hk
 exact ajp
section
variable (E:qp)(p:Pl)(log:List En)(s:bQ)(u:Un)(q:aj)(n:List Int)
theorem WS {w0:aj}(hw:w0= [117,115,101])(x y:aj)(hs:s.lots.length<=1000)(hu:u.lots.length<=1000):
  GU 199 [dyn (true,bU p),nK log,dyn (Lg s),(true,cP u 11 13 15),dyn (V1 [w0,x,y])] u (aI E p log s u 3 [x,y] n q):=by
 have c1:=cX s.lots y K0;have c2:=cX u.lots y K0;have uF:(ab u.lots).length =u.lots.length:=by simp
 have hq:aI E p log s u 3 [x,y] n q=if y∈s.lots then(if u.rel then(u,20)else if y∈u.lots then(u,23)else({u with lots:=u.lots++[y]},0))else(u,6):=rfl
 rw[hq];clear hq;by_cases h1:y∈s.lots
 ·rw[if_pos h1];rw[fG h1]at c1;by_cases h2:u.rel=true
  ·rw[if_pos h2];refine gH f199 ?_;exact K8
  ·rw[if_neg h2];by_cases h3:y∈u.lots
   ·rw[if_pos h3];rw[fG h3]at c2;refine gH f199 ?_;exact K8
   ·rw[if_neg h3];rw[eU h3]at c2;refine gH f199 ?_;repeat' ((first|refine tX 0 ?_|exact Zt|refine bR ?_ ?_<;>intro h)<;>(try conv=>whnf))
    all_goals first|exact Zs|exact⟨[(74,11),(13,13),(15,15)],nJ rfl ⟨⟨74,_,by simp,rfl,by rw[qC];kernel_rfl⟩,⟨13,_,by simp,rfl,rfl⟩,⟨15,_,by simp,rfl,rfl⟩,trivial⟩,_,rfl,rfl⟩
 ·rw[if_neg h1];rw[eU h1]at c1;refine gH f199 ?_;exact K8
theorem OC {w0:aj}(hw:w0= [101,110,116,101,114])(x:aj):
  GU 199 [dyn (true,bU p),nK log,dyn (Lg s),(true,cP u 11 13 15),dyn (V1 [w0,x])] u (aI E p log s u 10 [x] n q):=by
 have IJ: ¬w0= [117,115,101]:=by grind
 have hq:aI E p log s u 10 [x] n q=if u.rel then(u,20)else if s.hall= []then(if s.opens= []then(u,24)else(u,0))else(u,17):=rfl
 rw[hq];clear hq;have ho:s.opens= []↔((ab s.opens).length :Int)=0:=by simp[ab]
 by_cases h1:u.rel=true
 ·rw[if_pos h1];refine gH f199 ?_;exact K8
 ·rw[if_neg h1];by_cases h2:s.hall= []
  ·rw[if_pos h2];by_cases h3:s.opens= []
   ·rw[if_pos h3];have h4:=ho.1 h3;refine gH f199 ?_;exact K8
   ·rw[if_neg h3];have h4:=λh=>h3 (ho.2 h);clear h3 ho;refine gH f199 ?_;exact K8
  ·rw[if_neg h2];refine gH f199 ?_;exact K8
theorem OD {w0:aj}(hw:w0= [108,101,97,118,101])(x:aj):
  GU 199 [dyn (true,bU p),nK log,dyn (Lg s),(true,cP u 11 13 15),dyn (V1 [w0,x])] u (aI E p log s u 11 [x] n q):=by
 have IJ: ¬w0= [117,115,101]:=by grind
 have zE: ¬w0= [101,110,116,101,114]:=by grind
 have hq:aI E p log s u 11 [x] n q=if s.hall=u.name then(if s.opens= []then(u,24)else(u,0))else(u,20):=rfl
 rw[hq];clear hq;have ho:s.opens= []↔((ab s.opens).length :Int)=0:=by simp[ab]
 by_cases h2:s.hall=u.name
 ·rw[if_pos h2];by_cases h3:s.opens= []
  ·rw[if_pos h3];have h4:=ho.1 h3;refine gH f199 ?_;exact K8
  ·rw[if_neg h3];have h4:=λh=>h3 (ho.2 h);clear h3 ho;refine gH f199 ?_;exact K8
 ·rw[if_neg h2];refine gH f199 ?_;exact K8
theorem Rt {w0:aj}(hw:w0= [116,101,115,116])(x y:aj)(hg:GU 243 [dyn (true,bU p),nK log,dyn (Lg s),(true,cP u 11 13 15),dyn (V1 [w0,x,y,q])] u (aI E p log s u 12 [x,y] n q)):
  GU 199 [dyn (true,bU p),nK log,dyn (Lg s),(true,cP u 11 13 15),dyn (V1 [w0,x,y,q])] u (aI E p log s u 12 [x,y] n q):=by
 have IJ: ¬w0= [117,115,101]:=by grind
 have zE: ¬w0= [101,110,116,101,114]:=by grind
 have CA: ¬w0= [108,101,97,118,101]:=by grind
 have hm: ∀x'∈[dyn (true,bU p),nK log,dyn (Lg s),(true,cP u 11 13 15),dyn (V1 [w0,x,y,q])],ee (· ∈ah (lA u 11 13 15)) x':=λx' AO=>by
  simp only[dh,mV,mY]at AO;rcases AO with rfl|rfl|rfl|rfl|rfl
  grind[bz]
  ·exact afM
  grind[bz]
  ·exact uw u
  grind[bz]
 generalize aI E p log s u 12 [x,y] n q=y at*;obtain⟨u',e⟩:=y;refine gH f199 ?_;repeat' ((first|refine tX 0 ?_|exact Zt|refine bR ?_ ?_<;>intro h)<;>(try conv=>whnf))
 all_goals try exact Ze
 repeat((first|(refine kO 7 rfl ?_;first|refine so (λ_ z=>⟨_,_,_,(Cz hg (uH rfl rfl rfl) hm),z⟩) ?_)|refine tX 2 ?_|exact Zt);(try conv=>whnf))
 repeat' ((first|refine tX 0 ?_|exact Zt|refine bR ?_ ?_<;>intro h)<;>(try conv=>whnf))
 all_goals exact⟨[(fz 27 11,11),(fz 27 13,13),(fz 27 15,15)],dX rfl rfl,_,rfl,rfl⟩
theorem GH {w0:aj}(hw:w0= [114,101,108,101,97,115,101])(x:aj)(hp:p.aa.length<=1000)(hu:u.res.length<=1000):
  GU 199 [dyn (true,bU p),nK log,dyn (Lg s),(true,cP u 11 13 15),dyn (V1 [w0,x])] u (aI E p log s u 14 [x] n q):=by
 have IJ: ¬w0= [117,115,101]:=by grind
 have zE: ¬w0= [101,110,116,101,114]:=by grind
 have CA: ¬w0= [108,101,97,118,101]:=by grind
 have RY: ¬w0= [116,101,115,116]:=by grind
 have Pb: ¬w0= [114,101,112,97,105,114]:=by grind
 have hr:u.res.length<=1000000:=by omega
 obtain⟨M,hM⟩: ∃M,tQ p u.res=M:=⟨_,rfl⟩;have hq:aI E p log s u 14 [x] n q=if u.rel then(u,20)else if s.hall=u.name then(u,17)else if tQ p u.res= []then({u with rel:=true},0)else(u,14):=rfl
 rw[hq,hM];clear hq;have cm:=λH fid a b c=> @Rp H fid u a b c p M hM hp hr;have ho:M= []↔((ab M).length :Int)=0:=by simp[ab]
 by_cases h1:u.rel=true
 ·rw[if_pos h1];refine gH f199 ?_;exact K8
 ·rw[if_neg h1];by_cases h2:s.hall=u.name
  ·rw[if_pos h2];refine gH f199 ?_;exact K8
  ·rw[if_neg h2];by_cases h3:M= []
   ·rw[if_pos h3];have h4:=ho.1 h3;exact K86
   ·rw[if_neg h3];have h4: ¬((ab M).length :Int)=0:=λh=>h3 (ho.2 h);exact K86
theorem GI {w0:aj}(hw:w0= [105,110,115,112,101,99,116])(x:aj):
  GU 199 [dyn (true,bU p),nK log,dyn (Lg s),(true,cP u 11 13 15),dyn (V1 [w0,x])] u (aI E p log s u 16 [x] n q):=by
 have IJ: ¬w0= [117,115,101]:=by grind
 have zE: ¬w0= [101,110,116,101,114]:=by grind
 have CA: ¬w0= [108,101,97,118,101]:=by grind
 have RY: ¬w0= [116,101,115,116]:=by grind
 have Pb: ¬w0= [114,101,112,97,105,114]:=by grind
 have Xg: ¬w0= [114,101,108,101,97,115,101]:=by grind
 have hq:aI E p log s u 16 [x] n q=if u.shaken then({u with shaken:=false},0)else(u,20):=rfl
 rw[hq];clear hq;by_cases h1:u.shaken=true
 ·rw[if_pos h1];refine gH f199 ?_;exact K8
 ·rw[if_neg h1];refine gH f199 ?_;exact K8
theorem ux {w0:aj}(w:List aj)(y:Un × Int)(IJ: ¬w0= [117,115,101])(zE: ¬w0= [101,110,116,101,114])(CA: ¬w0= [108,101,97,118,101])(RY: ¬w0= [116,101,115,116])(Pb: ¬w0= [114,101,112,97,105,114])(Xg: ¬w0= [114,101,108,101,97,115,101])(ahL: ¬w0= [105,110,115,112,101,99,116])
  (hg:GU 244 [dyn (true,bU p),(true,cP u 11 13 15),dyn (V1 (w0::w))] u y):
  GU 199 [dyn (true,bU p),nK log,dyn (Lg s),(true,cP u 11 13 15),dyn (V1 (w0::w))] u y:=by
 have hm: ∀x'∈[dyn (true,bU p),(true,cP u 11 13 15),dyn (V1 (w0::w))],ee (· ∈ah (lA u 11 13 15)) x':=λx' AO=>by
  simp only[dh,mV,mY]at AO;rcases AO with rfl|rfl|rfl
  ·exact bz _
  grind[uw]
  ·exact bz _
 obtain⟨u',e⟩:=y;refine gH f199 ?_;repeat' ((first|refine tX 0 ?_|exact Zt|refine bR ?_ ?_<;>intro h)<;>(try conv=>whnf))
 all_goals try exact Ze
 repeat((first|(refine kO 7 rfl ?_;first|refine so (λ_ z=>⟨_,_,_,(Cz hg (uH rfl rfl rfl) hm),z⟩) ?_)|refine tX 2 ?_|exact Zt);(try conv=>whnf))
 repeat' ((first|refine tX 0 ?_|exact Zt|refine bR ?_ ?_<;>intro h)<;>(try conv=>whnf))
 all_goals exact⟨[(fz 31 11,11),(fz 31 13,13),(fz 31 15,15)],dX rfl rfl,_,rfl,rfl⟩
end
end Go.Proofs.Tryz
