import Derived.Test.YtackacoaaihcjaaGreatDoorPkM15
import Derived.Test.YtackacoaaihcjaaGreatDoorPkM16
set_option linter.all false
set_option maxRecDepth 100000
set_option maxHeartbeats 8000000
namespace Go.Proofs.Tryz
open Go.Fw Go.IntWalk Go.Plain
def wE (s:bP)(n:aj)(hl:s.units.length<=1000):ac 82 [(true,uk s),SS n] (.one (I (io s n))):=by
 have hn:(s.units.map ky).length =s.units.length:=by simp
 have AX:(jp s).length =s.units.length:=by simp[jp]
 have hui:io s n=bg (jp s) n:=rfl;rw[hui];refine sF f82 ?_
 (try(refine tX 0 ?_;try exact Zt))
 refine af (ι:=Nat) (λi=>i<=s.units.length/\n∉(jp s).take i) (λi=>s.units.length -i) (λi=>⟨[(1,lS n),(2,pP 0),(5,vI i)],[(0,some (.box 58 ((uk s).map .st)))],1⟩) 0 Zc ⟨dD _,by simp⟩ ?_;rintro i ⟨hi,dp⟩;by_cases ak:i<s.units.length
 ·have he:=aV (f:=ky) ak qa;have hg:(jp s).getD i []=(s.units.getD i qa).name :=by grind[jp]
  have nX:=λe=>mN (l:=jp s) (x:=n) (i:=i) K0 e dp;have FL:=iS (l:=jp s) (i:=i) (x:=n) K0;rw[hg]at nX FL;generalize s.units.getD i qa=u at*;by_cases hx:u.name=n
  ·rw[nX hx];exact tB0
  ·repeat' ((first|refine tX 0 ?_|exact Zt|refine bR ?_ ?_<;>intro h)<;>(try conv=>whnf))
   all_goals first|exact Ze|exact⟨i+1,⟨ak,λhm=>(FL.1 hm).elim dp λe=>hx e.symm⟩,by omega,Zc⟩
 ·obtain rfl:i=s.units.length:=by omega
  rw[pc K0]at dp;exact acr
def Fu (s:bP):MH (F0 s):=by
 refine⟨by simp[F0],λk hk=>?_,λk b e=>?_⟩
 ·have:k=5\/k=7\/k=9:=by exact acp
  rcases this with rfl|rfl|rfl<;>exact⟨by decide,by decide,rfl⟩
 ·have hk:=Hp.dK e;have:k=5\/k=7\/k=9:=by exact acp
  rcases this with rfl|rfl|rfl<;>(cases e;trivial)
theorem uO (s:bP):eh (· ∈ah (F0 s)) (true,sD s):=by
 intro d hd;simp only[sD,dl,nE,nF]at hd;rcases hd with rfl|rfl|rfl|rfl|rfl|rfl<;>first|trivial|(show _∈ah _;simp[F0])
def vD {H:HF}{fid:Nat}{f:FuncId}{xs:List DX}{s:bP}{y:bP × Int}(h:GS f xs s y)(hH: ∀k∈ah (F0 s),(F0 s).get k=H k)(Cd: ∀x∈xs,eh (· ∈ah (F0 s)) x):
  bX cx fid f xs H (La (aq (tag fid) 0) (.aI [(true,sD y.1),dyn (I y.2)])) (cB (F0 s) (cP (aq (tag fid) 0) (F0 y.1))) (ah (F0 s)):=by
 refine If h (Fu s) (Fu y.1) (dE _) hH Cd (λx hx=>?_);simp only[dl,nE,nF]at hx
 grind[uO,bD]
def sH {s:bP}{H:HF}(h1:H 5=some (.row true 1 (.view (ab s.opens))))(h2:H 7=some (.row true 1 (.view (ab s.lots))))(h3:H 9=some (.row true 17 (.view (s.units.map ky)))): ∀k∈ah (F0 s),(F0 s).get k=H k:=λk hk=>by
 have:k=5\/k=7\/k=9:=by exact acp
 exact ajz
def zJ {H:HF}{fid:Nat}{s:bP}{n:aj}(hl:s.units.length<=1000)(h5:H 5=some (.row true 1 (.view (ab s.opens))))(h7:H 7=some (.row true 1 (.view (ab s.lots))))(h9:H 9=some (.row true 17 (.view (s.units.map ky)))):
  bX cx fid 82 [(true,sD s),(false,[.st (T n)])] H (.val (dyn (I (io s n)))) [] [5,7,9]:=
 iP (bd ⟨rfl,rfl,al (.st _)<|al (.st _)<|al (.row (by simp) h5)<|al (.st _)<|al (.row (by simp) h7)<|al (.row (by simp) h9) gv⟩ (bd (kg (.st _)) gz)) (wE s n hl) rfl ⟨rfl,rfl,rfl⟩
section
variable (E:uj)(p:Pl)(log:List En)(s:bP)(n:List Int)(q:aj)
theorem WX {w0:aj}(hw:w0= [110,111,116,101])(a:List aj)(w:List aj):
  GS 111 [dyn (true,bE p),nU log,(true,sD s),dyn (V1 (w0::w))] s (bs E p log s 0 a n q):=by
 rw[show bs E p log s 0 a n q=(s,0)from rfl];refine gH f111 ?_;exact K4
theorem abe {w0:aj}(hw:w0= [108,111,116])(x:aj)(hx:x.length<=1000)(hs:s.lots.length<=1000):
  GS 111 [dyn (true,bE p),nU log,(true,sD s),dyn (V1 [w0,x])] s (bs E p log s 1 [x] n q):=by
 have xB: ¬w0= [110,111,116,101]:=by grind
 have c1:=px x K0;have c2:=df s.lots x K0;have hol:(ab s.lots).length =s.lots.length:=by simp
 have hq:bs E p log s 1 [x] n q=if jK x then(if x∈s.lots then(s,5)else if s.lots.length<12 then({s with lots:=s.lots++[x]},0)else(s,16))else(s,4):=rfl
 rw[hq];clear hq;by_cases h1:jK x
 ·rw[if_pos h1];rw[fL h1]at c1;by_cases h2:x∈s.lots
  ·rw[if_pos h2];rw[fL h2]at c2;refine gH f111 ?_;exact K4
  ·rw[if_neg h2];rw[fj h2]at c2;by_cases h3:s.lots.length<12
   ·rw[if_pos h3];refine gH f111 ?_;repeat' ((first|refine tX 0 ?_|exact Zt|refine bR ?_ ?_<;>intro h)<;>(try conv=>whnf))
    all_goals first|exact Zs|exact⟨[(5,5),(66,7),(9,9)],nR rfl ⟨⟨5,_,by simp,rfl,rfl⟩,⟨66,_,by simp,rfl,by rw[qG];kernel_rfl⟩,⟨9,_,by simp,rfl,rfl⟩,trivial⟩,_,rfl,rfl⟩
   ·rw[if_neg h3];refine gH f111 ?_;exact K4
 ·rw[if_neg h1];rw[fj h1]at c1;refine gH f111 ?_;exact K4
theorem WY {w0:aj}(hw:w0= [117,110,105,116])(x:aj)(hx:x.length<=1000)(hs:s.units.length<=900)(hE:E.pu=NF)(hq':q.length<=100000):
  GS 111 [dyn (true,bE p),nU log,(true,sD s),dyn (V1 [w0,x,q])] s (bs E p log s 2 [x] n q):=by
 have xB: ¬w0= [110,111,116,101]:=by grind
 have IH: ¬w0= [108,111,116]:=by grind
 have c1:=px x K0;have c2:=Cc q hq';have hul:(s.units.map ky).length =s.units.length:=by simp
 have cu:=λH fid=>zJ (H:=H) (fid:=fid) (s:=s) (n:=x) K0;have hq:bs E p log s 2 [x] n q=if jK x then(if x∈jp s then(s,5)else if s.units.length<6 then(if(NF q).2=0 then({s with units:=s.units++[{qa with name:=x,win:=(NF q).1}]},0)else(s,(NF q).2))else(s,16))else(s,4):=by rw[<- hE];rfl
 rw[hq];clear hq
 have hi:(x∈jp s->0<=io s x)/\(x∉jp s->io s x<0):=⟨λh=>by
  grind[ld,io],λh=>by
  grind[io,fq]⟩
 generalize io s x=ix at*;by_cases h1:jK x
 ·rw[if_pos h1];rw[fL h1]at c1;by_cases h2:x∈jp s
  ·rw[if_pos h2];have h2':=hi.1 h2;exact K27
  ·rw[if_neg h2];have h2':=hi.2 h2;by_cases h3:s.units.length<6
   ·rw[if_pos h3];generalize NF q=z at*;obtain⟨wi,we⟩:=z;by_cases h4:we=0
    ·subst h4;rw[if_pos rfl];refine gH f111 ?_;repeat' ((first|(refine kO 7 rfl ?_;first|refine im (λ_ z=>⟨_,_,_,(cu _ _ rfl rfl rfl),z⟩) ?_)|refine tX 0 ?_|exact Zt|refine bR ?_ ?_<;>intro h)<;>(try conv=>whnf))
     all_goals first|exact Zs|exact⟨[(5,5),(7,7),(98,9)],nR rfl ⟨⟨5,_,by simp,rfl,rfl⟩,⟨7,_,by simp,rfl,rfl⟩,⟨98,_,by simp,rfl,by rw[zZ];kernel_rfl⟩,trivial⟩,_,rfl,rfl⟩
    ·rw[if_neg h4];exact K27
   ·rw[if_neg h3];exact K27
 ·rw[if_neg h1];rw[fj h1]at c1;refine gH f111 ?_;exact K4
theorem WZ {w0:aj}(hw:w0=lL)(a:List aj)(w:List aj)(hg:GS 198 [dyn (true,bE p),(true,sD s),dyn (V1 (w0::w))] s (bs E p log s 4 a n q)):
  GS 111 [dyn (true,bE p),nU log,(true,sD s),dyn (V1 (w0::w))] s (bs E p log s 4 a n q):=by
 have xB: ¬w0= [110,111,116,101]:=by grind
 have IH: ¬w0= [108,111,116]:=by grind
 have FQ: ¬w0= [117,110,105,116]:=by grind
 have hm: ∀x'∈[dyn (true,bE p),(true,sD s),dyn (V1 (w0::w))],eh (· ∈ah (F0 s)) x':=λx' AW=>by exact K62
 generalize bs E p log s 4 a n q=y at*;obtain⟨s',e⟩:=y;refine gH f111 ?_;repeat' ((first|refine tX 0 ?_|exact Zt|refine bR ?_ ?_<;>intro h)<;>(try conv=>whnf))
 all_goals try exact Zs
 repeat((first|(refine kO 7 rfl ?_;first|refine qU (λ_ z=>⟨_,_,_,(vD hg (sH rfl rfl rfl) hm),z⟩) ?_)|refine tX 2 ?_|exact Zt);(try conv=>whnf))
 repeat' ((first|refine tX 0 ?_|exact Zt|refine bR ?_ ?_<;>intro h)<;>(try conv=>whnf))
 all_goals exact⟨[(fz 19 5,5),(fz 19 7,7),(fz 19 9,9)],dY rfl rfl,_,rfl,rfl⟩
theorem W0 {w0:aj}(hw:w0=nA)(a:List aj)(w:List aj)(hg:GS 198 [dyn (true,bE p),(true,sD s),dyn (V1 (w0::w))] s (bs E p log s 5 a n q)):
  GS 111 [dyn (true,bE p),nU log,(true,sD s),dyn (V1 (w0::w))] s (bs E p log s 5 a n q):=by
 have xB: ¬w0= [110,111,116,101]:=by grind
 have IH: ¬w0= [108,111,116]:=by grind
 have FQ: ¬w0= [117,110,105,116]:=by grind
 have KX: ¬w0=lL:=by grind
 have hm: ∀x'∈[dyn (true,bE p),(true,sD s),dyn (V1 (w0::w))],eh (· ∈ah (F0 s)) x':=λx' AW=>by exact K62
 generalize bs E p log s 5 a n q=y at*;obtain⟨s',e⟩:=y;refine gH f111 ?_;repeat' ((first|refine tX 0 ?_|exact Zt|refine bR ?_ ?_<;>intro h)<;>(try conv=>whnf))
 all_goals try exact Zs
 repeat((first|(refine kO 7 rfl ?_;first|refine qU (λ_ z=>⟨_,_,_,(vD hg (sH rfl rfl rfl) hm),z⟩) ?_)|refine tX 2 ?_|exact Zt);(try conv=>whnf))
 repeat' ((first|refine tX 0 ?_|exact Zt|refine bR ?_ ?_<;>intro h)<;>(try conv=>whnf))
 all_goals exact⟨[(fz 21 5,5),(fz 21 7,7),(fz 21 9,9)],dY rfl rfl,_,rfl,rfl⟩
theorem Rx {w0:aj}(hw:w0=lu)(a:List aj)(w:List aj)(hg:GS 198 [dyn (true,bE p),(true,sD s),dyn (V1 (w0::w))] s (bs E p log s 6 a n q)):
  GS 111 [dyn (true,bE p),nU log,(true,sD s),dyn (V1 (w0::w))] s (bs E p log s 6 a n q):=by
 have xB: ¬w0= [110,111,116,101]:=by grind
 have IH: ¬w0= [108,111,116]:=by grind
 have FQ: ¬w0= [117,110,105,116]:=by grind
 have KX: ¬w0=lL:=by grind
 have R8: ¬w0=nA:=by grind
 have hm: ∀x'∈[dyn (true,bE p),(true,sD s),dyn (V1 (w0::w))],eh (· ∈ah (F0 s)) x':=λx' AW=>by exact K62
 generalize bs E p log s 6 a n q=y at*;obtain⟨s',e⟩:=y;refine gH f111 ?_;repeat' ((first|refine tX 0 ?_|exact Zt|refine bR ?_ ?_<;>intro h)<;>(try conv=>whnf))
 all_goals try exact Zs
 repeat((first|(refine kO 7 rfl ?_;first|refine qU (λ_ z=>⟨_,_,_,(vD hg (sH rfl rfl rfl) hm),z⟩) ?_)|refine tX 2 ?_|exact Zt);(try conv=>whnf))
 repeat' ((first|refine tX 0 ?_|exact Zt|refine bR ?_ ?_<;>intro h)<;>(try conv=>whnf))
 all_goals exact⟨[(fz 23 5,5),(fz 23 7,7),(fz 23 9,9)],dY rfl rfl,_,rfl,rfl⟩
theorem W4 {w0:aj}(hw:w0=sE)(a:List aj)(w:List aj)(hg:GS 198 [dyn (true,bE p),(true,sD s),dyn (V1 (w0::w))] s (bs E p log s 7 a n q)):
  GS 111 [dyn (true,bE p),nU log,(true,sD s),dyn (V1 (w0::w))] s (bs E p log s 7 a n q):=by
 have xB: ¬w0= [110,111,116,101]:=by grind
 have IH: ¬w0= [108,111,116]:=by grind
 have FQ: ¬w0= [117,110,105,116]:=by grind
 have KX: ¬w0=lL:=by grind
 have R8: ¬w0=nA:=by grind
 have UF: ¬w0=lu:=by grind
 have hm: ∀x'∈[dyn (true,bE p),(true,sD s),dyn (V1 (w0::w))],eh (· ∈ah (F0 s)) x':=λx' AW=>by exact K62
 generalize bs E p log s 7 a n q=y at*;obtain⟨s',e⟩:=y;refine gH f111 ?_;repeat' ((first|refine tX 0 ?_|exact Zt|refine bR ?_ ?_<;>intro h)<;>(try conv=>whnf))
 all_goals try exact Zs
 repeat((first|(refine kO 7 rfl ?_;first|refine qU (λ_ z=>⟨_,_,_,(vD hg (sH rfl rfl rfl) hm),z⟩) ?_)|refine tX 2 ?_|exact Zt);(try conv=>whnf))
 repeat' ((first|refine tX 0 ?_|exact Zt|refine bR ?_ ?_<;>intro h)<;>(try conv=>whnf))
 all_goals exact⟨[(fz 25 5,5),(fz 25 7,7),(fz 25 9,9)],dY rfl rfl,_,rfl,rfl⟩
theorem KF {w0:aj}(hw:w0=wD)(a:List aj)(w:List aj)(hg:GS 198 [dyn (true,bE p),(true,sD s),dyn (V1 (w0::w))] s (bs E p log s 8 a n q)):
  GS 111 [dyn (true,bE p),nU log,(true,sD s),dyn (V1 (w0::w))] s (bs E p log s 8 a n q):=by
 have xB: ¬w0= [110,111,116,101]:=by grind
 have IH: ¬w0= [108,111,116]:=by grind
 have FQ: ¬w0= [117,110,105,116]:=by grind
 have KX: ¬w0=lL:=by grind
 have R8: ¬w0=nA:=by grind
 have UF: ¬w0=lu:=by grind
 have ahy: ¬w0=sE:=by grind
 have hm: ∀x'∈[dyn (true,bE p),(true,sD s),dyn (V1 (w0::w))],eh (· ∈ah (F0 s)) x':=λx' AW=>by exact K62
 generalize bs E p log s 8 a n q=y at*;obtain⟨s',e⟩:=y;refine gH f111 ?_;repeat' ((first|refine tX 0 ?_|exact Zt|refine bR ?_ ?_<;>intro h)<;>(try conv=>whnf))
 all_goals try exact Zs
 repeat((first|(refine kO 7 rfl ?_;first|refine qU (λ_ z=>⟨_,_,_,(vD hg (sH rfl rfl rfl) hm),z⟩) ?_)|refine tX 2 ?_|exact Zt);(try conv=>whnf))
 repeat' ((first|refine tX 0 ?_|exact Zt|refine bR ?_ ?_<;>intro h)<;>(try conv=>whnf))
 all_goals exact⟨[(fz 27 5,5),(fz 27 7,7),(fz 27 9,9)],dY rfl rfl,_,rfl,rfl⟩
theorem abf {w0:aj}(hw:w0=OF)(a:List aj)(w:List aj)(hg:GS 198 [dyn (true,bE p),(true,sD s),dyn (V1 (w0::w))] s (bs E p log s 9 a n q)):
  GS 111 [dyn (true,bE p),nU log,(true,sD s),dyn (V1 (w0::w))] s (bs E p log s 9 a n q):=by
 have xB: ¬w0= [110,111,116,101]:=by grind
 have IH: ¬w0= [108,111,116]:=by grind
 have FQ: ¬w0= [117,110,105,116]:=by grind
 have KX: ¬w0=lL:=by grind
 have R8: ¬w0=nA:=by grind
 have UF: ¬w0=lu:=by grind
 have ahy: ¬w0=sE:=by grind
 have ahV: ¬w0=wD:=by grind
 have hm: ∀x'∈[dyn (true,bE p),(true,sD s),dyn (V1 (w0::w))],eh (· ∈ah (F0 s)) x':=λx' AW=>by exact K62
 generalize bs E p log s 9 a n q=y at*;obtain⟨s',e⟩:=y;refine gH f111 ?_;repeat' ((first|refine tX 0 ?_|exact Zt|refine bR ?_ ?_<;>intro h)<;>(try conv=>whnf))
 all_goals try exact Zs
 repeat((first|(refine kO 7 rfl ?_;first|refine qU (λ_ z=>⟨_,_,_,(vD hg (sH rfl rfl rfl) hm),z⟩) ?_)|refine tX 2 ?_|exact Zt);(try conv=>whnf))
 repeat' ((first|refine tX 0 ?_|exact Zt|refine bR ?_ ?_<;>intro h)<;>(try conv=>whnf))
 all_goals exact⟨[(fz 29 5,5),(fz 29 7,7),(fz 29 9,9)],dY rfl rfl,_,rfl,rfl⟩
end
abbrev unY (u:Un):List DC:=[.st (T u.name),.st (J u.win.k1),.st (J u.win.t1),.st (J u.win.s1),.st (K u.win.r1),.st (J u.win.k2),.st (J u.win.t2),.st (J u.win.s2),.st (K u.win.r2),.st (J u.win.st),.st .any,.st .any,.st (K u.failed),.st (K u.rel),.st (K u.shaken),.st (J u.used),.st .any]
def OH (u:Un)(a b c:Nat): ∀(k:Nat) (d d':DC),(cU u a b c)[k]? =some d->(unY u)[k]? =some d'->Oz d d':=λk d d' h h'=>by
 match k with
 |0|1|2|3|4|5|6|7|8|9|12|13|14|15=>cases h;cases h';exact .inl rfl
 |10|11|16=>cases h';exact .inr rfl
 |k+17=>simp_all
def abg {H:HF}{us:List Un}{i:Nat}{u:Un}(hi:us[i]? =some u)(h9:H 9=some (.aD 17 ((so us).set i (cU u 11 13 15))))(ha:H 11=some (.row true 1 (.view (ab u.lots))))(hb:H 13=some (.row true 4 (.view (u.res.map kF))))(hc:H 15=some (.row true 5 (.view (u.gas.map vh)))):
  Full H [9,11,13,15] (.own 9) (.view (us.map ky)):=by
 have XC:=(kJ.1 hi).1;have n2:(so us).length =us.length:=by grind
 have FO: ∀ {j:Nat} {e:List DC} {e':List SC},((so us).set i (cU u 11 13 15))[j]? =some e->(us.map ky)[j]? =some e'->(e=cU u 11 13 15/\e'=ky u)\/e=e'.map .st :=λ{j e e'} h h'=>by grind
 refine .aD (by simp) h9 bv (λj e e' h h'=>?_) (λj e e' k d c h h' hd ID=>?_) (λj e' k c h' ID=>?_)
 ·exact aki
 ·rcases FO h h' with⟨rfl,rfl⟩|rfl
  ·exact uL (by simp) ha hb hc k d c hd ID
  ·exact ako
 grind[Fp]
def zK {H:HF}{fid:Nat}{s:bP}{n:aj}{i:Nat}{u:Un}(hi:s.units[i]? =some u)(hl:s.units.length<=1000)(h9:H 9=some (.aD 17 ((so s.units).set i (cU u 11 13 15))))(ha:H 11=some (.row true 1 (.view (ab u.lots))))(hb:H 13=some (.row true 4 (.view (u.res.map kF))))(hc:H 15=some (.row true 5 (.view (u.gas.map vh)))):
  bX cx fid 82 [(true,zT s),(false,[.st (T n)])] H (.val (dyn (I (io s n)))) [] [9,11,13,15]:=
 iP (bd ⟨rfl,rfl,al (.st _)<|al (.st _)<|al (.st _)<|al (.st _)<|al (.st _)<|al (abg hi h9 ha hb hc) gv⟩ (bd (kg (.st _)) gz)) (wE s n hl) rfl ⟨rfl,rfl,rfl⟩
def OI (s:bP)(p:Pl)(log:List En)(u:Un)(w:List aj): ∀(k:Nat) (x x':DX),[dyn (true,bE p),nU log,dyn (Ld s),(true,cU u 11 13 15),dyn (V1 w)][k]? =some x->[dyn (true,bE p),nU log,(true,zT s),(true,cU u 11 13 15),dyn (V1 w)][k]? =some x'->x.1=x'.1/\x.2.length=x'.2.length/\∀(j:Nat) (d d':DC),x'.2[j]? =some d->x.2[j]? =some d'->Oz d d':=λk x x' h h'=>by
 match k with
 |0|1|3|4=>cases h;cases h';exact⟨rfl,rfl,λj d d' a b=>by rw[a]at b;cases b;exact .inl rfl⟩
 |2=>
  cases h;cases h';refine⟨rfl,rfl,λj d d' a b=>?_⟩
  match j with
  |0|1|2|3|4=>cases a;cases b;exact .inl rfl
  |5=>cases b;exact .inr rfl
  |j+6=>simp_all
 |k+5=>grind
def FY (us:List Un)(i:Nat)(u:Un):Hp:=[(9,some (.aD 17 ((so us).set i (unY u))))]
def amc (p:Pl)(log:List En)(s:bP)(u:Un)(w:List aj): ∀x'∈[dyn (true,bE p),nU log,dyn (Ld s),(true,cU u 11 13 15),dyn (V1 w)],eh (· ∈ah (lC u 11 13 15)) x':=λx' AW=>by
 simp only[dl,nE,nF]at AW;rcases AW with rfl|rfl|rfl|rfl|rfl
 grind[bD]
 ·exact afV
 grind[bD]
 grind[uM]
 grind[bD]
abbrev sX (s:bP)(i:Nat)(u u':Un):Hp:=[(9,some (.aD 17 ((so s.units).set i (unY u)))),(4,some (.box 58 (zT s))),(6,some (.box 58 [.st (K false),.st (K false),.nil,.st (T []),.nil,.nil])),(94,some (.box 44 (cU u' 11 13 15))),(11,some (.row true 1 (.view (ab u'.lots)))),(13,some (.row true 4 (.view (u'.res.map kF)))),(15,some (.row true 5 (.view (u'.gas.map vh))))]
abbrev mX:List (Nat × Nat):=[(9,9),(4,4),(6,6),(94,94),(fz 43 11,11),(fz 43 13,13),(fz 43 15,15)]
section
variable (p:Pl)(log:List En)(s:bP){i:Nat}{u u':Un}{w0 x:aj}{ws:List aj}{e:Int}
theorem KG (hi:s.units[i]? =some u)(hl:s.units.length<=1000)(hx:io s x=(i:Nat))(n1: ¬w0= [110,111,116,101])(n2: ¬w0= [108,111,116])(n3: ¬w0= [117,110,105,116])(n4: ¬w0=lL)(n5: ¬w0=nA)(n6: ¬w0=lu)(n7: ¬w0=sE)(n8: ¬w0=wD)(n9: ¬w0=OF)
  (hU:GU 199 [dyn (true,bE p),nU log,dyn (Ld s),(true,cU u 11 13 15),dyn (V1 (w0::x::ws))] u (u',e))(he:e≠0):
  bx cx 111 1 [dyn (true,bE p),nU log,(true,zT s),dyn (V1 (w0::x::ws))] (F1 s.units i u) [] (.aI [(true,zT s),dyn (I e)]) (FY s.units i u):=by
 have XC:=(kJ.1 hi).1;have bG:(so s.units).length =s.units.length:=by grind
 have ak:i< (so s.units).length :=by omega
 have cu:=λH fid=>zK (H:=H) (fid:=fid) (s:=s) (n:=x) hi hl;rw[hx]at cu;have hm:=amc p log s u (w0::x::ws);refine gH f111 ?_;repeat' ((first|(refine kO 7 rfl ?_;first|refine im (λ_ z=>⟨_,_,_,(cu _ _ rfl rfl rfl rfl),z⟩) ?_)|refine tX 0 ?_|exact Zt|refine bR ?_ ?_<;>intro h)<;>(try conv=>whnf))
 all_goals try exact Ze
 repeat((first|(refine kO 7 rfl ?_;first|refine qU (λ_ z=>⟨_,_,_,(bX.Px (CC hU (uH rfl rfl rfl) hm) rfl (OI s p log u _)),z⟩) ?_)|refine tX 2 ?_|exact Zt);(try conv=>whnf))
 refine aS ?_;refine aM ?_;(refine aR ?_;conv=>whnf);(try(refine tX 2 ?_;try exact Zt));refine⟨_,bp.trans (Fq 9 i (e':=unY u) rfl (IT ak) rfl (OH u 11 13 15)) (vC (E':=[(3,some (.val (dyn (V1 (w0::x::ws))))),(6,pP 4),(8,pP 6),(12,vI i),(13,pP 94),(14,vI e),(127,vBo (e != 0))]) (X:=sX s i u u') (m:=mX) (ks:=[3,6,8,12,13,14,127]) (n':=1000) rfl ⟨⟨9,_,by simp,rfl,by rw[List.set_set];exact sn (kl rfl)⟩,⟨4,_,by simp,rfl,rfl⟩,⟨6,_,by simp,rfl,rfl⟩,⟨94,_,by simp,rfl,rfl⟩,⟨fz 43 11,_,by simp,rfl,rfl⟩,⟨fz 43 13,_,by simp,rfl,rfl⟩,⟨fz 43 15,_,by simp,rfl,rfl⟩,trivial⟩ rfl rfl),?_⟩;repeat' ((first|refine tX 0 ?_|exact Zt|refine bR ?_ ?_<;>intro h)<;>(try conv=>whnf))
 all_goals first|exact Ze|exact⟨[(9,9)],nR rfl ⟨⟨9,_,by simp,rfl,sn (kl rfl)⟩,trivial⟩,_,rfl,rfl⟩
theorem anP (s:bP)(i:Nat)(u u':Un)(m:List (Nat × Nat))(h:e8 m (cU u' 11 13 15)=some (cU u' 11 13 15):=by rfl):fp m (.aD 17 (((so s.units).set i (unY u)).set i (cU u' 11 13 15)))=some (.aD 17 ((so s.units).set i (cU u' 11 13 15))):=by grind[List.set_set,sn,kl]
theorem KH (hi:s.units[i]? =some u)(hl:s.units.length<=1000)(hx:io s x=(i:Nat))(n1: ¬w0= [110,111,116,101])(n2: ¬w0= [108,111,116])(n3: ¬w0= [117,110,105,116])(n4: ¬w0=lL)(n5: ¬w0=nA)(n6: ¬w0=lu)(n7: ¬w0=sE)(n8: ¬w0=wD)(n9: ¬w0=OF)
  (hU:GU 199 [dyn (true,bE p),nU log,dyn (Ld s),(true,cU u 11 13 15),dyn (V1 (w0::x::ws))] u (u',0))(hw:w0= [101,110,116,101,114]):
  bx cx 111 1 [dyn (true,bE p),nU log,(true,zT s),dyn (V1 (w0::x::ws))] (F1 s.units i u) [] (.aI [(true,zT {s with hall:=u'.name}),dyn (I 0)]) (F1 s.units i u'):=by
 exact K2
theorem OJ (hi:s.units[i]? =some u)(hl:s.units.length<=1000)(hx:io s x=(i:Nat))(n1: ¬w0= [110,111,116,101])(n2: ¬w0= [108,111,116])(n3: ¬w0= [117,110,105,116])(n4: ¬w0=lL)(n5: ¬w0=nA)(n6: ¬w0=lu)(n7: ¬w0=sE)(n8: ¬w0=wD)(n9: ¬w0=OF)
  (hU:GU 199 [dyn (true,bE p),nU log,dyn (Ld s),(true,cU u 11 13 15),dyn (V1 (w0::x::ws))] u (u',0))(hw:w0= [108,101,97,118,101]):
  bx cx 111 1 [dyn (true,bE p),nU log,(true,zT s),dyn (V1 (w0::x::ws))] (F1 s.units i u) [] (.aI [(true,zT {s with hall:=[]}),dyn (I 0)]) (F1 s.units i u'):=by
 exact K2
theorem GN (hi:s.units[i]? =some u)(hl:s.units.length<=1000)(hx:io s x=(i:Nat))(n1: ¬w0= [110,111,116,101])(n2: ¬w0= [108,111,116])(n3: ¬w0= [117,110,105,116])(n4: ¬w0=lL)(n5: ¬w0=nA)(n6: ¬w0=lu)(n7: ¬w0=sE)(n8: ¬w0=wD)(n9: ¬w0=OF)
  (hU:GU 199 [dyn (true,bE p),nU log,dyn (Ld s),(true,cU u 11 13 15),dyn (V1 (w0::x::ws))] u (u',0))(ne: ¬w0= [101,110,116,101,114])(nl: ¬w0= [108,101,97,118,101]):
  bx cx 111 1 [dyn (true,bE p),nU log,(true,zT s),dyn (V1 (w0::x::ws))] (F1 s.units i u) [] (.aI [(true,zT s),dyn (I 0)]) (F1 s.units i u'):=by
 exact K2
end
def OK (p:Pl)(log:List En)(s:bP){w0 x:aj}{ws:List aj}(hl:s.units.length<=1000)(hx:io s x<0)(n1: ¬w0= [110,111,116,101])(n2: ¬w0= [108,111,116])(n3: ¬w0= [117,110,105,116])(n4: ¬w0=lL)(n5: ¬w0=nA)(n6: ¬w0=lu)(n7: ¬w0=sE)(n8: ¬w0=wD)(n9: ¬w0=OF):
  GS 111 [dyn (true,bE p),nU log,(true,sD s),dyn (V1 (w0::x::ws))] s (s,6):=by
 have cu:=λH fid=>zJ (H:=H) (fid:=fid) (s:=s) (n:=x) hl;generalize io s x=ix at*;exact K27
section
variable {s:bP}(H:HF)(fid:Nat)
abbrev zD (n:Nat)(s:bP):List DC:=[.st (K s.volt),.st (K s.earth),.own (fz n 5),.st (T s.hall),.own (fz n 7),.own (fz n 9)]
abbrev zV (n:Nat)(s:bP):List DC:=[.st (K s.volt),.st (K s.earth),.st (.view (ab s.opens)),.st (T s.hall),.st (.view (ab s.lots)),.own (fz n 9)]
theorem Ry (h1:s.opens.length<=1000)(h2:s.lots.length<=1000)(h3:s.units.length<=1000)(hu: ∀u∈s.units,(u.lots.length<=1000/\u.res.length<=1000)/\u.gas.length<=1000):
  bX cx fid 112 [dyn (true,uk s)] H (.val (true,zD (tag fid) s)) (cB [] (cP (aq (tag fid) 0) (F0 s))) []:=
 Go.Fw.mw (Rk s h1 h2 h3 hu) (Fu s) (λx hx=>by
  have:x=dyn (true,uk s):=by grind
  grind[bD]) (uO s)
theorem KI (us:List Un)(i:Nat)(u:Un):MH (F1 us i u):=by
 have hm: ∀e∈(so us).set i (cU u 11 13 15),∀d∈e,d.dJ (· ∈[9,11,13,15]):=λe he d hd=>by
  rcases Sj he with h|rfl
  ·exact ajh
  ·have:=uM u d hd
   exact DC.dS (λk hk=>by have:k=11\/k=13\/k=15:=by simpa [lC,ah]using hk
                          grind) this
 refine⟨by simp[F1],λk hk=>?_,λk b e=>?_⟩
 ·have:k=9\/k=11\/k=13\/k=15:=by simpa [F1,ah]using hk
  rcases this with rfl|rfl|rfl|rfl<;>exact⟨by decide,by decide,rfl⟩
 ·have hk:=Hp.dK e;have:k=9\/k=11\/k=13\/k=15:=by simpa [F1,ah]using hk
  rcases this with rfl|rfl|rfl|rfl
  ·cases e;exact hm
  all_goals(cases e;trivial)
theorem ahe (us:List Un)(i:Nat)(u:Un):MH (FY us i u):=by
 refine⟨by simp[FY],λk hk=>?_,λk b e=>?_⟩
 ·have:k=9:=by simpa [FY,ah]using hk
  subst this;exact⟨by decide,by decide,rfl⟩
 ·have hk:=Hp.dK e;have:k=9:=by simpa [FY,ah]using hk
  subst this;cases e;intro e he d hd;rcases Sj he with h|rfl
  ·exact ajh
  ·simp only[unY,dl,nE,nF]at hd;rcases hd with rfl|rfl|rfl|rfl|rfl|rfl|rfl|rfl|rfl|rfl|rfl|rfl|rfl|rfl|rfl|rfl|rfl<;>trivial
theorem uP {ok:Nat->Prop}(h:ok 9)(s:bP):eh ok (true,zT s):=by
 intro d hd;simp only[zT,dl,nE,nF]at hd;rcases hd with rfl|rfl|rfl|rfl|rfl|rfl<;>first|trivial|exact h
theorem Fv {i:Nat}{u:Un}(hi:s.units[i]? =some u)(h1:s.opens.length<=1000)(h2:s.lots.length<=1000)(h3:s.units.length<=1000)(hu: ∀u∈s.units,(u.lots.length<=1000/\u.res.length<=1000)/\u.gas.length<=1000):
  bX cx fid 112 [dyn (true,uk s)] H (.val (true,zV (tag fid) s)) (cB [] (cP (aq (tag fid) 0) (F1 s.units i u))) []:=
 Go.Fw.mw (Rl s hi h1 h2 h3 hu) (KI s.units i u) (λx hx=>by
  have:x=dyn (true,uk s):=by grind
  grind[bD]) (uP acu s)
end
section
variable {p:Pl}{log:List En}{s:bP}{w:List aj}{H:HF}{fid n:Nat}
def AR {ok:Nat->Prop}{st:List DC}(h:eh ok (true,st)): ∀x∈[dyn (true,bE p),nU log,(true,st),dyn (V1 w)],eh ok x:=λx hx=>by
 simp only[dl,nE,nF]at hx;rcases hx with rfl|rfl|rfl|rfl
 grind[bD]
 ·exact afV
 grind
 ·exact bD _
def Fx {ok:Nat->Prop}{st:List DC}{e:Int}(h:eh ok (true,st)):lH ok (.aI [(true,st),dyn (I e)]):=λx hx=>by
 simp only[dl,nE,nF]at hx
 grind[bD]
def Rz {y:bP × Int}(h:GS 111 [dyn (true,bE p),nU log,(true,sD s),dyn (V1 w)] s y)(h5:some (.row true 1 (.view (ab s.opens)))=H (fz n 5))(h7:some (.row true 1 (.view (ab s.lots)))=H (fz n 7))(h9:some (.row true 17 (.view (s.units.map ky)))=H (fz n 9)):
  bX cx fid 111 [dyn (true,bE p),nU log,(true,zD n s),dyn (V1 w)] H (.aI [(true,zD (tag fid) y.1),dyn (I y.2)]) (cB (cP (aq n 0) (F0 s)) (cP (aq (tag fid) 0) (F0 y.1))) (ah (cP (aq n 0) (F0 s))):=by
 have:=xj (fid:=fid) (n:=n) (H:=H) h (Fu s) (Fu y.1) (λk hk=>?_) (AR (uO s)) (Fx (uO y.1))
 ·exact this
 ·have:k=5\/k=7\/k=9:=by exact acp
  rcases this with rfl|rfl|rfl
  ·exact h5
  ·exact h7
  ·exact h9
def RA {i:Nat}{u u':Un}{y:bP × Int}(h:bx cx 111 1 [dyn (true,bE p),nU log,(true,zT s),dyn (V1 w)] (F1 s.units i u) [] (.aI [(true,zT y.1),dyn (I y.2)]) (F1 s.units i u'))
  (h9:some (.aD 17 (((so s.units).set i (cU u 11 13 15)).map λe=>e.map (DC.rn (aq n 0))))=H (fz n 9))(ha:some (.row true 1 (.view (ab u.lots)))=H (fz n 11))(hb:some (.row true 4 (.view (u.res.map kF)))=H (fz n 13))(hc:some (.row true 5 (.view (u.gas.map vh)))=H (fz n 15)):
  bX cx fid 111 [dyn (true,bE p),nU log,(true,zV n s),dyn (V1 w)] H (.aI [(true,zV (tag fid) y.1),dyn (I y.2)]) (cB (cP (aq n 0) (F1 s.units i u)) (cP (aq (tag fid) 0) (F1 s.units i u'))) (ah (cP (aq n 0) (F1 s.units i u))):=by
 have:=xj (fid:=fid) (n:=n) (H:=H) h (KI s.units i u) (KI s.units i u') (λk hk=>?_) (AR (uP acu s)) (Fx (uP acu y.1))
 ·exact this
 ·exact ain
def RC {i:Nat}{u:Un}{e:Int}(h:bx cx 111 1 [dyn (true,bE p),nU log,(true,zT s),dyn (V1 w)] (F1 s.units i u) [] (.aI [(true,zT s),dyn (I e)]) (FY s.units i u))
  (h9:some (.aD 17 (((so s.units).set i (cU u 11 13 15)).map λe=>e.map (DC.rn (aq n 0))))=H (fz n 9))(ha:some (.row true 1 (.view (ab u.lots)))=H (fz n 11))(hb:some (.row true 4 (.view (u.res.map kF)))=H (fz n 13))(hc:some (.row true 5 (.view (u.gas.map vh)))=H (fz n 15)):
  bX cx fid 111 [dyn (true,bE p),nU log,(true,zV n s),dyn (V1 w)] H (.aI [(true,zV (tag fid) s),dyn (I e)]) (cB (cP (aq n 0) (F1 s.units i u)) (cP (aq (tag fid) 0) (FY s.units i u))) (ah (cP (aq n 0) (F1 s.units i u))):=by
 have:=xj (fid:=fid) (n:=n) (H:=H) h (KI s.units i u) (ahe s.units i u) (λk hk=>?_) (AR (uP acu s)) (Fx (uP (by simp[FY]) s))
 ·exact this
 ·exact ain
end
abbrev RD:List SC:=[.any,.any,.any,.any,.any,.any]
abbrev nxR (y:bP × Int):lO:=.aI [(true,if y.2=0 then uk y.1 else RD),I y.2]
def Stp (p:Pl)(log:List En)(s:bP)(w:List aj)(y:bP × Int):Prop:=
 GS 111 [dyn (true,bE p),nU log,(true,sD s),dyn (V1 w)] s y\/
 (∃i u,s.units[i]? =some u/\y.2≠0/\bx cx 111 1 [dyn (true,bE p),nU log,(true,zT s),dyn (V1 w)] (F1 s.units i u) [] (.aI [(true,zT s),dyn (I y.2)]) (FY s.units i u))\/
 (∃i u u',s.units[i]? =some u/\y.2=0/\y.1.units=s.units.set i u'/\bx cx 111 1 [dyn (true,bE p),nU log,(true,zT s),dyn (V1 w)] (F1 s.units i u) [] (.aI [(true,zT y.1),dyn (I y.2)]) (F1 s.units i u'))
def fR (p:Pl)(lz:aj):Int:=if lz∈p.ay then(p.ae.getD (bg p.ay lz).toNat ([],0)).2 else -1
def pre (p:Pl)(log:List En)(e:En):Int:=
 if fR p e.lz<0 then 6 else if ¬(0<=e.t/\e.t<=1000000000000)then 2 else if e.t<iq log then 9 else if 400<e.text.length then 8 else 0
def p8 {H:HF}(ds:List DC)(s:bP)(e:Int)(he:e≠0)(hd:ds.length=6:=by rfl):HL H [(true,ds),dyn (I e)] (λr'=>r'=nxR (s,e)):=by
 refine⟨[(true,RD),I e],[],bd ⟨rfl,hd.symm,λk d c _ hc=>?_⟩ (bd (ig _) gz),rfl,?_⟩
 ·have:c= .any :=by
   have:=jI hc;simpa using this
  subst this;exact .any d
 ·show Zi _=lO.aI _;rw[if_neg he];rfl
section
variable (p:Pl)(log:List En)(s:bP)(e:En)
theorem abh (hp:p.ae.length<=1000)(hl:log.length<=1000)(ht:e.text.length<=100000)(h:pre p log e≠0):
  ac 65 [(true,bE p),(false,[.view (log.map be)]),(true,uk s),(true,be e)] (nxR (s,pre p log e)):=by
 have c1:=mU p e.lz hp;have c2:=gm e.t;have vV:(log.map be).length =log.length:=by simp
 have amH:0<log.length->(log.map be)[log.length -1]? =some (be (log.getD (log.length -1) dk))/\iq log=(log.getD (log.length -1) dk).t :=λh=>⟨aV (f:=be) K0 dk,by
  unfold iq;rw[List.getLast?_eq_getElem?,jN]
  rw[pj K0];rfl⟩
 have amQ:log.length=0->iq log=0:=λh=>by rw[CN.1 h];rfl
 rw[show(if e.lz∈p.ay then(p.ae.getD (bg p.ay e.lz).toNat ([],0)).2 else -1)=fR p e.lz from rfl]at c1;have h6:fR p e.lz<0->pre p log e=6:=λa=>by simp[pre,a]
 have h2:0<=fR p e.lz->¬(0<=e.t/\e.t<=1000000000000)->pre p log e=2:=λa b=>by unfold pre;rw[if_neg K0,if_pos b]
 have h9:0<=fR p e.lz->(0<=e.t/\e.t<=1000000000000)->e.t<iq log->pre p log e=9:=λa b c=>by unfold pre;rw[if_neg K0,if_neg (λx=>x b),if_pos c]
 have h8:0<=fR p e.lz->(0<=e.t/\e.t<=1000000000000)->¬e.t<iq log->400<e.text.length->pre p log e=8:=λa b c d=>by unfold pre;rw[if_neg K0,if_neg (λx=>x b),if_neg c,if_pos d]
 have h0:0<=fR p e.lz->(0<=e.t/\e.t<=1000000000000)->¬e.t<iq log->¬400<e.text.length->pre p log e=0:=λa b c d=>by unfold pre;rw[if_neg K0,if_neg (λx=>x b),if_neg c,if_neg d]
 generalize pre p log e=P at*;generalize fR p e.lz=ro at*;generalize iq log=lt at*;by_cases sI:log.length=0
 ·have:=amQ sI;refine sW (fn:=f65) ?_;repeat' ((first|refine tX 0 ?_|exact Zt|refine bR ?_ ?_<;>intro h)<;>(try conv=>whnf))
  all_goals try(exfalso;omega)
  all_goals first|(obtain rfl:P=6:=by omega);exact p8 _ _ 6 K9|(obtain rfl:P=2:=by omega);exact p8 _ _ 2 K9|(obtain rfl:P=9:=by omega);exact p8 _ _ 9 K9|(obtain rfl:P=8:=by omega);exact p8 _ _ 8 K9
 ·obtain⟨qc,ak⟩:=amH K0;haveI hnat:dU (((log.map be).length :Int) -1) (log.length -1):=⟨by omega⟩;generalize log.getD (log.length -1) dk=en at*;refine sW (fn:=f65) ?_;repeat' ((first|refine tX 0 ?_|exact Zt|refine bR ?_ ?_<;>intro h)<;>(try conv=>whnf))
  all_goals try(exfalso;omega)
  all_goals first|(obtain rfl:P=6:=by omega);exact p8 _ _ 6 K9|(obtain rfl:P=2:=by omega);exact p8 _ _ 2 K9|(obtain rfl:P=9:=by omega);exact p8 _ _ 9 K9|(obtain rfl:P=8:=by omega);exact p8 _ _ 8 K9
end
def Fy {p:Pl}{log:List En}{e:En}(h:pre p log e=0):0<=fR p e.lz/\(0<=e.t/\e.t<=1000000000000)/\iq log<=e.t/\e.text.length<=400:=by
 unfold pre at h
 grind
def zL {log:List En}(h: ¬log.length=0):(log.map be)[log.length -1]? =some (be (log.getD (log.length -1) dk))/\iq log=(log.getD (log.length -1) dk).t :=⟨aV (f:=be) K0 dk,by
  grind[iq]⟩
abbrev nS (p:Pl)(log:List En)(s:bP)(e:En)(ro:Int)(i:Nat):St:=⟨[(1,some (.val (nU log))),(4,pP 0),(6,pP 2),(7,pP 4),(8,pP 6),(10,vI ro),(11,vI i)],[(0,some (.box 27 (dyn (true,bE p)).2)),(2,some (.box 58 (dyn (true,uk s)).2)),(4,some (.box 36 (dyn (true,be e)).2)),(6,some (.box 58 [.st (K false),.st (K false),.nil,.st (T []),.nil,.nil]))],1000⟩
section
variable (p:Pl)(log:List En)(s:bP)(e:En)
theorem qP (hp:p.ae.length<=1000)(hl:log.length<=1000)(ph:pre p log e=0){ws:List aj}{k:Int}{ok nb:Bool}(Xz:JN e.text=(ws,k,ok))(hk:k<0\/∃j:Nat,k=j/\j<19)(hnb:ok=true->ac 110 [V1 ws] (.one (Bo nb)))
  (P:Int)(h0:P≠0)(h3: ¬aW e.text->P=3)(h7:aW e.text->k<0->P=7)(h18: ∀j:Nat,aW e.text->k=j->fR p e.lz< (vb j).role ->P=18)(h7': ∀j:Nat,aW e.text->k=j->(vb j).role <=fR p e.lz->ok=false\/nb=false->P=7)
  (hz: ∀j:Nat,aW e.text->k=j->(vb j).role <=fR p e.lz->ok=true->nb=true->P=0):
  ac 65 [(true,bE p),(false,[.view (log.map be)]),(true,uk s),(true,be e)] (nxR (s,P)):=by
 have c1:=mU p e.lz hp;have c2:=gm e.t;have vV:(log.map be).length =log.length:=by simp
 obtain⟨g1,g2,g3,g4⟩:=Fy ph;have c3:=lq e.text K0;rw[Xz]at c3;dsimp only at c3;have c4:=lk;rw[show(if e.lz∈p.ay then(p.ae.getD (bg p.ay e.lz).toNat ([],0)).2 else -1)=fR p e.lz from rfl]at c1;generalize fR p e.lz=ro at*;refine sW (fn:=f65) ?_;by_cases sI:log.length=0;rotate_left
 ·obtain⟨qc,ak⟩:=zL sI;haveI hnat:dU (((log.map be).length :Int) -1) (log.length -1):=⟨by omega⟩;generalize log.getD (log.length -1) dk=en at*;repeat' ((first|refine tX 0 ?_|exact Zt|refine bR ?_ ?_<;>intro h)<;>(try conv=>whnf))
  all_goals try(exfalso;omega)
  ·refine af (ι:=Nat) (λi=>i<=e.text.length/\sU e.text i) (λi=>e.text.length -i) (nS p log s e ro) 0 Zc ⟨dD _,λj hj=>by omega⟩ ?_;rintro i ⟨hi,hp⟩;by_cases ak:i<e.text.length
   ·have dp: ¬(32<=(e.text.getD i 0).toNat /\(e.text.getD i 0).toNat <=126)->¬aW e.text:=λh hh=>h (hh i ak);have l8:32<=(e.text.getD i 0).toNat /\(e.text.getD i 0).toNat <=126->sU e.text (i+1):=λh j hj=>by exact afW
    have FJ:((e.text.getD i 0).toNat :Int)<=255:=by exact LV
    repeat' ((first|refine tX 0 ?_|exact Zt|refine bR ?_ ?_<;>intro h)<;>(try conv=>whnf))
    all_goals first|exact Zo|exact⟨i+1,⟨ak,l8 K0⟩,by omega,Zc⟩|(obtain rfl:P=3:=h3 (dp K0);exact p8 _ _ 3 K9)
   ·obtain rfl:i=e.text.length:=by omega
    have zQ:aW e.text:=hp;have h3:=h3;clear h3;rcases hk with hk|⟨j,rfl,hj⟩
    ·obtain rfl:P=7:=h7 zQ hk;repeat' ((first|refine tX 0 ?_|exact Zt|refine bR ?_ ?_<;>intro h)<;>(try conv=>whnf))
     all_goals first|exact Zo|exact p8 _ _ 7 K9
    ·have Xl:(lW.map Rf).length =19:=rfl;have hv:=aV (f:=Rf) (l:=lW) hj xF;replace h18:=h18 j zQ rfl;replace h7':=h7' j zQ rfl;replace hz:=hz j zQ rfl;rw[show vb j=(lW.getD j xF).2 from rfl]at h18 h7' hz;generalize lW.getD j xF=q at*;by_cases hr:ro<q.2.role
     ·obtain rfl:P=18:=h18 hr;repeat' ((first|refine tX 0 ?_|exact Zt|refine bR ?_ ?_<;>intro h)<;>(try conv=>whnf))
      all_goals first|exact Zo|exact p8 _ _ 18 K9
     ·cases ok
      ·obtain rfl:P=7:=h7' K0 (.inl rfl);repeat' ((first|refine tX 0 ?_|exact Zt|refine bR ?_ ?_<;>intro h)<;>(try conv=>whnf))
       all_goals first|exact Zo|exact p8 _ _ 7 K9
      ·have c5:=hnb rfl;cases nb
       ·obtain rfl:P=7:=h7' K0 (.inr rfl);repeat' ((first|refine tX 0 ?_|exact Zt|refine bR ?_ ?_<;>intro h)<;>(try conv=>whnf))
        all_goals first|exact Zo|exact p8 _ _ 7 K9
       grind
 ·repeat' ((first|refine tX 0 ?_|exact Zt|refine bR ?_ ?_<;>intro h)<;>(try conv=>whnf))
  all_goals try(exfalso;omega)
  ·refine af (ι:=Nat) (λi=>i<=e.text.length/\sU e.text i) (λi=>e.text.length -i) (nS p log s e ro) 0 Zc ⟨dD _,λj hj=>by omega⟩ ?_;rintro i ⟨hi,hp⟩;by_cases ak:i<e.text.length
   ·have dp: ¬(32<=(e.text.getD i 0).toNat /\(e.text.getD i 0).toNat <=126)->¬aW e.text:=λh hh=>h (hh i ak);have l8:32<=(e.text.getD i 0).toNat /\(e.text.getD i 0).toNat <=126->sU e.text (i+1):=λh j hj=>by exact afW
    have FJ:((e.text.getD i 0).toNat :Int)<=255:=by exact LV
    repeat' ((first|refine tX 0 ?_|exact Zt|refine bR ?_ ?_<;>intro h)<;>(try conv=>whnf))
    all_goals first|exact Zo|exact⟨i+1,⟨ak,l8 K0⟩,by omega,Zc⟩|(obtain rfl:P=3:=h3 (dp K0);exact p8 _ _ 3 K9)
   ·obtain rfl:i=e.text.length:=by omega
    have zQ:aW e.text:=hp;have h3:=h3;clear h3;rcases hk with hk|⟨j,rfl,hj⟩
    ·obtain rfl:P=7:=h7 zQ hk;repeat' ((first|refine tX 0 ?_|exact Zt|refine bR ?_ ?_<;>intro h)<;>(try conv=>whnf))
     all_goals first|exact Zo|exact p8 _ _ 7 K9
    ·have Xl:(lW.map Rf).length =19:=rfl;have hv:=aV (f:=Rf) (l:=lW) hj xF;replace h18:=h18 j zQ rfl;replace h7':=h7' j zQ rfl;replace hz:=hz j zQ rfl;rw[show vb j=(lW.getD j xF).2 from rfl]at h18 h7' hz;generalize lW.getD j xF=q at*;by_cases hr:ro<q.2.role
     ·obtain rfl:P=18:=h18 hr;repeat' ((first|refine tX 0 ?_|exact Zt|refine bR ?_ ?_<;>intro h)<;>(try conv=>whnf))
      all_goals first|exact Zo|exact p8 _ _ 18 K9
     ·cases ok
      ·obtain rfl:P=7:=h7' K0 (.inl rfl);repeat' ((first|refine tX 0 ?_|exact Zt|refine bR ?_ ?_<;>intro h)<;>(try conv=>whnf))
       all_goals first|exact Zo|exact p8 _ _ 7 K9
      ·have c5:=hnb rfl;cases nb
       ·obtain rfl:P=7:=h7' K0 (.inr rfl);repeat' ((first|refine tX 0 ?_|exact Zt|refine bR ?_ ?_<;>intro h)<;>(try conv=>whnf))
        all_goals first|exact Zo|exact p8 _ _ 7 K9
       grind
end
def amd {H:HF}(ds:List DC)(y:bP × Int)(he:y.2≠0)(hd:ds.length=6:=by rfl):HL H [(true,ds),dyn (I y.2)] (λr'=>r'=nxR y):=by
 have:=p8 (H:=H) ds y.1 y.2 he hd
 grind
def ame {H:HF}{R:List Nat}(ds:List DC)(y:bP × Int)(h0:y.2=0)(hf:Bm H R (true,ds) (true,uk y.1)):HL H [(true,ds),dyn (I y.2)] (λr'=>r'=nxR y):=by
 refine⟨[(true,uk y.1),I y.2],R,bd hf (bd (ig _) gz),rfl,?_⟩;show Zi _=lO.aI _;rw[if_pos h0];rfl
def ahf (ρ:Nat->Nat)(us:List Un):(so us).map (λe=>e.map (DC.rn ρ))=so us:=by
 show List.map _ (List.map _ _)=List.map _ _;rw[z6]
 exact Lt λe _=>by
  show List.map _ (List.map _ _)=_;rw[z6];rfl
def ahg (ρ:Nat->Nat)(us:List Un)(i:Nat)(u:Un):((so us).set i (cU u 11 13 15)).map (λe=>e.map (DC.rn ρ))=(so us).set i (cU u (ρ 11) (ρ 13) (ρ 15)):=by rw[SW,ahf];rfl
def W6 {H:HF}{R:List Nat}{us:List Un}{i k a b c:Nat}{u:Un}(XC:i<us.length)(h9:H k=some (.aD 17 ((so us).set i (cU u a b c))))(ha:H a=some (.row true 1 (.view (ab u.lots))))(hb:H b=some (.row true 4 (.view (u.res.map kF))))(hc:H c=some (.row true 5 (.view (u.gas.map vh))))(hR:k∈R/\a∈R/\b∈R/\c∈R):
  Full H R (.own k) (.view ((us.set i u).map ky)):=by
 have n2:(so us).length =us.length:=by grind
 have FO: ∀ {j:Nat} {e:List DC} {e':List SC},((so us).set i (cU u a b c))[j]? =some e->((us.set i u).map ky)[j]? =some e'->(e=cU u a b c/\e'=ky u)\/e=e'.map .st :=λ{j e e'} h h'=>by grind
 refine .aD hR.1 h9 bv (λj e e' h h'=>?_) (λj e e' k d c' h h' hd ID=>?_) (λj e' k c' h' ID=>?_)
 ·exact aki
 ·rcases FO h h' with⟨rfl,rfl⟩|rfl
  grind[uL]
  ·exact ako
 grind[Fp]
section
variable (p:Pl)(log:List En)(s:bP)(e:En)
theorem RE (hp:p.ae.length<=1000)(hl:log.length<=1000)(ph:pre p log e=0)(KW:aW e.text){ws:List aj}{j:Nat}(Xz:JN e.text=(ws,(j:Int),true))(hj:j<19)(c5:ac 110 [V1 ws] (.one (Bo true)))
  (hr:(vb j).role <=fR p e.lz)(b1:s.opens.length<=1000)(b2:s.lots.length<=1000)(b3:s.units.length<=1000)(b4: ∀u∈s.units,(u.lots.length<=1000/\u.res.length<=1000)/\u.gas.length<=1000)
  {y:bP × Int}(hS:GS 111 [dyn (true,bE p),nU log,(true,sD s),dyn (V1 ws)] s y):
  ac 65 [(true,bE p),(false,[.view (log.map be)]),(true,uk s),(true,be e)] (nxR y):=by
 have c1:=mU p e.lz hp;have c2:=gm e.t;have vV:(log.map be).length =log.length:=by simp
 obtain⟨g1,g2,g3,g4⟩:=Fy ph;have c3:=lq e.text K0;rw[Xz]at c3;dsimp only at c3;have c4:=lk;rw[show(if e.lz∈p.ay then(p.ae.getD (bg p.ay e.lz).toNat ([],0)).2 else -1)=fR p e.lz from rfl]at c1;generalize fR p e.lz=ro at*;refine sW (fn:=f65) ?_;by_cases sI:log.length=0;rotate_left
 ·obtain⟨qc,ak⟩:=zL sI;haveI hnat:dU (((log.map be).length :Int) -1) (log.length -1):=⟨by omega⟩;generalize log.getD (log.length -1) dk=en at*;repeat' ((first|refine tX 0 ?_|exact Zt|refine bR ?_ ?_<;>intro h)<;>(try conv=>whnf))
  all_goals try(exfalso;omega)
  ·refine af (ι:=Nat) (λi=>i<=e.text.length/\sU e.text i) (λi=>e.text.length -i) (nS p log s e ro) 0 Zc ⟨dD _,λj hj=>by omega⟩ ?_;rintro i ⟨hi,Le⟩;by_cases ak:i<e.text.length
   ·have dp: ¬(32<=(e.text.getD i 0).toNat /\(e.text.getD i 0).toNat <=126)->¬aW e.text:=λh hh=>h (hh i ak);have l8:32<=(e.text.getD i 0).toNat /\(e.text.getD i 0).toNat <=126->sU e.text (i+1):=λh j hj=>by exact K71
    have FJ:((e.text.getD i 0).toNat :Int)<=255:=by exact LV
    repeat' ((first|refine tX 0 ?_|exact Zt|refine bR ?_ ?_<;>intro h)<;>(try conv=>whnf))
    all_goals first|exact Zo|exact⟨i+1,⟨ak,l8 K0⟩,by omega,Zc⟩|exact absurd KW (dp K0)
   ·exact K23
 ·repeat' ((first|refine tX 0 ?_|exact Zt|refine bR ?_ ?_<;>intro h)<;>(try conv=>whnf))
  all_goals try(exfalso;omega)
  ·refine af (ι:=Nat) (λi=>i<=e.text.length/\sU e.text i) (λi=>e.text.length -i) (nS p log s e ro) 0 Zc ⟨dD _,λj hj=>by omega⟩ ?_;rintro i ⟨hi,Le⟩;by_cases ak:i<e.text.length
   ·have dp: ¬(32<=(e.text.getD i 0).toNat /\(e.text.getD i 0).toNat <=126)->¬aW e.text:=λh hh=>h (hh i ak);have l8:32<=(e.text.getD i 0).toNat /\(e.text.getD i 0).toNat <=126->sU e.text (i+1):=λh j hj=>by exact K71
    have FJ:((e.text.getD i 0).toNat :Int)<=255:=by exact LV
    repeat' ((first|refine tX 0 ?_|exact Zt|refine bR ?_ ?_<;>intro h)<;>(try conv=>whnf))
    all_goals first|exact Zo|exact⟨i+1,⟨ak,l8 K0⟩,by omega,Zc⟩|exact absurd KW (dp K0)
   ·exact K23
theorem RF (hp:p.ae.length<=1000)(hl:log.length<=1000)(ph:pre p log e=0)(KW:aW e.text){ws:List aj}{j:Nat}(Xz:JN e.text=(ws,(j:Int),true))(hj:j<19)(c5:ac 110 [V1 ws] (.one (Bo true)))
  (hr:(vb j).role <=fR p e.lz)(b1:s.opens.length<=1000)(b2:s.lots.length<=1000)(b3:s.units.length<=1000)(b4: ∀u∈s.units,(u.lots.length<=1000/\u.res.length<=1000)/\u.gas.length<=1000)
  {y:bP × Int}{i0:Nat}{u u':Un}(zO:s.units[i0]? =some u)(hy:y.2=0)(hyu:y.1.units=s.units.set i0 u')(hS:bx cx 111 1 [dyn (true,bE p),nU log,(true,zT s),dyn (V1 ws)] (F1 s.units i0 u) [] (.aI [(true,zT y.1),dyn (I y.2)]) (F1 s.units i0 u')):
  ac 65 [(true,bE p),(false,[.view (log.map be)]),(true,uk s),(true,be e)] (nxR y):=by
 have XC:=(kJ.1 zO).1;have c1:=mU p e.lz hp;have c2:=gm e.t;have vV:(log.map be).length =log.length:=by simp
 obtain⟨g1,g2,g3,g4⟩:=Fy ph;have c3:=lq e.text K0;rw[Xz]at c3;dsimp only at c3;have c4:=lk;rw[show(if e.lz∈p.ay then(p.ae.getD (bg p.ay e.lz).toNat ([],0)).2 else -1)=fR p e.lz from rfl]at c1;generalize fR p e.lz=ro at*;refine sW (fn:=f65) ?_;by_cases sI:log.length=0;rotate_left
 ·obtain⟨qc,ak⟩:=zL sI;haveI hnat:dU (((log.map be).length :Int) -1) (log.length -1):=⟨by omega⟩;generalize log.getD (log.length -1) dk=en at*;repeat' ((first|refine tX 0 ?_|exact Zt|refine bR ?_ ?_<;>intro h)<;>(try conv=>whnf))
  all_goals try(exfalso;omega)
  ·refine af (ι:=Nat) (λi=>i<=e.text.length/\sU e.text i) (λi=>e.text.length -i) (nS p log s e ro) 0 Zc ⟨dD _,λj hj=>by omega⟩ ?_;rintro i ⟨hi,Le⟩;by_cases ak:i<e.text.length
   ·have dp: ¬(32<=(e.text.getD i 0).toNat /\(e.text.getD i 0).toNat <=126)->¬aW e.text:=λh hh=>h (hh i ak);have l8:32<=(e.text.getD i 0).toNat /\(e.text.getD i 0).toNat <=126->sU e.text (i+1):=λh j hj=>by exact K71
    have FJ:((e.text.getD i 0).toNat :Int)<=255:=by exact LV
    repeat' ((first|refine tX 0 ?_|exact Zt|refine bR ?_ ?_<;>intro h)<;>(try conv=>whnf))
    all_goals first|exact Zo|exact⟨i+1,⟨ak,l8 K0⟩,by omega,Zc⟩|exact absurd KW (dp K0)
   ·exact K20
 ·repeat' ((first|refine tX 0 ?_|exact Zt|refine bR ?_ ?_<;>intro h)<;>(try conv=>whnf))
  all_goals try(exfalso;omega)
  ·refine af (ι:=Nat) (λi=>i<=e.text.length/\sU e.text i) (λi=>e.text.length -i) (nS p log s e ro) 0 Zc ⟨dD _,λj hj=>by omega⟩ ?_;rintro i ⟨hi,Le⟩;by_cases ak:i<e.text.length
   ·have dp: ¬(32<=(e.text.getD i 0).toNat /\(e.text.getD i 0).toNat <=126)->¬aW e.text:=λh hh=>h (hh i ak);have l8:32<=(e.text.getD i 0).toNat /\(e.text.getD i 0).toNat <=126->sU e.text (i+1):=λh j hj=>by exact K71
    have FJ:((e.text.getD i 0).toNat :Int)<=255:=by exact LV
    repeat' ((first|refine tX 0 ?_|exact Zt|refine bR ?_ ?_<;>intro h)<;>(try conv=>whnf))
    all_goals first|exact Zo|exact⟨i+1,⟨ak,l8 K0⟩,by omega,Zc⟩|exact absurd KW (dp K0)
   ·exact K20
theorem RG (hp:p.ae.length<=1000)(hl:log.length<=1000)(ph:pre p log e=0)(KW:aW e.text){ws:List aj}{j:Nat}(Xz:JN e.text=(ws,(j:Int),true))(hj:j<19)(c5:ac 110 [V1 ws] (.one (Bo true)))
  (hr:(vb j).role <=fR p e.lz)(b1:s.opens.length<=1000)(b2:s.lots.length<=1000)(b3:s.units.length<=1000)(b4: ∀u∈s.units,(u.lots.length<=1000/\u.res.length<=1000)/\u.gas.length<=1000)
  {y:bP × Int}{i0:Nat}{u:Un}(zO:s.units[i0]? =some u)(hy:y.2≠0)(hS:bx cx 111 1 [dyn (true,bE p),nU log,(true,zT s),dyn (V1 ws)] (F1 s.units i0 u) [] (.aI [(true,zT s),dyn (I y.2)]) (FY s.units i0 u)):
  ac 65 [(true,bE p),(false,[.view (log.map be)]),(true,uk s),(true,be e)] (nxR y):=by
 have c1:=mU p e.lz hp;have c2:=gm e.t;have vV:(log.map be).length =log.length:=by simp
 obtain⟨g1,g2,g3,g4⟩:=Fy ph;have c3:=lq e.text K0;rw[Xz]at c3;dsimp only at c3;have c4:=lk;rw[show(if e.lz∈p.ay then(p.ae.getD (bg p.ay e.lz).toNat ([],0)).2 else -1)=fR p e.lz from rfl]at c1;generalize fR p e.lz=ro at*;refine sW (fn:=f65) ?_;by_cases sI:log.length=0;rotate_left
 ·obtain⟨qc,ak⟩:=zL sI;haveI hnat:dU (((log.map be).length :Int) -1) (log.length -1):=⟨by omega⟩;generalize log.getD (log.length -1) dk=en at*;repeat' ((first|refine tX 0 ?_|exact Zt|refine bR ?_ ?_<;>intro h)<;>(try conv=>whnf))
  all_goals try(exfalso;omega)
  ·refine af (ι:=Nat) (λi=>i<=e.text.length/\sU e.text i) (λi=>e.text.length -i) (nS p log s e ro) 0 Zc ⟨dD _,λj hj=>by omega⟩ ?_;rintro i ⟨hi,Le⟩;by_cases ak:i<e.text.length
   ·have dp: ¬(32<=(e.text.getD i 0).toNat /\(e.text.getD i 0).toNat <=126)->¬aW e.text:=λh hh=>h (hh i ak);have l8:32<=(e.text.getD i 0).toNat /\(e.text.getD i 0).toNat <=126->sU e.text (i+1):=λh j hj=>by exact K71
    have FJ:((e.text.getD i 0).toNat :Int)<=255:=by exact LV
    repeat' ((first|refine tX 0 ?_|exact Zt|refine bR ?_ ?_<;>intro h)<;>(try conv=>whnf))
    all_goals first|exact Zo|exact⟨i+1,⟨ak,l8 K0⟩,by omega,Zc⟩|exact absurd KW (dp K0)
   ·exact K33
 ·repeat' ((first|refine tX 0 ?_|exact Zt|refine bR ?_ ?_<;>intro h)<;>(try conv=>whnf))
  all_goals try(exfalso;omega)
  ·refine af (ι:=Nat) (λi=>i<=e.text.length/\sU e.text i) (λi=>e.text.length -i) (nS p log s e ro) 0 Zc ⟨dD _,λj hj=>by omega⟩ ?_;rintro i ⟨hi,Le⟩;by_cases ak:i<e.text.length
   ·have dp: ¬(32<=(e.text.getD i 0).toNat /\(e.text.getD i 0).toNat <=126)->¬aW e.text:=λh hh=>h (hh i ak);have l8:32<=(e.text.getD i 0).toNat /\(e.text.getD i 0).toNat <=126->sU e.text (i+1):=λh j hj=>by exact K71
    have FJ:((e.text.getD i 0).toNat :Int)<=255:=by exact LV
    repeat' ((first|refine tX 0 ?_|exact Zt|refine bR ?_ ?_<;>intro h)<;>(try conv=>whnf))
    all_goals first|exact Zo|exact⟨i+1,⟨ak,l8 K0⟩,by omega,Zc⟩|exact absurd KW (dp K0)
   ·exact K33
end
section
variable {E:uj}{p:Pl}{log:List En}{s:bP}{k:Nat}{a:List aj}{n:List Int}{q w0 x:aj}{ws:List aj}
theorem mo (hl:s.units.length<=1000)(n1: ¬w0= [110,111,116,101])(n2: ¬w0= [108,111,116])(n3: ¬w0= [117,110,105,116])(n4: ¬w0=lL)(n5: ¬w0=nA)(n6: ¬w0=lu)(n7: ¬w0=sE)(n8: ¬w0=wD)(n9: ¬w0=OF)
  (he:bs E p log s k a n q=TS E p log s k x a n q)(hGU: ∀u,u∈s.units->GU 199 [dyn (true,bE p),nU log,dyn (Ld s),(true,cU u 11 13 15),dyn (V1 (w0::x::ws))] u (aU E p log s u k a n q))
  (hk:(k=10/\w0= [101,110,116,101,114]/\∀u,(aU E p log s u k a n q).1=u)\/(k=11/\w0= [108,101,97,118,101])\/((k≠10/\k≠11)/\¬w0= [101,110,116,101,114]/\¬w0= [108,101,97,118,101])):
  Stp p log s (w0::x::ws) (bs E p log s k a n q):=by
 rw[he];by_cases hu:0<=io s x;rotate_left
 ·rw[oW hu];exact .inl (OK p log s hl K0 n1 n2 n3 n4 n5 n6 n7 n8 n9)
 obtain⟨i,u,h1,h2,h3,h4,_⟩:=j0 hu;have hx:io s x=(i:Nat):=h1;have hG:=hGU u (jI h3)
 cases hr:aU E p log s u k a n q with
 |mk u' z=>
  rw[hr]at hG;rw[ba hu h2 h4 hr];by_cases hz:z=0
  ·subst hz;rw[if_pos rfl];refine .inr (.inr ⟨i,u,u',h3,rfl,rfl,?_⟩)
   rcases hk with⟨rfl,hw,hn⟩|⟨rfl,hw⟩|⟨⟨k1,k2⟩,e1,e2⟩
   ·have:=KH p log s h3 hl hx n1 n2 n3 n4 n5 n6 n7 n8 n9 hG hw
    grind
   ·exact OJ p log s h3 hl hx n1 n2 n3 n4 n5 n6 n7 n8 n9 hG hw
   ·rw[if_neg k1,if_neg k2];exact GN p log s h3 hl hx n1 n2 n3 n4 n5 n6 n7 n8 n9 hG e1 e2
  ·refine .inr (.inl ⟨i,u,h3,hz,?_⟩);exact KG p log s h3 hl hx n1 n2 n3 n4 n5 n6 n7 n8 n9 hG hz
end
structure RB (p:Pl) (log:List En) (s:bP):Prop where
 small:ii p
 len:log.length<=1000
 opens:s.opens.length<=1000
 nd:s.opens.Nodup
 cmp: ∀u∈s.units,∀t∈p.aa,t.kind=2->i6 u.res t=true->ad0 log u t
section
variable {p:Pl}{log:List En}{s:bP}{k:Nat}{a:List aj}{n:List Int}{q w0:aj}
theorem ad3 (hP:PB p)(hS:SB p log s)(hR:RB p log s)(hk:k<19)(hw:w0=(lW.getD k xF).1)(ha:a.length=(vb k).words)(hal: ∀x∈a,x.length<=1000)(hq:q.length<=1000)(hn:jU ((w0::a).drop ((vb k).words +1 -(vb k).sM))=some n):
  Stp p log s (w0::a++if(vb k).rest then [q]else []) (bs EE p log s k a n q):=by
 have hul:s.units.length<=6:=hS.units;have vV:s.lots.length<=12:=hS.lots;have ahv:=hR.len;have hUl: ∀u∈s.units,u.lots.length<=1000:=λu hu=>by have:=(hS.unit u hu).lots;omega
 have hUr: ∀u∈s.units,u.res.length<=1000:=λu hu=>by have:=(hS.unit u hu).len;omega
 have E5: ∀ {l:List aj},l.length=2->∃x y,l= [x,y]:=λ{l} h=>match l,h with| [x,y],_=>⟨x,y,rfl⟩
 have ag4: ∀ {l:List aj},l.length=3->∃x y z,l= [x,y,z]:=λ{l} h=>match l,h with| [x,y,z],_=>⟨x,y,z,rfl⟩
 have ag5: ∀ {l:List aj},l.length=6->∃x y1 y2 y3 y4 y5,l= [x,y1,y2,y3,y4,y5]:=λ{l} h=>match l,h with| [x,y1,y2,y3,y4,y5],_=>⟨x,y1,y2,y3,y4,y5,rfl⟩
 have amI: ∀ {l:List Int},l.length=1->∃x,l= [x]:=λh=>xO.1 h;have amM: ∀ {l:List Int},l.length=2->∃x y,l= [x,y]:=λ{l} h=>match l,h with| [x,y],_=>⟨x,y,rfl⟩
 have amv: ∀ {l:List Int},l.length=5->∃y1 y2 y3 y4 y5,l= [y1,y2,y3,y4,y5]:=λ{l} h=>match l,h with| [y1,y2,y3,y4,y5],_=>⟨y1,y2,y3,y4,y5,rfl⟩
 have Uw: ∀z∈w0::a,z.length<=100000:=λz hz=>by
  rcases dl.1 hz with rfl|hz
  ·have: ∀k<19,(lW.getD k xF).1.length <=10:=by decide
   grind
  grind
 have s7: ∀ {l:List aj},l.length=1->∃x,l= [x]:=λh=>xO.1 h
 match k,hk with
 |0,_=>
  subst hw;exact .inl (WX EE p log s n q rfl a _)
 |1,_=>
  subst hw;obtain⟨x,rfl⟩:=s7 ha;exact .inl (abe EE p log s n q rfl x (hal x (by simp)) K0)
 |2,_=>
  subst hw;obtain⟨x,rfl⟩:=s7 ha;exact .inl (WY EE p log s n q rfl x (hal x (by simp)) K0 rfl K0)
 |3,_=>
  subst hw;obtain⟨x,y,rfl⟩:=E5 ha;refine mo K0 K9 K9 K9 K9 K9 K9 K9 K9 K9 rfl (λu hu=>?_) (.inr (.inr ⟨⟨by decide,by decide⟩,by decide,by decide⟩));exact WT EE p log s u q n rfl x y K0 (hUl u hu)
 |4,_=>
  subst hw;obtain⟨x,rfl⟩:=s7 ha;exact .inl (WZ EE p log s n q rfl [x] [x] (WU EE p log s n q rfl x hP.ap hR.opens))
 |5,_=>
  subst hw;obtain⟨x,rfl⟩:=s7 ha;exact .inl (W0 EE p log s n q rfl [x] [x] (WV EE p log s n q rfl x hP.ap hR.opens hR.nd))
 |6,_=>
  subst hw;exact .inl (Rx EE p log s n q rfl a _ (Rv EE p log s n q rfl a _))
 |7,_=>
  subst hw;exact .inl (W4 EE p log s n q rfl a _ (WW EE p log s n q rfl a _))
 |8,_=>
  subst hw;exact .inl (KF EE p log s n q rfl a _ (KE EE p log s n q rfl a _))
 |9,_=>
  subst hw;exact .inl (abf EE p log s n q rfl a _ (abd EE p log s n q rfl a _))
 |10,_=>
  subst hw;obtain⟨x,rfl⟩:=s7 ha;refine mo K0 K9 K9 K9 K9 K9 K9 K9 K9 K9 rfl (λu hu=>?_) (.inl ⟨rfl,rfl,λu=>by show(if u.rel then(u,(20:Int))else if s.hall= []then(if s.opens= []then(u,24)else(u,0))else(u,17)).1=u;grind⟩);exact OD EE p log s u q n rfl x
 |11,_=>
  subst hw;obtain⟨x,rfl⟩:=s7 ha;refine mo K0 K9 K9 K9 K9 K9 K9 K9 K9 K9 rfl (λu hu=>?_) (.inr (.inl ⟨rfl,rfl⟩));exact OE EE p log s u q n rfl x
 |12,_=>
  subst hw;obtain⟨x,y,rfl⟩:=E5 ha;refine mo K0 K9 K9 K9 K9 K9 K9 K9 K9 K9 rfl (λu hu=>?_) (.inr (.inr ⟨⟨by decide,by decide⟩,by decide,by decide⟩));refine Rt EE p log s u q n rfl x y (WS EE p log s u _ x y q n hP.aa hP.bz (hUr u hu) ahv (λt ht IF=>?_));exact Cb log u t q bv K0 (hP.rules t ht) (hP.kind t ht) (λLi=>hR.cmp u hu t ht Li IF)
 |13,_=>
  subst hw;obtain⟨x,y,rfl⟩:=E5 ha;refine mo K0 K9 K9 K9 K9 K9 K9 K9 K9 K9 rfl (λu hu=>?_) (.inr (.inr ⟨⟨by decide,by decide⟩,by decide,by decide⟩));exact KD EE p log s u q n rfl x y hR.small (hUr u hu)
 |14,_=>
  subst hw;obtain⟨x,rfl⟩:=s7 ha;refine mo K0 K9 K9 K9 K9 K9 K9 K9 K9 K9 rfl (λu hu=>?_) (.inr (.inr ⟨⟨by decide,by decide⟩,by decide,by decide⟩));exact GK EE p log s u q n rfl x hP.aa (hUr u hu)
 |15,_=>
  subst hw;obtain⟨x,y,rfl⟩:=E5 ha;refine mo K0 K9 K9 K9 K9 K9 K9 K9 K9 K9 rfl (λu hu=>?_) (.inr (.inr ⟨⟨by decide,by decide⟩,by decide,by decide⟩));refine uN p log s u _ _ K9 K9 K9 K9 K9 K9 K9 ?_;cases hrel:u.rel
  ·have:=λw=>Ft p u w hrel;have hq:aU EE p log s u 15 [x,y] n q=(u,20):=UU
   grind
  ·obtain⟨m,rfl⟩:=amI (qL hn);have:=OA p u x y m rfl hrel (λz hz=>Uw z hz) hn;have hq:aU EE p log s u 15 [x,y] [m] q=if m<=1000 then({u with shaken:=u.shaken || decide (m>p.dZ)},0)else(u,2):=UU
   rw[hq];exact this
 |16,_=>
  subst hw;obtain⟨x,rfl⟩:=s7 ha;refine mo K0 K9 K9 K9 K9 K9 K9 K9 K9 K9 rfl (λu hu=>?_) (.inr (.inr ⟨⟨by decide,by decide⟩,by decide,by decide⟩));exact GL EE p log s u q n rfl x
 |17,_=>
  subst hw;obtain⟨x,y,z,rfl⟩:=ag4 ha;refine mo K0 K9 K9 K9 K9 K9 K9 K9 K9 K9 rfl (λu hu=>?_) (.inr (.inr ⟨⟨by decide,by decide⟩,by decide,by decide⟩));refine uN p log s u _ _ K9 K9 K9 K9 K9 K9 K9 ?_;cases hrel:u.rel
  ·have:=λw=>Ft p u w hrel;have hq:aU EE p log s u 17 [x,y,z] n q=(u,20):=UU
   grind
  ·obtain⟨m,m',rfl⟩:=amM (qL hn);have:=Rn p u x y z m m' rfl hrel (λz hz=>Uw z hz) hn hP.eK (hS.unit u hu).used;have hq:aU EE p log s u 17 [x,y,z] [m,m'] q=if u.shaken then(u,24)else if BL m m' then(if u.used+xd m m'<=p.eK then({u with used:=u.used+xd m m'},0)else(u,22))else(u,2):=UU
   rw[hq];exact this
 |18,_=>
  subst hw;obtain⟨x,y1,y2,y3,y4,y5,rfl⟩:=ag5 ha;refine mo K0 K9 K9 K9 K9 K9 K9 K9 K9 K9 rfl (λu hu=>?_) (.inr (.inr ⟨⟨by decide,by decide⟩,by decide,by decide⟩));refine uN p log s u _ _ K9 K9 K9 K9 K9 K9 K9 ?_;cases hrel:u.rel
  ·have:=λw=>Ft p u w hrel;have hq:aU EE p log s u 18 [x,y1,y2,y3,y4,y5] n q=(u,20):=UU
   grind
  ·obtain⟨m1,m2,m3,m4,m5,rfl⟩:=amv (qL hn);have:=WQ p u x y1 y2 y3 y4 y5 m1 m2 m3 m4 m5 rfl hrel (λz hz=>Uw z hz) hn (by have:=(hS.unit u hu).gas;omega);have hq:aU EE p log s u 18 [x,y1,y2,y3,y4,y5] [m1,m2,m3,m4,m5] q=if gok m1 m2 m3 m4 m5 then(if u.gas.length<10 then({u with gas:=u.gas++[⟨m1,m2,m3,m4,m5⟩]},0)else(u,16))else(u,2):=UU
   rw[hq];exact this
 |k+19,hk=>omega
end
theorem Uj {w:aj}(h:lB w<19):w=(lW.getD (lB w) xF).1:=by
 have h':lB w< (lW.map Prod.fst).length :=h;have e:(lW.map Prod.fst)[lB w]=w:=List.getElem_idxOf h';have hv:lB w<lW.length:=h;conv=>lhs;rw[<- e]
 simp[jN,hv]
theorem AS: ∀k<19,((vb k).sM =0/\((lW.getD k xF).1≠[115,104,111,99,107]/\(lW.getD k xF).1≠[108,111,97,100])/\(lW.getD k xF).1≠[103,97,115])\/
  ((vb k).words +1 -(vb k).sM =2/\(vb k).rest =false/\1<=(vb k).words /\¬(((lW.getD k xF).1≠[115,104,111,99,107]/\(lW.getD k xF).1≠[108,111,97,100])/\(lW.getD k xF).1≠[103,97,115])):=by decide
def Uk {tx:aj}{k:Nat}(hk:lB ((aJ 32 tx).getD 0 [])=k)(h19:k<19):
  (fU (vb k) tx=none/\(∃ws,JN tx=(ws,(k:Int),false))\/
  ∃a r,a.length=(vb k).words /\JN tx=((aJ 32 tx).getD 0 []::a++(if(vb k).rest then [r]else []),(k:Int),true)/\(∀x∈a,x∈aJ 32 tx)/\r.length<=tx.length/\((vb k).rest =true->r=cd ((vb k).words +1) tx)/\
   fU (vb k) tx=(jU (((aJ 32 tx).getD 0 []::a).drop ((vb k).words +1 -(vb k).sM))).map λn=>(a,n,if(vb k).rest then r else [])):=by
 have h3:=Lu.2 (ng 32 tx);unfold JN fU;rw[hk,if_neg (show ¬19<=k by omega)];generalize hws:aJ 32 tx=ws at*;generalize vb k=v at*;by_cases h1:(v.rest=false/\ws.length≠v.words+1)\/(v.rest=true/\ws.length<v.words+2)
 ·rw[if_pos h1];refine .inl ⟨?_,[],rfl⟩;rw[if_pos];rcases h1 with h|h
  ·exact .inr (.inl h)
  ·exact .inl h
 rw[if_neg h1];by_cases h2: []∈ws.take (v.words+1)
 ·rw[if_pos h2];refine .inl ⟨?_,[],rfl⟩;rw[if_pos (.inr (.inr h2))]
 rw[if_neg h2]
 have bG:v.words+1<=ws.length:=by
  cases hr:v.rest
  ·have: ¬(ws.length≠v.words+1):=λh=>h1 (.inl ⟨hr,h⟩);omega
  ·have: ¬(ws.length<v.words+2):=λh=>h1 (.inr ⟨hr,h⟩);omega
 have ht:ws.take (v.words+1)=ws.getD 0 []::(ws.take (v.words+1)).drop 1:=by
  cases ws with
  |nil=>simp at h3
  |cons a ws=>rfl
 refine .inr ⟨(ws.take (v.words+1)).drop 1,cd (v.words+1) tx,by rw[LJ,LH];omega,by rw[<- ht],λx hx=>CO (PD hx),?_,λ_=>rfl,?_⟩
 ·exact om _ _
 ·have h4: ¬((v.rest=true/\ws.length<v.words+2)\/(v.rest=false/\ws.length≠v.words+1)\/[]∈ws.take (v.words+1)):=by
   rintro(h|h|h)
   ·exact h1 (.inr h)
   ·exact h1 (.inl h)
   ·exact h2 h
  show(if _ then _ else _)=_;rw[if_neg h4,<- ht]
def abi {tx:aj}(hl:tx.length<=400){k:Nat}(hk:lB ((aJ 32 tx).getD 0 [])=k):
  (19<=k/\JN tx=([],-1,false))\/(k<19/\fU (vb k) tx=none/\∃ws,JN tx=(ws,(k:Int),false))\/(k<19/\fU (vb k) tx=none/\∃ws,JN tx=(ws,(k:Int),true)/\ac 110 [V1 ws] (.one (Bo false)))\/
  (k<19/\∃a n r,fU (vb k) tx=some (a,n,if(vb k).rest then r else [])/\JN tx=((aJ 32 tx).getD 0 []::a++(if(vb k).rest then [r]else []),(k:Int),true)/\a.length=(vb k).words /\(∀x∈a,x.length<=1000)/\r.length<=1000/\
   jU (((aJ 32 tx).getD 0 []::a).drop ((vb k).words +1 -(vb k).sM))=some n/\ac 110 [V1 ((aJ 32 tx).getD 0 []::a++(if(vb k).rest then [r]else []))] (.one (Bo true))):=by
 by_cases h19:19<=k
 ·exact .inl ⟨h19,by unfold JN;grind⟩
 have h19:k<19:=by omega
 rcases Uk hk h19 with⟨h1,h2⟩|⟨a,r,h1,h2,h3,h4,h5,h6⟩
 ·grind
 have hs2:=(cj 32 tx).2;have Uw:((aJ 32 tx).getD 0 []).length <=400:=by grind
 have hal: ∀x∈a,x.length<=1000:=λx hx=>by grind
 have hw:=Uj (w:=(aJ 32 tx).getD 0 []) K0;rw[hk]at hw;generalize (aJ 32 tx).getD 0 []=w0 at*;have aoB:(vb k).words <=10:=Ot k h19
 have hN:Fg (w0::a++(if(vb k).rest then [r]else []))=(jU ((w0::a).drop ((vb k).words +1 -(vb k).sM))).isSome :=by
  unfold Fg;show(if(w0≠_/\w0≠_)/\w0≠_ then true else _)=_
  rcases AS k h19 with⟨g1,g2⟩|⟨g1,g2,g3,g4⟩
  ·have hd:(w0::a).drop ((vb k).words +1)= []:=Ly bv;rw[g1,G8,hd];rw[<- hw]at g2;exact if_pos g2
  grind
 have i8:=zI (w0::a++(if(vb k).rest then [r]else [])) (by simp) (by
  rcases AS k h19 with⟨g1,g2⟩|⟨g1,g2,g3,g4⟩
  ·refine .inl ?_;rw[hN,g1,G8,Ly bv];rfl
  ·refine .inr ?_;rw[g2];simp;omega) bv (λx hx=>by
   grind) (by
  grind[AS])
 rw[hN]at i8
 cases hn:jU ((w0::a).drop ((vb k).words +1 -(vb k).sM))with
 |none=>
  grind
 |some n=>
  rw[hn]at i8 h6;exact .inr (.inr (.inr ⟨h19,a,n,r,h6,h2,h1,hal,by omega,hn,i8⟩))
section
variable {p:Pl}{log:List En}{s:bP}{e:En}
theorem OL (h:e.lz∈p.ay):fR p e.lz=(p.ae.getD (bg p.ay e.lz).toNat ([],0)).2:=if_pos h
def abj (Pq: ∀q∈p.ae,0<=q.2):fR p e.lz<0↔bg p.ay e.lz<0:=by
 by_cases h:e.lz∈p.ay
 grind[ld,OL]
 ·unfold fR;rw[if_neg h,fq h]
theorem BN (hP:PB p)(hS:SB p log s)(hR:RB p log s)(Pq: ∀q∈p.ae,0<=q.2)(ht:e.text.length<=100000):
  ac 65 [(true,bE p),(false,[.view (log.map be)]),(true,uk s),(true,be e)] (nxR (mI EE p log s e)):=by
 have hri:=abj (e:=e) Pq;by_cases ph:pre p log e=0;rotate_left
 ·have:=abh p log s e hP.ae hR.len ht ph
  have it:mI EE p log s e=(s,pre p log e):=by
   unfold pre at ph ⊢;unfold mI
   grind
  grind
 obtain⟨g1,g2,g3,g4⟩:=Fy ph;have Ce: ¬bg p.ay e.lz<0:=λh=>by grind
 have abL:e.lz∈p.ay:=by grind[fq]
 have aoz:=OL abL
 have it:mI EE p log s e=if ¬aW e.text then(s,3)else
   if 19<=lB ((aJ 32 e.text).getD 0 [])then(s,7)else
   if fR p e.lz< (vb (lB ((aJ 32 e.text).getD 0 []))).role then(s,18)else
   match fU (vb (lB ((aJ 32 e.text).getD 0 []))) e.text with
   |none=>(s,7)
   |some (a,n,rest)=>bs EE p log s (lB ((aJ 32 e.text).getD 0 [])) a n rest:=by
  unfold mI
  grind
 rw[it];clear it;generalize hk:lB ((aJ 32 e.text).getD 0 [])=k at*;have jt: ∀ {ws:List aj} {k':Int} {ok nb:Bool},_:=λ{ws k' ok nb}=>qP p log s e hP.ae hR.len ph (ws:=ws) (k:=k') (ok:=ok) (nb:=nb);by_cases zQ:aW e.text;rotate_left
 ·rw[if_pos zQ]
  rcases abi g4 hk with⟨a1,a2⟩|⟨a1,a2,ws,a3⟩|⟨a1,a2,ws,a3,a4⟩|⟨a1,a,n,r,a2,a3,a4,a5,a6,a7,a8⟩
  grind
  grind
  grind
  ·exact qP p log s e hP.ae hR.len ph a3 (.inr ⟨k,rfl,a1⟩) (λ_=>a8) 3 K9 (λ_=>rfl) (λh=>absurd h zQ) (λ_ h=>absurd h zQ) (λ_ h=>absurd h zQ) (λ_ h=>absurd h zQ)
 rw[if_neg (λh=>h zQ)];have inj: ∀ {j:Nat},((k:Nat):Int)=j->j=k:=λh=>by omega
 rcases abi g4 hk with⟨a1,a2⟩|⟨a1,a2,ws,a3⟩|⟨a1,a2,ws,a3,a4⟩|⟨a1,a,n,r,a2,a3,a4,a5,a6,a7,a8⟩
 ·rw[if_pos a1]
  grind
 ·rw[if_neg K0,a2];by_cases Uv:fR p e.lz< (vb k).role
  ·rw[if_pos Uv];exact qP p log s e hP.ae hR.len ph a3 (nb:=true) (.inr ⟨k,rfl,a1⟩) (λh=>by cases h) 18 K9 (λh=>absurd zQ h) (λ_ h=>by omega) (λ_ _ _ _=>rfl) (λj _ h h'=>by obtain rfl:=inj h;omega) (λ_ _ _ _ h=>by cases h)
  grind
 ·rw[if_neg K0,a2];by_cases Uv:fR p e.lz< (vb k).role
  ·rw[if_pos Uv];exact qP p log s e hP.ae hR.len ph a3 (.inr ⟨k,rfl,a1⟩) (λ_=>a4) 18 K9 (λh=>absurd zQ h) (λ_ h=>by omega) (λ_ _ _ _=>rfl) (λj _ h h'=>by obtain rfl:=inj h;omega) (λ_ _ _ _ _ h=>by cases h)
  ·rw[if_neg Uv];exact qP p log s e hP.ae hR.len ph a3 (.inr ⟨k,rfl,a1⟩) (λ_=>a4) 7 K9 (λh=>absurd zQ h) (λ_ _=>rfl) (λj _ h h'=>by grind) (λ_ _ _ _ _=>rfl) (λ_ _ _ _ _ h=>by cases h)
 ·rw[if_neg K0,a2];by_cases Uv:fR p e.lz< (vb k).role
  ·rw[if_pos Uv];exact qP p log s e hP.ae hR.len ph a3 (.inr ⟨k,rfl,a1⟩) (λ_=>a8) 18 K9 (λh=>absurd zQ h) (λ_ h=>by omega) (λ_ _ _ _=>rfl) (λj _ h h'=>by obtain rfl:=inj h;omega) (λj _ h h'=>by grind)
  ·rw[if_neg Uv];dsimp only;have hq:(if(vb k).rest then r else []).length <=1000:=by grind
   have dw:=ad3 (a:=a) (n:=n) (q:=if(vb k).rest then r else []) hP hS hR a1 (w0:=(aJ 32 e.text).getD 0 []) (by grind[Uj]) a4 a5 hq a7;have hws:(aJ 32 e.text).getD 0 []::a++(if(vb k).rest then [if(vb k).rest then r else []]else [])=(aJ 32 e.text).getD 0 []::a++(if(vb k).rest then [r]else []):=by grind
   rw[hws]at dw;have b1:=hR.opens;have b2:s.lots.length<=1000:=by have:=hS.lots;omega
   have b3:s.units.length<=1000:=by exact U0
   have b4: ∀u∈s.units,(u.lots.length<=1000/\u.res.length<=1000)/\u.gas.length<=1000:=λu hu=>by
    have h1:=(hS.unit u hu).lots;have h2:=(hS.unit u hu).len;have h3:=(hS.unit u hu).gas;have h4:=hR.len
    grind
   rcases dw with h|⟨i,u,h1,h2,h3⟩|⟨i,u,u',h1,h2,h3,h4⟩
   ·exact RE p log s e hP.ae hR.len ph zQ a3 a1 a8 K0 b1 b2 b3 b4 h
   ·exact RG p log s e hP.ae hR.len ph zQ a3 a1 a8 K0 b1 b2 b3 b4 h1 h2 h3
   ·exact RF p log s e hP.ae hR.len ph zQ a3 a1 a8 K0 b1 b2 b3 b4 h1 h2 h3 h4
end
def Ul {p:Pl}{log:List En}{u:Un}{t:Ts}(hP:PB p)(hU:UB p log u)(ht:t∈p.aa)(hr:i6 u.res t=true)(hk:t.kind=2):ad0 log u t:=by
 obtain⟨n0,nd,hn,t0,ht0,GV,hk0⟩:=hP.comp t ht hk;obtain⟨r,hl⟩:=E6 hr hn;obtain⟨hm,hmt,_⟩:=Iq hl;obtain⟨k,h1,h2,h3,h4,⟨a,n,q,h5⟩,h6⟩:=hU.res r hm;have h7:=h6 t0 ht0 (by rw[GV,hmt]) hk0;obtain⟨rt,ra,re,rv⟩:=r;simp only at h1;subst h1
 rcases Uk h4 K9 with⟨g1,_⟩|⟨a',r',g1,g2,g3,g4,g5,g6⟩
 ·rw[h5]at g1;cases g1
 ·have Ch:=g5 rfl;subst Ch;refine⟨n0,nd,rt,ra,k,rv,(aJ 32 (log.getD k dk).text).getD 0 []::a',12,hn,hl,h2,?_,g2,by omega,h7⟩;rw[jP,g1];rfl
def RH {l:List aj}{x:aj}(h:l.Nodup)(hx:x∉l):(l++[x]).Nodup :=by
 rw[Lw];refine⟨h,by simp,λa ha b hb e=>?_⟩;have:b=x:=by simpa using hb
 subst this;subst e;exact hx ha
def BO {p:Pl}{log:List En}{s:bP}{e:En}(h:s.opens.Nodup)(hz:(mI EE p log s e).2=0):(mI EE p log s e).1.opens.Nodup :=by
 unfold mI at hz ⊢;split
 ·exact h
 split
 ·exact h
 split
 ·exact h
 split
 ·exact h
 split
 ·exact h
 split
 ·exact h
 split
 ·exact h
 split
 ·exact h
 ·rename_i a n r _;unfold bs;split
  ·exact h
  ·repeat' split
   all_goals exact h
  ·repeat' split
   all_goals exact h
  ·repeat' split
   all_goals first|exact h|exact RH h F3
  ·repeat' split
   all_goals first|exact h|exact h.erase _
  all_goals(repeat' split)
  all_goals exact h
def zM:ac 107 [] (.one (true,uk Go.Plain.iy)):=by
 refine sF f107 ?_;exact IV
def RI (p:Pl)(l:List En)(i:Nat)(s:bP):Prop:=i<=l.length/\lh p [] Go.Plain.iy l=lh p (l.take i) s (l.drop i)/\SB p (l.take i) s/\s.opens.Nodup
def RJ {p:Pl}{l:List En}(hs:ii p)(hP:PB p)(Pq: ∀q∈p.ae,0<=q.2)(hl:l.length<=60)(ht: ∀e∈l,e.text.length<=100000){y:bP × Nat × Int}(hy:lh p [] Go.Plain.iy l=y):
  ac 63 [(true,bE p),(false,[.view (l.map be)])] (.aI [(true,uk y.1),I y.2.1,I y.2.2]):=by
 have c1:=zM;have vV:(l.map be).length =l.length:=by simp
 have hu: ∀e∈l.map be,e.length=3:=λe he=>by
  obtain⟨x,_,rfl⟩:=dT.1 he;rfl
 refine sF f63 ?_;repeat' ((first|refine tX 0 ?_|exact Zt|refine bR ?_ ?_<;>intro h)<;>(try conv=>whnf))
 all_goals try(exfalso;omega)
 refine af (ι:=Nat × bP) (λz=>RI p l z.1 z.2) (λz=>l.length -z.1) (λz=>⟨[(1,some (.val (nU l))),(2,pP 0),(4,pP 2),(7,pP 4),(8,vI z.1)],[(0,some (.box 27 (dyn (true,bE p)).2)),(2,some (.box 58 [.st (K false),.st (K false),.nil,.st (T []),.nil,.nil])),(4,some (.box 58 (dyn (true,uk z.2)).2))],1000⟩) (0,Go.Plain.iy) Zc ⟨dD _,by rw[LO,xW],by rw[LO];exact Fa p,LN⟩ ?_;rintro⟨i,s⟩ ⟨hi,bH,Pt,AV⟩;dsimp only at hi bH Pt AV ⊢;by_cases ak:i<l.length
 ·have qc:=aV (f:=be) ak dk;have xp:l.take (i+1)=l.take i++[l.getD i dk]:=ajm;have htl:(l.take i).length =i:=by simp;omega
  have amx:l.getD i dk∈l:=by rw[jN,pj ak];exact qd _
  have amN:fh p (l.take i) s (l.getD i dk)=mI EE p (l.take i) s (l.getD i dk):=if_neg K0;have hRB:RB p (l.take i) s:=⟨hs,by omega,by have:=Pt.opens;omega,AV,λu hu t Lg hk hr=>Ul hP (Pt.unit u hu) Lg hr hk⟩;have c2:=BN (e:=l.getD i dk) hP Pt hRB Pq (ht _ amx);rw[LR]at c2;rw[Iw ak,amN]at bH;have aeo:=λs' h=>(E9 (s':=s') hP Pt (l.getD i dk) (amN.trans h)).1;have Xu:=BO (p:=p) (log:=l.take i) (e:=l.getD i dk) AV;generalize hz:mI EE p (l.take i) s (l.getD i dk)=z at*;obtain⟨s',e'⟩:=z;dsimp only at bH Xu;by_cases he:e'=0
  ·subst he;rw[if_pos rfl]at bH;have c3:ac 65 [(true,bE p),(false,[.view (List.take i (l.map be))]),(true,uk s),(true,be (l.getD i dk))] (.aI [(true,uk s'),I 0]):=c2;generalize l.getD i dk=en at*
   (try(refine tX 0 ?_;try exact Zt))
   refine BZ hu rfl rfl rfl rfl rfl rfl K0 ?_;repeat' ((first|refine tX 0 ?_|exact Zt|refine bR ?_ ?_<;>intro h)<;>(try conv=>whnf))
   all_goals first|exact Ze|exact⟨(i+1,s'),⟨ak,bH,by rw[xp];exact aeo s' rfl,Xu rfl⟩,by dsimp only;omega,Zc⟩
  ·rw[if_neg he]at bH
   have c3:ac 65 [(true,bE p),(false,[.view (List.take i (l.map be))]),(true,uk s),(true,be (l.getD i dk))] (.aI [(true,RD),I e']):=by
    have:nxR (s',e')= .aI [(true,RD),I e']:=by show lO.aI _=_;rw[if_neg he]
    rw[this]at c2;exact c2
   generalize l.getD i dk=en at*;rw[bH]at hy;subst hy
   (try(refine tX 0 ?_;try exact Zt))
   refine BZ hu rfl rfl rfl rfl rfl rfl K0 ?_;exact tB0
 ·obtain rfl:i=l.length:=by omega
  have hy':y=(s,0,0):=by rw[<- hy,bH,Lx];rfl
  subst hy';exact tB0
section
variable {p:Pl}{l:List En}
def OM (hl:60<l.length)(Xt:l.length<=1000):ac 63 [(true,bE p),(false,[.view (l.map be)])] (.aI [(true,uk Go.Plain.iy),I 0,I 8]):=by
 have c1:=zM;have vV:(l.map be).length =l.length:=by simp
 refine sF f63 ?_;exact tA
def wG (hs:ii p)(he:(p.err jL).2=0)(hP:PB p)(Pq: ∀q∈p.ae,0<=q.2)(hl:l.length<=1000)(ht: ∀e∈l,e.text.length<=100000):
  ac 63 [(true,bE p),(false,[.view (l.map be)])] (.aI [(true,uk (cM p l).1),I (cM p l).2.1,I (cM p l).2.2]):=by
 unfold cM;rw[if_neg (FZ he)];by_cases h:60<l.length
 ·rw[if_pos h];exact OM h hl
 ·rw[if_neg h];exact RJ hs hP Pq K0 ht rfl
def sG (hs:ii p)(he:(p.err jL).2=0)(hP:PB p)(Pq: ∀q∈p.ae,0<=q.2)(hl:l.length<=1000)(ht: ∀e∈l,e.text.length<=100000):
  ac 23 [(true,bE p),(false,[.view (l.map be)])] (.aI [I (cM p l).2.1,I (cM p l).2.2]):=by
 have c1:=wG hs he hP Pq hl ht;generalize cM p l=y at*;refine sF f23 ?_;exact afL
def KJ (hs:ii p)(he:(p.err jL).2=0)(hP:PB p)(Pq: ∀q∈p.ae,0<=q.2)(hl:l.length<=1000)(ht: ∀e∈l,e.text.length<=100000):
  ac 64 [(true,bE p),(false,[.view (l.map be)])] (.one (true,uk (cM p l).1)):=by
 have c1:=wG hs he hP Pq hl ht;generalize cM p l=y at*;refine sF f64 ?_;exact afL
end
def pK (l:List En)(hl:l.length<=1000):ac 15 [(false,[.view (l.map be)])] (.own 3 (.view (l.map be))):=by
 have vV:(l.map be).length =l.length:=by simp
 refine sF f15 ?_;repeat' ((first|refine tX 0 ?_|exact Zt|refine bR ?_ ?_<;>intro h)<;>(try conv=>whnf))
 all_goals first|rfl
def ahh (x:ByteArray):(x==x)=true:=by
 cases x with
 |mk a=>exact beq_self_eq_true a
abbrev RL (p:Pl):Option cD:=some (.box 27 ((bE p).map .st))
def ON {p:Pl}{id:Nat}{b:cD}{hp:Hp}(h2:hp.get 2=RL p)(e:Hp.get [(2,RL p)] id=some b):hp.get id=some b/\b.dJ λk=>k∈ah [(2,RL p)]:=by
 obtain⟨rfl,rfl⟩:=gD e;exact⟨h2,λd hd=>by obtain⟨c,_,rfl⟩:=dT.1 hd;trivial⟩
def abl {aen nx n':Nat}{p:Pl}{l l2:List En}{s s2:bP}{x:Option cD}{E E':dG}{ks:List Nat}(hl:s.units.length<=1000)(Xt:s2.units.length<=1000)(eU:tag aen≠0)(h0:Nat.blt 0 n'=true)(hE:dm (nL (ah (form p l s)) λk=>k) E.get ks=some E'):
  bp ⟨E,cB [] (cP (aq (tag aen) 0) (form p l2 s2))++((2,x)::form p l s),nx⟩ ⟨E',form p l s,n'⟩:=by
 have hT:=ci p l hl;have hT2:=zG (p:=p) (l:=l2) Xt;obtain⟨a,b,c⟩:=qN hT;refine rY ⟨a,b,λn b' e=>?_⟩ (λq hq=>?_) hE
 ·obtain⟨o,b2,q1,q2,q3⟩:=c n b' e;refine⟨o,b2,q1,?_,q3⟩;have ho:=(gg.1 q1).1;have ht:=(hT.lt o ho).2;rw[Hp.get_append,na,if_neg,Hp.jO (λe=>by subst e;exact absurd ht K9)]
  ·exact q2
  ·intro hm;have hm:o∈ah (cP (aq (tag aen) 0) (form p l2 s2)):=by simpa [cB]using hm
   rw[di,dT]at hm;obtain⟨k,hk,rfl⟩:=hm;exact eU ((hT2.tag (n:=tag aen) hk).symm.trans ht)
 ·exact aiD
def Um {nx n':Nat}{p:Pl}{l:List En}{s:bP}{Hh:Hp}{E E':dG}{ks:List Nat}(hl:s.units.length<=1000)(hO:qM Hh (form p l s))(h0:Nat.blt 0 n'=true)(hE:dm (nL (ah (form p l s)) λk=>k) E.get ks=some E'):bp ⟨E,Hh,nx⟩ ⟨E',form p l s,n'⟩:=by
 have hT:=ci p l hl;obtain⟨a,b,c⟩:=qN hT;refine rY ⟨a,b,λn b' e=>?_⟩ (λq hq=>?_) hE
 ·obtain⟨o,b2,q1,q2,q3⟩:=c n b' e;exact⟨o,b2,q1,(hO.get hT o (gg.1 q1).1).symm.trans q2,q3⟩
 ·exact aiD
def Eo {p:Prop}(h:p:=by repeat first|refine qM.step rfl ?_|exact qM.base _):p:=h
def ad5 {E E':dG}{Hh:Hp}{nx n' q:Nat}{c:SC}{p:Pl}{log:List En}{s:bP}{ks:List Nat}(hl:s.units.length<=1000)(hq:Nat.blt 0 (tag q)=true)(hg:Hh.get q=some (.row true 1 c))(hO:qM Hh (form p log s))(h0:Nat.blt 1 n'=true)
  (hE:dm ((q,2)::nL (ah (form p log s)) λk=>k) E.get ks=some E'):bp ⟨E,Hh,nx⟩ ⟨E',(2,some (.row true 1 c))::form p log s,n'⟩:=by
 have hT:=ci p log hl;obtain⟨a,b,_⟩:=qN hT;rw[vZ]at hq h0;have dp: ∀k,0<tag k->k∉ah (form p log s):=λk hk hm=>by have:=(hT.lt k hm).2;omega
 have hm1:(nL (ah (form p log s)) λk=>k).map Prod.fst=ah (form p log s):=by simp[nL]
 have hm2:(nL (ah (form p log s)) λk=>k).map Prod.snd=ah (form p log s):=by simp[nL]
 have hid: ∀k∈ah (form p log s),bO ((q,2)::nL (ah (form p log s)) λk=>k) k=some k:=λk hk=>by
  show(match Nat.beq k q with|true=>some 2|false=>bO (nL (ah (form p log s)) λk=>k) k)=some k;have hkq:k≠q:=λe=>dp q hq (e▸hk);rw[show Nat.beq k q=false from Bool.eq_false_iff.2 λe=>hkq (pb e)];exact qq (ρ:=λk=>k) hk
 refine rY ⟨?_,?_,λn b' e=>?_⟩ (λr hr=>?_) hE
 ·rw[jd,hm1];exact xQ.2 ⟨dp q hq,hT.nd⟩
 ·rw[jd,hm2];exact xQ.2 ⟨dp 2 K9,hT.nd⟩
 ·rw[Hp.av]at e;by_cases hn:n=2
  ·subst hn;rw[an]at e;cases e;exact⟨q,_,jx,hg,rfl⟩
  ·rw[aG _ _ _ hn]at e;have hk:=Hp.dK e;refine⟨n,b',ji _ (gg.2 ⟨hk,rfl⟩),((hO.get hT n hk).symm.trans e),?_⟩;have:=mG (m:=(q,2)::nL (ah (form p log s)) λk=>k) (ρ:=λk=>k) (ok:=(· ∈ah (form p log s))) hid (hT.dJ n b' e);rwa [cD.GZ]at this
 ·rcases dl.1 hr with rfl|hr
  ·show Fw.tag 2<n';rw[show Fw.tag 2=1 by decide];exact h0
  ·obtain⟨o,n⟩:=r;obtain⟨h1,h2⟩:=gg.1 hr;show tag n<n';have h2:n=o:=h2;rw[h2,(hT.lt o h1).2];omega
def Fz {E E':dG}{H0:Hp}{nx n' q:Nat}{c:SC}{p:Pl}{log:List En}{s:bP}{ks:List Nat}(hl:s.units.length<=1000)(hq:Nat.blt 0 (tag q)=true)(hO:qM ((q,some (.row true 1 c))::H0) (form p log s))(h0:Nat.blt 1 n'=true)
  (hE:dm ((q,2)::nL (ah (form p log s)) λk=>k) E.get ks=some E'):bp ⟨E,(q,some (.row true 1 c))::H0,nx⟩ ⟨E',(2,some (.row true 1 c))::form p log s,n'⟩:=
 ad5 hl hq LW hO h0 hE
def OO {fid nx n' b:Nat}{T T' H:Hp}{E E':dG}{ks:List Nat}{c:SC}(hT:HJ T 1)(eJ:HJ T' 1)(hf:tag fid≠0)(hb:tag b≠0)(hbf:tag b≠tag fid)(hbn:tag b<n')(hH:H.get b=some (.row true 1 c))
  (hE:dm (gh (aq (tag fid) 1) T' [(b,some (.row true 1 c))]) E.get ks=some E'):
  bp ⟨E,cB T (cP (aq (tag fid) 1) T')++H,nx⟩ ⟨E',(b,some (.row true 1 c))::T',n'⟩:=by
 have h1:b∉ah T:=λh=>hb (hT.lt b h).2;have h2:b∉ah T':=λh=>hb (eJ.lt b h).2;refine(yJ (R:=[(b,some (.row true 1 c))]) (n':=n') hT eJ hf (by simp) (λk hk=>?_) (λid bl e=>?_) K0 hE).trans (zf ?_)
 ·exact ajF
 ·exact akc
 ·have:=oT (A:=T') (F':=[(b,some (.row true 1 c))]) (B:=[]) (λn hn hm=>by
   have:n=b:=by simpa using hn
   subst this
   exact h2 hm)
  simpa using this
section
variable {p:Pl}{a b:List En}(hs:ii p)(hP:(p.err jL).2=0->PB p)(ha:a.length<=1000)(Po: ∀e∈a,e.text.length<=100000)(hb:b.length<=1000)(R7: ∀e∈b,e.text.length<=100000)
include hs hP ha Po hb R7
theorem RM (za:(cM p a).2.2≠0):ac 22 [(true,bE p),(false,[.view (a.map be)]),(false,[.view (b.map be)])] (.aI [(false,[.view []]),(false,[.ints []]),I (cM p a).2.2]):=by
 have c2:=KL hs hP ha Po za;have c5:=λb=>HS (b:=b) za;by_cases zb:(cM p b).2.2=0
 ·obtain⟨rb,_,_,_⟩:=nn zb;have c3:=qQ hs hP hb R7 rb;obtain⟨_,hub⟩:=kD hP rb;generalize cM p a=y at*;obtain⟨s,i,z⟩:=y;dsimp only at za c2 c5 ⊢;refine sW (fn:=f22) ?_;refine aS ?_;(refine aR ?_;conv=>whnf);(try(refine tX 2 ?_;try exact Zt));refine aS ?_;(refine aR ?_;conv=>whnf);repeat((first|(refine kO 7 rfl ?_;first|refine Rw (c2 _ _) ?_)|refine tX 2 ?_|exact Zt);(try conv=>whnf))
  refine aM ?_;(refine aR ?_;conv=>whnf);repeat((first|(refine kO 7 rfl ?_;first|refine Rw (c3 _ _) ?_)|refine tX 2 ?_|exact Zt);(try conv=>whnf))
  refine⟨_,vA (R:=[]) (E':=[(11,vI z),(14,vI 0)]) (ks:=[11,14]) (n':=1000) hub rfl rfl (λid b e=>by simp[Hp.get]at e) rfl cT,?_⟩;repeat' ((first|(refine kO 7 rfl ?_;first|refine Rq (c5 _) ?_)|refine tX 0 ?_|exact Zt|refine bR ?_ ?_<;>intro h)<;>(try conv=>whnf))
  all_goals first|exact Ze|exact⟨[(false,[.view []]),(false,[.ints []]),I z],[],bd ⟨rfl,rfl,al (.nil false) gv⟩ (bd ⟨rfl,rfl,al (.nil true) gv⟩ (bd (ig _) gz)),rfl,rfl⟩
 ·have c3:=KL hs hP hb R7 zb;generalize cM p a=y at*;obtain⟨s,i,z⟩:=y;generalize cM p b=y2 at*;obtain⟨s2,i2,z2⟩:=y2;dsimp only at za c2 c3 c5 zb ⊢;refine sW (fn:=f22) ?_;repeat' ((first|(refine kO 7 rfl ?_;first|refine Rh (c2 _ _) ?_|refine Rh (c3 _ _) ?_|refine Rq (c5 _) ?_)|refine tX 0 ?_|exact Zt|refine bR ?_ ?_<;>intro h)<;>(try conv=>whnf))
  all_goals first|exact Ze|exact⟨[(false,[.view []]),(false,[.ints []]),I z],[],bd ⟨rfl,rfl,al (.nil false) gv⟩ (bd ⟨rfl,rfl,al (.nil true) gv⟩ (bd (ig _) gz)),rfl,rfl⟩
theorem OP (za:(cM p a).2.2=0)(zb:(cM p b).2.2≠0):ac 22 [(true,bE p),(false,[.view (a.map be)]),(false,[.view (b.map be)])] (.aI [(false,[.view []]),(false,[.ints []]),I (cM p b).2.2]):=by
 obtain⟨ra,_,_,_⟩:=nn za;have c2:=qQ hs hP ha Po ra;have c3:=KL hs hP hb R7 zb;obtain⟨_,hu⟩:=kD hP ra;generalize cM p b=y2 at*;obtain⟨s2,i2,z2⟩:=y2;dsimp only at zb c3 ⊢;refine sW (fn:=f22) ?_;refine aM ?_;(refine aR ?_;conv=>whnf);(try(refine tX 2 ?_;try exact Zt));refine⟨⟨[(1,some (.val (false,[.st (.view (a.map be))]))),(2,some (.val (false,[.st (.view (b.map be))]))),(3,pP 2)],[(2,RL p)],5⟩,Zc,?_⟩;refine aM ?_;(refine aR ?_;conv=>whnf);repeat((first|(refine kO 7 rfl ?_;first|refine Rw (c2 _ _) ?_)|refine tX 2 ?_|exact Zt);(try conv=>whnf))
 refine⟨_,vA (R:=[(2,RL p)]) (E':=[(2,some (.val (false,[.st (.view (b.map be))]))),(3,pP 2),(11,vI 0)]) (ks:=[2,3,11]) (n':=1000) hu rfl cT (λid b e=>ON rfl e) rfl cT,?_⟩;repeat' ((first|(refine kO 7 rfl ?_;first|refine Rh (c3 _ _) ?_)|refine tX 0 ?_|exact Zt|refine bR ?_ ?_<;>intro h)<;>(try conv=>whnf))
 all_goals first|exact Ze|exact⟨[(false,[.view []]),(false,[.ints []]),I z2],[],bd ⟨rfl,rfl,al (.nil false) gv⟩ (bd ⟨rfl,rfl,al (.nil true) gv⟩ (bd (ig _) gz)),rfl,rfl⟩
theorem AT (za:(cM p a).2.2=0)(zb:(cM p b).2.2=0):ac 22 [(true,bE p),(false,[.view (a.map be)]),(false,[.view (b.map be)])] (.aI [(false,[.view ((mg p a b).1.map be)]),(false,[.ints (mg p a b).2]),I 0]):=by
 obtain⟨ra,he,_,_⟩:=nn za;obtain⟨rb,_,_,_⟩:=nn zb;have c2:=qQ hs hP ha Po ra;have c3:=qQ hs hP hb R7 rb;obtain⟨hS,hu⟩:=kD hP ra;obtain⟨_,hub⟩:=kD hP rb;have hPB:=hP he;have hna:(a.map be).length =a.length:=by simp
 have hnb:(b.map be).length =b.length:=by simp
 have hmg:mg p a b=Re p a (AK p a) [] (b.drop (Kt a b)) (Kt a b):=rfl;refine sW (fn:=f22) ?_;refine aM ?_;(refine aR ?_;conv=>whnf);(try(refine tX 2 ?_;try exact Zt));refine⟨⟨[(1,some (.val (false,[.st (.view (a.map be))]))),(2,some (.val (false,[.st (.view (b.map be))]))),(3,pP 2)],[(2,RL p)],5⟩,Zc,?_⟩;refine aM ?_;(refine aR ?_;conv=>whnf);repeat((first|(refine kO 7 rfl ?_;first|refine Rw (c2 _ _) ?_)|refine tX 2 ?_|exact Zt);(try conv=>whnf))
 refine⟨_,vA (R:=[(2,RL p)]) (E':=[(1,some (.val (false,[.st (.view (a.map be))]))),(2,some (.val (false,[.st (.view (b.map be))]))),(3,pP 2),(9,pP 1),(11,vI 0)]) (ks:=[1,2,3,9,11]) (n':=1000) hu rfl cT (λid b e=>ON rfl e) rfl cT,?_⟩;refine aM ?_;(refine aR ?_;conv=>whnf);repeat((first|(refine kO 7 rfl ?_;first|refine Rw (c3 _ _) ?_)|refine tX 2 ?_|exact Zt);(try conv=>whnf))
 refine⟨_,abl (E':=[(1,some (.val (false,[.st (.view (a.map be))]))),(2,some (.val (false,[.st (.view (b.map be))]))),(9,pP 1),(11,vI 0),(14,vI 0)]) (ks:=[1,2,9,11,14]) (n':=1000) hu hub (eV rfl) rfl cT,?_⟩;repeat' ((first|refine tX 0 ?_|exact Zt|refine bR ?_ ?_<;>intro h)<;>(try conv=>whnf))
 all_goals try(exfalso;omega)
 refine af (ι:=Nat) (λi=>i<=a.length/\i<=b.length/\∀j<i,a.getD j dk=b.getD j dk) (λi=>a.length -i) (λi=>⟨[(1,some (.val (false,[.st (.view (a.map be))]))),(2,some (.val (false,[.st (.view (b.map be))]))),(9,pP 1),(15,vI i)],form p a (AK p a),1000⟩) 0 (Um (ks:=[1,2,9,15]) hu Eo rfl cT) ⟨dD _,dD _,λj hj=>by omega⟩ ?_;rintro i ⟨i1,i2,i3⟩;by_cases hx:i<a.length/\i<b.length/\a.getD i dk=b.getD i dk
 ·obtain⟨x1,x2,x3⟩:=hx;have qc:=aV (f:=be) x1 dk;have hbt:=aV (f:=be) x2 dk;have it: ∀j<i+1,a.getD j dk=b.getD j dk:=λj hj=>by exact ajB
  rw[<- x3]at hbt;generalize a.getD i dk=e at qc hbt;obtain⟨et,ew,tx⟩:=e;repeat' ((first|refine tX 0 ?_|exact Zt|refine bR ?_ ?_<;>intro h)<;>(try conv=>whnf))
  all_goals first|exact Zo|exact⟨i+1,⟨x1,x2,it⟩,by omega,Um (ks:=[1,2,9,15]) hu Eo rfl cT⟩|(exfalso;simp_all[ahh];done)|(exfalso;dsimp only at h;split at h<;>omega)
 have hc:Kt a b=i:=On i1 i2 i3 (by
  by_cases q1:i=a.length
  ·exact .inl q1
  ·by_cases q2:i=b.length
   ·exact .inr (.inl q2)
   ·exact .inr (.inr λe=>hx ⟨by omega,by omega,e⟩))
 by_cases hy:i<a.length/\i<b.length;have eU:a.getD i dk≠b.getD i dk:=λe=>hx ⟨hy.1,hy.2,e⟩;have qc:=aV (f:=be) hy.1 dk;have hbt:=aV (f:=be) hy.2 dk;generalize a.getD i dk=e at qc eU;generalize b.getD i dk=g at hbt eU;obtain⟨et,ew,tx⟩:=e;obtain⟨gt,gw,gx⟩:=g;have eU: ¬(et=gt/\ew=gw/\tx=gx):=λh=>eU akd;repeat' ((first|refine tX 0 ?_|exact Zt|refine bR ?_ ?_<;>intro h)<;>(try conv=>whnf))
 all_goals try first|exact Zo|(exfalso;exact eU ⟨h.1,CA h.2.1,CA h.2.2⟩)|(exfalso;dsimp only at h;split at h<;>omega)
 rotate_left;repeat' ((first|refine tX 0 ?_|exact Zt|refine bR ?_ ?_<;>intro h)<;>(try conv=>whnf))
 all_goals try first|exact Zo|(exfalso;dsimp only at h;split at h<;>omega)
 all_goals
  obtain⟨X,hX⟩: ∃X,mg p a b=X:=⟨_,rfl⟩;rw[hX]
  refine af (ι:=Nat × List En × bP × List Int) (λq=>q.1<=b.length/\SB p q.2.1 q.2.2.1/\Re p q.2.1 q.2.2.1 q.2.2.2 (b.drop q.1) q.1=X/\q.2.2.2.length<=q.1) (λq=>b.length -q.1) (λq=>⟨[(2,some (.val (false,[.st (.view (b.map be))]))),(9,pP 1),(16,pO 2),(17,vI q.1)],(2,some (.row true 1 (.ints q.2.2.2)))::form p q.2.1 q.2.2.1,1000⟩) (i,a,AK p a,[])
   (bp.trans (iG 16 1 (.ints []) K9 rfl rfl rfl) (Fz (ks:=[2,9,16,17]) hu rfl Eo rfl cT)) ⟨i2,hS,by rw[<- hX,hmg,hc],dD _⟩ ?_
  rintro⟨k,log,s,out⟩ ⟨k1,k2,k3,k4⟩;dsimp only at k1 k2 k3 k4 ⊢;have hus:s.units.length<=1000:=by have:=k2.units;omega
  by_cases ak:k<b.length
  ·have KS:=aV (f:=be) ak dk;have dw:=Ku (p:=p) (log:=log) (s:=s) (out:=out) ak;rw[k3]at dw;have hem:b.getD k dk∈b:=by exact afJ
   have GR:=E8 p log s hPB k2 (b.getD k dk) (R7 _ hem);have Pt:=λs' h=>(E9 (s':=s') hPB k2 (b.getD k dk) h).1;have jt:=Om (p:=p) (log:=log) (s:=s) (e:=b.getD k dk);have hau:(fh p log s (b.getD k dk)).1.units.length <=1000:=Fc k2 _;unfold WH at GR;have hT:=ci p log hus;generalize b.getD k dk=e at KS dw GR Pt jt hau;generalize fh p log s e=y at*;obtain⟨s',z⟩:=y;obtain⟨et,ew,tx⟩:=e;dsimp only at dw GR jt hau;by_cases hz:z=0
   ·subst hz;rw[if_pos rfl]at GR dw;have eJ:=ci p (log++[⟨et,ew,tx⟩]) hau;have ce:=λfid H hO hf=>oq (fid:=fid) (H:=H) GR hus hau hf hO;clear GR;refine aS ?_;refine aS ?_;(refine aR ?_;conv=>whnf);(try(refine tX 2 ?_;try exact Zt))
    (try refine tB 0 ?_)
    refine aS ?_;refine aB ?_;refine aM ?_;(refine aR ?_;conv=>whnf);repeat((first|(refine kO 7 rfl ?_;first|refine qU (λ_ z=>⟨_,_,_,(ce _ _ Eo (eV rfl)),z⟩) ?_)|refine tX 2 ?_|exact Zt);(try conv=>whnf))
    refine⟨_,OO (b:=2) (E':=[(2,some (.val (false,[.st (.view (b.map be))]))),(9,pP 1),(16,pO 2),(17,vI k),(72,some (lit (.bool (0 != 0))))]) (ks:=[2,9,16,17,72]) (n':=1000) hT eJ (eV rfl) K9 (eV rfl) K9 rfl cT,?_⟩;repeat' ((first|refine tX 0 ?_|exact Zt|refine bR ?_ ?_<;>intro h)<;>(try conv=>whnf))
    all_goals first|exact Zo|exact⟨(k+1,log++[⟨et,ew,tx⟩],s',out),⟨ak,Pt s' rfl,dw.symm,by dsimp only;omega⟩,by dsimp only;omega,Fz (ks:=[2,9,16,17]) hau rfl Eo rfl cT⟩
   ·obtain rfl:=jt hz;rw[if_neg hz]at GR dw;have eJ:=ci p log hau;have ce:=λfid H hO hf=>oq (fid:=fid) (H:=H) GR hus hau hf hO;clear GR;refine aS ?_;refine aS ?_;(refine aR ?_;conv=>whnf);(try(refine tX 2 ?_;try exact Zt))
    (try refine tB 0 ?_)
    refine aS ?_;refine aB ?_;refine aM ?_;(refine aR ?_;conv=>whnf);repeat((first|(refine kO 7 rfl ?_;first|refine qU (λ_ z=>⟨_,_,_,(ce _ _ Eo (eV rfl)),z⟩) ?_)|refine tX 2 ?_|exact Zt);(try conv=>whnf))
    refine⟨_,OO (b:=2) (E':=[(2,some (.val (false,[.st (.view (b.map be))]))),(9,pP 1),(16,pO 2),(17,vI k),(72,some (lit (.bool (z != 0))))]) (ks:=[2,9,16,17,72]) (n':=1000) hT eJ (eV rfl) K9 (eV rfl) K9 rfl cT,?_⟩;repeat' ((first|refine tX 0 ?_|exact Zt|refine bR ?_ ?_<;>intro h)<;>(try conv=>whnf))
    all_goals first|exact Zo|exact⟨(k+1,log,s',out++[(k:Int)]),⟨ak,k2,dw.symm,by simp;omega⟩,by dsimp only;omega,Fz (ks:=[2,9,16,17]) hus rfl Eo rfl cT⟩
  ·obtain rfl:k=b.length:=by omega
   rw[Lx]at k3;have k3:(log,out)=X:=k3;subst k3;repeat' ((first|refine tX 0 ?_|exact Zt|refine bR ?_ ?_<;>intro h)<;>(try conv=>whnf))
   all_goals first|exact Zo|exact⟨[(false,[.view (log.map be)]),(false,[.ints out]),I 0],[3,2],bd ⟨rfl,rfl,al (.row (by simp) rfl) gv⟩ (bd ⟨rfl,rfl,al (.row (by simp) rfl) gv⟩ (bd (ig _) gz)),rfl,rfl⟩
end
def FA {p:Pl}{log:List En}{s:bP}{e:En}(h:s.opens.Nodup)(hz:(fh p log s e).2=0):(fh p log s e).1.opens.Nodup :=by
 unfold fh at hz ⊢;split
 ·exact h
 ·rename_i h1;rw[if_neg h1]at hz;exact BO h hz
def FB {p:Pl}: ∀ {r log:List En} {s:bP},s.opens.Nodup->(lh p log s r).2.2=0->(lh p log s r).1.opens.Nodup
 | [],_,_,h,_=>h
 |e::r,log,s,h,hz=>by
  unfold lh at hz ⊢;by_cases h1:(fh p log s e).2=0
  ·rw[if_pos h1]at hz ⊢;exact FB (FA h h1) hz
  ·rw[if_neg h1]at hz;exact absurd hz h1
def W8 {p:Pl}{l:List En}(hz:(cM p l).2.2=0):(AK p l).opens.Nodup :=by
 obtain⟨_,_,_,h⟩:=nn hz;unfold AK;rw[<- h]at hz ⊢;exact FB LN hz
def frz (k:Nat){E:dG}{Hh:Hp}{nx id z:Nat}{m:Bool}{c:SC}{S':St}(hE:E.get k=some (Fw.bm (.own id)))(hb:Hh.get id=some (.row m z c))(h:bp ⟨E,(id,some (.row false z c))::Hh,nx⟩ S'):bp ⟨E,Hh,nx⟩ S':=(cL id hb).trans h
section
variable {p:Pl}{a b:List En}(hs:ii p)(he:(p.err jL).2=0)(hP:PB p)(Pq: ∀q∈p.ae,0<=q.2)(ha:a.length<=1000)(Po: ∀e∈a,e.text.length<=100000)(hb:b.length<=1000)(R7: ∀e∈b,e.text.length<=100000)
include hs he hP Pq ha Po hb R7
theorem KM (za:(cM p a).2.2=0):ac 24 [(true,bE p),(false,[.view (a.map be)]),(false,[.view (b.map be)])] (.aI [(false,[.view ((mg p a b).1.map be)]),(false,[.ints (mg p a b).2])]):=by
 have c1:=pK a ha;have c2:=KJ hs he hP Pq ha Po;obtain⟨ra,_,CG,_⟩:=nn za;have hna:(a.map be).length =a.length:=by simp
 have hnb:(b.map be).length =b.length:=by simp
 have AV:=W8 za;have hmg:mg p a b=Re p a (AK p a) [] (b.drop (Kt a b)) (Kt a b):=rfl;rw[show(cM p a).1=AK p a from rfl]at c2;have Pt:=(Ks (l:=a) (λ_=>hP) (by rw[ra])).1;rw[show(cM p a).1=AK p a from rfl]at Pt;generalize AK p a=sa at*;refine sW (fn:=f24) ?_;repeat' ((first|refine tX 0 ?_|exact Zt|refine bR ?_ ?_<;>intro h)<;>(try conv=>whnf))
 all_goals try(exfalso;omega)
 refine af (ι:=Nat) (λi=>i<=a.length/\i<=b.length/\∀j<i,a.getD j dk=b.getD j dk) (λi=>a.length -i) (λi=>⟨[(1,some (.val (false,[.st (.view (a.map be))]))),(2,some (.val (false,[.st (.view (b.map be))]))),(3,pP 0),(8,pO 2),(9,some (Fw.bm .nil)),(10,vI i)],[(0,some (.box 27 ((bE p).map .st))),(2,some (.row true 3 (.view (a.map be))))],1000⟩) 0 Zc ⟨dD _,dD _,λj hj=>by omega⟩ ?_;rintro i ⟨i1,i2,i3⟩;by_cases hx:i<a.length/\i<b.length/\a.getD i dk=b.getD i dk
 ·obtain⟨x1,x2,x3⟩:=hx;have qc:=aV (f:=be) x1 dk;have hbt:=aV (f:=be) x2 dk;have it: ∀j<i+1,a.getD j dk=b.getD j dk:=λj hj=>by exact ajB
  rw[<- x3]at hbt;generalize a.getD i dk=e at qc hbt;obtain⟨et,ew,tx⟩:=e;repeat' ((first|refine tX 0 ?_|exact Zt|refine bR ?_ ?_<;>intro h)<;>(try conv=>whnf))
  all_goals first|exact Zo|exact⟨i+1,⟨x1,x2,it⟩,by omega,Zc⟩|(exfalso;simp_all[ahh];done)
 have hc:Kt a b=i:=On i1 i2 i3 (by
  by_cases q1:i=a.length
  ·exact .inl q1
  ·by_cases q2:i=b.length
   ·exact .inr (.inl q2)
   ·exact .inr (.inr λe=>hx ⟨by omega,by omega,e⟩))
 by_cases hy:i<a.length/\i<b.length;have eU:a.getD i dk≠b.getD i dk:=λe=>hx ⟨hy.1,hy.2,e⟩;have qc:=aV (f:=be) hy.1 dk;have hbt:=aV (f:=be) hy.2 dk;generalize a.getD i dk=e at qc eU;generalize b.getD i dk=g at hbt eU;obtain⟨et,ew,tx⟩:=e;obtain⟨gt,gw,gx⟩:=g;have eU: ¬(et=gt/\ew=gw/\tx=gx):=λh=>eU akd;repeat' ((first|refine tX 0 ?_|exact Zt|refine bR ?_ ?_<;>intro h)<;>(try conv=>whnf))
 all_goals try first|exact Zo|(exfalso;exact eU ⟨h.1,CA h.2.1,CA h.2.2⟩)
 rotate_left;repeat' ((first|refine tX 0 ?_|exact Zt|refine bR ?_ ?_<;>intro h)<;>(try conv=>whnf))
 all_goals try(exfalso;omega)
 all_goals
  obtain⟨X,hX⟩: ∃X,mg p a b=X:=⟨_,rfl⟩;rw[hX]
  refine af (ι:=Nat × List En × bP × List Int) (λq=>q.1<=b.length/\SB p q.2.1 q.2.2.1/\Re p q.2.1 q.2.2.1 q.2.2.2 (b.drop q.1) q.1=X/\q.2.2.2.length<=q.1/\q.2.2.1.opens.Nodup/\q.2.1.length<=60) (λq=>b.length -q.1) (λq=>⟨[(2,some (.val (false,[.st (.view (b.map be))]))),(3,pP 0),(8,pO 2),(9,pO 4),(10,vI q.1),(11,pP 6)],[(0,some (.box 27 ((bE p).map .st))),(2,some (.row false 3 (.view (q.2.1.map be)))),(4,some (.row true 1 (.ints q.2.2.2))),(6,some (.box 58 ((uk q.2.2.1).map .st)))],1000⟩) (i,a,sa,[])
   ((iG 9 1 (.ints []) K9 rfl rfl rfl).trans ((cL 2 rfl).trans Zc)) ⟨i2,Pt,by rw[<- hX,hmg,hc],dD _,AV,CG⟩ ?_
  rintro⟨k,log,s,out⟩ ⟨k1,k2,k3,k4,k5,k6⟩;dsimp only at k1 k2 k3 k4 k5 k6 ⊢;have hlg:(log.map be).length =log.length:=by simp
  by_cases ak:k<b.length
  ·have KS:=aV (f:=be) ak dk;have dw:=Ku (p:=p) (log:=log) (s:=s) (out:=out) ak;rw[k3]at dw;have hem:b.getD k dk∈b:=by exact afJ
   have hR:RB p log s:=⟨hs,by omega,by have:=k2.opens;omega,k5,λu hu t Lg hk hr=>Ul hP (k2.unit u hu) Lg hr hk⟩;have c3:=BN (e:=b.getD k dk) hP k2 hR Pq (R7 _ hem);have aeo:=λs' h=>(E9 (s':=s') hP k2 (b.getD k dk) h).1;have Xu:=FA (p:=p) (log:=log) (s:=s) (e:=b.getD k dk) k5;have jt:=Om (p:=p) (log:=log) (s:=s) (e:=b.getD k dk);by_cases h6:60<=log.length
   ·have GR:fh p log s (b.getD k dk)=(s,8):=if_pos h6;rw[GR,if_neg (show ¬(8:Int)=0 by decide)]at dw;generalize b.getD k dk=e at KS c3;generalize mI EE p log s e=y at*;obtain⟨s',z⟩:=y;obtain⟨et,ew,tx⟩:=e;by_cases hz:z=0
    ·subst hz;have c3:ac 65 [(true,bE p),(false,[.view (log.map be)]),(true,uk s),(true,be ⟨et,ew,tx⟩)] (.aI [(true,uk s'),I 0]):=c3;exact K95
    ·have c3:ac 65 [(true,bE p),(false,[.view (log.map be)]),(true,uk s),(true,be ⟨et,ew,tx⟩)] (.aI [(true,RD),I z]):=by
      exact ai2
     exact K95
   ·have GR:fh p log s (b.getD k dk)=mI EE p log s (b.getD k dk):=if_neg h6;rw[GR]at dw Xu jt;simp only[GR]at aeo;generalize b.getD k dk=e at*;generalize mI EE p log s e=y at*;obtain⟨s',z⟩:=y;obtain⟨et,ew,tx⟩:=e;dsimp only at dw Xu jt;by_cases hz:z=0
    ·subst hz;rw[if_pos rfl]at dw;have c3:ac 65 [(true,bE p),(false,[.view (log.map be)]),(true,uk s),(true,be ⟨et,ew,tx⟩)] (.aI [(true,uk s'),I 0]):=c3;repeat' ((first|refine tX 0 ?_|exact Zt|refine bR ?_ ?_<;>intro h)<;>(try conv=>whnf))
     all_goals first|exact Ze|exact⟨(k+1,log++[⟨et,ew,tx⟩],s',out),⟨ak,aeo s' rfl,dw.symm,by dsimp only;omega,Xu rfl,by dsimp only;rw[sO,Lz];omega⟩,by dsimp only;omega,frz 8 rfl rfl (ai akn)⟩
    ·obtain rfl:=jt hz;rw[if_neg hz]at dw;have c3:ac 65 [(true,bE p),(false,[.view (log.map be)]),(true,uk s'),(true,be ⟨et,ew,tx⟩)] (.aI [(true,RD),I z]):=ai2;repeat' ((first|refine tX 0 ?_|exact Zt|refine bR ?_ ?_<;>intro h)<;>(try conv=>whnf))
     all_goals first|exact Ze|exact⟨(k+1,log,s',out++[(k:Int)]),⟨ak,k2,dw.symm,by simp;omega,k5,k6⟩,by dsimp only;omega,Zc⟩
  ·obtain rfl:k=b.length:=by omega
   rw[Lx]at k3;have k3:(log,out)=X:=k3;subst k3;repeat' ((first|refine tX 0 ?_|exact Zt|refine bR ?_ ?_<;>intro h)<;>(try conv=>whnf))
   all_goals first|exact Zo|exact⟨[(false,[.view (log.map be)]),(false,[.ints out])],[2,4],bd ⟨rfl,rfl,al (.row (by simp) rfl) gv⟩ (bd ⟨rfl,rfl,al (.row (by simp) rfl) gv⟩ gz),rfl,rfl⟩
end
def OQ (l:List En)(hl:l.length<=1000):ac 25 [(false,[.view (l.map be)]),(false,[.view (l.map be)])] (.one (Bo true)):=by
 have n1:(l.map be).length =l.length:=by simp
 refine sF f25 ?_;repeat' ((first|refine tX 0 ?_|exact Zt|refine bR ?_ ?_<;>intro h)<;>(try conv=>whnf))
 all_goals try exact Ze
 refine af (ι:=Nat) (λi=>i<=l.length) (λi=>l.length -i) (λi=>⟨[(0,some (.val (false,[.st (.view (l.map be))]))),(1,some (.val (false,[.st (.view (l.map be))]))),(5,vI i)],[],1000⟩) 0 Zc (dD _) ?_;intro i hi;by_cases ak:i<l.length
 ·have qc:=aV (f:=be) ak dk;generalize l.getD i dk=r at*;exact K63
 ·obtain rfl:i=l.length:=by omega
  exact tA
def Uq {l:List En}(h:shP l): ∀e∈l,e.text.length<=410:=λe he=>by
 obtain⟨i,hi,e'⟩:=sq (d:=abm) he;have:=(h.2 i hi).1;rw[e']at this;exact this
def RN {p:Pl}{l:List En}(hs:ii p)(hl:l.length<=1000)(htx: ∀e∈l,e.text.length<=100000):ac 11 [(true,bE p),(false,[.view (l.map be)])] (.one (I (cM p l).2.2)):=by
 have hP:=λh=>OT hs h;have c5:=B8 hs;by_cases he:(p.err jL).2=0
 ·have c6:=sG hs he (hP he) (KN he) (l:=l) K0 htx;rw[he]at c5;generalize cM p l=y at*;obtain⟨s,i,e⟩:=y;refine sF f11 ?_;exact tA
 ·have hr:cM p l=(Go.Plain.iy,0,(p.err jL).2):=if_pos he;rw[hr];generalize (p.err jL).2=e at*;refine sF f11 ?_;exact tA
section
variable {p:Pl}{a b:List En}(haw:ac 8 [] (.one (Bo true)))(hf:ac 9 [(true,bE p)] (.one (Bo true)))(hsa:ac 10 [(false,[.view (a.map be)])] (.one (Bo true)))(hsb:ac 10 [(false,[.view (b.map be)])] (.one (Bo true)))
 (R9:a.length<=20)(O5:b.length<=20)(d1:ac 14 [(true,bE p)] (.one (true,bE p)))(d2:ac 15 [(false,[.view (a.map be)])] (.own 3 (.view (a.map be))))(d3:ac 15 [(false,[.view (b.map be)])] (.own 3 (.view (b.map be))))
include haw hf hsa hsb R9 O5 d1 d2 d3
theorem RO {z:Int}(hz:z≠0)(c0:ac 11 [(true,bE p),(false,[.view (a.map be)])] (.one (I z)))(c1:ac 22 [(true,bE p),(false,[.view (a.map be)]),(false,[.view (b.map be)])] (.aI [(false,[.view []]),(false,[.ints []]),I z])):
  ac 5 [(true,bE p),(false,[.view (a.map be)]),(false,[.view (b.map be)])] (.one (Bo true)):=by
 exact aiP
theorem OV {z j:Int}(hz:z≠0)(c0:ac 11 [(true,bE p),(false,[.view (a.map be)])] (.one (I 0)))(c2:ac 23 [(true,bE p),(false,[.view (b.map be)])] (.aI [I j,I z]))(c1:ac 22 [(true,bE p),(false,[.view (a.map be)]),(false,[.view (b.map be)])] (.aI [(false,[.view []]),(false,[.ints []]),I z])):
  ac 5 [(true,bE p),(false,[.view (a.map be)]),(false,[.view (b.map be)])] (.one (Bo true)):=by
 exact aiP
theorem W9 {j:Int}{t:List En}{R:List Int}(hR:R.length<=1000)(ht:t.length<=60)(c0:ac 11 [(true,bE p),(false,[.view (a.map be)])] (.one (I 0)))(c2:ac 23 [(true,bE p),(false,[.view (b.map be)])] (.aI [I j,I 0]))
  (c1:ac 22 [(true,bE p),(false,[.view (a.map be)]),(false,[.view (b.map be)])] (.aI [(false,[.view ((a++t).map be)]),(false,[.ints R]),I 0]))(c3:ac 24 [(true,bE p),(false,[.view (a.map be)]),(false,[.view (b.map be)])] (.aI [(false,[.view ((a++t).map be)]),(false,[.ints R])]))
  (c4:ac 22 [(true,bE p),(false,[.view (a.map be)]),(false,[.view ((a.take (a.length/2)).map be)])] (.aI [(false,[.view (a.map be)]),(false,[.ints []]),I 0]))
  (c5:ac 22 [(true,bE p),(false,[.view ((a.take (a.length/2)).map be)]),(false,[.view (a.map be)])] (.aI [(false,[.view (a.map be)]),(false,[.ints []]),I 0])):
  ac 5 [(true,bE p),(false,[.view (a.map be)]),(false,[.view (b.map be)])] (.one (Bo true)):=by
 have n1:(a.map be).length =a.length:=by simp
 have n2:(b.map be).length =b.length:=by simp
 have s1:=OQ (a++t) (by rw[sO];omega);have s2:=OQ a K0;have i1:=MU R R Yn;rw[fL rfl]at i1;have d4:=pK (a.take (a.length/2)) agi;have hu: ∀x∈a.map be,x.length=3:=λx hx=>by exact af6
 have hu2: ∀x∈(a++t).map be,x.length=3:=λx hx=>by exact af6
 have n3:((a++t).map be).length =a.length+t.length:=by simp
 have tk:((a++t).map be).take (a.map be).length =a.map be:=by rw[n1,<- LR];simp
 have d4:ac 15 [(false,[.view ((a.map be).take (a.length/2))])] (.own 3 (.view ((a.take (a.length/2)).map be))):=by rw[<- LR];exact d4
 have i0:=MU [] [] K9;refine sF f5 ?_;repeat' ((first|refine tX 0 ?_|exact Zt|refine bR ?_ ?_<;>intro h)<;>(try conv=>whnf))
 all_goals try(exfalso;omega)
 refine BZ hu2 rfl rfl rfl rfl rfl rfl K0 ?_;rw[tk];conv=>whnf
 repeat' ((first|refine tX 0 ?_|exact Zt|refine bR ?_ ?_<;>intro h)<;>(try conv=>whnf))
 all_goals try(exfalso;omega)
 refine BZ (n:=a.length/2) (nz:=⟨by rw[n1];omega⟩) hu rfl rfl rfl rfl rfl rfl K0 ?_;conv=>whnf
 repeat' ((first|refine tX 0 ?_|exact Zt|refine bR ?_ ?_<;>intro h)<;>(try conv=>whnf))
 all_goals try(exfalso;omega)
 refine BZ (n:=a.length/2) (nz:=⟨by rw[n1];omega⟩) hu rfl rfl rfl rfl rfl rfl K0 ?_;conv=>whnf
 repeat' ((first|refine tX 0 ?_|exact Zt|refine bR ?_ ?_<;>intro h)<;>(try conv=>whnf))
 all_goals first|exact Z0
end
def RP (haw:ac 8 [] (.one (Bo true)))(p:Pl)(a b:List En)(h1:p.ae.length<=9223372036854775807)(h2:p.ap.length<=9223372036854775807)(h3:p.aa.length<=9223372036854775807)(h4:p.parts.length<=9223372036854775807)
  (h5: ∀i<p.aa.length,(p.aa.getD i dz).bz.length <=9223372036854775807)(h6: ∀i<p.parts.length,(p.parts.getD i ([],[])).2.length <=9223372036854775807)(h7:a.length<=9223372036854775807)(h8:b.length<=9223372036854775807):ac 5 [(true,bE p),(false,[.view (a.map be)]),(false,[.view (b.map be)])] (.one (Bo true)):=by
 have hf:=ad6 p h1 h2 h3 h4 h5 h6;have hsa:=IC a h7;have hsb:=IC b h8;have n1:(a.map be).length =a.length:=by simp
 have n2:(b.map be).length =b.length:=by simp
 by_cases q:Ou p;rotate_left
 ·rw[fj q]at hf;exact ab8
 rw[fL q]at hf;by_cases hqa:shP a;rotate_left
 ·rw[fj hqa]at hsa;exact ab8
 rw[fL hqa]at hsa;by_cases hqb:shP b;rotate_left
 ·rw[fj hqb]at hsb;exact ab8
 rw[fL hqb]at hsb;by_cases hl:a.length<=20/\b.length<=20;rotate_left
 ·exact ab8
 obtain⟨R9,O5⟩:=hl;have hs:=WO q;have Po: ∀e∈a,e.text.length<=100000:=λe he=>by have:=Uq hqa e he;omega
 have R7: ∀e∈b,e.text.length<=100000:=λe he=>by have:=Uq hqb e he;omega
 have hP:=λh=>OT hs h;have hA:a.length<=1000:=by omega
 have hB:b.length<=1000:=by omega
 have c0:=RN (l:=a) hs hA Po;have d1:=GO hs;have d2:=pK a hA;have d3:=pK b hB;by_cases za:(cM p a).2.2=0;rotate_left
 ·exact RO haw hf hsa hsb R9 O5 d1 d2 d3 za c0 (RM hs hP hA Po hB R7 za)
 rw[za]at c0;obtain⟨_,he,CG,_⟩:=nn za;have hPB:=hP he;have c2:=sG hs he hPB (KN he) hB R7;by_cases zb:(cM p b).2.2=0;rotate_left
 ·exact OV haw hf hsa hsb R9 O5 d1 d2 d3 zb c0 c2 (OP hs hP hA Po hB R7 za zb)
 rw[zb]at c2;obtain⟨t,e1,e2,e3⟩:=aa2 (p:=p) (r:=b.drop (Kt a b)) (s:=AK p a) (out:=[]) (i:=Kt a b) CG;have e1:(mg p a b).1=a++t:=e1;have e2:(mg p a b).1.length <=60:=e2;have e3:(mg p a b).2.length <=0+(b.drop (Kt a b)).length :=e3;have c1:=AT hs hP hA Po hB R7 za zb;have c3:=KM hs he hPB (KN he) hA Po hB R7 za;have hh:a.length/2<=a.length:=by omega
 have hT:(a.take (a.length/2)).length <=1000:=by exact agi
 have htt: ∀e∈a.take (a.length/2),e.text.length<=100000:=λe h=>Po e (CO h);have c4:=AT hs hP hA Po hT htt za (uJ za _);have c5:=AT hs hP hT htt hA Po (uJ za _) za;rw[ag8 hh]at c4;rw[ag9 za hh]at c5;rw[e1]at c1 c3 e2;rw[sO]at e2;rw[LJ]at e3;exact W9 haw hf hsa hsb R9 O5 d1 d2 d3 K0 K0 c0 c2 c1 c3 c4 c5
set_option maxRecDepth 1000000
set_option maxHeartbeats 80000000
def ou:ii plQ:=by constructor<;>exact CW cT
def FC: ∀e∈Ur,e.text.length<=100000:=CW cT
def RQ:(cM plQ Ur).2.2=0:=by kernel_rfl
abbrev nT:aj:=[116,49]
abbrev nW:aj:=[119,105,114,101]
def ahl:ac 29 [(true,bE plQ),(false,[.view (Ur.map be)]),SS nT] (.aI [(false,[.view (ab [])]),I 0]):=
 wH (x:=nT) (k:=0) (u:=(AK plQ Ur).units.getD 0 qa) ou (λh=>OT ou h) (fO rfl) FC K9 (nn RQ).1 (CW cT) cT cT
def ahm:ac 29 [(true,bE plQ),(false,[.view ((Ur.map be).take 7)]),SS nT] (.aI [(false,[.view (ab [[108,111,119],[102,117,108,108]])]),I 0]):=
 wH (x:=nT) (l:=Ur.take 7) (k:=0) (u:=(AK plQ (Ur.take 7)).units.getD 0 qa) ou (λh=>OT ou h) (fO rfl) (λe he=>FC e (CO he)) K9 (nn (uJ RQ 7)).1 (CW cT) cT cT
def amh:ac 18 [(true,bE plQ),(false,[.view (Ur.map be)]),SS nW] (.aI [(false,[.view (ab [nT])]),I 0]):=
 KO (x:=nW) ou (λh=>OT ou h) (fO rfl) FC K9 (nn RQ).1 (CW cT) (CW cT)
def Xd:ac 8 [] (.one (Bo true)):=by
 have hu: ∀x∈Ur.map be,x.length=3:=λx hx=>by exact af6
 have c1:=Xc;have c2:=abq;have c3:=ahl;have c4:=ahm;have c5:=amh;have c6:ac 39 [I 98,I 10] (.aI [I 80,I 0]):=Ip 98 10;have c7:=ahk;have c8:ac 41 [SS [97,98],I 0] (.aI [I 12937,I 0]):=Xb 0 [97,98] K9 K9;have t1:=Iz [[108,111,119],[102,117,108,108]] [[108,111,119],[102,117,108,108]] K9 K9;have t2:=Iz [nT] [nT] K9 K9;have hn:(Ur.map be).length =11:=rfl;rw[fL rfl]at t1 t2;generalize Ur.map be=L at*;refine sF f8 ?_;repeat' ((first|refine tX 0 ?_|exact Zt|refine bR ?_ ?_<;>intro h)<;>(try conv=>whnf))
 haveI:dU (7:Int) 7:=⟨rfl⟩;refine BZ hu rfl rfl rfl rfl rfl rfl K0 ?_;conv=>whnf
 exact tA
end Go.Proofs.Tryz
