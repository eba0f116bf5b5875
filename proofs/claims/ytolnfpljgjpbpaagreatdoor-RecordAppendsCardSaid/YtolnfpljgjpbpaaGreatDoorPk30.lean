import Derived.Test.YtolnfpljgjpbpaaGreatDoorPk29
set_option linter.all false
namespace Go.Proofs.Tryz
open Go.Fw Go.IntWalk Go.Plain
set_option maxRecDepth 100000
set_option maxHeartbeats 8000000
def wQ (s:bV)(n:aj)(hl:s.units.length<=1000):ac 133 [(true,tq s),SS n] (.one (I (iB s n))):=by
 have hn:(s.units.map jB).length =s.units.length:=by simp
 have Bf:(jK s).length =s.units.length:=by simp[jK]
 have hui:iB s n=be (jK s) n:=rfl;rw[hui];refine sF f133 ?_
 (try(refine tX 0 ?_;try exact Zt))
 refine af (ι:=Nat) (λi=>i<=s.units.length/\n∉(jK s).take i) (λi=>s.units.length -i) (λi=>⟨[(1,lS n),(2,pP 0),(5,vI i)],[(0,some (.box 35 ((tq s).map .st)))],1⟩) 0 Zc ⟨dz _,by simp⟩ ?_;rintro i ⟨hi,dm⟩;by_cases al:i<s.units.length
 ·have he:=aZ (f:=jB) al pA;have hg:(jK s).getD i []=(s.units.getD i pA).name :=by grind[jK]
  have nP:=λe=>mM (l:=jK s) (x:=n) (i:=i) (by omega) e dm;have Gt:=iN (l:=jK s) (i:=i) (x:=n) (by omega);rw[hg]at nP Gt;generalize s.units.getD i pA=u at*;by_cases hx:u.name=n
  ·rw[nP hx];exact tB0
  ·repeat' ((first|refine tX 0 ?_|exact Zt|refine bR ?_ ?_<;>intro h)<;>(try conv=>whnf))
   all_goals first|exact Ze|exact⟨i+1,⟨al,λhm=>(Gt.1 hm).elim dm λe=>hx e.symm⟩,by omega,Zc⟩
 ·obtain rfl:i=s.units.length:=by omega
  rw[pc (by omega)]at dm;rw[dW dm];exact tA
def FX (s:bV):Na (F0 s):=by
 refine⟨by simp[F0],λk hk=>?_,λk b e=>?_⟩
 ·have:k=5\/k=7\/k=9:=by simpa [F0,ah]using hk
  rcases this with rfl|rfl|rfl<;>exact⟨by decide,by decide,rfl⟩
 ·have hk:=Hp.dU e;have:k=5\/k=7\/k=9:=by simpa [F0,ah]using hk
  rcases this with rfl|rfl|rfl<;>(cases e;trivial)
theorem jV (s:bV):ec (· ∈ah (F0 s)) (true,so s):=by
 intro d hd;simp only[so,cF,jN,jO]at hd;rcases hd with rfl|rfl|rfl|rfl|rfl|rfl<;>first|trivial|(show _∈ah _;simp[F0])
def vT {H:HF}{fid:Nat}{f:FuncId}{xs:List DX}{s:bV}{y:bV × Int}(h:GS f xs s y)(hH: ∀k∈ah (F0 s),(F0 s).get k=H k)(Cv: ∀x∈xs,ec (· ∈ah (F0 s)) x):
  bI cx fid f xs H (LA (aq (tag fid) 0) (.aI [(true,so y.1),dyn (I y.2)])) (cH (F0 s) (cT (aq (tag fid) 0) (F0 y.1))) (ah (F0 s)):=by
 refine IJ h (FX s) (FX y.1) (dG _) hH Cv (λx hx=>?_);simp only[cF,jN,jO]at hx
 grind[jV,bd]
def sH {s:bV}{H:HF}(h1:H 5=some (.row true 1 (.view (ab s.opens))))(h2:H 7=some (.row true 1 (.view (ab s.lots))))(h3:H 9=some (.row true 17 (.view (s.units.map jB)))): ∀k∈ah (F0 s),(F0 s).get k=H k:=λk hk=>by
 have:k=5\/k=7\/k=9:=by simpa [F0,ah]using hk
 rcases this with rfl|rfl|rfl
 ·rw[h1];rfl
 ·rw[h2];rfl
 ·rw[h3];rfl
def zI {H:HF}{fid:Nat}{s:bV}{n:aj}(hl:s.units.length<=1000)(h5:H 5=some (.row true 1 (.view (ab s.opens))))(h7:H 7=some (.row true 1 (.view (ab s.lots))))(h9:H 9=some (.row true 17 (.view (s.units.map jB)))):
  bI cx fid 133 [(true,so s),(false,[.st (T n)])] H (.val (dyn (I (iB s n)))) [] [5,7,9]:=
 iK (bp ⟨rfl,rfl,ak (.st _)<|ak (.st _)<|ak (.row (by simp) h5)<|ak (.st _)<|ak (.row (by simp) h7)<|ak (.row (by simp) h9) jl⟩ (bp (kj (.st _)) gZ)) (wQ s n hl) rfl ⟨rfl,rfl,rfl⟩
section
variable (E:to)(p:Pl)(log:List En)(s:bV)(n:List Int)(q:aj)
theorem W0 {w0:aj}(hw:w0= [110,111,116,101])(a:List aj)(w:List aj):
  GS 98 [dyn (true,bL p),nN log,(true,so s),dyn (V1 (w0::w))] s (bm E p log s 0 a n q):=by
 rw[show bm E p log s 0 a n q=(s,0)from rfl];refine gH f98 ?_;repeat' ((first|refine tX 0 ?_|exact Zt|refine bR ?_ ?_<;>intro h)<;>(try conv=>whnf))
 all_goals first|exact Zs|exact⟨m0,bq rfl rfl,_,rfl,rfl⟩
theorem aba {w0:aj}(hw:w0= [108,111,116])(x:aj)(hx:x.length<=1000)(hs:s.lots.length<=1000):
  GS 98 [dyn (true,bL p),nN log,(true,so s),dyn (V1 [w0,x])] s (bm E p log s 1 [x] n q):=by
 have xH: ¬w0= [110,111,116,101]:=by grind
 have c1:=py x (by omega);have c2:=cD s.lots x (by omega);have hol:(ab s.lots).length =s.lots.length:=by simp
 have hq:bm E p log s 1 [x] n q=if jJ x then(if x∈s.lots then(s,5)else if s.lots.length<12 then({s with lots:=s.lots++[x]},0)else(s,16))else(s,4):=rfl
 rw[hq];clear hq;by_cases h1:jJ x
 ·rw[if_pos h1];rw[fh h1]at c1;by_cases h2:x∈s.lots
  ·rw[if_pos h2];rw[fh h2]at c2;refine gH f98 ?_;repeat' ((first|refine tX 0 ?_|exact Zt|refine bR ?_ ?_<;>intro h)<;>(try conv=>whnf))
   all_goals first|exact Zs|exact⟨m0,bq rfl rfl,_,rfl,rfl⟩
  ·rw[if_neg h2];rw[eJ h2]at c2;by_cases h3:s.lots.length<12
   ·rw[if_pos h3];refine gH f98 ?_;repeat' ((first|refine tX 0 ?_|exact Zt|refine bR ?_ ?_<;>intro h)<;>(try conv=>whnf))
    all_goals first|exact Zs|exact⟨[(5,5),(66,7),(9,9)],ln rfl ⟨⟨5,_,by simp,rfl,rfl⟩,⟨66,_,by simp,rfl,by rw[qI];kernel_rfl⟩,⟨9,_,by simp,rfl,rfl⟩,trivial⟩,_,rfl,rfl⟩
   ·rw[if_neg h3];refine gH f98 ?_;repeat' ((first|refine tX 0 ?_|exact Zt|refine bR ?_ ?_<;>intro h)<;>(try conv=>whnf))
    all_goals first|exact Zs|exact⟨m0,bq rfl rfl,_,rfl,rfl⟩
 ·rw[if_neg h1];rw[eJ h1]at c1;refine gH f98 ?_;repeat' ((first|refine tX 0 ?_|exact Zt|refine bR ?_ ?_<;>intro h)<;>(try conv=>whnf))
  all_goals first|exact Zs|exact⟨m0,bq rfl rfl,_,rfl,rfl⟩
theorem W4 {w0:aj}(hw:w0= [117,110,105,116])(x:aj)(hx:x.length<=1000)(hs:s.units.length<=900)(hE:E.pu=N8)(hq':q.length<=100000):
  GS 98 [dyn (true,bL p),nN log,(true,so s),dyn (V1 [w0,x,q])] s (bm E p log s 2 [x] n q):=by
 have xH: ¬w0= [110,111,116,101]:=by grind
 have Jc: ¬w0= [108,111,116]:=by grind
 have c1:=py x (by omega);have c2:=Cs q hq';have hul:(s.units.map jB).length =s.units.length:=by simp
 have cu:=λH fid=>zI (H:=H) (fid:=fid) (s:=s) (n:=x) (by omega);have hq:bm E p log s 2 [x] n q=if jJ x then(if x∈jK s then(s,5)else if s.units.length<6 then(if(N8 q).2=0 then({s with units:=s.units++[{pA with name:=x,win:=(N8 q).1}]},0)else(s,(N8 q).2))else(s,16))else(s,4):=by rw[<- hE];rfl
 rw[hq];clear hq
 have hi:(x∈jK s->0<=iB s x)/\(x∉jK s->iB s x<0):=⟨λh=>by
  grind[k9,iB],λh=>by
  grind[iB,dW]⟩
 generalize iB s x=ix at*;by_cases h1:jJ x
 ·rw[if_pos h1];rw[fh h1]at c1;by_cases h2:x∈jK s
  ·rw[if_pos h2];have h2':=hi.1 h2;refine gH f98 ?_;repeat' ((first|(refine kO 7 rfl ?_;first|refine gu (λ_ z=>⟨_,_,_,(cu _ _ rfl rfl rfl),z⟩) ?_)|refine tX 0 ?_|exact Zt|refine bR ?_ ?_<;>intro h)<;>(try conv=>whnf))
   all_goals first|exact Zs|exact⟨m0,bq rfl rfl,_,rfl,rfl⟩
  ·rw[if_neg h2];have h2':=hi.2 h2;by_cases h3:s.units.length<6
   ·rw[if_pos h3];generalize N8 q=z at*;obtain⟨wi,we⟩:=z;by_cases h4:we=0
    ·subst h4;rw[if_pos rfl];refine gH f98 ?_;repeat' ((first|(refine kO 7 rfl ?_;first|refine gu (λ_ z=>⟨_,_,_,(cu _ _ rfl rfl rfl),z⟩) ?_)|refine tX 0 ?_|exact Zt|refine bR ?_ ?_<;>intro h)<;>(try conv=>whnf))
     all_goals first|exact Zs|exact⟨[(5,5),(7,7),(98,9)],ln rfl ⟨⟨5,_,by simp,rfl,rfl⟩,⟨7,_,by simp,rfl,rfl⟩,⟨98,_,by simp,rfl,by rw[Aj];kernel_rfl⟩,trivial⟩,_,rfl,rfl⟩
    ·rw[if_neg h4];refine gH f98 ?_;repeat' ((first|(refine kO 7 rfl ?_;first|refine gu (λ_ z=>⟨_,_,_,(cu _ _ rfl rfl rfl),z⟩) ?_)|refine tX 0 ?_|exact Zt|refine bR ?_ ?_<;>intro h)<;>(try conv=>whnf))
     all_goals first|exact Zs|exact⟨m0,bq rfl rfl,_,rfl,rfl⟩
   ·rw[if_neg h3];refine gH f98 ?_;repeat' ((first|(refine kO 7 rfl ?_;first|refine gu (λ_ z=>⟨_,_,_,(cu _ _ rfl rfl rfl),z⟩) ?_)|refine tX 0 ?_|exact Zt|refine bR ?_ ?_<;>intro h)<;>(try conv=>whnf))
    all_goals first|exact Zs|exact⟨m0,bq rfl rfl,_,rfl,rfl⟩
 ·rw[if_neg h1];rw[eJ h1]at c1;refine gH f98 ?_;repeat' ((first|refine tX 0 ?_|exact Zt|refine bR ?_ ?_<;>intro h)<;>(try conv=>whnf))
  all_goals first|exact Zs|exact⟨m0,bq rfl rfl,_,rfl,rfl⟩
theorem W5 {w0:aj}(hw:w0=lL)(a:List aj)(w:List aj)(hg:GS 135 [dyn (true,bL p),(true,so s),dyn (V1 (w0::w))] s (bm E p log s 4 a n q)):
  GS 98 [dyn (true,bL p),nN log,(true,so s),dyn (V1 (w0::w))] s (bm E p log s 4 a n q):=by
 have xH: ¬w0= [110,111,116,101]:=by grind
 have Jc: ¬w0= [108,111,116]:=by grind
 have Gh: ¬w0= [117,110,105,116]:=by grind
 have hm: ∀x'∈[dyn (true,bL p),(true,so s),dyn (V1 (w0::w))],ec (· ∈ah (F0 s)) x':=λx' tu=>by
  simp only[cF,jN,jO]at tu
  grind[bd,jV]
 generalize bm E p log s 4 a n q=y at*;obtain⟨s',e⟩:=y;refine gH f98 ?_;repeat' ((first|refine tX 0 ?_|exact Zt|refine bR ?_ ?_<;>intro h)<;>(try conv=>whnf))
 all_goals try exact Zs
 repeat((first|(refine kO 7 rfl ?_;first|refine oa (λ_ z=>⟨_,_,_,(vT hg (sH rfl rfl rfl) hm),z⟩) ?_)|refine tX 2 ?_|exact Zt);(try conv=>whnf))
 repeat' ((first|refine tX 0 ?_|exact Zt|refine bR ?_ ?_<;>intro h)<;>(try conv=>whnf))
 all_goals exact⟨[(fz 19 5,5),(fz 19 7,7),(fz 19 9,9)],bq rfl rfl,_,rfl,rfl⟩
theorem W6 {w0:aj}(hw:w0=nw)(a:List aj)(w:List aj)(hg:GS 135 [dyn (true,bL p),(true,so s),dyn (V1 (w0::w))] s (bm E p log s 5 a n q)):
  GS 98 [dyn (true,bL p),nN log,(true,so s),dyn (V1 (w0::w))] s (bm E p log s 5 a n q):=by
 have xH: ¬w0= [110,111,116,101]:=by grind
 have Jc: ¬w0= [108,111,116]:=by grind
 have Gh: ¬w0= [117,110,105,116]:=by grind
 have Lx: ¬w0=lL:=by grind
 have hm: ∀x'∈[dyn (true,bL p),(true,so s),dyn (V1 (w0::w))],ec (· ∈ah (F0 s)) x':=λx' tu=>by
  simp only[cF,jN,jO]at tu
  grind[bd,jV]
 generalize bm E p log s 5 a n q=y at*;obtain⟨s',e⟩:=y;refine gH f98 ?_;repeat' ((first|refine tX 0 ?_|exact Zt|refine bR ?_ ?_<;>intro h)<;>(try conv=>whnf))
 all_goals try exact Zs
 repeat((first|(refine kO 7 rfl ?_;first|refine oa (λ_ z=>⟨_,_,_,(vT hg (sH rfl rfl rfl) hm),z⟩) ?_)|refine tX 2 ?_|exact Zt);(try conv=>whnf))
 repeat' ((first|refine tX 0 ?_|exact Zt|refine bR ?_ ?_<;>intro h)<;>(try conv=>whnf))
 all_goals exact⟨[(fz 21 5,5),(fz 21 7,7),(fz 21 9,9)],bq rfl rfl,_,rfl,rfl⟩
theorem RR {w0:aj}(hw:w0=lq)(a:List aj)(w:List aj)(hg:GS 135 [dyn (true,bL p),(true,so s),dyn (V1 (w0::w))] s (bm E p log s 6 a n q)):
  GS 98 [dyn (true,bL p),nN log,(true,so s),dyn (V1 (w0::w))] s (bm E p log s 6 a n q):=by
 have xH: ¬w0= [110,111,116,101]:=by grind
 have Jc: ¬w0= [108,111,116]:=by grind
 have Gh: ¬w0= [117,110,105,116]:=by grind
 have Lx: ¬w0=lL:=by grind
 have Sd: ¬w0=nw:=by grind
 have hm: ∀x'∈[dyn (true,bL p),(true,so s),dyn (V1 (w0::w))],ec (· ∈ah (F0 s)) x':=λx' tu=>by
  simp only[cF,jN,jO]at tu
  grind[bd,jV]
 generalize bm E p log s 6 a n q=y at*;obtain⟨s',e⟩:=y;refine gH f98 ?_;repeat' ((first|refine tX 0 ?_|exact Zt|refine bR ?_ ?_<;>intro h)<;>(try conv=>whnf))
 all_goals try exact Zs
 repeat((first|(refine kO 7 rfl ?_;first|refine oa (λ_ z=>⟨_,_,_,(vT hg (sH rfl rfl rfl) hm),z⟩) ?_)|refine tX 2 ?_|exact Zt);(try conv=>whnf))
 repeat' ((first|refine tX 0 ?_|exact Zt|refine bR ?_ ?_<;>intro h)<;>(try conv=>whnf))
 all_goals exact⟨[(fz 23 5,5),(fz 23 7,7),(fz 23 9,9)],bq rfl rfl,_,rfl,rfl⟩
theorem W7 {w0:aj}(hw:w0=sN)(a:List aj)(w:List aj)(hg:GS 135 [dyn (true,bL p),(true,so s),dyn (V1 (w0::w))] s (bm E p log s 7 a n q)):
  GS 98 [dyn (true,bL p),nN log,(true,so s),dyn (V1 (w0::w))] s (bm E p log s 7 a n q):=by
 have xH: ¬w0= [110,111,116,101]:=by grind
 have Jc: ¬w0= [108,111,116]:=by grind
 have Gh: ¬w0= [117,110,105,116]:=by grind
 have Lx: ¬w0=lL:=by grind
 have Sd: ¬w0=nw:=by grind
 have UH: ¬w0=lq:=by grind
 have hm: ∀x'∈[dyn (true,bL p),(true,so s),dyn (V1 (w0::w))],ec (· ∈ah (F0 s)) x':=λx' tu=>by
  simp only[cF,jN,jO]at tu
  grind[bd,jV]
 generalize bm E p log s 7 a n q=y at*;obtain⟨s',e⟩:=y;refine gH f98 ?_;repeat' ((first|refine tX 0 ?_|exact Zt|refine bR ?_ ?_<;>intro h)<;>(try conv=>whnf))
 all_goals try exact Zs
 repeat((first|(refine kO 7 rfl ?_;first|refine oa (λ_ z=>⟨_,_,_,(vT hg (sH rfl rfl rfl) hm),z⟩) ?_)|refine tX 2 ?_|exact Zt);(try conv=>whnf))
 repeat' ((first|refine tX 0 ?_|exact Zt|refine bR ?_ ?_<;>intro h)<;>(try conv=>whnf))
 all_goals exact⟨[(fz 25 5,5),(fz 25 7,7),(fz 25 9,9)],bq rfl rfl,_,rfl,rfl⟩
theorem Lb {w0:aj}(hw:w0=wP)(a:List aj)(w:List aj)(hg:GS 135 [dyn (true,bL p),(true,so s),dyn (V1 (w0::w))] s (bm E p log s 8 a n q)):
  GS 98 [dyn (true,bL p),nN log,(true,so s),dyn (V1 (w0::w))] s (bm E p log s 8 a n q):=by
 have xH: ¬w0= [110,111,116,101]:=by grind
 have Jc: ¬w0= [108,111,116]:=by grind
 have Gh: ¬w0= [117,110,105,116]:=by grind
 have Lx: ¬w0=lL:=by grind
 have Sd: ¬w0=nw:=by grind
 have UH: ¬w0=lq:=by grind
 have ahn: ¬w0=sN:=by grind
 have hm: ∀x'∈[dyn (true,bL p),(true,so s),dyn (V1 (w0::w))],ec (· ∈ah (F0 s)) x':=λx' tu=>by
  simp only[cF,jN,jO]at tu
  grind[bd,jV]
 generalize bm E p log s 8 a n q=y at*;obtain⟨s',e⟩:=y;refine gH f98 ?_;repeat' ((first|refine tX 0 ?_|exact Zt|refine bR ?_ ?_<;>intro h)<;>(try conv=>whnf))
 all_goals try exact Zs
 repeat((first|(refine kO 7 rfl ?_;first|refine oa (λ_ z=>⟨_,_,_,(vT hg (sH rfl rfl rfl) hm),z⟩) ?_)|refine tX 2 ?_|exact Zt);(try conv=>whnf))
 repeat' ((first|refine tX 0 ?_|exact Zt|refine bR ?_ ?_<;>intro h)<;>(try conv=>whnf))
 all_goals exact⟨[(fz 27 5,5),(fz 27 7,7),(fz 27 9,9)],bq rfl rfl,_,rfl,rfl⟩
theorem abb {w0:aj}(hw:w0=OY)(a:List aj)(w:List aj)(hg:GS 135 [dyn (true,bL p),(true,so s),dyn (V1 (w0::w))] s (bm E p log s 9 a n q)):
  GS 98 [dyn (true,bL p),nN log,(true,so s),dyn (V1 (w0::w))] s (bm E p log s 9 a n q):=by
 have xH: ¬w0= [110,111,116,101]:=by grind
 have Jc: ¬w0= [108,111,116]:=by grind
 have Gh: ¬w0= [117,110,105,116]:=by grind
 have Lx: ¬w0=lL:=by grind
 have Sd: ¬w0=nw:=by grind
 have UH: ¬w0=lq:=by grind
 have ahn: ¬w0=sN:=by grind
 have ahz: ¬w0=wP:=by grind
 have hm: ∀x'∈[dyn (true,bL p),(true,so s),dyn (V1 (w0::w))],ec (· ∈ah (F0 s)) x':=λx' tu=>by
  simp only[cF,jN,jO]at tu
  grind[bd,jV]
 generalize bm E p log s 9 a n q=y at*;obtain⟨s',e⟩:=y;refine gH f98 ?_;repeat' ((first|refine tX 0 ?_|exact Zt|refine bR ?_ ?_<;>intro h)<;>(try conv=>whnf))
 all_goals try exact Zs
 repeat((first|(refine kO 7 rfl ?_;first|refine oa (λ_ z=>⟨_,_,_,(vT hg (sH rfl rfl rfl) hm),z⟩) ?_)|refine tX 2 ?_|exact Zt);(try conv=>whnf))
 repeat' ((first|refine tX 0 ?_|exact Zt|refine bR ?_ ?_<;>intro h)<;>(try conv=>whnf))
 all_goals exact⟨[(fz 29 5,5),(fz 29 7,7),(fz 29 9,9)],bq rfl rfl,_,rfl,rfl⟩
end
end Go.Proofs.Tryz
