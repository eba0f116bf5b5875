import Derived.Test.YtackacoaaihcjaaGreatDoorPkF28
set_option linter.all false
set_option maxRecDepth 100000
set_option maxHeartbeats 8000000
namespace Go.Proofs.Tryz
open Go.Fw Go.IntWalk Go.Plain
abbrev al3:List DC:=[.st (T []),.st (J 0),.st (J 0),.st (J 0),.st (K false),.st (J 0),.st (J 0),.st (J 0),.st (K false),.st (J 0),.nil,.nil,.st (K false),.st (K false),.st (K false),.st (J 0),.nil]
def KI (E:qp)(p:Pl)(log:List En)(s:bQ)(u:Un)(q:aj)(n:List Int){w0:aj}(hw:w0= [114,101,112,97,105,114])(x y:aj)(hp:io p)(hu:u.res.length<=1000):
  GU 199 [dyn (true,bU p),nK log,dyn (Lg s),(true,cP u 11 13 15),dyn (V1 [w0,x,y])] u (aI E p log s u 13 [x,y] n q):=by
 have IJ: ¬w0= [117,115,101]:=by rw[hw];decide
 have zE: ¬w0= [101,110,116,101,114]:=by rw[hw];decide
 have CA: ¬w0= [108,101,97,118,101]:=by rw[hw];decide
 have RY: ¬w0= [116,101,115,116]:=by rw[hw];decide
 have ct:=GB p y hp.pa;have Ur:(u.res.map kG).length =u.res.length:=by simp
 have ho:s.opens= []↔((ab s.opens).length :Int)=0:=by simp[ab]
 by_cases hy:y∈p.bd
 ·obtain⟨j,hj,e⟩:=k7 hy;have hjl:j<p.parts.length:=by simpa [Pl.bd]using hj
  have cv:=GD hp j hjl;have Xo:(jk p.aa (p.parts.getD j ([],[])).2).length <=p.aa.length:=rF _ _;have hte:=hp.te
  have hq:aI E p log s u 13 [x,y] n q=if u.rel then(u,20)else if s.hall=u.name/\s.opens= []then(u,24)else({u with res:=u.res.map (voR (jk p.aa (p.parts.getD j ([],[])).2)),failed:=false},0):=by
   have h0:0<=aZ p.bd y:=by omega
   show(if 0<=aZ p.bd y then _ else _)=_;rw[if_pos h0];simp only[SE,LF];rw[e,p8];rfl
  rw[hq];rw[e]at ct;clear hq;generalize jk p.aa (p.parts.getD j ([],[])).2=vd at*;by_cases h1:u.rel=true
  ·rw[if_pos h1];refine gH f199 ?_;exact UO
  ·rw[if_neg h1];by_cases hh:s.hall=u.name/\s.opens= []
   ·obtain⟨h2,h3⟩:=hh;rw[if_pos ⟨h2,h3⟩];have h4:=ho.1 h3;refine gH f199 ?_;exact K8
   ·rw[if_neg hh];have h5:s.hall=u.name->¬((ab s.opens).length :Int)=0:=λa b=>hh ⟨a,ho.2 b⟩;refine gH f199 ?_;repeat' ((first|refine tX 0 ?_|exact Zt|refine bR ?_ ?_<;>intro h)<;>(try conv=>whnf))
    all_goals try exact Zs
    all_goals
     refine af (ι:=Nat) (λk=>k<=u.res.length) (λk=>u.res.length -k) (λk=>⟨[(8,pP 0),(10,pP 1),(14,pO 2),(15,vI k)],[(0,some (.box 44 (cP u 3 4 5))),(1,some (.box 44 al3)),(2,some (.row true 1 (.view (ab vd)))),(3,some (.row true 1 (.view (ab u.lots)))),(4,some (.row true 4 (.view ((jb u.res vd k).map kG)))),(5,some (.row true 5 (.view (u.gas.map uV))))],6⟩) 0 Zc (dM _) ?_;intro k hk;by_cases ak:k<u.res.length
     ·have he:=Kr (vd:=vd) ak;have lq:=EZ (vd:=vd) ak;have uI:((jb u.res vd k).map kG).length =u.res.length:=by exact abZ
      generalize u.res.getD k BW=rr at*;obtain⟨rt,ra,re,rv⟩:=rr;have he:((jb u.res vd k).map kG)[k]? =some [T rt,J ra,J re,K rv]:=he;have cc:=cX vd rt K0;by_cases hm:rt∈vd
      ·rw[fG hm]at cc
       have lq:((jb u.res vd k).map kG).set k [T rt,J ra,J re,K true]=(jb u.res vd (k+1)).map kG:=by
        rw[<- lq];show _=List.set _ k [T rt,J ra,J re,K (rv || decide (rt∈vd))];rw[fG hm,Bool.or_true]
       repeat' ((first|refine tX 0 ?_|exact Zt|refine bR ?_ ?_<;>intro h)<;>(try conv=>whnf))
       all_goals first|exact Zo|exact⟨k+1,ak,by omega,ai ajP⟩
      ·rw[eU hm]at cc
       have lq:(jb u.res vd (k+1)).map kG=(jb u.res vd k).map kG:=by
        rw[<- lq];have h:=(kp.1 he).2;show List.set _ k [T rt,J ra,J re,K (rv || decide (rt∈vd))]=_;rw[eU hm,LR,<- h,LC]
       repeat' ((first|refine tX 0 ?_|exact Zt|refine bR ?_ ?_<;>intro h)<;>(try conv=>whnf))
       all_goals first|exact Zo|exact⟨k+1,ak,by omega,ai (by(conv=>rhs;rw[lq]);kernel_rfl)⟩
     ·obtain rfl:k=u.res.length:=by omega
      have uI:((jb u.res vd u.res.length).map kG).length =u.res.length:=by exact abZ
      rw[Oe]at uI ⊢;repeat' ((first|refine tX 0 ?_|exact Zt|refine bR ?_ ?_<;>intro h)<;>(try conv=>whnf))
      all_goals first|exact Zo|exact⟨[(3,11),(4,13),(5,15)],dX rfl rfl,_,rfl,rfl⟩
 ·rw[eN hy]at ct
  have hq:aI E p log s u 13 [x,y] n q=(u,6):=by
   show(if 0<=aZ p.bd y then _ else _)=_;rw[eN hy,if_neg K9]
  rw[hq];refine gH f199 ?_;exact UO
abbrev GS (f:FuncId)(xs:List DX)(s:bQ)(y:bQ × Int):Prop:=bt cx f 1 xs (F0 s) [] (.aJ [(true,su y.1),dyn (I y.2)]) (F0 y.1)
abbrev m0:List (Nat × Nat):=[(5,5),(7,7),(9,9)]
abbrev lK:aj:=[111,112,101,110]
abbrev nn:aj:=[115,104,117,116]
abbrev lj:aj:=[101,97,114,116,104]
abbrev sv:aj:=[108,105,102,116]
abbrev wj:aj:=[118,111,108,116,97,103,101]
abbrev OE:aj:=[111,102,102]
section
variable (E:qp)(p:Pl)(log:List En)(s:bQ)(n:List Int)(q:aj)
theorem Iz {w0:aj}(hw:w0=lK)(x:aj)(hg:p.ap.length<=1000)(hs:s.opens.length<=1000):
  GS 198 [dyn (true,bU p),(true,su s),dyn (V1 [w0,x])] s (ba E p log s 4 [x] n q):=by
 have c1:=cX p.ap x K0;have c2:=cX s.opens x K0;have hol:(ab s.opens).length =s.opens.length:=by simp
 have hq:ba E p log s 4 [x] n q=if x∈p.ap then(if x∈s.opens then(s,20)else if s.volt=false/\s.earth=true then({s with opens:=s.opens++[x]},0)else(s,24))else(s,6):=rfl
 rw[hq];clear hq;by_cases h1:x∈p.ap
 ·rw[if_pos h1];rw[fG h1]at c1;by_cases h2:x∈s.opens
  ·rw[if_pos h2];rw[fG h2]at c2;refine gH f198 ?_;exact K4
  ·rw[if_neg h2];rw[eU h2]at c2;by_cases h3:s.volt=false/\s.earth=true
   ·rw[if_pos h3];obtain⟨h4,h5⟩:=h3;refine gH f198 ?_;repeat' ((first|refine tX 0 ?_|exact Zt|refine bR ?_ ?_<;>intro h)<;>(try conv=>whnf))
    all_goals first|exact Zs|exact⟨[(90,5),(7,7),(9,9)],nJ rfl ⟨⟨90,_,by simp,rfl,by rw[qC];kernel_rfl⟩,⟨7,_,by simp,rfl,rfl⟩,⟨9,_,by simp,rfl,rfl⟩,trivial⟩,_,rfl,rfl⟩
   ·rw[if_neg h3];refine gH f198 ?_;exact K4
 ·rw[if_neg h1];rw[eU h1]at c1;refine gH f198 ?_;exact K4
theorem OF {l:List aj}{x:aj}{i:Nat}(h:i<l.length):(l.take (i+1)).filter (λy=> !(y==x))=(l.take i).filter (λy=> !(y==x))++(if l.getD i []=x then []else [l.getD i []]):=by
 rw[take_succ h,SH];congr 1;generalize l.getD i []=v;by_cases e:v=x
 ·rw[if_pos e];simp[e]
 ·rw[if_neg e];simp[e]
theorem WT {w0:aj}(hw:w0=nn)(x:aj)(hg:p.ap.length<=1000)(hs:s.opens.length<=1000)(hn:s.opens.Nodup):
  GS 198 [dyn (true,bU p),(true,su s),dyn (V1 [w0,x])] s (ba E p log s 5 [x] n q):=by
 have no: ¬w0=lK:=by rw[hw];decide
 have c1:=cX p.ap x K0;have c2:=cX s.opens x K0;have hol:(ab s.opens).length =s.opens.length:=by simp
 have hq:ba E p log s 5 [x] n q=if x∈p.ap then(if x∈s.opens then({s with opens:=s.opens.erase x},0)else(s,20))else(s,6):=rfl
 rw[hq];clear hq;by_cases h1:x∈p.ap
 ·rw[if_pos h1];rw[fG h1]at c1;by_cases h2:x∈s.opens
  ·rw[if_pos h2];rw[fG h2]at c2;have her:s.opens.erase x=s.opens.filter (λy=> !(y==x)):=hn.erase_eq_filter x;rw[her];refine gH f198 ?_;repeat' ((first|refine tX 0 ?_|exact Zt|refine bR ?_ ?_<;>intro h)<;>(try conv=>whnf))
   all_goals try exact Zs
   all_goals
    refine af (ι:=Nat) (λi=>i<=s.opens.length) (λi=>s.opens.length -i) (λi=>⟨[(2,some (.val (false,[.st (.view (ab [w0,x]))]))),(4,pP 0),(6,pP 1),(8,pO 2),(9,vI i)],[(0,some (.box 58 [.st (K s.volt),.st (K s.earth),.own 3,.st (T s.hall),.own 4,.own 5])),(1,some (.box 58 [.st (K false),.st (K false),.nil,.st (T []),.nil,.nil])),(2,some (.row true 1 (.view (ab ((s.opens.take i).filter λy=> !(y==x)))))),(3,some (.row true 1 (.view (ab s.opens)))),(4,some (.row true 1 (.view (ab s.lots)))),(5,some (.row true 17 (.view (s.units.map kz))))],6⟩) 0 (bs.trans (jB 8 1 (.view []) K9 rfl rfl rfl) Zc) (dM _) ?_;intro i hi;by_cases ak:i<s.opens.length
    ·have he:=sA ak;have hft:=OF (x:=x) ak;have og:((s.opens.take i).filter λy=> !(y==x)).length <=i:=o3 (LB _ _) wA;generalize (s.opens.take i).filter (λy=> !(y==x))=out at*;generalize s.opens.getD i []=y at*;have hou:(ab out).length =out.length:=by simp
     by_cases hyx:y=x
     ·rw[if_pos hyx,zQ]at hft;repeat' ((first|refine tX 0 ?_|exact Zt|refine bR ?_ ?_<;>intro h)<;>(try conv=>whnf))
      all_goals first|exact Ze|exact⟨i+1,ak,by omega,ai (by rw[hft];kernel_rfl)⟩
     ·rw[if_neg hyx]at hft;repeat' ((first|refine tX 0 ?_|exact Zt|refine bR ?_ ?_<;>intro h)<;>(try conv=>whnf))
      all_goals first|exact Ze|exact⟨i+1,ak,by omega,ai (by rw[hft,qC];kernel_rfl)⟩
    ·obtain rfl:i=s.opens.length:=by omega
     rw[mW];repeat' ((first|refine tX 0 ?_|exact Zt|refine bR ?_ ?_<;>intro h)<;>(try conv=>whnf))
     all_goals first|exact Ze|exact⟨[(2,5),(4,7),(5,9)],dX rfl rfl,_,rfl,rfl⟩
  ·rw[if_neg h2];rw[eU h2]at c2;refine gH f198 ?_;exact K4
 ·rw[if_neg h1];rw[eU h1]at c1;refine gH f198 ?_;exact K4
theorem Rv {w0:aj}(hw:w0=lj)(a:List aj)(w:List aj):
  GS 198 [dyn (true,bU p),(true,su s),dyn (V1 (w0::w))] s (ba E p log s 6 a n q):=by
 have n0: ¬w0=lK:=by rw[hw];decide
 have n1: ¬w0=nn:=by rw[hw];decide
 have ho:s.opens= []↔((ab s.opens).length :Int)=0:=by simp[ab]
 have hq:ba E p log s 6 a n q=if s.earth then(s,20)else if s.volt then(s,24)else({s with earth:=true},0):=rfl
 rw[hq];clear hq;by_cases h1:s.earth=true
 ·rw[if_pos h1];refine gH f198 ?_;exact K4
 ·rw[if_neg h1];by_cases h2:s.volt=true
  ·rw[if_pos h2];refine gH f198 ?_;exact K4
  ·rw[if_neg h2];refine gH f198 ?_;exact K4
theorem WU {w0:aj}(hw:w0=sv)(a:List aj)(w:List aj):
  GS 198 [dyn (true,bU p),(true,su s),dyn (V1 (w0::w))] s (ba E p log s 7 a n q):=by
 have n0: ¬w0=lK:=by rw[hw];decide
 have n1: ¬w0=nn:=by rw[hw];decide
 have n2: ¬w0=lj:=by rw[hw];decide
 have ho:s.opens= []↔((ab s.opens).length :Int)=0:=by simp[ab]
 have hq:ba E p log s 7 a n q=if s.earth then(if s.opens= []then({s with earth:=false},0)else(s,24))else(s,20):=rfl
 rw[hq];clear hq;by_cases h1:s.earth=true
 ·rw[if_pos h1];by_cases h2:s.opens= []
  ·rw[if_pos h2];have h4:=ho.1 h2;refine gH f198 ?_;exact K4
  ·rw[if_neg h2];have h4: ¬((ab s.opens).length :Int)=0:=λh=>h2 (ho.2 h);refine gH f198 ?_;exact K4
 ·rw[if_neg h1];refine gH f198 ?_;exact K4
theorem KJ {w0:aj}(hw:w0=wj)(a:List aj)(w:List aj):
  GS 198 [dyn (true,bU p),(true,su s),dyn (V1 (w0::w))] s (ba E p log s 8 a n q):=by
 have n0: ¬w0=lK:=by rw[hw];decide
 have n1: ¬w0=nn:=by rw[hw];decide
 have n2: ¬w0=lj:=by rw[hw];decide
 have n3: ¬w0=sv:=by rw[hw];decide
 have ho:s.opens= []↔((ab s.opens).length :Int)=0:=by simp[ab]
 have hq:ba E p log s 8 a n q=if s.volt then(s,20)else if s.opens= []/\s.earth=false then({s with volt:=true},0)else(s,24):=rfl
 rw[hq];clear hq;by_cases h1:s.volt=true
 ·rw[if_pos h1];refine gH f198 ?_;exact K4
 ·rw[if_neg h1];by_cases h2:s.opens= []/\s.earth=false
  ·rw[if_pos h2];obtain⟨h3,h5⟩:=h2;have h4:=ho.1 h3;refine gH f198 ?_;exact K4
  ·rw[if_neg h2];by_cases h3:s.opens= []
   ·have h4:=ho.1 h3;have h5:s.earth=true:=by cases h:s.earth with|true=>rfl|false=>exact absurd ⟨h3,h⟩ h2
    refine gH f198 ?_;exact K4
   ·have h4: ¬((ab s.opens).length :Int)=0:=λh=>h3 (ho.2 h);refine gH f198 ?_;exact K4
theorem aa3 {w0:aj}(hw:w0=OE)(a:List aj)(w:List aj):
  GS 198 [dyn (true,bU p),(true,su s),dyn (V1 (w0::w))] s (ba E p log s 9 a n q):=by
 have n0: ¬w0=lK:=by rw[hw];decide
 have n1: ¬w0=nn:=by rw[hw];decide
 have n2: ¬w0=lj:=by rw[hw];decide
 have n3: ¬w0=sv:=by rw[hw];decide
 have n4: ¬w0=wj:=by rw[hw];decide
 have ho:s.opens= []↔((ab s.opens).length :Int)=0:=by simp[ab]
 have hq:ba E p log s 9 a n q=if s.volt then({s with volt:=false},0)else(s,20):=rfl
 rw[hq];clear hq;by_cases h1:s.volt=true
 ·rw[if_pos h1];refine gH f198 ?_;exact K4
 ·rw[if_neg h1];refine gH f198 ?_;exact K4
end
def wl (s:bQ)(n:aj)(hl:s.units.length<=1000):ac 82 [(true,Aj s),SS n] (.one (I (gY s n))):=by
 have hn:(s.units.map kz).length =s.units.length:=by simp
 have AP:(cT s).length =s.units.length:=by simp[cT]
 have Xf:gY s n=aZ (cT s) n:=rfl;rw[Xf];refine sF f82 ?_
 (try(refine tX 0 ?_;try exact Zt))
 refine af (ι:=Nat) (λi=>i<=s.units.length/\n∉(cT s).take i) (λi=>s.units.length -i) (λi=>⟨[(1,lS n),(2,pP 0),(5,vI i)],[(0,some (.box 58 ((Aj s).map .st)))],1⟩) 0 Zc ⟨dM _,by simp⟩ ?_;rintro i ⟨hi,dy⟩;by_cases ak:i<s.units.length
 ·have he:=bg (f:=kz) ak pX;have hg:(cT s).getD i []=(s.units.getD i pX).name :=by grind[cT]
  have nM:=λe=>mK (l:=cT s) (x:=n) (i:=i) K0 e dy;have FP:=iM (l:=cT s) (i:=i) (x:=n) K0;rw[hg]at nM FP;generalize s.units.getD i pX=u at*;by_cases hx:u.name=n
  ·rw[nM hx];exact tB0
  ·repeat' ((first|refine tX 0 ?_|exact Zt|refine bR ?_ ?_<;>intro h)<;>(try conv=>whnf))
   all_goals first|exact Ze|exact⟨i+1,⟨ak,λhm=>(FP.1 hm).elim dy λe=>hx e.symm⟩,by omega,Zc⟩
 ·obtain rfl:i=s.units.length:=by omega
  rw[o0 K0]at dy;exact acf
def Ft (s:bQ):MH (F0 s):=by
 refine⟨by simp[F0],λk hk=>?_,λk b e=>?_⟩
 ·have:k=5\/k=7\/k=9:=by exact acd
  rcases this with rfl|rfl|rfl<;>exact⟨by decide,by decide,rfl⟩
 ·have hk:=Hp.dV e;have:k=5\/k=7\/k=9:=by exact acd
  rcases this with rfl|rfl|rfl<;>(cases e;trivial)
theorem uz (s:bQ):ee (· ∈ah (F0 s)) (true,su s):=by
 intro d hd;simp only[su,dh,mV,mY]at hd;rcases hd with rfl|rfl|rfl|rfl|rfl|rfl<;>first|trivial|(show _∈ah _;simp[F0])
def vp {H:HF}{fid:Nat}{f:FuncId}{xs:List DX}{s:bQ}{y:bQ × Int}(h:GS f xs s y)(hH: ∀k∈ah (F0 s),(F0 s).get k=H k)(B9: ∀x∈xs,ee (· ∈ah (F0 s)) x):
  bW cx fid f xs H (Lc (fresh (tag fid) 0) (.aJ [(true,su y.1),dyn (I y.2)])) (cI (F0 s) (cS (fresh (tag fid) 0) (F0 y.1))) (ah (F0 s)):=by
 refine Ia h (Ft s) (Ft y.1) (dz _) hH B9 (λx hx=>?_);simp only[dh,mV,mY]at hx
 grind[uz,bz]
def sH {s:bQ}{H:HF}(h1:H 5=some (.row true 1 (.view (ab s.opens))))(h2:H 7=some (.row true 1 (.view (ab s.lots))))(h3:H 9=some (.row true 17 (.view (s.units.map kz)))): ∀k∈ah (F0 s),(F0 s).get k=H k:=λk hk=>by
 have:k=5\/k=7\/k=9:=by exact acd
 exact ajp
def zu {H:HF}{fid:Nat}{s:bQ}{n:aj}(hl:s.units.length<=1000)(h5:H 5=some (.row true 1 (.view (ab s.opens))))(h7:H 7=some (.row true 1 (.view (ab s.lots))))(h9:H 9=some (.row true 17 (.view (s.units.map kz)))):
  bW cx fid 82 [(true,su s),(false,[.st (T n)])] H (.val (dyn (I (gY s n)))) [] [5,7,9]:=
 iJ (bK ⟨rfl,rfl,an (.st _)<|an (.st _)<|an (.row (by simp) h5)<|an (.st _)<|an (.row (by simp) h7)<|an (.row (by simp) h9) oK⟩ (bK (kh (.st _)) jM)) (wl s n hl) rfl ⟨rfl,rfl,rfl⟩
section
variable (E:qp)(p:Pl)(log:List En)(s:bQ)(n:List Int)(q:aj)
theorem WV {w0:aj}(hw:w0= [110,111,116,101])(a:List aj)(w:List aj):
  GS 111 [dyn (true,bU p),nK log,(true,su s),dyn (V1 (w0::w))] s (ba E p log s 0 a n q):=by
 rw[show ba E p log s 0 a n q=(s,0)from rfl];refine gH f111 ?_;exact K4
theorem aa4 {w0:aj}(hw:w0= [108,111,116])(x:aj)(hx:x.length<=1000)(hs:s.lots.length<=1000):
  GS 111 [dyn (true,bU p),nK log,(true,su s),dyn (V1 [w0,x])] s (ba E p log s 1 [x] n q):=by
 have xh: ¬w0= [110,111,116,101]:=by grind
 have c1:=pj x K0;have c2:=cX s.lots x K0;have hol:(ab s.lots).length =s.lots.length:=by simp
 have hq:ba E p log s 1 [x] n q=if eK x then(if x∈s.lots then(s,5)else if s.lots.length<12 then({s with lots:=s.lots++[x]},0)else(s,16))else(s,4):=rfl
 rw[hq];clear hq;by_cases h1:eK x
 ·rw[if_pos h1];rw[fG h1]at c1;by_cases h2:x∈s.lots
  ·rw[if_pos h2];rw[fG h2]at c2;refine gH f111 ?_;exact K4
  ·rw[if_neg h2];rw[eU h2]at c2;by_cases h3:s.lots.length<12
   ·rw[if_pos h3];refine gH f111 ?_;repeat' ((first|refine tX 0 ?_|exact Zt|refine bR ?_ ?_<;>intro h)<;>(try conv=>whnf))
    all_goals first|exact Zs|exact⟨[(5,5),(66,7),(9,9)],nJ rfl ⟨⟨5,_,by simp,rfl,rfl⟩,⟨66,_,by simp,rfl,by rw[qC];kernel_rfl⟩,⟨9,_,by simp,rfl,rfl⟩,trivial⟩,_,rfl,rfl⟩
   ·rw[if_neg h3];refine gH f111 ?_;exact K4
 ·rw[if_neg h1];rw[eU h1]at c1;refine gH f111 ?_;exact K4
theorem WW {w0:aj}(hw:w0= [117,110,105,116])(x:aj)(hx:x.length<=1000)(hs:s.units.length<=900)(hE:E.pu=NG)(hq':q.length<=100000):
  GS 111 [dyn (true,bU p),nK log,(true,su s),dyn (V1 [w0,x,q])] s (ba E p log s 2 [x] n q):=by
 have xh: ¬w0= [110,111,116,101]:=by grind
 have ID: ¬w0= [108,111,116]:=by grind
 have c1:=pj x K0;have c2:=B6 q hq';have hul:(s.units.map kz).length =s.units.length:=by simp
 have cu:=λH fid=>zu (H:=H) (fid:=fid) (s:=s) (n:=x) K0;have hq:ba E p log s 2 [x] n q=if eK x then(if x∈cT s then(s,5)else if s.units.length<6 then(if(NG q).2=0 then({s with units:=s.units++[{pX with name:=x,win:=(NG q).1}]},0)else(s,(NG q).2))else(s,16))else(s,4):=by rw[<- hE];rfl
 rw[hq];clear hq
 have hi:(x∈cT s->0<=gY s x)/\(x∉cT s->gY s x<0):=⟨λh=>by
  grind[k7,gY],λh=>by
  grind[gY,eN]⟩
 generalize gY s x=ix at*;by_cases h1:eK x
 ·rw[if_pos h1];rw[fG h1]at c1;by_cases h2:x∈cT s
  ·rw[if_pos h2];have h2':=hi.1 h2;exact K27
  ·rw[if_neg h2];have h2':=hi.2 h2;by_cases h3:s.units.length<6
   ·rw[if_pos h3];generalize NG q=z at*;obtain⟨wi,we⟩:=z;by_cases h4:we=0
    ·subst h4;rw[if_pos rfl];refine gH f111 ?_;repeat' ((first|(refine kO 7 rfl ?_;first|refine ii (λ_ z=>⟨_,_,_,(cu _ _ rfl rfl rfl),z⟩) ?_)|refine tX 0 ?_|exact Zt|refine bR ?_ ?_<;>intro h)<;>(try conv=>whnf))
     all_goals first|exact Zs|exact⟨[(5,5),(7,7),(98,9)],nJ rfl ⟨⟨5,_,by simp,rfl,rfl⟩,⟨7,_,by simp,rfl,rfl⟩,⟨98,_,by simp,rfl,by rw[wx];kernel_rfl⟩,trivial⟩,_,rfl,rfl⟩
    ·rw[if_neg h4];exact K27
   ·rw[if_neg h3];exact K27
 ·rw[if_neg h1];rw[eU h1]at c1;refine gH f111 ?_;exact K4
theorem WX {w0:aj}(hw:w0=lK)(a:List aj)(w:List aj)(hg:GS 198 [dyn (true,bU p),(true,su s),dyn (V1 (w0::w))] s (ba E p log s 4 a n q)):
  GS 111 [dyn (true,bU p),nK log,(true,su s),dyn (V1 (w0::w))] s (ba E p log s 4 a n q):=by
 have xh: ¬w0= [110,111,116,101]:=by grind
 have ID: ¬w0= [108,111,116]:=by grind
 have FL: ¬w0= [117,110,105,116]:=by grind
 have hm: ∀x'∈[dyn (true,bU p),(true,su s),dyn (V1 (w0::w))],ee (· ∈ah (F0 s)) x':=λx' AO=>by exact K63
 generalize ba E p log s 4 a n q=y at*;obtain⟨s',e⟩:=y;refine gH f111 ?_;repeat' ((first|refine tX 0 ?_|exact Zt|refine bR ?_ ?_<;>intro h)<;>(try conv=>whnf))
 all_goals try exact Zs
 repeat((first|(refine kO 7 rfl ?_;first|refine so (λ_ z=>⟨_,_,_,(vp hg (sH rfl rfl rfl) hm),z⟩) ?_)|refine tX 2 ?_|exact Zt);(try conv=>whnf))
 repeat' ((first|refine tX 0 ?_|exact Zt|refine bR ?_ ?_<;>intro h)<;>(try conv=>whnf))
 all_goals exact⟨[(fz 19 5,5),(fz 19 7,7),(fz 19 9,9)],dX rfl rfl,_,rfl,rfl⟩
theorem WY {w0:aj}(hw:w0=nn)(a:List aj)(w:List aj)(hg:GS 198 [dyn (true,bU p),(true,su s),dyn (V1 (w0::w))] s (ba E p log s 5 a n q)):
  GS 111 [dyn (true,bU p),nK log,(true,su s),dyn (V1 (w0::w))] s (ba E p log s 5 a n q):=by
 have xh: ¬w0= [110,111,116,101]:=by grind
 have ID: ¬w0= [108,111,116]:=by grind
 have FL: ¬w0= [117,110,105,116]:=by grind
 have KZ: ¬w0=lK:=by grind
 have hm: ∀x'∈[dyn (true,bU p),(true,su s),dyn (V1 (w0::w))],ee (· ∈ah (F0 s)) x':=λx' AO=>by exact K63
 generalize ba E p log s 5 a n q=y at*;obtain⟨s',e⟩:=y;refine gH f111 ?_;repeat' ((first|refine tX 0 ?_|exact Zt|refine bR ?_ ?_<;>intro h)<;>(try conv=>whnf))
 all_goals try exact Zs
 repeat((first|(refine kO 7 rfl ?_;first|refine so (λ_ z=>⟨_,_,_,(vp hg (sH rfl rfl rfl) hm),z⟩) ?_)|refine tX 2 ?_|exact Zt);(try conv=>whnf))
 repeat' ((first|refine tX 0 ?_|exact Zt|refine bR ?_ ?_<;>intro h)<;>(try conv=>whnf))
 all_goals exact⟨[(fz 21 5,5),(fz 21 7,7),(fz 21 9,9)],dX rfl rfl,_,rfl,rfl⟩
theorem Rx {w0:aj}(hw:w0=lj)(a:List aj)(w:List aj)(hg:GS 198 [dyn (true,bU p),(true,su s),dyn (V1 (w0::w))] s (ba E p log s 6 a n q)):
  GS 111 [dyn (true,bU p),nK log,(true,su s),dyn (V1 (w0::w))] s (ba E p log s 6 a n q):=by
 have xh: ¬w0= [110,111,116,101]:=by grind
 have ID: ¬w0= [108,111,116]:=by grind
 have FL: ¬w0= [117,110,105,116]:=by grind
 have KZ: ¬w0=lK:=by grind
 have RQ: ¬w0=nn:=by grind
 have hm: ∀x'∈[dyn (true,bU p),(true,su s),dyn (V1 (w0::w))],ee (· ∈ah (F0 s)) x':=λx' AO=>by exact K63
 generalize ba E p log s 6 a n q=y at*;obtain⟨s',e⟩:=y;refine gH f111 ?_;repeat' ((first|refine tX 0 ?_|exact Zt|refine bR ?_ ?_<;>intro h)<;>(try conv=>whnf))
 all_goals try exact Zs
 repeat((first|(refine kO 7 rfl ?_;first|refine so (λ_ z=>⟨_,_,_,(vp hg (sH rfl rfl rfl) hm),z⟩) ?_)|refine tX 2 ?_|exact Zt);(try conv=>whnf))
 repeat' ((first|refine tX 0 ?_|exact Zt|refine bR ?_ ?_<;>intro h)<;>(try conv=>whnf))
 all_goals exact⟨[(fz 23 5,5),(fz 23 7,7),(fz 23 9,9)],dX rfl rfl,_,rfl,rfl⟩
theorem WZ {w0:aj}(hw:w0=sv)(a:List aj)(w:List aj)(hg:GS 198 [dyn (true,bU p),(true,su s),dyn (V1 (w0::w))] s (ba E p log s 7 a n q)):
  GS 111 [dyn (true,bU p),nK log,(true,su s),dyn (V1 (w0::w))] s (ba E p log s 7 a n q):=by
 have xh: ¬w0= [110,111,116,101]:=by grind
 have ID: ¬w0= [108,111,116]:=by grind
 have FL: ¬w0= [117,110,105,116]:=by grind
 have KZ: ¬w0=lK:=by grind
 have RQ: ¬w0=nn:=by grind
 have Us: ¬w0=lj:=by grind
 have hm: ∀x'∈[dyn (true,bU p),(true,su s),dyn (V1 (w0::w))],ee (· ∈ah (F0 s)) x':=λx' AO=>by exact K63
 generalize ba E p log s 7 a n q=y at*;obtain⟨s',e⟩:=y;refine gH f111 ?_;repeat' ((first|refine tX 0 ?_|exact Zt|refine bR ?_ ?_<;>intro h)<;>(try conv=>whnf))
 all_goals try exact Zs
 repeat((first|(refine kO 7 rfl ?_;first|refine so (λ_ z=>⟨_,_,_,(vp hg (sH rfl rfl rfl) hm),z⟩) ?_)|refine tX 2 ?_|exact Zt);(try conv=>whnf))
 repeat' ((first|refine tX 0 ?_|exact Zt|refine bR ?_ ?_<;>intro h)<;>(try conv=>whnf))
 all_goals exact⟨[(fz 25 5,5),(fz 25 7,7),(fz 25 9,9)],dX rfl rfl,_,rfl,rfl⟩
theorem KK {w0:aj}(hw:w0=wj)(a:List aj)(w:List aj)(hg:GS 198 [dyn (true,bU p),(true,su s),dyn (V1 (w0::w))] s (ba E p log s 8 a n q)):
  GS 111 [dyn (true,bU p),nK log,(true,su s),dyn (V1 (w0::w))] s (ba E p log s 8 a n q):=by
 have xh: ¬w0= [110,111,116,101]:=by grind
 have ID: ¬w0= [108,111,116]:=by grind
 have FL: ¬w0= [117,110,105,116]:=by grind
 have KZ: ¬w0=lK:=by grind
 have RQ: ¬w0=nn:=by grind
 have Us: ¬w0=lj:=by grind
 have ahz: ¬w0=sv:=by grind
 have hm: ∀x'∈[dyn (true,bU p),(true,su s),dyn (V1 (w0::w))],ee (· ∈ah (F0 s)) x':=λx' AO=>by exact K63
 generalize ba E p log s 8 a n q=y at*;obtain⟨s',e⟩:=y;refine gH f111 ?_;repeat' ((first|refine tX 0 ?_|exact Zt|refine bR ?_ ?_<;>intro h)<;>(try conv=>whnf))
 all_goals try exact Zs
 repeat((first|(refine kO 7 rfl ?_;first|refine so (λ_ z=>⟨_,_,_,(vp hg (sH rfl rfl rfl) hm),z⟩) ?_)|refine tX 2 ?_|exact Zt);(try conv=>whnf))
 repeat' ((first|refine tX 0 ?_|exact Zt|refine bR ?_ ?_<;>intro h)<;>(try conv=>whnf))
 all_goals exact⟨[(fz 27 5,5),(fz 27 7,7),(fz 27 9,9)],dX rfl rfl,_,rfl,rfl⟩
theorem aa5 {w0:aj}(hw:w0=OE)(a:List aj)(w:List aj)(hg:GS 198 [dyn (true,bU p),(true,su s),dyn (V1 (w0::w))] s (ba E p log s 9 a n q)):
  GS 111 [dyn (true,bU p),nK log,(true,su s),dyn (V1 (w0::w))] s (ba E p log s 9 a n q):=by
 have xh: ¬w0= [110,111,116,101]:=by grind
 have ID: ¬w0= [108,111,116]:=by grind
 have FL: ¬w0= [117,110,105,116]:=by grind
 have KZ: ¬w0=lK:=by grind
 have RQ: ¬w0=nn:=by grind
 have Us: ¬w0=lj:=by grind
 have ahz: ¬w0=sv:=by grind
 have ahM: ¬w0=wj:=by grind
 have hm: ∀x'∈[dyn (true,bU p),(true,su s),dyn (V1 (w0::w))],ee (· ∈ah (F0 s)) x':=λx' AO=>by exact K63
 generalize ba E p log s 9 a n q=y at*;obtain⟨s',e⟩:=y;refine gH f111 ?_;repeat' ((first|refine tX 0 ?_|exact Zt|refine bR ?_ ?_<;>intro h)<;>(try conv=>whnf))
 all_goals try exact Zs
 repeat((first|(refine kO 7 rfl ?_;first|refine so (λ_ z=>⟨_,_,_,(vp hg (sH rfl rfl rfl) hm),z⟩) ?_)|refine tX 2 ?_|exact Zt);(try conv=>whnf))
 repeat' ((first|refine tX 0 ?_|exact Zt|refine bR ?_ ?_<;>intro h)<;>(try conv=>whnf))
 all_goals exact⟨[(fz 29 5,5),(fz 29 7,7),(fz 29 9,9)],dX rfl rfl,_,rfl,rfl⟩
end
end Go.Proofs.Tryz
