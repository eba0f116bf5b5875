import Derived.Test.YtackacoaaihcjaaGreatDoorPkT28
set_option linter.all false
set_option maxRecDepth 100000
set_option maxHeartbeats 8000000
namespace Go.Proofs.Tryz
open Go.Fw Go.IntWalk Go.Plain
abbrev alZ:List DC:=[.st (T []),.st (J 0),.st (J 0),.st (J 0),.st (K false),.st (J 0),.st (J 0),.st (J 0),.st (K false),.st (J 0),.nil,.nil,.st (K false),.st (K false),.st (K false),.st (J 0),.nil]
def KC (E:qH)(p:Pl)(log:List En)(s:bK)(u:Un)(q:aj)(n:List Int){w0:aj}(hw:w0= [114,101,112,97,105,114])(x y:aj)(hp:io p)(hu:u.res.length<=1000):
  GU 199 [dyn (true,bU p),nJ log,dyn (KZ s),(true,cP u 11 13 15),dyn (V1 [w0,x,y])] u (aI E p log s u 13 [x,y] n q):=by
 have IG: ¬w0= [117,115,101]:=by rw[hw];decide
 have zF: ¬w0= [101,110,116,101,114]:=by rw[hw];decide
 have CA: ¬w0= [108,101,97,118,101]:=by rw[hw];decide
 have RJ: ¬w0= [116,101,115,116]:=by rw[hw];decide
 have ct:=GB p y hp.pa;have Xj:(u.res.map kE).length =u.res.length:=by simp
 have ho:s.opens= []↔((ab s.opens).length :Int)=0:=by simp[ab]
 by_cases hy:y∈p.bd
 ·obtain⟨j,hj,e⟩:=k6 hy;have hjl:j<p.parts.length:=by simpa [Pl.bd]using hj
  have cv:=GD hp j hjl;have WZ:(jj p.aa (p.parts.getD j ([],[])).2).length <=p.aa.length:=rq _ _;have hte:=hp.te
  have hq:aI E p log s u 13 [x,y] n q=if u.rel then(u,20)else if s.hall=u.name/\s.opens= []then(u,24)else({u with res:=u.res.map (voR (jj p.aa (p.parts.getD j ([],[])).2)),failed:=false},0):=by
   have h0:0<=aZ p.bd y:=by omega
   show(if 0<=aZ p.bd y then _ else _)=_;rw[if_pos h0];simp only[Sr,Lx];rw[e,sB];rfl
  rw[hq];rw[e]at ct;clear hq;generalize jj p.aa (p.parts.getD j ([],[])).2=vd at*;by_cases h1:u.rel=true
  ·rw[if_pos h1];refine gH f199 ?_;exact UC
  ·rw[if_neg h1];by_cases hh:s.hall=u.name/\s.opens= []
   ·obtain⟨h2,h3⟩:=hh;rw[if_pos ⟨h2,h3⟩];have h4:=ho.1 h3;refine gH f199 ?_;exact K8
   ·rw[if_neg hh];have h5:s.hall=u.name->¬((ab s.opens).length :Int)=0:=λa b=>hh ⟨a,ho.2 b⟩;refine gH f199 ?_;repeat' ((first|refine tX 0 ?_|exact Zt|refine bR ?_ ?_<;>intro h)<;>(try conv=>whnf))
    all_goals try exact Zs
    all_goals
     refine af (ι:=Nat) (λk=>k<=u.res.length) (λk=>u.res.length -k) (λk=>⟨[(8,pP 0),(10,pP 1),(14,pO 2),(15,vI k)],[(0,some (.box 44 (cP u 3 4 5))),(1,some (.box 44 alZ)),(2,some (.row true 1 (.view (ab vd)))),(3,some (.row true 1 (.view (ab u.lots)))),(4,some (.row true 4 (.view ((jb u.res vd k).map kE)))),(5,some (.row true 5 (.view (u.gas.map uV))))],6⟩) 0 Zc (dC _) ?_;intro k hk;by_cases ak:k<u.res.length
     ·have he:=Kp (vd:=vd) ak;have lj:=EY (vd:=vd) ak;have uD:((jb u.res vd k).map kE).length =u.res.length:=by exact abT
      generalize u.res.getD k BT=rr at*;obtain⟨rt,ra,re,rv⟩:=rr;have he:((jb u.res vd k).map kE)[k]? =some [T rt,J ra,J re,K rv]:=he;have cc:=cj vd rt K0;by_cases hm:rt∈vd
      ·rw[fH hm]at cc
       have lj:((jb u.res vd k).map kE).set k [T rt,J ra,J re,K true]=(jb u.res vd (k+1)).map kE:=by
        rw[<- lj];show _=List.set _ k [T rt,J ra,J re,K (rv || decide (rt∈vd))];rw[fH hm,Bool.or_true]
       repeat' ((first|refine tX 0 ?_|exact Zt|refine bR ?_ ?_<;>intro h)<;>(try conv=>whnf))
       all_goals first|exact Zo|exact⟨k+1,ak,by omega,ai ajP⟩
      ·rw[eT hm]at cc
       have lj:(jb u.res vd (k+1)).map kE=(jb u.res vd k).map kE:=by
        rw[<- lj];have h:=(kl.1 he).2;show List.set _ k [T rt,J ra,J re,K (rv || decide (rt∈vd))]=_;rw[eT hm,AP,<- h,Lv]
       repeat' ((first|refine tX 0 ?_|exact Zt|refine bR ?_ ?_<;>intro h)<;>(try conv=>whnf))
       all_goals first|exact Zo|exact⟨k+1,ak,by omega,ai (by(conv=>rhs;rw[lj]);kernel_rfl)⟩
     ·obtain rfl:k=u.res.length:=by omega
      have uD:((jb u.res vd u.res.length).map kE).length =u.res.length:=by exact abT
      rw[N5]at uD ⊢;repeat' ((first|refine tX 0 ?_|exact Zt|refine bR ?_ ?_<;>intro h)<;>(try conv=>whnf))
      all_goals first|exact Zo|exact⟨[(3,11),(4,13),(5,15)],dU rfl rfl,_,rfl,rfl⟩
 ·rw[fp hy]at ct
  have hq:aI E p log s u 13 [x,y] n q=(u,6):=by
   show(if 0<=aZ p.bd y then _ else _)=_;rw[fp hy,if_neg K9]
  rw[hq];refine gH f199 ?_;exact UC
abbrev GS (f:FuncId)(xs:List DX)(s:bK)(y:bK × Int):Prop:=bt cx f 1 xs (F0 s) [] (.aJ [(true,rQ y.1),dyn (I y.2)]) (F0 y.1)
abbrev m0:List (Nat × Nat):=[(5,5),(7,7),(9,9)]
abbrev lJ:aj:=[111,112,101,110]
abbrev nk:aj:=[115,104,117,116]
abbrev lf:aj:=[101,97,114,116,104]
abbrev sn:aj:=[108,105,102,116]
abbrev wt:aj:=[118,111,108,116,97,103,101]
abbrev Ox:aj:=[111,102,102]
section
variable (E:qH)(p:Pl)(log:List En)(s:bK)(n:List Int)(q:aj)
theorem Ix {w0:aj}(hw:w0=lJ)(x:aj)(hg:p.ap.length<=1000)(hs:s.opens.length<=1000):
  GS 198 [dyn (true,bU p),(true,rQ s),dyn (V1 [w0,x])] s (ba E p log s 4 [x] n q):=by
 have c1:=cj p.ap x K0;have c2:=cj s.opens x K0;have hol:(ab s.opens).length =s.opens.length:=by simp
 have hq:ba E p log s 4 [x] n q=if x∈p.ap then(if x∈s.opens then(s,20)else if s.volt=false/\s.earth=true then({s with opens:=s.opens++[x]},0)else(s,24))else(s,6):=rfl
 rw[hq];clear hq;by_cases h1:x∈p.ap
 ·rw[if_pos h1];rw[fH h1]at c1;by_cases h2:x∈s.opens
  ·rw[if_pos h2];rw[fH h2]at c2;refine gH f198 ?_;exact K4
  ·rw[if_neg h2];rw[eT h2]at c2;by_cases h3:s.volt=false/\s.earth=true
   ·rw[if_pos h3];obtain⟨h4,h5⟩:=h3;refine gH f198 ?_;repeat' ((first|refine tX 0 ?_|exact Zt|refine bR ?_ ?_<;>intro h)<;>(try conv=>whnf))
    all_goals first|exact Zs|exact⟨[(90,5),(7,7),(9,9)],nI rfl ⟨⟨90,_,by simp,rfl,by rw[qx];kernel_rfl⟩,⟨7,_,by simp,rfl,rfl⟩,⟨9,_,by simp,rfl,rfl⟩,trivial⟩,_,rfl,rfl⟩
   ·rw[if_neg h3];refine gH f198 ?_;exact K4
 ·rw[if_neg h1];rw[eT h1]at c1;refine gH f198 ?_;exact K4
theorem Oy {l:List aj}{x:aj}{i:Nat}(h:i<l.length):(l.take (i+1)).filter (λy=> !(y==x))=(l.take i).filter (λy=> !(y==x))++(if l.getD i []=x then []else [l.getD i []]):=by
 rw[take_succ h,Sv];congr 1;generalize l.getD i []=v;by_cases e:v=x
 ·rw[if_pos e];simp[e]
 ·rw[if_neg e];simp[e]
theorem WD {w0:aj}(hw:w0=nk)(x:aj)(hg:p.ap.length<=1000)(hs:s.opens.length<=1000)(hn:s.opens.Nodup):
  GS 198 [dyn (true,bU p),(true,rQ s),dyn (V1 [w0,x])] s (ba E p log s 5 [x] n q):=by
 have no: ¬w0=lJ:=by rw[hw];decide
 have c1:=cj p.ap x K0;have c2:=cj s.opens x K0;have hol:(ab s.opens).length =s.opens.length:=by simp
 have hq:ba E p log s 5 [x] n q=if x∈p.ap then(if x∈s.opens then({s with opens:=s.opens.erase x},0)else(s,20))else(s,6):=rfl
 rw[hq];clear hq;by_cases h1:x∈p.ap
 ·rw[if_pos h1];rw[fH h1]at c1;by_cases h2:x∈s.opens
  ·rw[if_pos h2];rw[fH h2]at c2;have her:s.opens.erase x=s.opens.filter (λy=> !(y==x)):=hn.erase_eq_filter x;rw[her];refine gH f198 ?_;repeat' ((first|refine tX 0 ?_|exact Zt|refine bR ?_ ?_<;>intro h)<;>(try conv=>whnf))
   all_goals try exact Zs
   all_goals
    refine af (ι:=Nat) (λi=>i<=s.opens.length) (λi=>s.opens.length -i) (λi=>⟨[(2,some (.val (false,[.st (.view (ab [w0,x]))]))),(4,pP 0),(6,pP 1),(8,pO 2),(9,vI i)],[(0,some (.box 58 [.st (K s.volt),.st (K s.earth),.own 3,.st (T s.hall),.own 4,.own 5])),(1,some (.box 58 [.st (K false),.st (K false),.nil,.st (T []),.nil,.nil])),(2,some (.row true 1 (.view (ab ((s.opens.take i).filter λy=> !(y==x)))))),(3,some (.row true 1 (.view (ab s.opens)))),(4,some (.row true 1 (.view (ab s.lots)))),(5,some (.row true 17 (.view (s.units.map jQ))))],6⟩) 0 (bs.trans (jz 8 1 (.view []) K9 rfl rfl rfl) Zc) (dC _) ?_;intro i hi;by_cases ak:i<s.opens.length
    ·have he:=sA ak;have hft:=Oy (x:=x) ak;have oe:((s.opens.take i).filter λy=> !(y==x)).length <=i:=o3 (UA _ _) wG;generalize (s.opens.take i).filter (λy=> !(y==x))=out at*;generalize s.opens.getD i []=y at*;have hou:(ab out).length =out.length:=by simp
     by_cases hyx:y=x
     ·rw[if_pos hyx,zP]at hft;repeat' ((first|refine tX 0 ?_|exact Zt|refine bR ?_ ?_<;>intro h)<;>(try conv=>whnf))
      all_goals first|exact Ze|exact⟨i+1,ak,by omega,ai (by rw[hft];kernel_rfl)⟩
     ·rw[if_neg hyx]at hft;repeat' ((first|refine tX 0 ?_|exact Zt|refine bR ?_ ?_<;>intro h)<;>(try conv=>whnf))
      all_goals first|exact Ze|exact⟨i+1,ak,by omega,ai (by rw[hft,qx];kernel_rfl)⟩
    ·obtain rfl:i=s.opens.length:=by omega
     rw[lu];repeat' ((first|refine tX 0 ?_|exact Zt|refine bR ?_ ?_<;>intro h)<;>(try conv=>whnf))
     all_goals first|exact Ze|exact⟨[(2,5),(4,7),(5,9)],dU rfl rfl,_,rfl,rfl⟩
  ·rw[if_neg h2];rw[eT h2]at c2;refine gH f198 ?_;exact K4
 ·rw[if_neg h1];rw[eT h1]at c1;refine gH f198 ?_;exact K4
theorem Rj {w0:aj}(hw:w0=lf)(a:List aj)(w:List aj):
  GS 198 [dyn (true,bU p),(true,rQ s),dyn (V1 (w0::w))] s (ba E p log s 6 a n q):=by
 have n0: ¬w0=lJ:=by rw[hw];decide
 have n1: ¬w0=nk:=by rw[hw];decide
 have ho:s.opens= []↔((ab s.opens).length :Int)=0:=by simp[ab]
 have hq:ba E p log s 6 a n q=if s.earth then(s,20)else if s.volt then(s,24)else({s with earth:=true},0):=rfl
 rw[hq];clear hq;by_cases h1:s.earth=true
 ·rw[if_pos h1];refine gH f198 ?_;exact K4
 ·rw[if_neg h1];by_cases h2:s.volt=true
  ·rw[if_pos h2];refine gH f198 ?_;exact K4
  ·rw[if_neg h2];refine gH f198 ?_;exact K4
theorem WE {w0:aj}(hw:w0=sn)(a:List aj)(w:List aj):
  GS 198 [dyn (true,bU p),(true,rQ s),dyn (V1 (w0::w))] s (ba E p log s 7 a n q):=by
 have n0: ¬w0=lJ:=by rw[hw];decide
 have n1: ¬w0=nk:=by rw[hw];decide
 have n2: ¬w0=lf:=by rw[hw];decide
 have ho:s.opens= []↔((ab s.opens).length :Int)=0:=by simp[ab]
 have hq:ba E p log s 7 a n q=if s.earth then(if s.opens= []then({s with earth:=false},0)else(s,24))else(s,20):=rfl
 rw[hq];clear hq;by_cases h1:s.earth=true
 ·rw[if_pos h1];by_cases h2:s.opens= []
  ·rw[if_pos h2];have h4:=ho.1 h2;refine gH f198 ?_;exact K4
  ·rw[if_neg h2];have h4: ¬((ab s.opens).length :Int)=0:=λh=>h2 (ho.2 h);refine gH f198 ?_;exact K4
 ·rw[if_neg h1];refine gH f198 ?_;exact K4
theorem KD {w0:aj}(hw:w0=wt)(a:List aj)(w:List aj):
  GS 198 [dyn (true,bU p),(true,rQ s),dyn (V1 (w0::w))] s (ba E p log s 8 a n q):=by
 have n0: ¬w0=lJ:=by rw[hw];decide
 have n1: ¬w0=nk:=by rw[hw];decide
 have n2: ¬w0=lf:=by rw[hw];decide
 have n3: ¬w0=sn:=by rw[hw];decide
 have ho:s.opens= []↔((ab s.opens).length :Int)=0:=by simp[ab]
 have hq:ba E p log s 8 a n q=if s.volt then(s,20)else if s.opens= []/\s.earth=false then({s with volt:=true},0)else(s,24):=rfl
 rw[hq];clear hq;by_cases h1:s.volt=true
 ·rw[if_pos h1];refine gH f198 ?_;exact K4
 ·rw[if_neg h1];by_cases h2:s.opens= []/\s.earth=false
  ·rw[if_pos h2];obtain⟨h3,h5⟩:=h2;have h4:=ho.1 h3;refine gH f198 ?_;exact K4
  ·rw[if_neg h2];by_cases h3:s.opens= []
   ·have h4:=ho.1 h3;have h5:s.earth=true:=by cases h:s.earth with|true=>rfl|false=>exact absurd ⟨h3,h⟩ h2
    refine gH f198 ?_;exact K4
   ·have h4: ¬((ab s.opens).length :Int)=0:=λh=>h3 (ho.2 h);refine gH f198 ?_;exact K4
theorem aaU {w0:aj}(hw:w0=Ox)(a:List aj)(w:List aj):
  GS 198 [dyn (true,bU p),(true,rQ s),dyn (V1 (w0::w))] s (ba E p log s 9 a n q):=by
 have n0: ¬w0=lJ:=by rw[hw];decide
 have n1: ¬w0=nk:=by rw[hw];decide
 have n2: ¬w0=lf:=by rw[hw];decide
 have n3: ¬w0=sn:=by rw[hw];decide
 have n4: ¬w0=wt:=by rw[hw];decide
 have ho:s.opens= []↔((ab s.opens).length :Int)=0:=by simp[ab]
 have hq:ba E p log s 9 a n q=if s.volt then({s with volt:=false},0)else(s,20):=rfl
 rw[hq];clear hq;by_cases h1:s.volt=true
 ·rw[if_pos h1];refine gH f198 ?_;exact K4
 ·rw[if_neg h1];refine gH f198 ?_;exact K4
end
def wv (s:bK)(n:aj)(hl:s.units.length<=1000):ad 82 [(true,vz s),SS n] (.one (I (gY s n))):=by
 have hn:(s.units.map jQ).length =s.units.length:=by simp
 have zI:(cT s).length =s.units.length:=by simp[cT]
 have W9:gY s n=aZ (cT s) n:=rfl;rw[W9];refine sF f82 ?_
 (try(refine tX 0 ?_;try exact Zt))
 refine af (ι:=Nat) (λi=>i<=s.units.length/\n∉(cT s).take i) (λi=>s.units.length -i) (λi=>⟨[(1,lS n),(2,pP 0),(5,vI i)],[(0,some (.box 58 ((vz s).map .st)))],1⟩) 0 Zc ⟨dC _,by simp⟩ ?_;rintro i ⟨hi,dx⟩;by_cases ak:i<s.units.length
 ·have he:=bg (f:=jQ) ak o6;have hg:(cT s).getD i []=(s.units.getD i o6).name :=by grind[cT]
  have nK:=λe=>mM (l:=cT s) (x:=n) (i:=i) K0 e dx;have FF:=iL (l:=cT s) (i:=i) (x:=n) K0;rw[hg]at nK FF;generalize s.units.getD i o6=u at*;by_cases hx:u.name=n
  ·rw[nK hx];exact tB0
  ·repeat' ((first|refine tX 0 ?_|exact Zt|refine bR ?_ ?_<;>intro h)<;>(try conv=>whnf))
   all_goals first|exact Ze|exact⟨i+1,⟨ak,λhm=>(FF.1 hm).elim dx λe=>hx e.symm⟩,by omega,Zc⟩
 ·obtain rfl:i=s.units.length:=by omega
  rw[o0 K0]at dx;exact ab8
def Fs (s:bK):Mz (F0 s):=by
 refine⟨by simp[F0],λk hk=>?_,λk b e=>?_⟩
 ·have:k=5\/k=7\/k=9:=by exact ab6
  rcases this with rfl|rfl|rfl<;>exact⟨by decide,by decide,rfl⟩
 ·have hk:=Hp.dS e;have:k=5\/k=7\/k=9:=by exact ab6
  rcases this with rfl|rfl|rfl<;>(cases e;trivial)
theorem uA (s:bK):dY (· ∈ah (F0 s)) (true,rQ s):=by
 intro d hd;simp only[rQ,cQ,mA,mB]at hd;rcases hd with rfl|rfl|rfl|rfl|rfl|rfl<;>first|trivial|(show _∈ah _;simp[F0])
def vq {H:HF}{fid:Nat}{f:FuncId}{xs:List DX}{s:bK}{y:bK × Int}(h:GS f xs s y)(hH: ∀k∈ah (F0 s),(F0 s).get k=H k)(B6: ∀x∈xs,dY (· ∈ah (F0 s)) x):
  bN cx fid f xs H (KV (fresh (tag fid) 0) (.aJ [(true,rQ y.1),dyn (I y.2)])) (cC (F0 s) (cN (fresh (tag fid) 0) (F0 y.1))) (ah (F0 s)):=by
 refine H9 h (Fs s) (Fs y.1) (dw _) hH B6 (λx hx=>?_);simp only[cQ,mA,mB]at hx
 grind[uA,bA]
def sH {s:bK}{H:HF}(h1:H 5=some (.row true 1 (.view (ab s.opens))))(h2:H 7=some (.row true 1 (.view (ab s.lots))))(h3:H 9=some (.row true 17 (.view (s.units.map jQ)))): ∀k∈ah (F0 s),(F0 s).get k=H k:=λk hk=>by
 have:k=5\/k=7\/k=9:=by exact ab6
 exact ajo
def zl {H:HF}{fid:Nat}{s:bK}{n:aj}(hl:s.units.length<=1000)(h5:H 5=some (.row true 1 (.view (ab s.opens))))(h7:H 7=some (.row true 1 (.view (ab s.lots))))(h9:H 9=some (.row true 17 (.view (s.units.map jQ)))):
  bN cx fid 82 [(true,rQ s),(false,[.st (T n)])] H (.val (dyn (I (gY s n)))) [] [5,7,9]:=
 iI (bx ⟨rfl,rfl,al (.st _)<|al (.st _)<|al (.row (by simp) h5)<|al (.st _)<|al (.row (by simp) h7)<|al (.row (by simp) h9) lY⟩ (bx (kc (.st _)) iW)) (wv s n hl) rfl ⟨rfl,rfl,rfl⟩
section
variable (E:qH)(p:Pl)(log:List En)(s:bK)(n:List Int)(q:aj)
theorem WF {w0:aj}(hw:w0= [110,111,116,101])(a:List aj)(w:List aj):
  GS 111 [dyn (true,bU p),nJ log,(true,rQ s),dyn (V1 (w0::w))] s (ba E p log s 0 a n q):=by
 rw[show ba E p log s 0 a n q=(s,0)from rfl];refine gH f111 ?_;exact K4
theorem aaV {w0:aj}(hw:w0= [108,111,116])(x:aj)(hx:x.length<=1000)(hs:s.lots.length<=1000):
  GS 111 [dyn (true,bU p),nJ log,(true,rQ s),dyn (V1 [w0,x])] s (ba E p log s 1 [x] n q):=by
 have xu: ¬w0= [110,111,116,101]:=by grind
 have c1:=pl x K0;have c2:=cj s.lots x K0;have hol:(ab s.lots).length =s.lots.length:=by simp
 have hq:ba E p log s 1 [x] n q=if eK x then(if x∈s.lots then(s,5)else if s.lots.length<12 then({s with lots:=s.lots++[x]},0)else(s,16))else(s,4):=rfl
 rw[hq];clear hq;by_cases h1:eK x
 ·rw[if_pos h1];rw[fH h1]at c1;by_cases h2:x∈s.lots
  ·rw[if_pos h2];rw[fH h2]at c2;refine gH f111 ?_;exact K4
  ·rw[if_neg h2];rw[eT h2]at c2;by_cases h3:s.lots.length<12
   ·rw[if_pos h3];refine gH f111 ?_;repeat' ((first|refine tX 0 ?_|exact Zt|refine bR ?_ ?_<;>intro h)<;>(try conv=>whnf))
    all_goals first|exact Zs|exact⟨[(5,5),(66,7),(9,9)],nI rfl ⟨⟨5,_,by simp,rfl,rfl⟩,⟨66,_,by simp,rfl,by rw[qx];kernel_rfl⟩,⟨9,_,by simp,rfl,rfl⟩,trivial⟩,_,rfl,rfl⟩
   ·rw[if_neg h3];refine gH f111 ?_;exact K4
 ·rw[if_neg h1];rw[eT h1]at c1;refine gH f111 ?_;exact K4
theorem WG {w0:aj}(hw:w0= [117,110,105,116])(x:aj)(hx:x.length<=1000)(hs:s.units.length<=900)(hE:E.pu=H7)(hq':q.length<=100000):
  GS 111 [dyn (true,bU p),nJ log,(true,rQ s),dyn (V1 [w0,x,q])] s (ba E p log s 2 [x] n q):=by
 have xu: ¬w0= [110,111,116,101]:=by grind
 have II: ¬w0= [108,111,116]:=by grind
 have c1:=pl x K0;have c2:=B0 q hq';have hul:(s.units.map jQ).length =s.units.length:=by simp
 have cu:=λH fid=>zl (H:=H) (fid:=fid) (s:=s) (n:=x) K0;have hq:ba E p log s 2 [x] n q=if eK x then(if x∈cT s then(s,5)else if s.units.length<6 then(if(H7 q).2=0 then({s with units:=s.units++[{o6 with name:=x,win:=(H7 q).1}]},0)else(s,(H7 q).2))else(s,16))else(s,4):=by rw[<- hE];rfl
 rw[hq];clear hq
 have hi:(x∈cT s->0<=gY s x)/\(x∉cT s->gY s x<0):=⟨λh=>by
  grind[k6,gY],λh=>by
  grind[gY,fp]⟩
 generalize gY s x=ix at*;by_cases h1:eK x
 ·rw[if_pos h1];rw[fH h1]at c1;by_cases h2:x∈cT s
  ·rw[if_pos h2];have h2':=hi.1 h2;exact K27
  ·rw[if_neg h2];have h2':=hi.2 h2;by_cases h3:s.units.length<6
   ·rw[if_pos h3];generalize H7 q=z at*;obtain⟨wi,we⟩:=z;by_cases h4:we=0
    ·subst h4;rw[if_pos rfl];refine gH f111 ?_;repeat' ((first|(refine kO 7 rfl ?_;first|refine ij (λ_ z=>⟨_,_,_,(cu _ _ rfl rfl rfl),z⟩) ?_)|refine tX 0 ?_|exact Zt|refine bR ?_ ?_<;>intro h)<;>(try conv=>whnf))
     all_goals first|exact Zs|exact⟨[(5,5),(7,7),(98,9)],nI rfl ⟨⟨5,_,by simp,rfl,rfl⟩,⟨7,_,by simp,rfl,rfl⟩,⟨98,_,by simp,rfl,by rw[wD];kernel_rfl⟩,trivial⟩,_,rfl,rfl⟩
    ·rw[if_neg h4];exact K27
   ·rw[if_neg h3];exact K27
 ·rw[if_neg h1];rw[eT h1]at c1;refine gH f111 ?_;exact K4
theorem WH {w0:aj}(hw:w0=lJ)(a:List aj)(w:List aj)(hg:GS 198 [dyn (true,bU p),(true,rQ s),dyn (V1 (w0::w))] s (ba E p log s 4 a n q)):
  GS 111 [dyn (true,bU p),nJ log,(true,rQ s),dyn (V1 (w0::w))] s (ba E p log s 4 a n q):=by
 have xu: ¬w0= [110,111,116,101]:=by grind
 have II: ¬w0= [108,111,116]:=by grind
 have FI: ¬w0= [117,110,105,116]:=by grind
 have hm: ∀x'∈[dyn (true,bU p),(true,rQ s),dyn (V1 (w0::w))],dY (· ∈ah (F0 s)) x':=λx' AN=>by exact K63
 generalize ba E p log s 4 a n q=y at*;obtain⟨s',e⟩:=y;refine gH f111 ?_;repeat' ((first|refine tX 0 ?_|exact Zt|refine bR ?_ ?_<;>intro h)<;>(try conv=>whnf))
 all_goals try exact Zs
 repeat((first|(refine kO 7 rfl ?_;first|refine se (λ_ z=>⟨_,_,_,(vq hg (sH rfl rfl rfl) hm),z⟩) ?_)|refine tX 2 ?_|exact Zt);(try conv=>whnf))
 repeat' ((first|refine tX 0 ?_|exact Zt|refine bR ?_ ?_<;>intro h)<;>(try conv=>whnf))
 all_goals exact⟨[(fz 19 5,5),(fz 19 7,7),(fz 19 9,9)],dU rfl rfl,_,rfl,rfl⟩
theorem WI {w0:aj}(hw:w0=nk)(a:List aj)(w:List aj)(hg:GS 198 [dyn (true,bU p),(true,rQ s),dyn (V1 (w0::w))] s (ba E p log s 5 a n q)):
  GS 111 [dyn (true,bU p),nJ log,(true,rQ s),dyn (V1 (w0::w))] s (ba E p log s 5 a n q):=by
 have xu: ¬w0= [110,111,116,101]:=by grind
 have II: ¬w0= [108,111,116]:=by grind
 have FI: ¬w0= [117,110,105,116]:=by grind
 have KP: ¬w0=lJ:=by grind
 have hm: ∀x'∈[dyn (true,bU p),(true,rQ s),dyn (V1 (w0::w))],dY (· ∈ah (F0 s)) x':=λx' AN=>by exact K63
 generalize ba E p log s 5 a n q=y at*;obtain⟨s',e⟩:=y;refine gH f111 ?_;repeat' ((first|refine tX 0 ?_|exact Zt|refine bR ?_ ?_<;>intro h)<;>(try conv=>whnf))
 all_goals try exact Zs
 repeat((first|(refine kO 7 rfl ?_;first|refine se (λ_ z=>⟨_,_,_,(vq hg (sH rfl rfl rfl) hm),z⟩) ?_)|refine tX 2 ?_|exact Zt);(try conv=>whnf))
 repeat' ((first|refine tX 0 ?_|exact Zt|refine bR ?_ ?_<;>intro h)<;>(try conv=>whnf))
 all_goals exact⟨[(fz 21 5,5),(fz 21 7,7),(fz 21 9,9)],dU rfl rfl,_,rfl,rfl⟩
theorem Rk {w0:aj}(hw:w0=lf)(a:List aj)(w:List aj)(hg:GS 198 [dyn (true,bU p),(true,rQ s),dyn (V1 (w0::w))] s (ba E p log s 6 a n q)):
  GS 111 [dyn (true,bU p),nJ log,(true,rQ s),dyn (V1 (w0::w))] s (ba E p log s 6 a n q):=by
 have xu: ¬w0= [110,111,116,101]:=by grind
 have II: ¬w0= [108,111,116]:=by grind
 have FI: ¬w0= [117,110,105,116]:=by grind
 have KP: ¬w0=lJ:=by grind
 have RO: ¬w0=nk:=by grind
 have hm: ∀x'∈[dyn (true,bU p),(true,rQ s),dyn (V1 (w0::w))],dY (· ∈ah (F0 s)) x':=λx' AN=>by exact K63
 generalize ba E p log s 6 a n q=y at*;obtain⟨s',e⟩:=y;refine gH f111 ?_;repeat' ((first|refine tX 0 ?_|exact Zt|refine bR ?_ ?_<;>intro h)<;>(try conv=>whnf))
 all_goals try exact Zs
 repeat((first|(refine kO 7 rfl ?_;first|refine se (λ_ z=>⟨_,_,_,(vq hg (sH rfl rfl rfl) hm),z⟩) ?_)|refine tX 2 ?_|exact Zt);(try conv=>whnf))
 repeat' ((first|refine tX 0 ?_|exact Zt|refine bR ?_ ?_<;>intro h)<;>(try conv=>whnf))
 all_goals exact⟨[(fz 23 5,5),(fz 23 7,7),(fz 23 9,9)],dU rfl rfl,_,rfl,rfl⟩
theorem WJ {w0:aj}(hw:w0=sn)(a:List aj)(w:List aj)(hg:GS 198 [dyn (true,bU p),(true,rQ s),dyn (V1 (w0::w))] s (ba E p log s 7 a n q)):
  GS 111 [dyn (true,bU p),nJ log,(true,rQ s),dyn (V1 (w0::w))] s (ba E p log s 7 a n q):=by
 have xu: ¬w0= [110,111,116,101]:=by grind
 have II: ¬w0= [108,111,116]:=by grind
 have FI: ¬w0= [117,110,105,116]:=by grind
 have KP: ¬w0=lJ:=by grind
 have RO: ¬w0=nk:=by grind
 have Up: ¬w0=lf:=by grind
 have hm: ∀x'∈[dyn (true,bU p),(true,rQ s),dyn (V1 (w0::w))],dY (· ∈ah (F0 s)) x':=λx' AN=>by exact K63
 generalize ba E p log s 7 a n q=y at*;obtain⟨s',e⟩:=y;refine gH f111 ?_;repeat' ((first|refine tX 0 ?_|exact Zt|refine bR ?_ ?_<;>intro h)<;>(try conv=>whnf))
 all_goals try exact Zs
 repeat((first|(refine kO 7 rfl ?_;first|refine se (λ_ z=>⟨_,_,_,(vq hg (sH rfl rfl rfl) hm),z⟩) ?_)|refine tX 2 ?_|exact Zt);(try conv=>whnf))
 repeat' ((first|refine tX 0 ?_|exact Zt|refine bR ?_ ?_<;>intro h)<;>(try conv=>whnf))
 all_goals exact⟨[(fz 25 5,5),(fz 25 7,7),(fz 25 9,9)],dU rfl rfl,_,rfl,rfl⟩
theorem KE {w0:aj}(hw:w0=wt)(a:List aj)(w:List aj)(hg:GS 198 [dyn (true,bU p),(true,rQ s),dyn (V1 (w0::w))] s (ba E p log s 8 a n q)):
  GS 111 [dyn (true,bU p),nJ log,(true,rQ s),dyn (V1 (w0::w))] s (ba E p log s 8 a n q):=by
 have xu: ¬w0= [110,111,116,101]:=by grind
 have II: ¬w0= [108,111,116]:=by grind
 have FI: ¬w0= [117,110,105,116]:=by grind
 have KP: ¬w0=lJ:=by grind
 have RO: ¬w0=nk:=by grind
 have Up: ¬w0=lf:=by grind
 have ahm: ¬w0=sn:=by grind
 have hm: ∀x'∈[dyn (true,bU p),(true,rQ s),dyn (V1 (w0::w))],dY (· ∈ah (F0 s)) x':=λx' AN=>by exact K63
 generalize ba E p log s 8 a n q=y at*;obtain⟨s',e⟩:=y;refine gH f111 ?_;repeat' ((first|refine tX 0 ?_|exact Zt|refine bR ?_ ?_<;>intro h)<;>(try conv=>whnf))
 all_goals try exact Zs
 repeat((first|(refine kO 7 rfl ?_;first|refine se (λ_ z=>⟨_,_,_,(vq hg (sH rfl rfl rfl) hm),z⟩) ?_)|refine tX 2 ?_|exact Zt);(try conv=>whnf))
 repeat' ((first|refine tX 0 ?_|exact Zt|refine bR ?_ ?_<;>intro h)<;>(try conv=>whnf))
 all_goals exact⟨[(fz 27 5,5),(fz 27 7,7),(fz 27 9,9)],dU rfl rfl,_,rfl,rfl⟩
theorem aaW {w0:aj}(hw:w0=Ox)(a:List aj)(w:List aj)(hg:GS 198 [dyn (true,bU p),(true,rQ s),dyn (V1 (w0::w))] s (ba E p log s 9 a n q)):
  GS 111 [dyn (true,bU p),nJ log,(true,rQ s),dyn (V1 (w0::w))] s (ba E p log s 9 a n q):=by
 have xu: ¬w0= [110,111,116,101]:=by grind
 have II: ¬w0= [108,111,116]:=by grind
 have FI: ¬w0= [117,110,105,116]:=by grind
 have KP: ¬w0=lJ:=by grind
 have RO: ¬w0=nk:=by grind
 have Up: ¬w0=lf:=by grind
 have ahm: ¬w0=sn:=by grind
 have ahJ: ¬w0=wt:=by grind
 have hm: ∀x'∈[dyn (true,bU p),(true,rQ s),dyn (V1 (w0::w))],dY (· ∈ah (F0 s)) x':=λx' AN=>by exact K63
 generalize ba E p log s 9 a n q=y at*;obtain⟨s',e⟩:=y;refine gH f111 ?_;repeat' ((first|refine tX 0 ?_|exact Zt|refine bR ?_ ?_<;>intro h)<;>(try conv=>whnf))
 all_goals try exact Zs
 repeat((first|(refine kO 7 rfl ?_;first|refine se (λ_ z=>⟨_,_,_,(vq hg (sH rfl rfl rfl) hm),z⟩) ?_)|refine tX 2 ?_|exact Zt);(try conv=>whnf))
 repeat' ((first|refine tX 0 ?_|exact Zt|refine bR ?_ ?_<;>intro h)<;>(try conv=>whnf))
 all_goals exact⟨[(fz 29 5,5),(fz 29 7,7),(fz 29 9,9)],dU rfl rfl,_,rfl,rfl⟩
end
end Go.Proofs.Tryz
