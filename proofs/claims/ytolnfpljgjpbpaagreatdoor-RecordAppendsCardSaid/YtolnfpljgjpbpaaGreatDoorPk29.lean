import Derived.Test.YtolnfpljgjpbpaaGreatDoorPk28
set_option linter.all false
namespace Go.Proofs.Tryz
open Go.Fw Go.IntWalk Go.Plain
set_option maxRecDepth 100000
set_option maxHeartbeats 8000000
abbrev alw:List DC:=[.st (T []),.st (J 0),.st (J 0),.st (J 0),.st (K false),.st (J 0),.st (J 0),.st (J 0),.st (K false),.st (J 0),.nil,.nil,.st (K false),.st (K false),.st (K false),.st (J 0),.nil]
def K9 (E:to)(p:Pl)(log:List En)(s:bV)(u:Un)(q:aj)(n:List Int){w0:aj}(hw:w0= [114,101,112,97,105,114])(x y:aj)(hp:gz p)(hu:u.res.length<=1000):
  GU 136 [dyn (true,bL p),nN log,dyn (LF s),(true,cV u 11 13 15),dyn (V1 [w0,x,y])] u (aQ E p log s u 13 [x,y] n q):=by
 have I8: ¬w0= [117,115,101]:=by rw[hw];decide
 have zY: ¬w0= [101,110,116,101,114]:=by rw[hw];decide
 have CZ: ¬w0= [108,101,97,118,101]:=by rw[hw];decide
 have Sa: ¬w0= [116,101,115,116]:=by rw[hw];decide
 have ct:=Hd p y hp.pa;have hrl:(u.res.map kg).length =u.res.length:=by simp
 have ho:s.opens= []↔((ab s.opens).length :Int)=0:=by simp[ab]
 by_cases hy:y∈p.ba
 ·obtain⟨j,hj,e⟩:=k9 hy;have hjl:j<p.parts.length:=by simpa [Pl.ba]using hj
  have cv:=Hg hp j hjl;have PP:(jk p.aa (p.parts.getD j ([],[])).2).length <=p.aa.length:=rM _ _;have hte:=hp.te
  have hq:aQ E p log s u 13 [x,y] n q=if u.rel then(u,20)else if s.hall=u.name/\s.opens= []then(u,24)else({u with res:=u.res.map (voR (jk p.aa (p.parts.getD j ([],[])).2)),failed:=false},0):=by
   have h0:0<=be p.ba y:=by omega
   show(if 0<=be p.ba y then _ else _)=_;rw[if_pos h0];simp only[SN,L6];rw[e,tK];rfl
  rw[hq];rw[e]at ct;clear hq;generalize jk p.aa (p.parts.getD j ([],[])).2=vd at*;by_cases h1:u.rel=true
  ·rw[if_pos h1];refine gH f136 ?_;exact K7
  ·rw[if_neg h1];by_cases hh:s.hall=u.name/\s.opens= []
   ·obtain⟨h2,h3⟩:=hh;rw[if_pos ⟨h2,h3⟩];have h4:=ho.1 h3;refine gH f136 ?_;exact K6
   ·rw[if_neg hh];have h5:s.hall=u.name->¬((ab s.opens).length :Int)=0:=λa b=>hh ⟨a,ho.2 b⟩;refine gH f136 ?_;repeat' ((first|refine tX 0 ?_|exact Zt|refine bR ?_ ?_<;>intro h)<;>(try conv=>whnf))
    all_goals try exact Zs
    all_goals
     refine af (ι:=Nat) (λk=>k<=u.res.length) (λk=>u.res.length -k) (λk=>⟨[(8,pP 0),(10,pP 1),(14,pO 2),(15,vI k)],[(0,some (.box 94 (cV u 3 4 5))),(1,some (.box 94 alw)),(2,some (.row true 1 (.view (ab vd)))),(3,some (.row true 1 (.view (ab u.lots)))),(4,some (.row true 4 (.view ((i8 u.res vd k).map kg)))),(5,some (.row true 5 (.view (u.gas.map tp))))],6⟩) 0 Zc (dz _) ?_;intro k hk;by_cases al:k<u.res.length
     ·have he:=KO (vd:=vd) al;have nq:=Fr (vd:=vd) al;have sC:((i8 u.res vd k).map kg).length =u.res.length:=by exact acb
      generalize u.res.getD k AC=rr at*;obtain⟨rt,ra,re,rv⟩:=rr;have he:((i8 u.res vd k).map kg)[k]? =some [T rt,J ra,J re,K rv]:=he;have cc:=cD vd rt K0;by_cases hm:rt∈vd
      ·rw[fh hm]at cc
       have nq:((i8 u.res vd k).map kg).set k [T rt,J ra,J re,K true]=(i8 u.res vd (k+1)).map kg:=by
        rw[<- nq];show _=List.set _ k [T rt,J ra,J re,K (rv || decide (rt∈vd))];rw[fh hm,Bool.or_true]
       repeat' ((first|refine tX 0 ?_|exact Zt|refine bR ?_ ?_<;>intro h)<;>(try conv=>whnf))
       all_goals first|exact Zo|exact⟨k+1,al,by omega,ai ajs⟩
      ·rw[eJ hm]at cc
       have nq:(i8 u.res vd (k+1)).map kg=(i8 u.res vd k).map kg:=by
        rw[<- nq];have h:=(kF.1 he).2;show List.set _ k [T rt,J ra,J re,K (rv || decide (rt∈vd))]=_;rw[eJ hm,Mg,<- h,L4]
       repeat' ((first|refine tX 0 ?_|exact Zt|refine bR ?_ ?_<;>intro h)<;>(try conv=>whnf))
       all_goals first|exact Zo|exact⟨k+1,al,by omega,ai (by(conv=>rhs;rw[nq]);kernel_rfl)⟩
     ·obtain rfl:k=u.res.length:=by omega
      have sC:((i8 u.res vd u.res.length).map kg).length =u.res.length:=by exact acb
      rw[OF]at sC ⊢;repeat' ((first|refine tX 0 ?_|exact Zt|refine bR ?_ ?_<;>intro h)<;>(try conv=>whnf))
      all_goals first|exact Zo|exact⟨[(3,11),(4,13),(5,15)],bq rfl rfl,_,rfl,rfl⟩
 ·rw[dW hy]at ct
  have hq:aQ E p log s u 13 [x,y] n q=(u,6):=by
   show(if 0<=be p.ba y then _ else _)=_;rw[dW hy,if_neg bX]
  rw[hq];refine gH f136 ?_;exact K7
abbrev GS (f:FuncId)(xs:List DX)(s:bV)(y:bV × Int):Prop:=bA cx f 1 xs (F0 s) [] (.aI [(true,so y.1),dyn (I y.2)]) (F0 y.1)
abbrev m0:List (Nat × Nat):=[(5,5),(7,7),(9,9)]
abbrev lL:aj:=[111,112,101,110]
abbrev nw:aj:=[115,104,117,116]
abbrev lq:aj:=[101,97,114,116,104]
abbrev sN:aj:=[108,105,102,116]
abbrev wP:aj:=[118,111,108,116,97,103,101]
abbrev OY:aj:=[111,102,102]
section
variable (E:to)(p:Pl)(log:List En)(s:bV)(n:List Int)(q:aj)
theorem A7 {w0:aj}(hw:w0=lL)(x:aj)(hg:p.ap.length<=1000)(hs:s.opens.length<=1000):
  GS 135 [dyn (true,bL p),(true,so s),dyn (V1 [w0,x])] s (bm E p log s 4 [x] n q):=by
 have c1:=cD p.ap x K0;have c2:=cD s.opens x K0;have hol:(ab s.opens).length =s.opens.length:=by simp
 have hq:bm E p log s 4 [x] n q=if x∈p.ap then(if x∈s.opens then(s,20)else if s.volt=false/\s.earth=true then({s with opens:=s.opens++[x]},0)else(s,24))else(s,6):=rfl
 rw[hq];clear hq;by_cases h1:x∈p.ap
 ·rw[if_pos h1];rw[fh h1]at c1;by_cases h2:x∈s.opens
  ·rw[if_pos h2];rw[fh h2]at c2;exact K35
  ·rw[if_neg h2];rw[eJ h2]at c2;by_cases h3:s.volt=false/\s.earth=true
   ·rw[if_pos h3];obtain⟨h4,h5⟩:=h3;refine gH f135 ?_;repeat' ((first|refine tX 0 ?_|exact Zt|refine bR ?_ ?_<;>intro h)<;>(try conv=>whnf))
    all_goals first|exact Zs|exact⟨[(90,5),(7,7),(9,9)],ln rfl ⟨⟨90,_,by simp,rfl,by rw[qI];kernel_rfl⟩,⟨7,_,by simp,rfl,rfl⟩,⟨9,_,by simp,rfl,rfl⟩,trivial⟩,_,rfl,rfl⟩
   ·rw[if_neg h3];exact K35
 ·rw[if_neg h1];rw[eJ h1]at c1;exact K35
theorem OZ {l:List aj}{x:aj}{i:Nat}(h:i<l.length):(l.take (i+1)).filter (λy=> !(y==x))=(l.take i).filter (λy=> !(y==x))++(if l.getD i []=x then []else [l.getD i []]):=by
 rw[take_succ h,SR];congr 1;generalize l.getD i []=v;by_cases e:v=x
 ·rw[if_pos e];simp[e]
 ·rw[if_neg e];simp[e]
theorem WY {w0:aj}(hw:w0=nw)(x:aj)(hg:p.ap.length<=1000)(hs:s.opens.length<=1000)(hn:s.opens.Nodup):
  GS 135 [dyn (true,bL p),(true,so s),dyn (V1 [w0,x])] s (bm E p log s 5 [x] n q):=by
 have no: ¬w0=lL:=by rw[hw];decide
 have c1:=cD p.ap x K0;have c2:=cD s.opens x K0;have hol:(ab s.opens).length =s.opens.length:=by simp
 have hq:bm E p log s 5 [x] n q=if x∈p.ap then(if x∈s.opens then({s with opens:=s.opens.erase x},0)else(s,20))else(s,6):=rfl
 rw[hq];clear hq;by_cases h1:x∈p.ap
 ·rw[if_pos h1];rw[fh h1]at c1;by_cases h2:x∈s.opens
  ·rw[if_pos h2];rw[fh h2]at c2;have her:s.opens.erase x=s.opens.filter (λy=> !(y==x)):=hn.erase_eq_filter x;rw[her];refine gH f135 ?_;repeat' ((first|refine tX 0 ?_|exact Zt|refine bR ?_ ?_<;>intro h)<;>(try conv=>whnf))
   all_goals try exact Zs
   all_goals
    refine af (ι:=Nat) (λi=>i<=s.opens.length) (λi=>s.opens.length -i) (λi=>⟨[(2,some (.val (false,[.st (.view (ab [w0,x]))]))),(4,pP 0),(6,pP 1),(8,pO 2),(9,vI i)],[(0,some (.box 35 [.st (K s.volt),.st (K s.earth),.own 3,.st (T s.hall),.own 4,.own 5])),(1,some (.box 35 [.st (K false),.st (K false),.nil,.st (T []),.nil,.nil])),(2,some (.row true 1 (.view (ab ((s.opens.take i).filter λy=> !(y==x)))))),(3,some (.row true 1 (.view (ab s.opens)))),(4,some (.row true 1 (.view (ab s.lots)))),(5,some (.row true 17 (.view (s.units.map jB))))],6⟩) 0 (bu.trans (jz 8 1 (.view []) bX rfl rfl rfl) Zc) (dz _) ?_;intro i hi;by_cases al:i<s.opens.length
    ·have he:=sA al;have hft:=OZ (x:=x) al;have ov:((s.opens.take i).filter λy=> !(y==x)).length <=i:=pf (L3 _ _) wY;generalize (s.opens.take i).filter (λy=> !(y==x))=out at*;generalize s.opens.getD i []=y at*;have hou:(ab out).length =out.length:=by simp
     by_cases hyx:y=x
     ·rw[if_pos hyx,yb]at hft;repeat' ((first|refine tX 0 ?_|exact Zt|refine bR ?_ ?_<;>intro h)<;>(try conv=>whnf))
      all_goals first|exact Ze|exact⟨i+1,al,by omega,ai (by rw[hft];kernel_rfl)⟩
     ·rw[if_neg hyx]at hft;repeat' ((first|refine tX 0 ?_|exact Zt|refine bR ?_ ?_<;>intro h)<;>(try conv=>whnf))
      all_goals first|exact Ze|exact⟨i+1,al,by omega,ai (by rw[hft,qI];kernel_rfl)⟩
    ·obtain rfl:i=s.opens.length:=by omega
     rw[mB];repeat' ((first|refine tX 0 ?_|exact Zt|refine bR ?_ ?_<;>intro h)<;>(try conv=>whnf))
     all_goals first|exact Ze|exact⟨[(2,5),(4,7),(5,9)],bq rfl rfl,_,rfl,rfl⟩
  ·rw[if_neg h2];rw[eJ h2]at c2;exact K35
 ·rw[if_neg h1];rw[eJ h1]at c1;refine gH f135 ?_;repeat' ((first|refine tX 0 ?_|exact Zt|refine bR ?_ ?_<;>intro h)<;>(try conv=>whnf))
  all_goals first|exact Zs|exact⟨m0,bq rfl rfl,_,rfl,rfl⟩
theorem RQ {w0:aj}(hw:w0=lq)(a:List aj)(w:List aj):
  GS 135 [dyn (true,bL p),(true,so s),dyn (V1 (w0::w))] s (bm E p log s 6 a n q):=by
 have n0: ¬w0=lL:=by rw[hw];decide
 have n1: ¬w0=nw:=by rw[hw];decide
 have ho:s.opens= []↔((ab s.opens).length :Int)=0:=by simp[ab]
 have hq:bm E p log s 6 a n q=if s.earth then(s,20)else if s.volt then(s,24)else({s with earth:=true},0):=rfl
 rw[hq];clear hq;by_cases h1:s.earth=true
 ·rw[if_pos h1];refine gH f135 ?_;repeat' ((first|refine tX 0 ?_|exact Zt|refine bR ?_ ?_<;>intro h)<;>(try conv=>whnf))
  all_goals first|exact Zs|exact⟨m0,bq rfl rfl,_,rfl,rfl⟩
 ·rw[if_neg h1];by_cases h2:s.volt=true
  ·rw[if_pos h2];refine gH f135 ?_;repeat' ((first|refine tX 0 ?_|exact Zt|refine bR ?_ ?_<;>intro h)<;>(try conv=>whnf))
   all_goals first|exact Zs|exact⟨m0,bq rfl rfl,_,rfl,rfl⟩
  ·rw[if_neg h2];refine gH f135 ?_;repeat' ((first|refine tX 0 ?_|exact Zt|refine bR ?_ ?_<;>intro h)<;>(try conv=>whnf))
   all_goals first|exact Zs|exact⟨m0,bq rfl rfl,_,rfl,rfl⟩
theorem WZ {w0:aj}(hw:w0=sN)(a:List aj)(w:List aj):
  GS 135 [dyn (true,bL p),(true,so s),dyn (V1 (w0::w))] s (bm E p log s 7 a n q):=by
 have n0: ¬w0=lL:=by rw[hw];decide
 have n1: ¬w0=nw:=by rw[hw];decide
 have n2: ¬w0=lq:=by rw[hw];decide
 have ho:s.opens= []↔((ab s.opens).length :Int)=0:=by simp[ab]
 have hq:bm E p log s 7 a n q=if s.earth then(if s.opens= []then({s with earth:=false},0)else(s,24))else(s,20):=rfl
 rw[hq];clear hq;by_cases h1:s.earth=true
 ·rw[if_pos h1];by_cases h2:s.opens= []
  ·rw[if_pos h2];have h4:=ho.1 h2;refine gH f135 ?_;repeat' ((first|refine tX 0 ?_|exact Zt|refine bR ?_ ?_<;>intro h)<;>(try conv=>whnf))
   all_goals first|exact Zs|exact⟨m0,bq rfl rfl,_,rfl,rfl⟩
  ·rw[if_neg h2];have h4: ¬((ab s.opens).length :Int)=0:=λh=>h2 (ho.2 h);refine gH f135 ?_;repeat' ((first|refine tX 0 ?_|exact Zt|refine bR ?_ ?_<;>intro h)<;>(try conv=>whnf))
   all_goals first|exact Zs|exact⟨m0,bq rfl rfl,_,rfl,rfl⟩
 ·rw[if_neg h1];refine gH f135 ?_;repeat' ((first|refine tX 0 ?_|exact Zt|refine bR ?_ ?_<;>intro h)<;>(try conv=>whnf))
  all_goals first|exact Zs|exact⟨m0,bq rfl rfl,_,rfl,rfl⟩
theorem La {w0:aj}(hw:w0=wP)(a:List aj)(w:List aj):
  GS 135 [dyn (true,bL p),(true,so s),dyn (V1 (w0::w))] s (bm E p log s 8 a n q):=by
 have n0: ¬w0=lL:=by rw[hw];decide
 have n1: ¬w0=nw:=by rw[hw];decide
 have n2: ¬w0=lq:=by rw[hw];decide
 have n3: ¬w0=sN:=by rw[hw];decide
 have ho:s.opens= []↔((ab s.opens).length :Int)=0:=by simp[ab]
 have hq:bm E p log s 8 a n q=if s.volt then(s,20)else if s.opens= []/\s.earth=false then({s with volt:=true},0)else(s,24):=rfl
 rw[hq];clear hq;by_cases h1:s.volt=true
 ·rw[if_pos h1];refine gH f135 ?_;repeat' ((first|refine tX 0 ?_|exact Zt|refine bR ?_ ?_<;>intro h)<;>(try conv=>whnf))
  all_goals first|exact Zs|exact⟨m0,bq rfl rfl,_,rfl,rfl⟩
 ·rw[if_neg h1];by_cases h2:s.opens= []/\s.earth=false
  ·rw[if_pos h2];obtain⟨h3,h5⟩:=h2;have h4:=ho.1 h3;refine gH f135 ?_;repeat' ((first|refine tX 0 ?_|exact Zt|refine bR ?_ ?_<;>intro h)<;>(try conv=>whnf))
   all_goals first|exact Zs|exact⟨m0,bq rfl rfl,_,rfl,rfl⟩
  ·rw[if_neg h2];by_cases h3:s.opens= []
   ·have h4:=ho.1 h3;have h5:s.earth=true:=by cases h:s.earth with|true=>rfl|false=>exact absurd ⟨h3,h⟩ h2
    refine gH f135 ?_;repeat' ((first|refine tX 0 ?_|exact Zt|refine bR ?_ ?_<;>intro h)<;>(try conv=>whnf))
    all_goals first|exact Zs|exact⟨m0,bq rfl rfl,_,rfl,rfl⟩
   ·have h4: ¬((ab s.opens).length :Int)=0:=λh=>h3 (ho.2 h);refine gH f135 ?_;repeat' ((first|refine tX 0 ?_|exact Zt|refine bR ?_ ?_<;>intro h)<;>(try conv=>whnf))
    all_goals first|exact Zs|exact⟨m0,bq rfl rfl,_,rfl,rfl⟩
theorem aa9 {w0:aj}(hw:w0=OY)(a:List aj)(w:List aj):
  GS 135 [dyn (true,bL p),(true,so s),dyn (V1 (w0::w))] s (bm E p log s 9 a n q):=by
 have n0: ¬w0=lL:=by rw[hw];decide
 have n1: ¬w0=nw:=by rw[hw];decide
 have n2: ¬w0=lq:=by rw[hw];decide
 have n3: ¬w0=sN:=by rw[hw];decide
 have n4: ¬w0=wP:=by rw[hw];decide
 have ho:s.opens= []↔((ab s.opens).length :Int)=0:=by simp[ab]
 have hq:bm E p log s 9 a n q=if s.volt then({s with volt:=false},0)else(s,20):=rfl
 rw[hq];clear hq;by_cases h1:s.volt=true
 ·rw[if_pos h1];refine gH f135 ?_;repeat' ((first|refine tX 0 ?_|exact Zt|refine bR ?_ ?_<;>intro h)<;>(try conv=>whnf))
  all_goals first|exact Zs|exact⟨m0,bq rfl rfl,_,rfl,rfl⟩
 ·rw[if_neg h1];refine gH f135 ?_;repeat' ((first|refine tX 0 ?_|exact Zt|refine bR ?_ ?_<;>intro h)<;>(try conv=>whnf))
  all_goals first|exact Zs|exact⟨m0,bq rfl rfl,_,rfl,rfl⟩
end
end Go.Proofs.Tryz
