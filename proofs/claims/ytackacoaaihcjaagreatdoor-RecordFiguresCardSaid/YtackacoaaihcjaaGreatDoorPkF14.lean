import Derived.Test.YtackacoaaihcjaaGreatDoorPkF10
set_option linter.all false
set_option maxRecDepth 100000
set_option maxHeartbeats 8000000
namespace Go.Proofs.Tryz
open Go.Fw Go.IntWalk Go.Plain
structure io (p:Pl):Prop where
 pe:p.ae.length<=1000
 ga:p.ap.length<=1000
 te:p.aa.length<=1000
 pa:p.parts.length<=1000
 pn: ∀i<p.ae.length,(p.ae.getD i ([],0)).1.length <=1000
 gn: ∀i<p.ap.length,(p.ap.getD i []).length <=1000
 tn: ∀i<p.aa.length,(p.aa.getD i dk).name.length <=1000
 td: ∀i<p.aa.length,(p.aa.getD i dk).bu.length <=1000
 tr: ∀i<p.aa.length,(p.aa.getD i dk).rules.length <=10000
 qn: ∀i<p.parts.length,(p.parts.getD i ([],[])).1.length <=1000
 qv: ∀i<p.parts.length,(p.parts.getD i ([],[])).2.length <=1000
abbrev Xt (p:Pl):SV:=(false,[.ref (bU p)])
abbrev Rb (r:Int × Int):List SV:=[I r.1,I r.2]
def alP (a b:Int):fs [a,b]=jr a b:=by unfold jr;by_cases h:a=0<;>by_cases h':b=0<;>simp[fs,h,h']
def aaH (a b:Int):ac 52 [(false,[.ints [a,b]])] (.one (I (fs [a,b]))):=oG [a,b] (fO rfl)
section
variable {p:Pl}
def ady:ac 164 [Xt p] (.aJ (Rb (0,pL p.ae.length 8))):=by
 have hn:(p.ae.map na).length =p.ae.length:=by simp
 refine sF f164 ?_;repeat' ((first|(refine kO 7 rfl ?_;first|refine Rq (bZ _ _) ?_|refine Rq (aaH _ _) ?_)|refine tX 0 ?_|exact Zt|refine bR ?_ ?_<;>intro h)<;>(try conv=>whnf))
 refine aP ma.aJ (aP (List.cons (I 0)) (aP (λn=>[I n]) ?_));rw[alP];unfold pL jr;rw[hn];by_cases h1:0<p.ae.length
 ·by_cases h2:p.ae.length<=8<;>simp[h1,h2]<;>omega
 ·simp[h1]<;>omega
def adz:ac 169 [Xt p] (.aJ (Rb (0,pL p.ap.length 4))):=by
 have hn:(ab p.ap).length =p.ap.length:=by simp
 refine sF f169 ?_;repeat' ((first|(refine kO 7 rfl ?_;first|refine Rq (bZ _ _) ?_|refine Rq (aaH _ _) ?_)|refine tX 0 ?_|exact Zt|refine bR ?_ ?_<;>intro h)<;>(try conv=>whnf))
 refine aP ma.aJ (aP (List.cons (I 0)) (aP (λn=>[I n]) ?_));rw[alP];unfold pL jr;rw[hn];by_cases h1:0<p.ap.length
 ·by_cases h2:p.ap.length<=4<;>simp[h1,h2]<;>omega
 ·simp[h1]<;>omega
def adA:ac 174 [Xt p] (.aJ (Rb (0,ky p.aa.length 8))):=by
 have hn:(p.aa.map fq).length =p.aa.length:=by simp
 refine sF f174 ?_;repeat' ((first|(refine kO 7 rfl ?_;first|refine Rq (bZ _ _) ?_)|refine tX 0 ?_|exact Zt|refine bR ?_ ?_<;>intro h)<;>(try conv=>whnf))
 refine aP ma.aJ (aP (List.cons (I 0)) (aP (λn=>[I n]) ?_));unfold ky;rw[hn];by_cases h2:p.aa.length<=8<;>simp[h2]<;>omega
def adB:ac 180 [Xt p] (.aJ (Rb (0,ky p.parts.length 6))):=by
 have hn:(p.parts.map mh).length =p.parts.length:=by simp
 refine sF f180 ?_;repeat' ((first|(refine kO 7 rfl ?_;first|refine Rq (bZ _ _) ?_)|refine tX 0 ?_|exact Zt|refine bR ?_ ?_<;>intro h)<;>(try conv=>whnf))
 refine aP ma.aJ (aP (List.cons (I 0)) (aP (λn=>[I n]) ?_));unfold ky;rw[hn];by_cases h2:p.parts.length<=6<;>simp[h2]<;>omega
def adC:ac 187 [Xt p] (.aJ (Rb (0,if(0<=p.dY/\p.dY<=1000)/\0<=p.eH/\p.eH<=1000000000000 then 0 else 2))):=by
 refine sF f187 ?_;repeat' ((first|(refine kO 7 rfl ?_;first|refine Rq (bZ _ _) ?_)|refine tX 0 ?_|exact Zt|refine bR ?_ ?_<;>intro h)<;>(try conv=>whnf))
 all_goals(refine aP ma.aJ (aP (List.cons (I 0)) (aP (λn=>[I n]) ?_));first|(simp_all;done)|(simp;omega))
def aaI (i:Nat)(hi:i<p.ae.length):ac 168 [I i,Xt p] (.one (I (if 0<=(p.ae.getD i ([],0)).2/\(p.ae.getD i ([],0)).2<=3 then 0 else 15))):=by
 have he:=bg (f:=na) hi ([],0);have hn:(p.ae.map na).length =p.ae.length:=by simp
 generalize p.ae.getD i ([],0)=x at*;refine sF f168 ?_;repeat' ((first|(refine kO 7 rfl ?_;first|refine Rq (bZ _ _) ?_)|refine tX 0 ?_|exact Zt|refine bR ?_ ?_<;>intro h)<;>(try conv=>whnf))
 exact mF (by by_cases h:0<=x.2/\x.2<=3<;>simp_all)
end
section
variable {p:Pl}(hs:io p)
include hs
theorem aaJ (i:Nat)(hi:i<p.aa.length):ac 178 [I i,Xt p] (.one (I (VC jO p.aa i))):=by
 have ht:=Nq p.aa i hs.te hi (hs.td i hi) (hs.tr i hi);refine sF f178 ?_;exact K1
theorem aaK (i:Nat)(hi:i<p.parts.length):ac 184 [I i,Xt p] (.one (I (jT (p.parts.getD i ([],[])).2 (cL p.aa)))):=by
 have he:=bg (f:=mh) hi ([],[]);have hn:(p.parts.map mh).length =p.parts.length:=by simp
 have ht:=tT p.aa hs.te;have ha:=HU (p.parts.getD i ([],[])).2 (cL p.aa) (hs.qv i hi) (by simp[cL];exact hs.te);refine sF f184 ?_;exact K1
theorem adD:ac 165 [Xt p] (.aJ (Rb (cN p.du p.ae.length))):=by
 have h:=Qk p hs.pe hs.pn λi hi=>aaI i hi;refine sF f165 ?_;exact K1
theorem adE:ac 170 [Xt p] (.aJ (Rb (cN (gW p.ap) p.ap.length))):=by
 have h:=Ql p hs.ga hs.gn λi hi=>Zy i;have e:p.xF=gW p.ap:=by funext i;unfold Pl.xF jr;by_cases h:gW p.ap i=0<;>simp[h]
 rw[e]at h;refine sF f170 ?_;exact K1
theorem adF:ac 175 [Xt p] (.aJ (Rb (cN (p.gK jO) p.aa.length))):=by
 have h:=Qm p jO hs.te hs.tn λi hi=>aaJ hs i hi;refine sF f175 ?_;exact K1
theorem adG:ac 181 [Xt p] (.aJ (Rb (cN p.je p.parts.length))):=by
 have h:=Qo p hs.pa hs.qn λi hi=>aaK hs i hi;refine sF f181 ?_;exact K1
end
def jp:List (Int × Int)->Int × Int
 | []=>(0,0)
 |r::l=>oV r (jp l)
def Ip: ∀ {l:List (Int × Int)} {i:Nat},i<l.length->(∀j<i,(l.getD j (0,0)).2=0)->(l.getD i (0,0)).2≠0->jp l=l.getD i (0,0)
 | [],i,h,_,_=>by simp at h
 |r::l,0,_,_,h=>by unfold jp oV;exact if_pos h
 |r::l,i+1,h,h0,h1=>by
  unfold jp oV;rw[if_neg (by simpa using h0 0 K0),Ip (i:=i) UY (λj hj=>by simpa using h0 (j+1) K0) (by simpa using h1)];simp
def Iq: ∀ {l:List (Int × Int)},(∀j<l.length,(l.getD j (0,0)).2=0)->jp l=(0,0)
 | [],_=>rfl
 |r::l,h=>by
  unfold jp oV;rw[if_neg (by simpa using h 0 (by simp)),Iq λj hj=>by simpa using h (j+1) (by simpa using hj)]
noncomputable def wY (p:Pl):List (Int × Int):=[(0,pL p.ae.length 8),cN p.du p.ae.length,(0,pL p.ap.length 4),cN (gW p.ap) p.ap.length,(0,ky p.aa.length 8),cN (p.gK jO) p.aa.length,(0,ky p.parts.length 6),cN p.je p.parts.length,
 (0,if(0<=p.dY/\p.dY<=1000)/\0<=p.eH/\p.eH<=1000000000000 then 0 else 2)]
def aaL (p:Pl):p.err jO=jp (wY p):=by
 unfold Pl.err wY jp jp jp jp jp jp jp jp jp jp;have: ∀x:Int,oV (0,x) (0,0)=(0,x):=λx=>by unfold oV;by_cases h:x=0<;>simp[h]
 rw[this]
abbrev cps:List Nat:=[164,165,169,170,174,175,180,181,187]
set_option maxRecDepth 100000 in
def E7 {p:Pl}(hs:io p):ac 90 [(true,bU p)] (.aJ (Rb (p.err jO))):=by
 have g0:=ady (p:=p);have g1:=adD hs;have g2:=adz (p:=p);have g3:=adE hs;have g4:=adA (p:=p);have g5:=adF hs;have g6:=adB (p:=p);have g7:=adG hs;have g8:=adC (p:=p);rw[aaL];have eL:=λi h1 h2 h3=>Ip (l:=wY p) (i:=i) h1 h2 h3;have dy:=Iq (l:=wY p);have GQ:(wY p).getD 0 (0,0)=(0,pL p.ae.length 8):=rfl;have hn1:(wY p).getD 1 (0,0)=cN p.du p.ae.length:=rfl;have hn2:(wY p).getD 2 (0,0)=(0,pL p.ap.length 4):=rfl;have hn3:(wY p).getD 3 (0,0)=cN (gW p.ap) p.ap.length:=rfl;have hn4:(wY p).getD 4 (0,0)=(0,ky p.aa.length 8):=rfl;have hn5:(wY p).getD 5 (0,0)=cN (p.gK jO) p.aa.length:=rfl;have hn6:(wY p).getD 6 (0,0)=(0,ky p.parts.length 6):=rfl;have hn7:(wY p).getD 7 (0,0)=cN p.je p.parts.length:=rfl;have hn8:(wY p).getD 8 (0,0)=(0,if(0<=p.dY/\p.dY<=1000)/\0<=p.eH/\p.eH<=1000000000000 then 0 else 2):=rfl;have hl9:(wY p).length =9:=rfl;rw[<- GQ]at g0;rw[<- hn1]at g1;rw[<- hn2]at g2;rw[<- hn3]at g3;rw[<- hn4]at g4;rw[<- hn5]at g5;rw[<- hn6]at g6;rw[<- hn7]at g7;rw[<- hn8]at g8;clear GQ hn1 hn2 hn3 hn4 hn5 hn6 hn7 hn8;generalize wY p=L at*;have g0:ac 164 [(false,[.ref (bU p)])] (.aJ [I (L.getD 0 (0,0)).1,I (L.getD 0 (0,0)).2]):=g0;have g1:ac 165 [(false,[.ref (bU p)])] (.aJ [I (L.getD 1 (0,0)).1,I (L.getD 1 (0,0)).2]):=g1;have g2:ac 169 [(false,[.ref (bU p)])] (.aJ [I (L.getD 2 (0,0)).1,I (L.getD 2 (0,0)).2]):=g2;have g3:ac 170 [(false,[.ref (bU p)])] (.aJ [I (L.getD 3 (0,0)).1,I (L.getD 3 (0,0)).2]):=g3;have g4:ac 174 [(false,[.ref (bU p)])] (.aJ [I (L.getD 4 (0,0)).1,I (L.getD 4 (0,0)).2]):=g4;have g5:ac 175 [(false,[.ref (bU p)])] (.aJ [I (L.getD 5 (0,0)).1,I (L.getD 5 (0,0)).2]):=g5;have g6:ac 180 [(false,[.ref (bU p)])] (.aJ [I (L.getD 6 (0,0)).1,I (L.getD 6 (0,0)).2]):=g6;have g7:ac 181 [(false,[.ref (bU p)])] (.aJ [I (L.getD 7 (0,0)).1,I (L.getD 7 (0,0)).2]):=g7;have g8:ac 187 [(false,[.ref (bU p)])] (.aJ [I (L.getD 8 (0,0)).1,I (L.getD 8 (0,0)).2]):=g8;clear hs;refine sF f90 ?_;refine aS ?_;(refine aR ?_;conv=>whnf);(try(refine tX 2 ?_;try exact Zt));refine aS ?_;refine aR ?_;conv=>whnf
 iterate 9 (refine oP rfl ?_;(conv=>whnf);refine rP rfl (λ_ z=>z) ?_;(conv=>whnf))
 refine oP rfl ?_;(conv=>whnf);refine rG (r:=.val (true,[.st (.fn 164 [] [bU p]),.st (.fn 165 [] [bU p]),.st (.fn 169 [] [bU p]),.st (.fn 170 [] [bU p]),.st (.fn 174 [] [bU p]),.st (.fn 175 [] [bU p]),.st (.fn 180 [] [bU p]),.st (.fn 181 [] [bU p]),.st (.fn 187 [] [bU p])])) (u:=[]) (R:=[]) (λK z=>cast dl z) ?_;conv=>whnf
 (try(refine tX 0 ?_;try exact Zt))
 refine af (ι:=Nat) (λi=>i<=9/\∀j<i,(L.getD j (0,0)).2=0) (λi=>9 -i) (λi=>⟨[(19,some (.val (true,cps.map λf=>.st (.fn f [] [bU p])))),(20,vI i)],[],0⟩) 0 Zc ⟨dM _,λj hj=>by omega⟩ ?_;rintro i ⟨hi,hp⟩;generalize bU p=P at*;have iU:=λ(h:(L.getD i (0,0)).2=0)=>all_succ (f:=λj=>(L.getD j (0,0)).2) hp h;have eL:=λh1 h2=>eL i h1 hp h2;rcases(show i=0\/i=1\/i=2\/i=3\/i=4\/i=5\/i=6\/i=7\/i=8\/i=9 by omega)with rfl|rfl|rfl|rfl|rfl|rfl|rfl|rfl|rfl|rfl
 ·generalize L.getD 0 (0,0)=r at*;by_cases h:r.2=0
  ·rw[h]at g0;repeat' ((first|refine tX 0 ?_|exact Zt|refine bR ?_ ?_<;>intro h)<;>(try conv=>whnf))
   all_goals first|exact Zo|(exact absurd rfl h)|exact⟨0+1,⟨by omega,iU h⟩,by omega,Zc⟩
  ·rw[eL K0 h];exact tL
 ·generalize L.getD 1 (0,0)=r at*;by_cases h:r.2=0
  ·rw[h]at g1;repeat' ((first|refine tX 0 ?_|exact Zt|refine bR ?_ ?_<;>intro h)<;>(try conv=>whnf))
   all_goals first|exact Zo|(exact absurd rfl h)|exact⟨1+1,⟨by omega,iU h⟩,by omega,Zc⟩
  ·rw[eL K0 h];exact tL
 ·generalize L.getD 2 (0,0)=r at*;by_cases h:r.2=0
  ·rw[h]at g2;repeat' ((first|refine tX 0 ?_|exact Zt|refine bR ?_ ?_<;>intro h)<;>(try conv=>whnf))
   all_goals first|exact Zo|(exact absurd rfl h)|exact⟨2+1,⟨by omega,iU h⟩,by omega,Zc⟩
  ·rw[eL K0 h];exact tL
 ·generalize L.getD 3 (0,0)=r at*;by_cases h:r.2=0
  ·rw[h]at g3;repeat' ((first|refine tX 0 ?_|exact Zt|refine bR ?_ ?_<;>intro h)<;>(try conv=>whnf))
   all_goals first|exact Zo|(exact absurd rfl h)|exact⟨3+1,⟨by omega,iU h⟩,by omega,Zc⟩
  ·rw[eL K0 h];exact tL
 ·generalize L.getD 4 (0,0)=r at*;by_cases h:r.2=0
  ·rw[h]at g4;repeat' ((first|refine tX 0 ?_|exact Zt|refine bR ?_ ?_<;>intro h)<;>(try conv=>whnf))
   all_goals first|exact Zo|(exact absurd rfl h)|exact⟨4+1,⟨by omega,iU h⟩,by omega,Zc⟩
  ·rw[eL K0 h];exact tL
 ·generalize L.getD 5 (0,0)=r at*;by_cases h:r.2=0
  ·rw[h]at g5;repeat' ((first|refine tX 0 ?_|exact Zt|refine bR ?_ ?_<;>intro h)<;>(try conv=>whnf))
   all_goals first|exact Zo|(exact absurd rfl h)|exact⟨5+1,⟨by omega,iU h⟩,by omega,Zc⟩
  ·rw[eL K0 h];exact tL
 ·generalize L.getD 6 (0,0)=r at*;by_cases h:r.2=0
  ·rw[h]at g6;repeat' ((first|refine tX 0 ?_|exact Zt|refine bR ?_ ?_<;>intro h)<;>(try conv=>whnf))
   all_goals first|exact Zo|(exact absurd rfl h)|exact⟨6+1,⟨by omega,iU h⟩,by omega,Zc⟩
  ·rw[eL K0 h];exact tL
 ·generalize L.getD 7 (0,0)=r at*;by_cases h:r.2=0
  ·rw[h]at g7;repeat' ((first|refine tX 0 ?_|exact Zt|refine bR ?_ ?_<;>intro h)<;>(try conv=>whnf))
   all_goals first|exact Zo|(exact absurd rfl h)|exact⟨7+1,⟨by omega,iU h⟩,by omega,Zc⟩
  ·rw[eL K0 h];exact tL
 ·generalize L.getD 8 (0,0)=r at*;by_cases h:r.2=0
  ·rw[h]at g8;repeat' ((first|refine tX 0 ?_|exact Zt|refine bR ?_ ?_<;>intro h)<;>(try conv=>whnf))
   all_goals first|exact Zo|(exact absurd rfl h)|exact⟨8+1,⟨by omega,iU h⟩,by omega,Zc⟩
  ·rw[eL K0 h];exact tL
 ·rw[dy (by rw[hl9];exact hp)];exact tL
def GB (p:Pl)(n:aj)(hl:p.parts.length<=1000):ac 48 [(true,bU p),SS n] (.one (I (aZ p.bd n))):=by
 have hn:(p.parts.map mh).length =p.parts.length:=by simp
 have AP:p.bd.length=p.parts.length:=by simp[Pl.bd]
 refine sF f48 ?_
 (try(refine tX 0 ?_;try exact Zt))
 refine af (ι:=Nat) (λi=>i<=p.parts.length/\n∉p.bd.take i) (λi=>p.parts.length -i) (λi=>⟨[(1,lS n),(2,pP 0),(5,vI i)],[(0,some (.box 27 ((bU p).map .st)))],1⟩) 0 Zc ⟨dM _,by simp⟩ ?_;rintro i ⟨hi,dy⟩;by_cases ak:i<p.parts.length
 ·have he:=bg (f:=mh) ak ([],[]);have hg:p.bd.getD i []=(p.parts.getD i ([],[])).1:=by rw[getD_at ak,getD_at K0];simp[Pl.bd]
  have nM:=λe=>mK (l:=p.bd) (x:=n) (i:=i) K0 e dy;have FP:=iM (l:=p.bd) (i:=i) (x:=n) K0;rw[hg]at nM FP;generalize p.parts.getD i ([],[])=x at*;by_cases hx:x.1=n
  ·rw[nM hx];exact K87
  ·exact K50
 ·obtain rfl:i=p.parts.length:=by omega
  rw[o0 K0]at dy;exact acf
def mj (p:Pl)(n:aj)(hl:p.aa.length<=1000):ac 75 [(true,bU p),SS n] (.one (I (aZ (cL p.aa) n))):=by
 have hn:(p.aa.map fq).length =p.aa.length:=by simp
 have AP:(cL p.aa).length =p.aa.length:=by simp[cL]
 refine sF f75 ?_
 (try(refine tX 0 ?_;try exact Zt))
 refine af (ι:=Nat) (λi=>i<=p.aa.length/\n∉(cL p.aa).take i) (λi=>p.aa.length -i) (λi=>⟨[(1,lS n),(2,pP 0),(5,vI i)],[(0,some (.box 27 ((bU p).map .st)))],1⟩) 0 Zc ⟨dM _,by simp⟩ ?_;rintro i ⟨hi,dy⟩;by_cases ak:i<p.aa.length
 ·have he:=iO ak;have hg:=rH ak;have nM:=λe=>mK (l:=cL p.aa) (x:=n) (i:=i) K0 e dy;have FP:=iM (l:=cL p.aa) (i:=i) (x:=n) K0;rw[hg]at nM FP;generalize p.aa.getD i dk=x at*;by_cases hx:x.name=n
  ·rw[nM hx];exact K87
  ·exact K50
 ·obtain rfl:i=p.aa.length:=by omega
  rw[o0 K0]at dy;exact acf
def ld (l:List aj)(i:Nat)(hi:i<l.length)(hl:l.length<=1000)(hs:(l.getD i []).length <=1000):ac 229 [V1 l,I i] (.one (I (gW l i))):=by
 have he:=sA hi;have hn:(ab l).length =l.length:=by simp
 have h1:=pj (l.getD i []) K0;have h2:=cX (l.take i) (l.getD i []) wA;have zB:(ab l).take i=ab (l.take i):=by simp
 have hm:gW l i=jr (jI (l.getD i [])) (if l.getD i []∈l.take i then 5 else 0):=rfl;unfold jI jr at hm;generalize l.getD i []=s at*;by_cases c1:eK s
 ·rw[if_pos c1,if_neg K9]at hm;rw[fG c1]at h1;by_cases c2:s∈l.take i
  ·rw[if_pos c2]at hm;rw[fG c2]at h2;exact af7
  ·rw[if_neg c2]at hm;rw[eU c2]at h2;exact af7
 ·rw[if_neg c1,if_pos K9]at hm;rw[eU c1]at h1;exact af7
def AF {l:List aj}{i:Nat}(h:i<l.length):gW (l.take (i+1)) i=gW l i:=by
 unfold gW;rw[List.take_take,Nat.min_eq_left K0,show(l.take (i+1)).getD i []=l.getD i []by simp[jP,h]]
abbrev bxP (p:Pl):cB:=.box 27 ((bU p).map .st)
def alV {p:Pl}{i:Nat}(h:gW p.ay i≠0):p.du i=gW p.ay i:=by unfold Pl.du;exact eS h _
def alW {p:Pl}{i:Nat}(h:gW p.ay i=0):p.du i=if 0<=(p.ae.getD i ([],0)).2/\(p.ae.getD i ([],0)).2<=3 then 0 else 15:=by unfold Pl.du;rw[h,jj]
def pU {a b:Int × Int}(h:a.2≠0):oV a b=a:=if_pos h
def BI {a b:Int × Int}(h:a.2=0):oV a b=b:=if_neg UY
def Uc {n m:Nat}(h:n=0):pL n m=10:=by subst h;rfl
def Ud {n m:Nat}(h0:0<n)(h:m<n):pL n m=8:=by unfold pL;rw[if_pos h0,if_neg K0]
def afe {n m:Nat}(h0:0<n)(h:n<=m):pL n m=0:=by unfold pL;rw[if_pos h0,if_pos h]
def GC {p:Pl}(hs:io p):ac 158 [(true,bU p)] (.aJ (Rb (oV (0,pL p.ae.length 8) (cN p.du p.ae.length)))):=by
 have hn:(p.ae.map na).length =p.ae.length:=by simp
 have AP:p.ay.length=p.ae.length:=by simp[Pl.ay]
 have hpe:=hs.pe;by_cases h0:p.ae.length=0
 ·rw[pU (by rw[Uc h0];decide),Uc h0];refine sF f158 ?_;exact tA
 by_cases h8:8<p.ae.length
 ·rw[pU (by rw[Ud K0 h8];decide),Ud K0 h8];refine sF f158 ?_;exact tA
 rw[BI (by rw[afe K0 K0])];refine sF f158 ?_
 (try(refine tX 0 ?_;try exact Zt))
 refine af (ι:=Nat) (λi=>i<=p.ae.length/\∀j<i,p.du j=0) (λi=>p.ae.length -i) (λi=>⟨[(1,pP 0),(4,pO 1),(5,vI i)],[(0,some (bxP p)),(1,some (.row true 1 (.view (ab (p.ay.take i)))))],2⟩) 0 (bs.trans (jB 4 1 (.view []) K9 rfl rfl rfl) Zc) ⟨dM _,λj hj=>by omega⟩ ?_;rintro i ⟨hi,hp⟩;by_cases ak:i<p.ae.length
 ·have he:=bg (f:=na) ak ([],0);have hg:p.ay.getD i []=(p.ae.getD i ([],0)).1:=by rw[getD_at ak,getD_at K0];simp[Pl.ay]
  have vJ:=take_succ (l:=p.ay) (i:=i) K0;have fh:=ld (p.ay.take (i+1)) i wA wA (by rw[show(p.ay.take (i+1)).getD i []=p.ay.getD i []by simp[jP],hg];exact hs.pn i ak);rw[AF K0]at fh;have hea:=alV (p:=p) (i:=i);have Po:=alW (p:=p) (i:=i);have eL:=λ(h:p.du i≠0)=>fJ (f:=p.du) ak hp h;have iU:=λ(h:p.du i=0)=>all_succ hp h;have uF:(ab (p.ay.take i)).length <=1000:=by simp;omega
  rw[hg]at vJ;rw[vJ]at fh
  delta V1 at fh
  rw[lW]at fh;generalize p.ae.getD i ([],0)=x at*;generalize gW p.ay i=e at*;by_cases h1:e=0
  ·have Po:=Po h1;by_cases h2:0<=x.2/\x.2<=3
   ·rw[if_pos h2]at Po;repeat' ((first|(refine kO 7 rfl ?_;first|refine Rq (eo _ _ _) ?_)|refine tX 0 ?_|exact Zt|refine bR ?_ ?_<;>intro h)<;>(try conv=>whnf))
    all_goals first|exact Zo|exact⟨i+1,⟨ak,iU Po⟩,by omega,ai abQ⟩
   ·rw[if_neg h2]at Po;rw[eL (by rw[Po];decide),Po];exact K16
  ·rw[eL (by rw[hea h1];exact h1),hea h1];exact K16
 ·obtain rfl:i=p.ae.length:=by omega
  rw[gT hp];exact tA
def KA {p:Pl}(hs:io p):ac 159 [(true,bU p)] (.aJ (Rb (oV (0,pL p.ap.length 4) (cN (gW p.ap) p.ap.length)))):=by
 have hn:(ab p.ap).length =p.ap.length:=by simp
 have hga:=hs.ga;by_cases h0:p.ap.length=0
 ·rw[pU (by rw[Uc h0];decide),Uc h0];refine sF f159 ?_;exact tA
 by_cases h8:4<p.ap.length
 ·rw[pU (by rw[Ud K0 h8];decide),Ud K0 h8];refine sF f159 ?_;exact tA
 rw[BI (by rw[afe K0 K0])];refine sF f159 ?_
 (try(refine tX 0 ?_;try exact Zt))
 refine af (ι:=Nat) (λi=>i<=p.ap.length/\∀j<i,gW p.ap j=0) (λi=>p.ap.length -i) (λi=>⟨[(1,pP 0),(4,vI i)],[(0,some (bxP p))],1⟩) 0 Zc ⟨dM _,λj hj=>by omega⟩ ?_;rintro i ⟨hi,hp⟩;by_cases ak:i<p.ap.length
 ·have fh:=ld p.ap i ak hga (hs.gn i ak);have eL:=λ(h:gW p.ap i≠0)=>fJ (f:=gW p.ap) ak hp h;have iU:=λ(h:gW p.ap i=0)=>all_succ (f:=gW p.ap) hp h;by_cases h1:gW p.ap i=0
  ·rw[h1]at fh;repeat' ((first|refine tX 0 ?_|exact Zt|refine bR ?_ ?_<;>intro h)<;>(try conv=>whnf))
   all_goals first|exact Zo|exact⟨i+1,⟨ak,iU h1⟩,by omega,Zc⟩|(exact absurd rfl h)
  ·rw[eL h1];generalize gW p.ap i=e at*;exact tA
 ·obtain rfl:i=p.ap.length:=by omega
  rw[gT hp];exact tA
end Go.Proofs.Tryz
