import Derived.Test.YtackacoaaihcjaaGreatDoorPkT10
set_option linter.all false
set_option maxRecDepth 100000
set_option maxHeartbeats 8000000
namespace Go.Proofs.Tryz
open Go.Fw Go.IntWalk Go.Plain
structure io (p:Pl):Prop where
 pe:p.ae.length<=1000
 ga:p.ap.length<=1000
 te:p.aa.length<=1000
 pa:p.parts.length<=1000
 pn: ∀i<p.ae.length,(p.ae.getD i ([],0)).1.length <=1000
 gn: ∀i<p.ap.length,(p.ap.getD i []).length <=1000
 tn: ∀i<p.aa.length,(p.aa.getD i dt).name.length <=1000
 td: ∀i<p.aa.length,(p.aa.getD i dt).bu.length <=1000
 tr: ∀i<p.aa.length,(p.aa.getD i dt).rules.length <=10000
 qn: ∀i<p.parts.length,(p.parts.getD i ([],[])).1.length <=1000
 qv: ∀i<p.parts.length,(p.parts.getD i ([],[])).2.length <=1000
abbrev Xf (p:Pl):SV:=(false,[.ref (bU p)])
abbrev Q4 (r:Int × Int):List SV:=[I r.1,I r.2]
def alO (a b:Int):fs [a,b]=jp a b:=by unfold jp;by_cases h:a=0<;>by_cases h':b=0<;>simp[fs,h,h']
def aax (a b:Int):ad 52 [(false,[.ints [a,b]])] (.one (I (fs [a,b]))):=oI [a,b] (fP rfl)
section
variable {p:Pl}
def ads:ad 164 [Xf p] (.aJ (Q4 (0,pI p.ae.length 8))):=by
 have hn:(p.ae.map m9).length =p.ae.length:=by simp
 refine sF f164 ?_;repeat' ((first|(refine kO 7 rfl ?_;first|refine Rq (bX _ _) ?_|refine Rq (aax _ _) ?_)|refine tX 0 ?_|exact Zt|refine bR ?_ ?_<;>intro h)<;>(try conv=>whnf))
 refine aP mb.aJ (aP (List.cons (I 0)) (aP (λn=>[I n]) ?_));rw[alO];unfold pI jp;rw[hn];by_cases h1:0<p.ae.length
 ·by_cases h2:p.ae.length<=8<;>simp[h1,h2]<;>omega
 ·simp[h1]<;>omega
def adt:ad 169 [Xf p] (.aJ (Q4 (0,pI p.ap.length 4))):=by
 have hn:(ab p.ap).length =p.ap.length:=by simp
 refine sF f169 ?_;repeat' ((first|(refine kO 7 rfl ?_;first|refine Rq (bX _ _) ?_|refine Rq (aax _ _) ?_)|refine tX 0 ?_|exact Zt|refine bR ?_ ?_<;>intro h)<;>(try conv=>whnf))
 refine aP mb.aJ (aP (List.cons (I 0)) (aP (λn=>[I n]) ?_));rw[alO];unfold pI jp;rw[hn];by_cases h1:0<p.ap.length
 ·by_cases h2:p.ap.length<=4<;>simp[h1,h2]<;>omega
 ·simp[h1]<;>omega
def adu:ad 174 [Xf p] (.aJ (Q4 (0,ku p.aa.length 8))):=by
 have hn:(p.aa.map fC).length =p.aa.length:=by simp
 refine sF f174 ?_;repeat' ((first|(refine kO 7 rfl ?_;first|refine Rq (bX _ _) ?_)|refine tX 0 ?_|exact Zt|refine bR ?_ ?_<;>intro h)<;>(try conv=>whnf))
 refine aP mb.aJ (aP (List.cons (I 0)) (aP (λn=>[I n]) ?_));unfold ku;rw[hn];by_cases h2:p.aa.length<=8<;>simp[h2]<;>omega
def adv:ad 180 [Xf p] (.aJ (Q4 (0,ku p.parts.length 6))):=by
 have hn:(p.parts.map mi).length =p.parts.length:=by simp
 refine sF f180 ?_;repeat' ((first|(refine kO 7 rfl ?_;first|refine Rq (bX _ _) ?_)|refine tX 0 ?_|exact Zt|refine bR ?_ ?_<;>intro h)<;>(try conv=>whnf))
 refine aP mb.aJ (aP (List.cons (I 0)) (aP (λn=>[I n]) ?_));unfold ku;rw[hn];by_cases h2:p.parts.length<=6<;>simp[h2]<;>omega
def adw:ad 187 [Xf p] (.aJ (Q4 (0,if(0<=p.dW/\p.dW<=1000)/\0<=p.eH/\p.eH<=1000000000000 then 0 else 2))):=by
 refine sF f187 ?_;repeat' ((first|(refine kO 7 rfl ?_;first|refine Rq (bX _ _) ?_)|refine tX 0 ?_|exact Zt|refine bR ?_ ?_<;>intro h)<;>(try conv=>whnf))
 all_goals(refine aP mb.aJ (aP (List.cons (I 0)) (aP (λn=>[I n]) ?_));first|(simp_all;done)|(simp;omega))
def aay (i:Nat)(hi:i<p.ae.length):ad 168 [I i,Xf p] (.one (I (if 0<=(p.ae.getD i ([],0)).2/\(p.ae.getD i ([],0)).2<=3 then 0 else 15))):=by
 have he:=bg (f:=m9) hi ([],0);have hn:(p.ae.map m9).length =p.ae.length:=by simp
 generalize p.ae.getD i ([],0)=x at*;refine sF f168 ?_;repeat' ((first|(refine kO 7 rfl ?_;first|refine Rq (bX _ _) ?_)|refine tX 0 ?_|exact Zt|refine bR ?_ ?_<;>intro h)<;>(try conv=>whnf))
 exact mH (by by_cases h:0<=x.2/\x.2<=3<;>simp_all)
end
section
variable {p:Pl}(hs:io p)
include hs
theorem aaz (i:Nat)(hi:i<p.aa.length):ad 178 [I i,Xf p] (.one (I (Vp jK p.aa i))):=by
 have ht:=Ni p.aa i hs.te hi (hs.td i hi) (hs.tr i hi);refine sF f178 ?_;exact K1
theorem aaA (i:Nat)(hi:i<p.parts.length):ad 184 [I i,Xf p] (.one (I (jP (p.parts.getD i ([],[])).2 (cO p.aa)))):=by
 have he:=bg (f:=mi) hi ([],[]);have hn:(p.parts.map mi).length =p.parts.length:=by simp
 have ht:=tR p.aa hs.te;have ha:=HS (p.parts.getD i ([],[])).2 (cO p.aa) (hs.qv i hi) (by simp[cO];exact hs.te);refine sF f184 ?_;exact K1
theorem adx:ad 165 [Xf p] (.aJ (Q4 (cM p.dn p.ae.length))):=by
 have h:=Qd p hs.pe hs.pn λi hi=>aay i hi;refine sF f165 ?_;exact K1
theorem ady:ad 170 [Xf p] (.aJ (Q4 (cM (gW p.ap) p.ap.length))):=by
 have h:=Qe p hs.ga hs.gn λi hi=>Za i;have e:p.xE=gW p.ap:=by funext i;unfold Pl.xE jp;by_cases h:gW p.ap i=0<;>simp[h]
 rw[e]at h;refine sF f170 ?_;exact K1
theorem adz:ad 175 [Xf p] (.aJ (Q4 (cM (p.gK jK) p.aa.length))):=by
 have h:=Qf p jK hs.te hs.tn λi hi=>aaz hs i hi;refine sF f175 ?_;exact K1
theorem adA:ad 181 [Xf p] (.aJ (Q4 (cM p.je p.parts.length))):=by
 have h:=Qg p hs.pa hs.qn λi hi=>aaA hs i hi;refine sF f181 ?_;exact K1
end
def jn:List (Int × Int)->Int × Int
 | []=>(0,0)
 |r::l=>oW r (jn l)
def In: ∀ {l:List (Int × Int)} {i:Nat},i<l.length->(∀j<i,(l.getD j (0,0)).2=0)->(l.getD i (0,0)).2≠0->jn l=l.getD i (0,0)
 | [],i,h,_,_=>by simp at h
 |r::l,0,_,_,h=>by unfold jn oW;exact if_pos h
 |r::l,i+1,h,h0,h1=>by
  unfold jn oW;rw[if_neg (by simpa using h0 0 K0),In (i:=i) UK (λj hj=>by simpa using h0 (j+1) K0) (by simpa using h1)];simp
def Io: ∀ {l:List (Int × Int)},(∀j<l.length,(l.getD j (0,0)).2=0)->jn l=(0,0)
 | [],_=>rfl
 |r::l,h=>by
  unfold jn oW;rw[if_neg (by simpa using h 0 (by simp)),Io λj hj=>by simpa using h (j+1) (by simpa using hj)]
noncomputable def w8 (p:Pl):List (Int × Int):=[(0,pI p.ae.length 8),cM p.dn p.ae.length,(0,pI p.ap.length 4),cM (gW p.ap) p.ap.length,(0,ku p.aa.length 8),cM (p.gK jK) p.aa.length,(0,ku p.parts.length 6),cM p.je p.parts.length,
 (0,if(0<=p.dW/\p.dW<=1000)/\0<=p.eH/\p.eH<=1000000000000 then 0 else 2)]
def aaB (p:Pl):p.err jK=jn (w8 p):=by
 unfold Pl.err w8 jn jn jn jn jn jn jn jn jn jn;have: ∀x:Int,oW (0,x) (0,0)=(0,x):=λx=>by unfold oW;by_cases h:x=0<;>simp[h]
 rw[this]
abbrev cps:List Nat:=[164,165,169,170,174,175,180,181,187]
set_option maxRecDepth 100000 in
def E6 {p:Pl}(hs:io p):ad 90 [(true,bU p)] (.aJ (Q4 (p.err jK))):=by
 have g0:=ads (p:=p);have g1:=adx hs;have g2:=adt (p:=p);have g3:=ady hs;have g4:=adu (p:=p);have g5:=adz hs;have g6:=adv (p:=p);have g7:=adA hs;have g8:=adw (p:=p);rw[aaB];have eL:=λi h1 h2 h3=>In (l:=w8 p) (i:=i) h1 h2 h3;have dx:=Io (l:=w8 p);have GO:(w8 p).getD 0 (0,0)=(0,pI p.ae.length 8):=rfl;have hn1:(w8 p).getD 1 (0,0)=cM p.dn p.ae.length:=rfl;have hn2:(w8 p).getD 2 (0,0)=(0,pI p.ap.length 4):=rfl;have hn3:(w8 p).getD 3 (0,0)=cM (gW p.ap) p.ap.length:=rfl;have hn4:(w8 p).getD 4 (0,0)=(0,ku p.aa.length 8):=rfl;have hn5:(w8 p).getD 5 (0,0)=cM (p.gK jK) p.aa.length:=rfl;have hn6:(w8 p).getD 6 (0,0)=(0,ku p.parts.length 6):=rfl;have hn7:(w8 p).getD 7 (0,0)=cM p.je p.parts.length:=rfl;have hn8:(w8 p).getD 8 (0,0)=(0,if(0<=p.dW/\p.dW<=1000)/\0<=p.eH/\p.eH<=1000000000000 then 0 else 2):=rfl;have hl9:(w8 p).length =9:=rfl;rw[<- GO]at g0;rw[<- hn1]at g1;rw[<- hn2]at g2;rw[<- hn3]at g3;rw[<- hn4]at g4;rw[<- hn5]at g5;rw[<- hn6]at g6;rw[<- hn7]at g7;rw[<- hn8]at g8;clear GO hn1 hn2 hn3 hn4 hn5 hn6 hn7 hn8;generalize w8 p=L at*;have g0:ad 164 [(false,[.ref (bU p)])] (.aJ [I (L.getD 0 (0,0)).1,I (L.getD 0 (0,0)).2]):=g0;have g1:ad 165 [(false,[.ref (bU p)])] (.aJ [I (L.getD 1 (0,0)).1,I (L.getD 1 (0,0)).2]):=g1;have g2:ad 169 [(false,[.ref (bU p)])] (.aJ [I (L.getD 2 (0,0)).1,I (L.getD 2 (0,0)).2]):=g2;have g3:ad 170 [(false,[.ref (bU p)])] (.aJ [I (L.getD 3 (0,0)).1,I (L.getD 3 (0,0)).2]):=g3;have g4:ad 174 [(false,[.ref (bU p)])] (.aJ [I (L.getD 4 (0,0)).1,I (L.getD 4 (0,0)).2]):=g4;have g5:ad 175 [(false,[.ref (bU p)])] (.aJ [I (L.getD 5 (0,0)).1,I (L.getD 5 (0,0)).2]):=g5;have g6:ad 180 [(false,[.ref (bU p)])] (.aJ [I (L.getD 6 (0,0)).1,I (L.getD 6 (0,0)).2]):=g6;have g7:ad 181 [(false,[.ref (bU p)])] (.aJ [I (L.getD 7 (0,0)).1,I (L.getD 7 (0,0)).2]):=g7;have g8:ad 187 [(false,[.ref (bU p)])] (.aJ [I (L.getD 8 (0,0)).1,I (L.getD 8 (0,0)).2]):=g8;clear hs;refine sF f90 ?_;refine aS ?_;(refine aR ?_;conv=>whnf);(try(refine tX 2 ?_;try exact Zt));refine aS ?_;refine aR ?_;conv=>whnf
 iterate 9 (refine oP rfl ?_;(conv=>whnf);refine rP rfl (λ_ z=>z) ?_;(conv=>whnf))
 refine oP rfl ?_;(conv=>whnf);refine rG (r:=.val (true,[.st (.fn 164 [] [bU p]),.st (.fn 165 [] [bU p]),.st (.fn 169 [] [bU p]),.st (.fn 170 [] [bU p]),.st (.fn 174 [] [bU p]),.st (.fn 175 [] [bU p]),.st (.fn 180 [] [bU p]),.st (.fn 181 [] [bU p]),.st (.fn 187 [] [bU p])])) (u:=[]) (R:=[]) (λK z=>cast dp z) ?_;conv=>whnf
 (try(refine tX 0 ?_;try exact Zt))
 refine af (ι:=Nat) (λi=>i<=9/\∀j<i,(L.getD j (0,0)).2=0) (λi=>9 -i) (λi=>⟨[(19,some (.val (true,cps.map λf=>.st (.fn f [] [bU p])))),(20,vI i)],[],0⟩) 0 Zc ⟨dC _,λj hj=>by omega⟩ ?_;rintro i ⟨hi,hp⟩;generalize bU p=P at*;have iT:=λ(h:(L.getD i (0,0)).2=0)=>all_succ (f:=λj=>(L.getD j (0,0)).2) hp h;have eL:=λh1 h2=>eL i h1 hp h2;rcases(show i=0\/i=1\/i=2\/i=3\/i=4\/i=5\/i=6\/i=7\/i=8\/i=9 by omega)with rfl|rfl|rfl|rfl|rfl|rfl|rfl|rfl|rfl|rfl
 ·generalize L.getD 0 (0,0)=r at*;by_cases h:r.2=0
  ·rw[h]at g0;repeat' ((first|refine tX 0 ?_|exact Zt|refine bR ?_ ?_<;>intro h)<;>(try conv=>whnf))
   all_goals first|exact Zo|(exact absurd rfl h)|exact⟨0+1,⟨by omega,iT h⟩,by omega,Zc⟩
  ·rw[eL K0 h];exact tL
 ·generalize L.getD 1 (0,0)=r at*;by_cases h:r.2=0
  ·rw[h]at g1;repeat' ((first|refine tX 0 ?_|exact Zt|refine bR ?_ ?_<;>intro h)<;>(try conv=>whnf))
   all_goals first|exact Zo|(exact absurd rfl h)|exact⟨1+1,⟨by omega,iT h⟩,by omega,Zc⟩
  ·rw[eL K0 h];exact tL
 ·generalize L.getD 2 (0,0)=r at*;by_cases h:r.2=0
  ·rw[h]at g2;repeat' ((first|refine tX 0 ?_|exact Zt|refine bR ?_ ?_<;>intro h)<;>(try conv=>whnf))
   all_goals first|exact Zo|(exact absurd rfl h)|exact⟨2+1,⟨by omega,iT h⟩,by omega,Zc⟩
  ·rw[eL K0 h];exact tL
 ·generalize L.getD 3 (0,0)=r at*;by_cases h:r.2=0
  ·rw[h]at g3;repeat' ((first|refine tX 0 ?_|exact Zt|refine bR ?_ ?_<;>intro h)<;>(try conv=>whnf))
   all_goals first|exact Zo|(exact absurd rfl h)|exact⟨3+1,⟨by omega,iT h⟩,by omega,Zc⟩
  ·rw[eL K0 h];exact tL
 ·generalize L.getD 4 (0,0)=r at*;by_cases h:r.2=0
  ·rw[h]at g4;repeat' ((first|refine tX 0 ?_|exact Zt|refine bR ?_ ?_<;>intro h)<;>(try conv=>whnf))
   all_goals first|exact Zo|(exact absurd rfl h)|exact⟨4+1,⟨by omega,iT h⟩,by omega,Zc⟩
  ·rw[eL K0 h];exact tL
 ·generalize L.getD 5 (0,0)=r at*;by_cases h:r.2=0
  ·rw[h]at g5;repeat' ((first|refine tX 0 ?_|exact Zt|refine bR ?_ ?_<;>intro h)<;>(try conv=>whnf))
   all_goals first|exact Zo|(exact absurd rfl h)|exact⟨5+1,⟨by omega,iT h⟩,by omega,Zc⟩
  ·rw[eL K0 h];exact tL
 ·generalize L.getD 6 (0,0)=r at*;by_cases h:r.2=0
  ·rw[h]at g6;repeat' ((first|refine tX 0 ?_|exact Zt|refine bR ?_ ?_<;>intro h)<;>(try conv=>whnf))
   all_goals first|exact Zo|(exact absurd rfl h)|exact⟨6+1,⟨by omega,iT h⟩,by omega,Zc⟩
  ·rw[eL K0 h];exact tL
 ·generalize L.getD 7 (0,0)=r at*;by_cases h:r.2=0
  ·rw[h]at g7;repeat' ((first|refine tX 0 ?_|exact Zt|refine bR ?_ ?_<;>intro h)<;>(try conv=>whnf))
   all_goals first|exact Zo|(exact absurd rfl h)|exact⟨7+1,⟨by omega,iT h⟩,by omega,Zc⟩
  ·rw[eL K0 h];exact tL
 ·generalize L.getD 8 (0,0)=r at*;by_cases h:r.2=0
  ·rw[h]at g8;repeat' ((first|refine tX 0 ?_|exact Zt|refine bR ?_ ?_<;>intro h)<;>(try conv=>whnf))
   all_goals first|exact Zo|(exact absurd rfl h)|exact⟨8+1,⟨by omega,iT h⟩,by omega,Zc⟩
  ·rw[eL K0 h];exact tL
 ·rw[dx (by rw[hl9];exact hp)];exact tL
def GB (p:Pl)(n:aj)(hl:p.parts.length<=1000):ad 48 [(true,bU p),SS n] (.one (I (aZ p.bd n))):=by
 have hn:(p.parts.map mi).length =p.parts.length:=by simp
 have zI:p.bd.length=p.parts.length:=by simp[Pl.bd]
 refine sF f48 ?_
 (try(refine tX 0 ?_;try exact Zt))
 refine af (ι:=Nat) (λi=>i<=p.parts.length/\n∉p.bd.take i) (λi=>p.parts.length -i) (λi=>⟨[(1,lS n),(2,pP 0),(5,vI i)],[(0,some (.box 27 ((bU p).map .st)))],1⟩) 0 Zc ⟨dC _,by simp⟩ ?_;rintro i ⟨hi,dx⟩;by_cases ak:i<p.parts.length
 ·have he:=bg (f:=mi) ak ([],[]);have hg:p.bd.getD i []=(p.parts.getD i ([],[])).1:=by rw[getD_at ak,getD_at K0];simp[Pl.bd]
  have nK:=λe=>mM (l:=p.bd) (x:=n) (i:=i) K0 e dx;have FF:=iL (l:=p.bd) (i:=i) (x:=n) K0;rw[hg]at nK FF;generalize p.parts.getD i ([],[])=x at*;by_cases hx:x.1=n
  ·rw[nK hx];exact K87
  ·exact K50
 ·obtain rfl:i=p.parts.length:=by omega
  rw[o0 K0]at dx;exact ab8
def pR (p:Pl)(n:aj)(hl:p.aa.length<=1000):ad 75 [(true,bU p),SS n] (.one (I (aZ (cO p.aa) n))):=by
 have hn:(p.aa.map fC).length =p.aa.length:=by simp
 have zI:(cO p.aa).length =p.aa.length:=by simp[cO]
 refine sF f75 ?_
 (try(refine tX 0 ?_;try exact Zt))
 refine af (ι:=Nat) (λi=>i<=p.aa.length/\n∉(cO p.aa).take i) (λi=>p.aa.length -i) (λi=>⟨[(1,lS n),(2,pP 0),(5,vI i)],[(0,some (.box 27 ((bU p).map .st)))],1⟩) 0 Zc ⟨dC _,by simp⟩ ?_;rintro i ⟨hi,dx⟩;by_cases ak:i<p.aa.length
 ·have he:=iN ak;have hg:=rx ak;have nK:=λe=>mM (l:=cO p.aa) (x:=n) (i:=i) K0 e dx;have FF:=iL (l:=cO p.aa) (i:=i) (x:=n) K0;rw[hg]at nK FF;generalize p.aa.getD i dt=x at*;by_cases hx:x.name=n
  ·rw[nK hx];exact K87
  ·exact K50
 ·obtain rfl:i=p.aa.length:=by omega
  rw[o0 K0]at dx;exact ab8
def k8 (l:List aj)(i:Nat)(hi:i<l.length)(hl:l.length<=1000)(hs:(l.getD i []).length <=1000):ad 229 [V1 l,I i] (.one (I (gW l i))):=by
 have he:=sA hi;have hn:(ab l).length =l.length:=by simp
 have h1:=pl (l.getD i []) K0;have h2:=cj (l.take i) (l.getD i []) wG;have zx:(ab l).take i=ab (l.take i):=by simp
 have hm:gW l i=jp (jG (l.getD i [])) (if l.getD i []∈l.take i then 5 else 0):=rfl;unfold jG jp at hm;generalize l.getD i []=s at*;by_cases c1:eK s
 ·rw[if_pos c1,if_neg K9]at hm;rw[fH c1]at h1;by_cases c2:s∈l.take i
  ·rw[if_pos c2]at hm;rw[fH c2]at h2;exact af3
  ·rw[if_neg c2]at hm;rw[eT c2]at h2;exact af3
 ·rw[if_neg c1,if_pos K9]at hm;rw[eT c1]at h1;exact af3
def AD {l:List aj}{i:Nat}(h:i<l.length):gW (l.take (i+1)) i=gW l i:=by
 unfold gW;rw[List.take_take,Nat.min_eq_left K0,show(l.take (i+1)).getD i []=l.getD i []by simp[jE,h]]
abbrev bxP (p:Pl):co:=.box 27 ((bU p).map .st)
def alR {p:Pl}{i:Nat}(h:gW p.ay i≠0):p.dn i=gW p.ay i:=by unfold Pl.dn;exact eR h _
def alS {p:Pl}{i:Nat}(h:gW p.ay i=0):p.dn i=if 0<=(p.ae.getD i ([],0)).2/\(p.ae.getD i ([],0)).2<=3 then 0 else 15:=by unfold Pl.dn;rw[h,ji]
def pS {a b:Int × Int}(h:a.2≠0):oW a b=a:=if_pos h
def BE {a b:Int × Int}(h:a.2=0):oW a b=b:=if_neg UK
def TY {n m:Nat}(h:n=0):pI n m=10:=by subst h;rfl
def TZ {n m:Nat}(h0:0<n)(h:m<n):pI n m=8:=by unfold pI;rw[if_pos h0,if_neg K0]
def afb {n m:Nat}(h0:0<n)(h:n<=m):pI n m=0:=by unfold pI;rw[if_pos h0,if_pos h]
def GC {p:Pl}(hs:io p):ad 158 [(true,bU p)] (.aJ (Q4 (oW (0,pI p.ae.length 8) (cM p.dn p.ae.length)))):=by
 have hn:(p.ae.map m9).length =p.ae.length:=by simp
 have zI:p.ay.length=p.ae.length:=by simp[Pl.ay]
 have hpe:=hs.pe;by_cases h0:p.ae.length=0
 ·rw[pS (by rw[TY h0];decide),TY h0];refine sF f158 ?_;exact tA
 by_cases h8:8<p.ae.length
 ·rw[pS (by rw[TZ K0 h8];decide),TZ K0 h8];refine sF f158 ?_;exact tA
 rw[BE (by rw[afb K0 K0])];refine sF f158 ?_
 (try(refine tX 0 ?_;try exact Zt))
 refine af (ι:=Nat) (λi=>i<=p.ae.length/\∀j<i,p.dn j=0) (λi=>p.ae.length -i) (λi=>⟨[(1,pP 0),(4,pO 1),(5,vI i)],[(0,some (bxP p)),(1,some (.row true 1 (.view (ab (p.ay.take i)))))],2⟩) 0 (bs.trans (jz 4 1 (.view []) K9 rfl rfl rfl) Zc) ⟨dC _,λj hj=>by omega⟩ ?_;rintro i ⟨hi,hp⟩;by_cases ak:i<p.ae.length
 ·have he:=bg (f:=m9) ak ([],0);have hg:p.ay.getD i []=(p.ae.getD i ([],0)).1:=by rw[getD_at ak,getD_at K0];simp[Pl.ay]
  have vP:=take_succ (l:=p.ay) (i:=i) K0;have e8:=k8 (p.ay.take (i+1)) i wG wG (by rw[show(p.ay.take (i+1)).getD i []=p.ay.getD i []by simp[jE],hg];exact hs.pn i ak);rw[AD K0]at e8;have hea:=alR (p:=p) (i:=i);have Pg:=alS (p:=p) (i:=i);have eL:=λ(h:p.dn i≠0)=>fK (f:=p.dn) ak hp h;have iT:=λ(h:p.dn i=0)=>all_succ hp h;have vN:(ab (p.ay.take i)).length <=1000:=by simp;omega
  rw[hg]at vP;rw[vP]at e8
  delta V1 at e8
  rw[lV]at e8;generalize p.ae.getD i ([],0)=x at*;generalize gW p.ay i=e at*;by_cases h1:e=0
  ·have Pg:=Pg h1;by_cases h2:0<=x.2/\x.2<=3
   ·rw[if_pos h2]at Pg;repeat' ((first|(refine kO 7 rfl ?_;first|refine Rq (ec _ _ _) ?_)|refine tX 0 ?_|exact Zt|refine bR ?_ ?_<;>intro h)<;>(try conv=>whnf))
    all_goals first|exact Zo|exact⟨i+1,⟨ak,iT Pg⟩,by omega,ai abJ⟩
   ·rw[if_neg h2]at Pg;rw[eL (by rw[Pg];decide),Pg];exact K16
  ·rw[eL (by rw[hea h1];exact h1),hea h1];exact K16
 ·obtain rfl:i=p.ae.length:=by omega
  rw[gT hp];exact tA
def Ku {p:Pl}(hs:io p):ad 159 [(true,bU p)] (.aJ (Q4 (oW (0,pI p.ap.length 4) (cM (gW p.ap) p.ap.length)))):=by
 have hn:(ab p.ap).length =p.ap.length:=by simp
 have hga:=hs.ga;by_cases h0:p.ap.length=0
 ·rw[pS (by rw[TY h0];decide),TY h0];refine sF f159 ?_;exact tA
 by_cases h8:4<p.ap.length
 ·rw[pS (by rw[TZ K0 h8];decide),TZ K0 h8];refine sF f159 ?_;exact tA
 rw[BE (by rw[afb K0 K0])];refine sF f159 ?_
 (try(refine tX 0 ?_;try exact Zt))
 refine af (ι:=Nat) (λi=>i<=p.ap.length/\∀j<i,gW p.ap j=0) (λi=>p.ap.length -i) (λi=>⟨[(1,pP 0),(4,vI i)],[(0,some (bxP p))],1⟩) 0 Zc ⟨dC _,λj hj=>by omega⟩ ?_;rintro i ⟨hi,hp⟩;by_cases ak:i<p.ap.length
 ·have e8:=k8 p.ap i ak hga (hs.gn i ak);have eL:=λ(h:gW p.ap i≠0)=>fK (f:=gW p.ap) ak hp h;have iT:=λ(h:gW p.ap i=0)=>all_succ (f:=gW p.ap) hp h;by_cases h1:gW p.ap i=0
  ·rw[h1]at e8;repeat' ((first|refine tX 0 ?_|exact Zt|refine bR ?_ ?_<;>intro h)<;>(try conv=>whnf))
   all_goals first|exact Zo|exact⟨i+1,⟨ak,iT h1⟩,by omega,Zc⟩|(exact absurd rfl h)
  ·rw[eL h1];generalize gW p.ap i=e at*;exact tA
 ·obtain rfl:i=p.ap.length:=by omega
  rw[gT hp];exact tA
end Go.Proofs.Tryz
