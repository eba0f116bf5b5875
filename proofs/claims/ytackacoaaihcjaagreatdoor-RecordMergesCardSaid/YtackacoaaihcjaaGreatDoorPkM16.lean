import Derived.Test.YtackacoaaihcjaaGreatDoorPkM13
set_option linter.all false
namespace Go.Proofs.Tryz
open Go.Fw Go.IntWalk Go.Plain
set_option maxRecDepth 1000000
set_option maxHeartbeats 80000000
def smF (k:Int)(s:aj):Int:=s.foldl (λk b=>(k*131+b.toNat+1)%1000003) k
def ahj {k:Int}{s:aj}(h:0<=k/\k<1000003):0<=smF k s/\smF k s<1000003:=by
 unfold smF
 induction s generalizing k with
 |nil=>exact h
 |cons b s ih=>exact ih ⟨CR _ K9,Lv _ K9⟩
def abp {k:Int}{s:aj}{i:Nat}(h:i<s.length):smF k (s.take (i+1))=(smF k (s.take i)*131+(s.getD i 0).toNat +1)%1000003:=by
 rw[CQ,pj h,jN,pj h];unfold smF;rw[List.foldl_append];rfl
def ad7 (k:Int)(s:aj)(hk:0<=k/\k<1000003)(hl:s.length<=1000000):bx cx 87 1 ((false,[.ptr 1 0])::[SS s].map dyn) [(1,some (.box 184 ([J k].map .st)))] [1] (.aI []) [(1,some (.box 184 ([J (smF k s)].map .st)))]:=by
 have hb:=vg s;refine Zl (fn:=f87) lJ cT cT rfl cT (fO rfl) cT ?_
 (try(refine tX 0 ?_;try exact Zt))
 refine af (ι:=Nat) (λi=>i<=s.length) (λi=>s.length -i) (λi=>⟨[(0,pP 1),(7,some (.val (false,[.st (.view (kQ (B s)))]))),(8,vI s.length),(9,vI i)],[(1,some (.box 184 [.st (J (smF k (s.take i)))]))],1000⟩) 0 (ai ab5) (dD _) ?_;intro i hi;by_cases ak:i<s.length
 ·have hg:=JP ak;have FJ:((s.getD i 0).toNat :Int)<=255:=by exact UX
  have hs:=abp (k:=k) ak;have hc:=ahj (s:=s.take i) hk;generalize smF k (s.take i)=c at*;generalize (s.getD i 0)=b at*;repeat' ((first|refine tX 0 ?_|exact Zt|refine bR ?_ ?_<;>intro h)<;>(try conv=>whnf))
  all_goals first|exact Zo|exact⟨i+1,ak,by omega,ai (by rw[hs];kernel_rfl)⟩
 ·obtain rfl:i=s.length:=by omega
  rw[mA];repeat' ((first|refine tX 0 ?_|exact Zt|refine bR ?_ ?_<;>intro h)<;>(try conv=>whnf))
  all_goals first|exact Zo|exact⟨rfl,rfl,_,rfl,rfl⟩
def Xb (k:Int)(s:aj)(hk:0<=k/\k<1000003)(hl:s.length<=1000000):ac 41 [SS s,I k] (.aI [I (smF k s),I 0]):=by
 have c1:=ad7 k s hk hl;have c2:=λ(H:HF) (id fid:Nat) (h:H id=some (.box 184 ([J k].map .st)))=>HM (H:=H) (id:=id) (fid:=fid) (r:=.aI []) (λ_=>rfl) (λok=>show ∀x∈([]:List DX),eh ok x from λ_ hx=>by cases hx) c1 h;clear c1;refine sF f41 ?_;repeat' ((first|(refine kO 7 rfl ?_;first|refine im (λ_ z=>⟨_,_,_,(c2 _ _ _ rfl),z⟩) ?_)|refine tX 0 ?_|exact Zt|refine bR ?_ ?_<;>intro h)<;>(try conv=>whnf))
 all_goals exact Z0
def ahk:ac 40 [G5 10 5 1 4 4] (.aI [A3 1 0 2,I 0]):=by
 have c1:ac 86 [G5 10 5 1 4 4] (.one (A3 1 0 2)):=by
  refine sF f86 ?_;exact tA
 have c2:=E4 10 5 1 4 4;rw[Kp Yo]at c2;refine sF f40 ?_;exact tA
def Pn:List (aj × aj):=[([119,105,109],[117,110,105,116,32,116,49,32,100,43,48,47,52,48,48,32,121,43,48,47,50,51,49,32,53]),([119,105,109],[108,111,116,32,119,105,114,101]),([119,105,109],[117,115,101,32,116,49,32,119,105,114,101]),([116,101,97],[111,112,101,110,32,103,49]),([119,105,109],[101,110,116,101,114,32,116,49]),([116,101,97],[115,104,117,116,32,103,49]),([116,101,97],[116,101,115,116,32,116,49,32,114,97,116,105,111,32,57,57,32,49,48,49]),([116,101,97],[108,105,102,116]),([116,101,97],[118,111,108,116,97,103,101]),([116,101,97],[116,101,115,116,32,116,49,32,108,111,119,32,49,32,48,32,51,48,32,54,48,32,49,48,48,32,57,48,32,55,48,32,53,50,32,52,48,32,50,48]),([116,101,97],[116,101,115,116,32,116,49,32,102,117,108,108,32,49,32,48,32,51,48,32,54,48,32,49,48,48,32,57,48,32,55,48,32,53,50,32,52,48,32,50,48])]
def Ur:List En:=Pn.mapIdx λi q=>⟨i,q.1,q.2⟩
abbrev mdL (i:Nat):List (List SC):=Pn.mapIdx λj q=>[J (if j<i then j else 0),T q.1,T q.2]
abbrev mdO (i:Nat):List (List SC):=(Ur.take i).map be
def abq:ac 38 [] (.one (false,[.view (Ur.map be)])):=by
 refine nY.xK (z:=3) ?_;refine sF f38 ?_
 (try(refine tX 0 ?_;try exact Zt))
 refine af (ι:=Nat) (λi=>i<=11) (λi=>11 -i) (λi=>⟨[(2,pO 0),(3,pO 1),(4,vI i)],[(0,some (.row true 3 (.view (mdO i)))),(1,some (.row true 3 (.view (mdL i))))],2⟩) 0
  (bp.trans (iG 2 3 (.view []) K9 rfl rfl rfl) Zc) (dD _) ?_
 intro i hi;by_cases ak:i<11
 ·have key: ∀i<11,(mdL i)[i]? =some [J 0,T (Pn.getD i ([],[])).1,T (Pn.getD i ([],[])).2]/\(mdL i).set i [J i,T (Pn.getD i ([],[])).1,T (Pn.getD i ([],[])).2]=mdL (i+1)/\mdO (i+1)=mdO i++[[J i,T (Pn.getD i ([],[])).1,T (Pn.getD i ([],[])).2]]:=λi h=>by
   match i,h with
   |0,_|1,_|2,_|3,_|4,_|5,_|6,_|7,_|8,_|9,_|10,_=>exact⟨rfl,rfl,rfl⟩
  obtain⟨k1,k2,k3⟩:=key i ak;have n1:(mdL i).length =11:=by simp[mdL,Pn]
  have n2:(mdO i).length =i:=by simp[mdO,Ur,Pn];omega
  have k4:((mdL i).set i [J i,T (Pn.getD i ([],[])).1,T (Pn.getD i ([],[])).2])[(i:Int).toNat]? =some [J i,T (Pn.getD i ([],[])).1,T (Pn.getD i ([],[])).2]:=by rw[sP];exact IT K0
  generalize (Pn.getD i ([],[])).1=a at*;generalize (Pn.getD i ([],[])).2=b at*;generalize mdL i=L at*;generalize mdO i=O at*;repeat' ((first|refine tX 0 ?_|exact Zt|refine bR ?_ ?_<;>intro h)<;>(try conv=>whnf))
  all_goals first|exact Zo|exact⟨i+1,ak,by omega,ai (by rw[k3,<- k2];kernel_rfl)⟩
 ·obtain rfl:i=11:=by omega
  exact tA
def plQ:Pl:=⟨[([119,105,109],1),([116,101,97],2),([107,97,121],3)],[[103,49]],[⟨[114,97,116,105,111],0,[],[],95,105⟩,⟨[108,111,119],1,[[114,97,116,105,111]],[49,59,49,47,49,32,52,47,49],90,110⟩,⟨[102,117,108,108],2,[[108,111,119]],[49,59,49,47,49,32,52,47,49],0,0⟩],[([108,101,97,100],[[114,97,116,105,111]])],10,100⟩
def Xc:ac 37 [] (.one (true,bE plQ)):=by
 refine sF f37 ?_;exact afL
end Go.Proofs.Tryz
