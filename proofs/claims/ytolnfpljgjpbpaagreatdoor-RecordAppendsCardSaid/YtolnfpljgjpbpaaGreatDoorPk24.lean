import Derived.Test.YtolnfpljgjpbpaaGreatDoorPk20
set_option linter.all false
namespace Go.Proofs.Tryz
open Go.Fw Go.IntWalk Go.Plain
set_option maxRecDepth 100000
set_option maxHeartbeats 8000000
inductive sL:Hp->Hp->Prop
 |base (T:Hp):sL T T
 |step {k:Nat} {b:Option cC} {H T:Hp} (h:Nat.blt 0 (tag k)=true) (e:sL H T):sL ((k,b)::H) T
theorem sL.get {H T:Hp}{root:Nat}(h:sL H T)(hT:LB T root): ∀k∈ah T,T.get k=H.get k:=by
 induction h with
 |base=>grind
 |step h e ih=>
  intro k hk;rw[Hp.kL (λe=>by subst e;rw[Bj]at h;have:=(hT.lt k hk).2;omega)]
  grind
def ol {f:FuncId}{fid:Nat}{y:SV}{p:Pl}{log sB:List En}{s s':bV}{z:Int}{H:Hp}(h:bA cx f 1 ((false,[.ptr 1 0])::[y].map dyn) (form p log s) [1] (.val (dyn (I z))) (form p sB s'))(hl:s.units.length<=1000)(sP:s'.units.length<=1000)
  (hf:tag fid≠0)(hO:sL H (form p log s)):
  bI cx fid f [(false,[.ptr 1 0]),dyn y] H.get (.val (dyn (I z))) (cH (form p log s) (cT (aq (tag fid) 1) (form p sB s'))) (ah (form p log s)):=by
 have hT:=cN p log hl;have eP:=cN p sB sP;have g:=xb (H:=H.get) h hT eP (dG _) hf (hO.get hT) (λx hx=>?_) (bd (I z))
 ·exact amr
 ·rcases cF.1 hx with rfl|hx
  ·exact afB
  grind[bd]
def zF {fid nx n' b:Nat}{T T' H:Hp}{E E':dS}{ks:List Nat}{cs:List SC}(hT:LB T 1)(eP:LB T' 1)(hf:tag fid≠0)(hb:tag b≠0)(hbf:tag b≠tag fid)(hbn:tag b<n')(hH:H.get b=some (.dX cs))
  (hE:eZ (gw (aq (tag fid) 1) T' [(b,some (.dX cs))]) E.get ks=some E'):
  bu ⟨E,cH T (cT (aq (tag fid) 1) T')++H,nx⟩ ⟨E',(b,some (.dX cs))::T',n'⟩:=by
 have h1:b∉ah T:=λh=>hb (hT.lt b h).2;have h2:b∉ah T':=λh=>hb (eP.lt b h).2;refine(Eb (R:=[(b,some (.dX cs))]) (n':=n') hT eP hf (by simp) (λk hk=>?_) (λid bl e=>?_) K0 hE).trans (CN ?_)
 grind
 ·obtain⟨rfl,rfl⟩:=fJ e;exact⟨hH,trivial⟩
 ·have:=qA (A:=T') (F':=[(b,some (.dX cs))]) (B:=[]) (λn hn hm=>by
   grind)
  grind
section
variable (p:Pl)(log:List En)(s s':bV)(et:Int)(ew tx:aj)
theorem RC (hl:s.units.length<=1000)(sP:s'.units.length<=1000)(hp:p.ae.length<=1000)(ht:tx.length<=100000)(C0:log.length<60){role w k:Nat}{rest:Bool}{f:FuncId}(hf:iZ uL (B ((aH 32 tx).getD 0 []))=some (Ob role w k rest f))(hX:s7 p log et ew tx true=0)
  {ik:Nat}(I9:be p.ax ew=(ik:Nat))(Aa:ik<p.ae.length)(hr: ¬(p.ae.getD ik ([],0)).2<role){a:List aj}{n:List Int}{r:aj}(Be:ac 61 [Ob role w k rest f,SS tx] (.aI [xp a n r,Bo true]))
  {z:Int}(hz:z≠0)(hef:bA cx f 1 ((false,[.ptr 1 0])::[xp a n r].map dyn) (form p log s) [1] (.val (dyn (I z))) (form p log s')):
  bA cx 35 1 ((false,[.ptr 1 0])::[enX ⟨et,ew,tx⟩].map dyn) (form p log s) [1] (.val (dyn (I z))) (form p log s'):=by
 have hn:(log.map cd).length =log.length:=by simp
 have hpn:(p.ae.map nh).length =p.ae.length:=by simp
 have he:=aZ (f:=nh) Aa ([],0);have c1:=lZ p.ae et ew tx hp;have c2:=gT tx 32 K0;rw[Wt]at c2;generalize (Lib.cut tx [32]).2.1=q1 at*;generalize (Lib.cut tx [32]).2.2=q2 at*;have c3:=kD tx K0;generalize (aH 32 tx).getD 0 []=wd at*;have C3:fs [if be p.ax ew>=0 then 0 else 6,if 0<=et/\et<=1000000000000 then 0 else 2,if et>=im log then 0 else 9,if((tx.length:Nat):Int)<=400 then 0 else 8,if aU tx then 0 else 3,if true=true then 0 else 7]=0:=hX;rw[I9]at C3;rw[show p.ae.map Prod.fst=p.ax from rfl,I9]at c1;generalize p.ae.getD ik ([],0)=pe at*;obtain⟨pn,pr⟩:=pe;dsimp only at hr;have ce:=λfid H hO hf=>ol (fid:=fid) (H:=H) hef hl sP hf hO;have hT:=cN p log hl;have eP:=cN p log sP;clear hef;obtain⟨volt,earth,opens,hall,lots,units⟩:=s;obtain⟨amc,ahi,ag6,alV,alU,aha⟩:=s'
 rcases Ku log with⟨g1,g2⟩|⟨j,g1,g2,g3⟩
 ·rw[g2]at C3;refine gF f35 sP ?_;repeat' ((first|(refine kO 7 rfl ?_;first|refine Rh (kl _ _) ?_)|refine tX 0 ?_|exact Zt|refine bR ?_ ?_<;>intro h)<;>(try conv=>whnf))
  rw[hf];repeat' ((first|(refine kO 7 rfl ?_;first|refine Rq (iT _) ?_|refine rG (λ_ z=>⟨_,wF C3,z⟩) ?_)|refine tX 0 ?_|exact Zt|refine bR ?_ ?_<;>intro h)<;>(try conv=>whnf))
  repeat((first|(refine kO 7 rfl ?_;first|refine oa (λ_ z=>⟨_,_,_,(ce _ _ K68 (fj rfl)),z⟩) ?_)|refine tX 2 ?_|exact Zt);(try conv=>whnf))
  refine aM ?_;(refine aR ?_;conv=>whnf);(try(refine tX 2 ?_;try exact Zt));refine⟨_,zF (b:=2) (cs:=cd ⟨et,ew,tx⟩) (E':=[(0,pP 1),(3,pP 2),(16,vI z),(114,some (lit (.bool (z != 0))))]) (ks:=[0,3,16,114]) (n':=1000) hT eP (fj rfl) (fj rfl) (fj rfl) (fM rfl) rfl dy,?_⟩;exact K82
 ·rw[g3]at C3;have hN:dJ (((log.map cd).length :Int) -1) j:=⟨by omega⟩;generalize log.getD j ⟨0,[],[]⟩=le at*;obtain⟨lt,lw,lx⟩:=le;refine gF f35 sP ?_;repeat' ((first|(refine kO 7 rfl ?_;first|refine Rh (kl _ _) ?_)|refine tX 0 ?_|exact Zt|refine bR ?_ ?_<;>intro h)<;>(try conv=>whnf))
  all_goals rw[hf]
  all_goals repeat' ((first|(refine kO 7 rfl ?_;first|refine Rq (iT _) ?_|refine rG (λ_ z=>⟨_,wF C3,z⟩) ?_)|refine tX 0 ?_|exact Zt|refine bR ?_ ?_<;>intro h)<;>(try conv=>whnf))
  all_goals try(exfalso;omega)
  repeat((first|(refine kO 7 rfl ?_;first|refine oa (λ_ z=>⟨_,_,_,(ce _ _ K68 (fj rfl)),z⟩) ?_)|refine tX 2 ?_|exact Zt);(try conv=>whnf))
  refine aM ?_;(refine aR ?_;conv=>whnf);(try(refine tX 2 ?_;try exact Zt));refine⟨_,zF (b:=2) (cs:=cd ⟨et,ew,tx⟩) (E':=[(0,pP 1),(3,pP 2),(16,vI z),(114,some (lit (.bool (z != 0))))]) (ks:=[0,3,16,114]) (n':=1000) hT eP (fj rfl) (fj rfl) (fj rfl) (fM rfl) rfl dy,?_⟩;exact K82
theorem WL (hl:s.units.length<=1000)(sP:s'.units.length<=1000)(hp:p.ae.length<=1000)(ht:tx.length<=100000)(C0:log.length<60){role w k:Nat}{rest:Bool}{f:FuncId}(hf:iZ uL (B ((aH 32 tx).getD 0 []))=some (Ob role w k rest f))(hX:s7 p log et ew tx true=0)
  {ik:Nat}(I9:be p.ax ew=(ik:Nat))(Aa:ik<p.ae.length)(hr: ¬(p.ae.getD ik ([],0)).2<role){a:List aj}{n:List Int}{r:aj}(Be:ac 61 [Ob role w k rest f,SS tx] (.aI [xp a n r,Bo true]))
  (hef:bA cx f 1 ((false,[.ptr 1 0])::[xp a n r].map dyn) (form p log s) [1] (.val (dyn (I 0))) (form p log s')):
  bA cx 35 1 ((false,[.ptr 1 0])::[enX ⟨et,ew,tx⟩].map dyn) (form p log s) [1] (.val (dyn (I 0))) (form p (log++[⟨et,ew,tx⟩]) s'):=by
 have hn:(log.map cd).length =log.length:=by simp
 have hpn:(p.ae.map nh).length =p.ae.length:=by simp
 have he:=aZ (f:=nh) Aa ([],0);have c1:=lZ p.ae et ew tx hp;have c2:=gT tx 32 K0;rw[Wt]at c2;generalize (Lib.cut tx [32]).2.1=q1 at*;generalize (Lib.cut tx [32]).2.2=q2 at*;have c3:=kD tx K0;generalize (aH 32 tx).getD 0 []=wd at*;have C3:fs [if be p.ax ew>=0 then 0 else 6,if 0<=et/\et<=1000000000000 then 0 else 2,if et>=im log then 0 else 9,if((tx.length:Nat):Int)<=400 then 0 else 8,if aU tx then 0 else 3,if true=true then 0 else 7]=0:=hX;rw[I9]at C3;rw[show p.ae.map Prod.fst=p.ax from rfl,I9]at c1;generalize p.ae.getD ik ([],0)=pe at*;obtain⟨pn,pr⟩:=pe;dsimp only at hr;have ce:=λfid H hO hf=>ol (fid:=fid) (H:=H) hef hl sP hf hO;have hT:=cN p log hl;have eP:=cN p log sP;clear hef;obtain⟨volt,earth,opens,hall,lots,units⟩:=s;obtain⟨amc,ahi,ag6,alV,alU,aha⟩:=s'
 rcases Ku log with⟨g1,g2⟩|⟨j,g1,g2,g3⟩
 ·rw[g2]at C3;refine gF f35 sP ?_;repeat' ((first|(refine kO 7 rfl ?_;first|refine Rh (kl _ _) ?_)|refine tX 0 ?_|exact Zt|refine bR ?_ ?_<;>intro h)<;>(try conv=>whnf))
  rw[hf];repeat' ((first|(refine kO 7 rfl ?_;first|refine Rq (iT _) ?_|refine rG (λ_ z=>⟨_,wF C3,z⟩) ?_)|refine tX 0 ?_|exact Zt|refine bR ?_ ?_<;>intro h)<;>(try conv=>whnf))
  repeat((first|(refine kO 7 rfl ?_;first|refine oa (λ_ z=>⟨_,_,_,(ce _ _ K68 (fj rfl)),z⟩) ?_)|refine tX 2 ?_|exact Zt);(try conv=>whnf))
  refine aM ?_;(refine aR ?_;conv=>whnf);(try(refine tX 2 ?_;try exact Zt));refine⟨_,zF (b:=2) (cs:=cd ⟨et,ew,tx⟩) (E':=[(0,pP 1),(3,pP 2),(16,vI 0),(114,some (lit (.bool (0 != 0))))]) (ks:=[0,3,16,114]) (n':=1000) hT eP (fj rfl) (fj rfl) (fj rfl) (fM rfl) rfl dy,?_⟩;exact tL
 ·rw[g3]at C3;have hN:dJ (((log.map cd).length :Int) -1) j:=⟨by omega⟩;generalize log.getD j ⟨0,[],[]⟩=le at*;obtain⟨lt,lw,lx⟩:=le;refine gF f35 sP ?_;repeat' ((first|(refine kO 7 rfl ?_;first|refine Rh (kl _ _) ?_)|refine tX 0 ?_|exact Zt|refine bR ?_ ?_<;>intro h)<;>(try conv=>whnf))
  all_goals rw[hf]
  all_goals repeat' ((first|(refine kO 7 rfl ?_;first|refine Rq (iT _) ?_|refine rG (λ_ z=>⟨_,wF C3,z⟩) ?_)|refine tX 0 ?_|exact Zt|refine bR ?_ ?_<;>intro h)<;>(try conv=>whnf))
  all_goals try(exfalso;omega)
  repeat((first|(refine kO 7 rfl ?_;first|refine oa (λ_ z=>⟨_,_,_,(ce _ _ K68 (fj rfl)),z⟩) ?_)|refine tX 2 ?_|exact Zt);(try conv=>whnf))
  refine aM ?_;(refine aR ?_;conv=>whnf);(try(refine tX 2 ?_;try exact Zt));refine⟨_,zF (b:=2) (cs:=cd ⟨et,ew,tx⟩) (E':=[(0,pP 1),(3,pP 2),(16,vI 0),(114,some (lit (.bool (0 != 0))))]) (ks:=[0,3,16,114]) (n':=1000) hT eP (fj rfl) (fj rfl) (fj rfl) (fM rfl) rfl dy,?_⟩;exact tL
end
end Go.Proofs.Tryz
