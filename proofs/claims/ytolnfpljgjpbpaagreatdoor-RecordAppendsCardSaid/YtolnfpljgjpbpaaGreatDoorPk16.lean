import Derived.Test.YtolnfpljgjpbpaaGreatDoorPk11
set_option linter.all false
namespace Go.Proofs.Tryz
open Go.Fw Go.IntWalk Go.Plain
set_option maxRecDepth 100000
set_option maxHeartbeats 8000000
def OP {e:Int}{q:Sp}{ch:List Sp}{sa:Int}{la:List Int}{sb:Int}{lb:List Int}(h:dx e q ch sa la sb lb=0):
  (∃o,sc e (PI la lb (Fl la.length)) (some (G9 q))=some o/\Ui e q la lb=o/\¬km o)\/(sc e (PI la lb (Fl la.length)) (some (G9 q))=none/\km (Ui e q la lb)):=by
 obtain⟨_,hF,gk,_⟩:=xw h;exact Ue (Uf hF) (PI la lb (Fl la.length)) (Uf hF) (uN _) gk
def wh (e:Int)(q:Sp)(ch:List Sp)(sa:Int)(la:List Int)(sb:Int)(lb:List Int)(hq:qE q)(wl: ∀s∈ch,qE s)(hla:la.length<=maxLen)(hlb:lb.length<=maxLen):
  ac 260 [Ru e q ch,Rc sa la,Rc sb lb] (.aI (WC (dx e q ch sa la sb lb) e (Ui e q la lb))):=by
 have s1:=ON e q ch sa la sb lb hq wl hla hlb;unfold WC;by_cases h:dx e q ch sa la sb lb=0
 ·obtain⟨he,hF,_,hn,hl,ha,hb⟩:=xw h;have s2:=RG sa (l:=la) K0;have s3:=FK (ix:=Fl la.length) ch sa sb hF he hl (by rw[Ug];omega) ha hb (λw hw=>Ri _ w hw);have hf:=OP h;rw[h]at s1 ⊢;rw[if_neg K0];generalize Ui e q la lb=S at*;generalize sc e (PI la lb (Fl la.length)) (some (G9 q))=O at*;generalize Fl la.length=r at*
  rcases hf with⟨o,rfl,rfl,h1⟩|⟨rfl,h1⟩
  ·rw[if_neg h1];unfold agR at s3;by_cases h0:e=0
   ·rw[if_pos h0];refine sF f260 ?_;exact K1
   ·rw[if_neg h0];refine sF f260 ?_;exact K1
  ·rw[if_pos h1];unfold agR at s3;refine sF f260 ?_;exact K1
 ·rw[if_pos h];generalize dx e q ch sa la sb lb=z at*;refine sF f260 ?_;exact K1
end Go.Proofs.Tryz
