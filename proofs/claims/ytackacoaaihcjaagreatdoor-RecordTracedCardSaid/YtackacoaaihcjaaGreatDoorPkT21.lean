import Derived.Test.YtackacoaaihcjaaGreatDoorPkT17
set_option linter.all false
namespace Go.Proofs.Tryz
open Go.Fw Go.IntWalk Go.Plain
set_option maxRecDepth 100000
set_option maxHeartbeats 8000000
def aa1:En:=⟨0,[],[]⟩
def shA (l:List En)(i:Nat):Prop:=(l.getD i aa1).text.length <=410/\(l.getD i aa1).lk.length <=20
def shN (l:List En):Prop:=¬(40<l.length/\l.length<=60)/\l.length<=62
def shP (l:List En):Prop:=shN l/\∀i<l.length,shA l i
noncomputable instance (l:List En):Decidable (shP l):=Classical.propDecidable _
def WM (l:List En)(hl:l.length<=9223372036854775807):ad 10 [(false,[.view (l.map df)])] (.one (Bo (decide (shP l)))):=by
 have hn:(l.map df).length =l.length:=by simp
 by_cases h0:shN l;rotate_left
 ·unfold shN at h0;refine sF f10 ?_;exact K72
 have h0':=h0;unfold shN at h0';refine sF f10 ?_;repeat' ((first|refine tX 0 ?_|exact Zt|refine bR ?_ ?_<;>intro h)<;>(try conv=>whnf))
 all_goals try(exfalso;omega)
 all_goals
  refine af (ι:=Nat) (λi=>i<=l.length/\∀j<i,shA l j) (λi=>l.length -i) (λi=>⟨[(0,some (.val (false,[.st (.view (l.map df))]))),(3,vI i)],[],1000⟩) 0 Zc ⟨dC _,λj hj=>by omega⟩ ?_;rintro i ⟨hi,hp⟩;by_cases ak:i<l.length
  ·have he:=bg (f:=df) ak aa1;have dx: ¬shA l i->¬shP l:=λh hh=>h (hh.2 i ak);have iT:=λ(h:shA l i)=>vn hp h;unfold shA at dx iT;generalize l.getD i aa1=e at*;repeat' ((first|refine tX 0 ?_|exact Zt|refine bR ?_ ?_<;>intro h)<;>(try conv=>whnf))
   all_goals first|exact Zo|exact gX (eT (dx K0)).symm |exact⟨i+1,⟨ak,iT K0⟩,by omega,Zc⟩
  ·exact ahS
end Go.Proofs.Tryz
