import Derived.Test.YtackacoaaihcjaaGreatDoorPkM5
set_option linter.all false
namespace Go.Proofs.Tryz
open Go.Fw Go.IntWalk Go.Plain
set_option maxRecDepth 100000
set_option maxHeartbeats 8000000
def Q6 {l:List aj}{x:aj}:l.take (l.idxOf x)++l.drop (l.idxOf x+1)=l.erase x:=by rw[List.erase_eq_eraseIdx_of_idxOf rfl,List.eraseIdx_eq_take_drop_succ]
def ag3 {fid:Nat}{H:HF}{id:Nat}(zs:List aj)(i:Nat)(hi:i<zs.length)(hb:H id=some (.row true 1 (.view (ab zs)))):
  bX cx fid 202 [(false,[.own id]),(false,[.st (.lit (.int .i64 (i:Int)))]),(false,[.st (.lit (.int .i64 ((i:Int)+1)))])] H (bm (.own fid)) [(fid,some (.row true 1 (.view (ab (zs.take i++zs.drop (i+1)))))),(id,none)] [id]:=by
 have:=Nu (C:=cx) (fid:=fid) (f:=202) cT zs i (i+1) K0 K0 (λb cap arr T w q1 q2 q3 q4=>adj zs i (i+1) K0 K0 b cap arr T w q1 q2 q3 q4) hb;rwa [show((i+1:Nat):Int)=(i:Int)+1 by omega]at this
def aaL (E:uj)(p:Pl)(log:List En)(s:bP)(hl:s.units.length<=1000)(x:aj)(n:List Int)(r:aj)(hg:p.ap.length<=1000)(hs:s.opens.length<=1000):
  bx cx 118 1 ((false,[.ptr 1 0])::[w7 [x] n r].map dyn) (form p log s) [1] (.val (dyn (I (bs E p log s 4 [x] n r).2))) (form p log (bs E p log s 4 [x] n r).1):=by
 obtain⟨volt,earth,opens,hall,lots,units⟩:=s;have hs:opens.length<=1000:=hs;have c1:=bI p.ap x K0;have c2:=bI opens x K0;have e:bs E p log ⟨volt,earth,opens,hall,lots,units⟩ 4 [x] n r=if x∈p.ap then(if x∈opens then(⟨volt,earth,opens,hall,lots,units⟩,20)else if volt=false/\earth=true then(⟨volt,earth,opens++[x],hall,lots,units⟩,0)else(⟨volt,earth,opens,hall,lots,units⟩,24))else(⟨volt,earth,opens,hall,lots,units⟩,6):=rfl
 rw[e];clear e;by_cases h1:x∈p.ap
 all_goals
  first|(rw[fL h1]at c1;rw[if_pos h1])|(rw[fj h1]at c1;rw[if_neg h1])
  by_cases h2:x∈opens
  all_goals
   first|rw[fL h2]at c2|rw[fj h2]at c2
   try first|rw[if_pos h2]|rw[if_neg h2]
   cases volt<;>cases earth
   all_goals
    try first|rw[if_pos (⟨rfl,rfl⟩:false=false/\true=true)]|rw[if_neg (by decide: ¬(false=false/\false=true))]|rw[if_neg (by decide: ¬(true=false/\false=true))]|rw[if_neg (by decide: ¬(true=false/\true=true))]
    refine gF f118 hl ?_;exact K65
def aaM (E:uj)(p:Pl)(log:List En)(s:bP)(hl:s.units.length<=1000)(x:aj)(n:List Int)(r:aj)(hg:p.ap.length<=1000)(hs:s.opens.length<=1000):
  bx cx 119 1 ((false,[.ptr 1 0])::[w7 [x] n r].map dyn) (form p log s) [1] (.val (dyn (I (bs E p log s 5 [x] n r).2))) (form p log (bs E p log s 5 [x] n r).1):=by
 obtain⟨volt,earth,opens,hall,lots,units⟩:=s;have hs:opens.length<=1000:=hs;have c1:=bI p.ap x K0;have c2:=Ao opens x K0;have e:bs E p log ⟨volt,earth,opens,hall,lots,units⟩ 5 [x] n r=if x∈p.ap then(if x∈opens then(⟨volt,earth,opens.erase x,hall,lots,units⟩,0)else(⟨volt,earth,opens,hall,lots,units⟩,20))else(⟨volt,earth,opens,hall,lots,units⟩,6):=rfl
 rw[e];clear e;by_cases h2:x∈opens
 ·have hk:=XU h2;have d1:=λfid H id hb=>ag3 (fid:=fid) (H:=H) (id:=id) opens (opens.idxOf x) hk hb;rw[Q6]at d1;rw[show bg opens x=(opens.idxOf x:Nat)by unfold bg;rw[if_pos h2]]at c2;rw[if_pos h2];generalize opens.idxOf x=k at*;by_cases h1:x∈p.ap
  ·rw[fL h1]at c1;rw[if_pos h1];refine gF f119 hl ?_;repeat' ((first|(refine kO 7 rfl ?_;first|refine rG (λ_ z=>⟨_,aO (by omega) _,z⟩) ?_|refine rG (λ_ z=>⟨_,bK (by omega) _,z⟩) ?_|refine rG (λ_ z=>⟨_,wF rfl,z⟩) ?_|refine im (λ_ z=>⟨_,_,_,(d1 _ _ _ rfl),z⟩) ?_)|refine tX 0 ?_|exact Zt|refine bR ?_ ?_<;>intro h)<;>(try conv=>whnf))
   all_goals exact Ew
  ·rw[fj h1]at c1;rw[if_neg h1];exact K35
 ·rw[show bg opens x= -1 by unfold bg;rw[if_neg h2]]at c2;rw[if_neg h2];by_cases h1:x∈p.ap
  ·rw[fL h1]at c1;rw[if_pos h1];exact K35
  ·rw[fj h1]at c1;rw[if_neg h1];exact K35
end Go.Proofs.Tryz
