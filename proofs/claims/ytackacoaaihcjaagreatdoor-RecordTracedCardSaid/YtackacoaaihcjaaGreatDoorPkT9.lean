import Derived.Test.YtackacoaaihcjaaGreatDoorPkT5
set_option linter.all false
namespace Go.Proofs.Tryz
open Go.Fw Go.IntWalk Go.Plain
set_option maxRecDepth 100000
set_option maxHeartbeats 8000000
def BB (d t:Int):Prop:=(0<=d/\d<=200)/\0<=t/\t<=100000
instance (d t:Int):Decidable (BB d t):=by unfold BB;infer_instance
def w6 (d t:Int):Int:=if BB d t then(if d<80 then 0 else 2^((d -80)/6).toNat *t)else 0
def Wl (d t:Int):Int:=if BB d t then 0 else 2
def aao {k:Nat}(hk:k<=20):(1:Int)<=2^k/\(2:Int)^k<=1048576:=by
 have h1:(2:Nat)^k<=2^20:=XD K0 hk;have h2:0< (2:Nat)^k:=Nat.pow_pos K0;have e:((2^k:Nat):Int)=(2:Int)^k:=by simp
 omega
def w7 {k:Nat}{t:Int}(hk:k<=20)(ht:0<=t/\t<=100000):0<=2^k*t/\2^k*t<=104857600000:=by
 obtain⟨h1,h2⟩:=aao hk;refine⟨CM K0 ht.1,?_⟩
 calc 2^k*t<=1048576*t:=Xt h2 ht.1
  _<=104857600000:=by omega
def aap (d t:Int)(hn: ¬BB d t):ad 39 [I d,I t] (.aJ [I 0,I 2]):=by
 unfold BB at hn;refine sF f39 ?_;exact tA
def Wm (d t:Int)(hg:BB d t)(hd:d<80):ad 39 [I d,I t] (.aJ [I 0,I 0]):=by
 unfold BB at hg;refine sF f39 ?_;exact tA
def QW (d t:Int)(hg:BB d t)(hd: ¬d<80):ad 39 [I d,I t] (.aJ [I (2^((d -80)/6).toNat *t),I 0]):=by
 unfold BB at hg;obtain⟨b1,b2⟩:=w7 (k:=((d -80)/6).toNat) (t:=t) K0 hg.2
 have e:IntKind.i64.wrap (t*2^min ((d -80)/6).toNat IntKind.i64.bits)=2^((d -80)/6).toNat *t:=by
  rw[show min ((d -80)/6).toNat IntKind.i64.bits=((d -80)/6).toNat by show min _ 64=_;omega,Int.mul_comm];exact i64_in _ K0
 have hq:0<=(d -80)/6:=by omega
 refine sF f39 ?_;repeat' ((first|refine tX 0 ?_|exact Zt|refine bR ?_ ?_<;>intro h)<;>(try conv=>whnf))
 all_goals first|exact Zo|skip
 rw[e]
def Wn (d t:Int)(hn: ¬BB d t):ad 281 [I d,I t] (.aJ [I 0,I 2]):=by
 unfold BB at hn;exact ahU
def QX (d t:Int)(hg:BB d t)(hd:d<80):ad 281 [I d,I t] (.aJ [I 0,I 0]):=by
 unfold BB at hg;exact ahU
def N8 (d t:Int)(hg:BB d t)(hd: ¬d<80):ad 281 [I d,I t] (.aJ [I (2^((d -80)/6).toNat *t),I 0]):=by
 unfold BB at hg;obtain⟨b1,b2⟩:=w7 (k:=((d -80)/6).toNat) (t:=t) K0 hg.2;refine sF f281 ?_;repeat((first|(refine kO 7 rfl ?_;first|refine Rq (mS _ _ _) ?_)|refine tX 0 ?_|exact Zt);(try conv=>whnf))
 refine af (ι:=Nat) (λi=>(i:Int)<=(d -80)/6) (λi=>((d -80)/6).toNat -i) (λi=>⟨[(0,vI d),(1,vI t),(6,vI (2^i)),(7,vI i)],[],0⟩) 0 Zc (by simp only[Int.natCast_zero];omega) ?_;intro i hi;have hp:=aao (k:=i) K0;by_cases ak:(i:Int)< (d -80)/6
 ·have e:(2:Int)^(i+1)=2*2^i:=by rw[Int.pow_succ];omega
  repeat' ((first|refine tX 0 ?_|exact Zt|refine bR ?_ ?_<;>intro h)<;>(try conv=>whnf))
  all_goals first|exact Zo|exact⟨i+1,by omega,by omega,ai (by rw[e];kernel_rfl)⟩
 ·obtain rfl:i=((d -80)/6).toNat :=by omega
  exact tA
def Ik (d t:Int):ad 39 [I d,I t] (.aJ [I (w6 d t),I (Wl d t)]):=by
 unfold w6 Wl;by_cases h:BB d t
 ·rw[if_pos h,if_pos h];by_cases hd:d<80
  ·rw[if_pos hd];exact Wm d t h hd
  ·rw[if_neg hd];exact QW d t h hd
 ·rw[if_neg h,if_neg h];exact aap d t h
def QY (d t:Int):ad 281 [I d,I t] (.aJ [I (w6 d t),I (Wl d t)]):=by
 unfold w6 Wl;by_cases h:BB d t
 ·rw[if_pos h,if_pos h];by_cases hd:d<80
  ·rw[if_pos hd];exact QX d t h hd
  ·rw[if_neg hd];exact N8 d t h hd
 ·rw[if_neg h,if_neg h];exact Wn d t h
end Go.Proofs.Tryz
