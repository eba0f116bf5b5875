import Derived.Test.YtackacoaaihcjaaGreatDoorPkT9
import Derived.Test.YtackacoaaihcjaaGreatDoorPkT19
set_option linter.all false
set_option maxRecDepth 100000
set_option maxHeartbeats 8000000
namespace Go.Proofs.Tryz
open Go.Fw Go.IntWalk Go.Plain
def TW (d t:Int):0<=w6 d t/\w6 d t<=104857600000:=by
 unfold w6;by_cases h:BB d t
 ·rw[if_pos h];unfold BB at h;split
  ·omega
  ·exact w7 K0 h.2
 ·rw[if_neg h];omega
def aaq (E:qH)(p:Pl)(log:List En)(s:bK)(hl:s.units.length<=1000)(x y z':aj)(d t:Int)(r:aj)(hp: -1000000000000000<=p.eH/\p.eH<=1000000000000000)(hu: ∀u∈s.units,0<=u.used/\u.used<=1000000000000000):
  bt cx 131 1 ((false,[.ptr 1 0])::[wX [x,y,z'] [d,t] r].map dyn) (form p log s) [1] (.val (dyn (I (ba E p log s 17 [x,y,z'] [d,t] r).2))) (form p log (ba E p log s 17 [x,y,z'] [d,t] r).1):=by
 rw[show ba E p log s 17 [x,y,z'] [d,t] r=TG E p log s 17 x [x,y,z'] [d,t] r from rfl];obtain⟨volt,earth,opens,hall,lots,units⟩:=s;have cA:=Ik d t;by_cases hx:0<=gY ⟨volt,earth,opens,hall,lots,units⟩ x
 ·obtain⟨i,u,h1,h2,h3,h4,h5⟩:=jX hx;have c0:=λfid H=>k7 (fid:=fid) (H:=H) h3 hl h1;have hT:=nU p log ⟨volt,earth,opens,hall,lots,units⟩ (u':=u) h3 hl;have hu:=hu u (jt h3);have hA:=TW d t;obtain⟨name,win,ul,res,failed,rel,shaken,used,gas⟩:=u;have hu:0<=used/\used<=1000000000000000:=hu;have hq:aI E p log ⟨volt,earth,opens,hall,lots,units⟩ ⟨name,win,ul,res,failed,rel,shaken,used,gas⟩ 17 [x,y,z'] [d,t] r=if rel then(if shaken then(⟨name,win,ul,res,failed,rel,shaken,used,gas⟩,24)else if BB d t then(if used+w6 d t<=p.eH then(⟨name,win,ul,res,failed,rel,shaken,used+w6 d t,gas⟩,0)else(⟨name,win,ul,res,failed,rel,shaken,used,gas⟩,22))else(⟨name,win,ul,res,failed,rel,shaken,used,gas⟩,2))else(⟨name,win,ul,res,failed,rel,shaken,used,gas⟩,20):=rfl
  unfold Wl at cA;generalize w6 d t=A at*;cases rel
  ·rw[aY hx h2 h4 (hq.trans (if_neg xH))];refine gI f131 h3 hl rfl ?_;refine aS ?_;(refine aR ?_;conv=>whnf);(try(refine tX 2 ?_;try exact Zt));refine aQ ?_;(refine aR ?_;conv=>whnf);repeat((first|(refine kO 7 rfl ?_;first|refine se (λ_ z=>⟨_,_,_,(cK (fid:=_) h3 hl h1 (fG rfl) (fG rfl)),z⟩) ?_)|refine tX 2 ?_|exact Zt);(try conv=>whnf))
   refine⟨_,fL (E':=[(0,pP 1),(3,pP 2),(5,some (.val (false,[.cF 9 17 i 0]))),(6,some (.val (false,[.st (J 20)])))]) (ks:=[0,3,5,6]) (n':=1000) hT hT (fG rfl) (fG rfl) (fG rfl) (fP rfl) dp,?_⟩;exact ahY
  ·cases shaken
   ·by_cases hk:BB d t
    ·rw[if_pos hk]at cA;by_cases hb:A<=p.eH -used
     ·rw[aY hx h2 h4 (hq.trans ((if_pos rfl).trans ((if_neg xH).trans ((if_pos hk).trans (if_pos K0)))))];refine gI f131 h3 hl rfl ?_;refine aS ?_;(refine aR ?_;conv=>whnf);(try(refine tX 2 ?_;try exact Zt));refine aQ ?_;(refine aR ?_;conv=>whnf);repeat((first|(refine kO 7 rfl ?_;first|refine se (λ_ z=>⟨_,_,_,(cK (fid:=_) h3 hl h1 (fG rfl) (fG rfl)),z⟩) ?_)|refine tX 2 ?_|exact Zt);(try conv=>whnf))
      refine⟨_,fL (E':=[(0,pP 1),(3,pP 2),(5,some (.val (false,[.cF 9 17 i 0]))),(6,some (.val (false,[.st (J 0)])))]) (ks:=[0,3,5,6]) (n':=1000) hT hT (fG rfl) (fG rfl) (fG rfl) (fP rfl) dp,?_⟩;repeat' ((first|(refine kO 7 rfl ?_;first|refine Rq cA ?_|refine rG (λ_ z=>⟨_,aN hb _,z⟩) ?_|refine rG (λ_ z=>⟨_,wF rfl,z⟩) ?_)|refine tX 0 ?_|exact Zt|refine bR ?_ ?_<;>intro h)<;>(try conv=>whnf))
      all_goals exact Ei
     ·rw[aY hx h2 h4 (hq.trans ((if_pos rfl).trans ((if_neg xH).trans ((if_pos hk).trans (if_neg K0)))))];refine gI f131 h3 hl rfl ?_;refine aS ?_;(refine aR ?_;conv=>whnf);(try(refine tX 2 ?_;try exact Zt));refine aQ ?_;(refine aR ?_;conv=>whnf);repeat((first|(refine kO 7 rfl ?_;first|refine se (λ_ z=>⟨_,_,_,(cK (fid:=_) h3 hl h1 (fG rfl) (fG rfl)),z⟩) ?_)|refine tX 2 ?_|exact Zt);(try conv=>whnf))
      refine⟨_,fL (E':=[(0,pP 1),(3,pP 2),(5,some (.val (false,[.cF 9 17 i 0]))),(6,some (.val (false,[.st (J 0)])))]) (ks:=[0,3,5,6]) (n':=1000) hT hT (fG rfl) (fG rfl) (fG rfl) (fP rfl) dp,?_⟩;repeat' ((first|(refine kO 7 rfl ?_;first|refine Rq cA ?_|refine rG (λ_ z=>⟨_,bG hb _,z⟩) ?_|refine rG (λ_ z=>⟨_,wF rfl,z⟩) ?_)|refine tX 0 ?_|exact Zt|refine bR ?_ ?_<;>intro h)<;>(try conv=>whnf))
      all_goals exact Ei
    ·rw[if_neg hk]at cA;rw[aY hx h2 h4 (hq.trans ((if_pos rfl).trans ((if_neg xH).trans (if_neg hk))))];refine gI f131 h3 hl rfl ?_;refine aS ?_;(refine aR ?_;conv=>whnf);(try(refine tX 2 ?_;try exact Zt));refine aQ ?_;(refine aR ?_;conv=>whnf);repeat((first|(refine kO 7 rfl ?_;first|refine se (λ_ z=>⟨_,_,_,(cK (fid:=_) h3 hl h1 (fG rfl) (fG rfl)),z⟩) ?_)|refine tX 2 ?_|exact Zt);(try conv=>whnf))
     refine⟨_,fL (E':=[(0,pP 1),(3,pP 2),(5,some (.val (false,[.cF 9 17 i 0]))),(6,some (.val (false,[.st (J 0)])))]) (ks:=[0,3,5,6]) (n':=1000) hT hT (fG rfl) (fG rfl) (fG rfl) (fP rfl) dp,?_⟩;exact K67
   ·rw[aY hx h2 h4 (hq.trans ((if_pos rfl).trans (if_pos rfl)))];refine gI f131 h3 hl rfl ?_;refine aS ?_;(refine aR ?_;conv=>whnf);(try(refine tX 2 ?_;try exact Zt));refine aQ ?_;(refine aR ?_;conv=>whnf);repeat((first|(refine kO 7 rfl ?_;first|refine se (λ_ z=>⟨_,_,_,(cK (fid:=_) h3 hl h1 (fG rfl) (fG rfl)),z⟩) ?_)|refine tX 2 ?_|exact Zt);(try conv=>whnf))
    refine⟨_,fL (E':=[(0,pP 1),(3,pP 2),(5,some (.val (false,[.cF 9 17 i 0]))),(6,some (.val (false,[.st (J 0)])))]) (ks:=[0,3,5,6]) (n':=1000) hT hT (fG rfl) (fG rfl) (fG rfl) (fP rfl) dp,?_⟩;by_cases hk:BB d t
    all_goals
     first|rw[if_pos hk]at cA|rw[if_neg hk]at cA
     exact K67
 ·rw[oL hx];have hT:=dl p log (s:=⟨volt,earth,opens,hall,lots,units⟩) hl;refine gF f131 hl ?_;refine aS ?_;(refine aR ?_;conv=>whnf);(try(refine tX 2 ?_;try exact Zt));refine aQ ?_;(refine aR ?_;conv=>whnf);repeat((first|(refine kO 7 rfl ?_;first|refine se (λ_ z=>⟨_,_,_,(pM (fid:=_) hl afU (fG rfl) (fG rfl)),z⟩) ?_)|refine tX 2 ?_|exact Zt);(try conv=>whnf))
  refine⟨_,fL (E':=[(0,pP 1),(3,pP 2),(5,some (.val (false,[.st (.lit (.pointer none))]))),(6,some (.val (false,[.st (J 6)])))]) (ks:=[0,3,5,6]) (n':=1000) hT hT (fG rfl) (fG rfl) (fG rfl) (fP rfl) dp,?_⟩;exact K65
def adn (E:qH)(p:Pl)(log:List En)(s:bK)(hl:s.units.length<=1000)(x a1 a2 a3 a4 a5:aj)(h m e y a:Int)(r:aj)(hu: ∀u∈s.units,u.gas.length<=1000):
  bt cx 132 1 ((false,[.ptr 1 0])::[wX [x,a1,a2,a3,a4,a5] [h,m,e,y,a] r].map dyn) (form p log s) [1] (.val (dyn (I (ba E p log s 18 [x,a1,a2,a3,a4,a5] [h,m,e,y,a] r).2))) (form p log (ba E p log s 18 [x,a1,a2,a3,a4,a5] [h,m,e,y,a] r).1):=by
 rw[show ba E p log s 18 [x,a1,a2,a3,a4,a5] [h,m,e,y,a] r=TG E p log s 18 x [x,a1,a2,a3,a4,a5] [h,m,e,y,a] r from rfl];obtain⟨volt,earth,opens,hall,lots,units⟩:=s;have cG:=E1 (h:=h) (m:=m) (e:=e) (y:=y) (a:=a);by_cases hx:0<=gY ⟨volt,earth,opens,hall,lots,units⟩ x
 ·obtain⟨i,u,h1,h2,h3,h4,h5⟩:=jX hx;have c0:=λfid H=>k7 (fid:=fid) (H:=H) h3 hl h1;have hT:=nU p log ⟨volt,earth,opens,hall,lots,units⟩ (u':=u) h3 hl;have hu:=hu u (jt h3);obtain⟨name,win,ul,res,failed,rel,shaken,used,gas⟩:=u;have hu:gas.length<=1000:=hu;have hq:aI E p log ⟨volt,earth,opens,hall,lots,units⟩ ⟨name,win,ul,res,failed,rel,shaken,used,gas⟩ 18 [x,a1,a2,a3,a4,a5] [h,m,e,y,a] r=if rel then(if gok h m e y a then(if gas.length<10 then(⟨name,win,ul,res,failed,rel,shaken,used,gas++[⟨h,m,e,y,a⟩]⟩,0)else(⟨name,win,ul,res,failed,rel,shaken,used,gas⟩,16))else(⟨name,win,ul,res,failed,rel,shaken,used,gas⟩,2))else(⟨name,win,ul,res,failed,rel,shaken,used,gas⟩,20):=rfl
  unfold Wj at cG;have hgl:(gas.map uV).length =gas.length:=by simp
  cases rel
  ·rw[aY hx h2 h4 (hq.trans (if_neg xH))];refine gI f132 h3 hl rfl ?_;refine aS ?_;(refine aR ?_;conv=>whnf);(try(refine tX 2 ?_;try exact Zt));refine aQ ?_;(refine aR ?_;conv=>whnf);repeat((first|(refine kO 7 rfl ?_;first|refine se (λ_ z=>⟨_,_,_,(cK (fid:=_) h3 hl h1 (fG rfl) (fG rfl)),z⟩) ?_)|refine tX 2 ?_|exact Zt);(try conv=>whnf))
   refine⟨_,fL (E':=[(0,pP 1),(3,pP 2),(5,some (.val (false,[.cF 9 17 i 0]))),(6,some (.val (false,[.st (J 20)])))]) (ks:=[0,3,5,6]) (n':=1000) hT hT (fG rfl) (fG rfl) (fG rfl) (fP rfl) dp,?_⟩;exact ahY
  ·by_cases hk:gok h m e y a
   ·rw[if_pos hk]at cG;by_cases hb:gas.length<10
    ·rw[aY hx h2 h4 (hq.trans ((if_pos rfl).trans ((if_pos hk).trans (if_pos hb))))];refine gI f132 h3 hl rfl ?_;refine aS ?_;(refine aR ?_;conv=>whnf);(try(refine tX 2 ?_;try exact Zt));refine aQ ?_;(refine aR ?_;conv=>whnf);repeat((first|(refine kO 7 rfl ?_;first|refine se (λ_ z=>⟨_,_,_,(cK (fid:=_) h3 hl h1 (fG rfl) (fG rfl)),z⟩) ?_)|refine tX 2 ?_|exact Zt);(try conv=>whnf))
     refine⟨_,fL (E':=[(0,pP 1),(3,pP 2),(5,some (.val (false,[.cF 9 17 i 0]))),(6,some (.val (false,[.st (J 0)])))]) (ks:=[0,3,5,6]) (n':=1000) hT hT (fG rfl) (fG rfl) (fG rfl) (fP rfl) dp,?_⟩;repeat' ((first|(refine kO 7 rfl ?_;first|refine rG (λ_ z=>⟨_,aN abU _,z⟩) ?_|refine rG (λ_ z=>⟨_,wF rfl,z⟩) ?_)|refine tX 0 ?_|exact Zt|refine bR ?_ ?_<;>intro h)<;>(try conv=>whnf))
     all_goals exact Ei
    ·rw[aY hx h2 h4 (hq.trans ((if_pos rfl).trans ((if_pos hk).trans (if_neg hb))))];refine gI f132 h3 hl rfl ?_;refine aS ?_;(refine aR ?_;conv=>whnf);(try(refine tX 2 ?_;try exact Zt));refine aQ ?_;(refine aR ?_;conv=>whnf);repeat((first|(refine kO 7 rfl ?_;first|refine se (λ_ z=>⟨_,_,_,(cK (fid:=_) h3 hl h1 (fG rfl) (fG rfl)),z⟩) ?_)|refine tX 2 ?_|exact Zt);(try conv=>whnf))
     refine⟨_,fL (E':=[(0,pP 1),(3,pP 2),(5,some (.val (false,[.cF 9 17 i 0]))),(6,some (.val (false,[.st (J 0)])))]) (ks:=[0,3,5,6]) (n':=1000) hT hT (fG rfl) (fG rfl) (fG rfl) (fP rfl) dp,?_⟩;repeat' ((first|(refine kO 7 rfl ?_;first|refine rG (λ_ z=>⟨_,bG abU _,z⟩) ?_|refine rG (λ_ z=>⟨_,wF rfl,z⟩) ?_)|refine tX 0 ?_|exact Zt|refine bR ?_ ?_<;>intro h)<;>(try conv=>whnf))
     all_goals exact Ei
   ·rw[if_neg hk]at cG;rw[aY hx h2 h4 (hq.trans ((if_pos rfl).trans (if_neg hk)))];refine gI f132 h3 hl rfl ?_;refine aS ?_;(refine aR ?_;conv=>whnf);(try(refine tX 2 ?_;try exact Zt));refine aQ ?_;(refine aR ?_;conv=>whnf);repeat((first|(refine kO 7 rfl ?_;first|refine se (λ_ z=>⟨_,_,_,(cK (fid:=_) h3 hl h1 (fG rfl) (fG rfl)),z⟩) ?_)|refine tX 2 ?_|exact Zt);(try conv=>whnf))
    refine⟨_,fL (E':=[(0,pP 1),(3,pP 2),(5,some (.val (false,[.cF 9 17 i 0]))),(6,some (.val (false,[.st (J 0)])))]) (ks:=[0,3,5,6]) (n':=1000) hT hT (fG rfl) (fG rfl) (fG rfl) (fP rfl) dp,?_⟩;by_cases hb:gas.length<10
    all_goals
     repeat' ((first|(refine kO 7 rfl ?_;first|refine rG (λ_ z=>⟨_,aN abU _,z⟩) ?_|refine rG (λ_ z=>⟨_,bG abU _,z⟩) ?_|refine rG (λ_ z=>⟨_,wF rfl,z⟩) ?_)|refine tX 0 ?_|exact Zt|refine bR ?_ ?_<;>intro h)<;>(try conv=>whnf))
     all_goals exact Ei
 ·rw[oL hx];have hT:=dl p log (s:=⟨volt,earth,opens,hall,lots,units⟩) hl;refine gF f132 hl ?_;refine aS ?_;(refine aR ?_;conv=>whnf);(try(refine tX 2 ?_;try exact Zt));refine aQ ?_;(refine aR ?_;conv=>whnf);repeat((first|(refine kO 7 rfl ?_;first|refine se (λ_ z=>⟨_,_,_,(pM (fid:=_) hl afU (fG rfl) (fG rfl)),z⟩) ?_)|refine tX 2 ?_|exact Zt);(try conv=>whnf))
  refine⟨_,fL (E':=[(0,pP 1),(3,pP 2),(5,some (.val (false,[.st (.lit (.pointer none))]))),(6,some (.val (false,[.st (J 6)])))]) (ks:=[0,3,5,6]) (n':=1000) hT hT (fG rfl) (fG rfl) (fG rfl) (fP rfl) dp,?_⟩;exact K65
def Wo (E:qH)(p:Pl)(log:List En)(s:bK)(hl:s.units.length<=1000)(x y:aj)(k:Int)(r:aj):
  bt cx 129 1 ((false,[.ptr 1 0])::[wX [x,y] [k] r].map dyn) (form p log s) [1] (.val (dyn (I (ba E p log s 15 [x,y] [k] r).2))) (form p log (ba E p log s 15 [x,y] [k] r).1):=by
 rw[show ba E p log s 15 [x,y] [k] r=TG E p log s 15 x [x,y] [k] r from rfl];obtain⟨volt,earth,opens,hall,lots,units⟩:=s;by_cases hx:0<=gY ⟨volt,earth,opens,hall,lots,units⟩ x
 ·obtain⟨i,u,h1,h2,h3,h4,h5⟩:=jX hx;have c0:=λfid H=>k7 (fid:=fid) (H:=H) h3 hl h1;have hT:=nU p log ⟨volt,earth,opens,hall,lots,units⟩ (u':=u) h3 hl;obtain⟨name,win,ul,res,failed,rel,shaken,used,gas⟩:=u;have hq:aI E p log ⟨volt,earth,opens,hall,lots,units⟩ ⟨name,win,ul,res,failed,rel,shaken,used,gas⟩ 15 [x,y] [k] r=if rel then(if k<=1000 then(⟨name,win,ul,res,failed,rel,shaken || decide (k>p.dW),used,gas⟩,0)else(⟨name,win,ul,res,failed,rel,shaken,used,gas⟩,2))else(⟨name,win,ul,res,failed,rel,shaken,used,gas⟩,20):=rfl
  cases rel
  ·by_cases hk:k<=1000
   all_goals
    rw[aY hx h2 h4 (hq.trans (if_neg xH))];refine gI f129 h3 hl rfl ?_;refine aS ?_;(refine aR ?_;conv=>whnf);(try(refine tX 2 ?_;try exact Zt));refine aQ ?_;(refine aR ?_;conv=>whnf);repeat((first|(refine kO 7 rfl ?_;first|refine se (λ_ z=>⟨_,_,_,(cK (fid:=_) h3 hl h1 (fG rfl) (fG rfl)),z⟩) ?_)|refine tX 2 ?_|exact Zt);(try conv=>whnf))
    refine⟨_,fL (E':=[(0,pP 1),(3,pP 2),(5,some (.val (false,[.cF 9 17 i 0]))),(6,some (.val (false,[.st (J 20)])))]) (ks:=[0,3,5,6]) (n':=1000) hT hT (fG rfl) (fG rfl) (fG rfl) (fP rfl) dp,?_⟩;exact K39
  ·by_cases hk:k<=1000
   ·rw[aY hx h2 h4 (hq.trans ((if_pos rfl).trans (if_pos hk)))];refine gI f129 h3 hl rfl ?_;refine aS ?_;(refine aR ?_;conv=>whnf);(try(refine tX 2 ?_;try exact Zt));refine aQ ?_;(refine aR ?_;conv=>whnf);repeat((first|(refine kO 7 rfl ?_;first|refine se (λ_ z=>⟨_,_,_,(cK (fid:=_) h3 hl h1 (fG rfl) (fG rfl)),z⟩) ?_)|refine tX 2 ?_|exact Zt);(try conv=>whnf))
    refine⟨_,fL (E':=[(0,pP 1),(3,pP 2),(5,some (.val (false,[.cF 9 17 i 0]))),(6,some (.val (false,[.st (J 0)])))]) (ks:=[0,3,5,6]) (n':=1000) hT hT (fG rfl) (fG rfl) (fG rfl) (fP rfl) dp,?_⟩;cases shaken
    all_goals
     exact K39
   ·rw[aY hx h2 h4 (hq.trans ((if_pos rfl).trans (if_neg hk)))];refine gI f129 h3 hl rfl ?_;refine aS ?_;(refine aR ?_;conv=>whnf);(try(refine tX 2 ?_;try exact Zt));refine aQ ?_;(refine aR ?_;conv=>whnf);repeat((first|(refine kO 7 rfl ?_;first|refine se (λ_ z=>⟨_,_,_,(cK (fid:=_) h3 hl h1 (fG rfl) (fG rfl)),z⟩) ?_)|refine tX 2 ?_|exact Zt);(try conv=>whnf))
    refine⟨_,fL (E':=[(0,pP 1),(3,pP 2),(5,some (.val (false,[.cF 9 17 i 0]))),(6,some (.val (false,[.st (J 0)])))]) (ks:=[0,3,5,6]) (n':=1000) hT hT (fG rfl) (fG rfl) (fG rfl) (fP rfl) dp,?_⟩;exact K39
 ·rw[oL hx];have hT:=dl p log (s:=⟨volt,earth,opens,hall,lots,units⟩) hl;refine gF f129 hl ?_;refine aS ?_;(refine aR ?_;conv=>whnf);(try(refine tX 2 ?_;try exact Zt));refine aQ ?_;(refine aR ?_;conv=>whnf);repeat((first|(refine kO 7 rfl ?_;first|refine se (λ_ z=>⟨_,_,_,(pM (fid:=_) hl afU (fG rfl) (fG rfl)),z⟩) ?_)|refine tX 2 ?_|exact Zt);(try conv=>whnf))
  refine⟨_,fL (E':=[(0,pP 1),(3,pP 2),(5,some (.val (false,[.st (.lit (.pointer none))]))),(6,some (.val (false,[.st (J 6)])))]) (ks:=[0,3,5,6]) (n':=1000) hT hT (fG rfl) (fG rfl) (fG rfl) (fP rfl) dp,?_⟩;by_cases hk:k<=1000
  all_goals
   repeat' ((first|(refine kO 7 rfl ?_;first|refine rG (λ_ z=>⟨_,aN hk _,z⟩) ?_|refine rG (λ_ z=>⟨_,bG hk _,z⟩) ?_|refine rG (λ_ z=>⟨_,wF rfl,z⟩) ?_)|refine tX 0 ?_|exact Zt|refine bR ?_ ?_<;>intro h)<;>(try conv=>whnf))
   all_goals exact Ew
end Go.Proofs.Tryz
