import Derived.Test.YtolnfpljgjpbpaaGreatDoorPk5
set_option linter.all false
namespace Go.Proofs.Tryz
open Go.Fw Go.IntWalk Go.Plain
set_option maxRecDepth 100000
set_option maxHeartbeats 8000000
abbrev F9 (a b c d e f g h i:Int):SV:=(true,[J a,J b,J c,J d,J e,J f,J g,J h,J i])
abbrev vB (b:Bool):Option DV:=some (.val (false,[.st (.lit (.bool b))]))
abbrev zu (n:Int):Prop:=0<=n/\n<=63
abbrev adr (n:Int):Prop:=1<=n/\n<=4196
abbrev Ud (t p q a b c d e f:Int):Prop:=(zu t/\adr p/\adr q)/\(zu a/\zu b)/\(zu c/\zu d)/\zu e/\zu f
abbrev KB (p q a b c d e f:Int):Prop:=p<=q/\a<=b/\c<=d/\e<=f
def eT (t p q a b c d e f:Int):Int:=if Ud t p q a b c d e f then(if KB p q a b c d e f then 0 else 9)else 2
def g9 (b0 b1 b2 b3:Bool):Nat->Bool
 |0=>b0
 |1=>b0&&b1
 |2=>(b0&&b1)&&b2
 |_=>((b0&&b1)&&b2)&&b3
def zw (t p q a b c d e f:Int)(x1 x2 x3 x4 x5 x6 x7 x8 x9:Bool)(h1:ac 200 [I t,I 0,I 63] (.one (Bo x1)))(h2:ac 200 [I p,I 1,I 4196] (.one (Bo x2)))(h3:ac 200 [I q,I 1,I 4196] (.one (Bo x3)))
  (h4:ac 200 [I a,I 0,I 63] (.one (Bo x4)))(h5:ac 200 [I b,I 0,I 63] (.one (Bo x5)))(h6:ac 200 [I c,I 0,I 63] (.one (Bo x6)))(h7:ac 200 [I d,I 0,I 63] (.one (Bo x7)))(h8:ac 200 [I e,I 0,I 63] (.one (Bo x8)))(h9:ac 200 [I f,I 0,I 63] (.one (Bo x9))):
  ac 234 [F9 t p q a b c d e f] (.one (I (fs [if g9 (x1&&x2&&x3) (x4&&x5) (x6&&x7) (x8&&x9) 3=true then 0 else 2,if g9 (decide (p<=q)) (decide (a<=b)) (decide (c<=d)) (decide (e<=f)) 3=true then 0 else 9]))):=by
 refine sF f234 ?_;refine aS ?_;(refine aR ?_;conv=>whnf);(try(refine tX 2 ?_;try exact Zt));refine acD (ι:=Unit) (λ_=>True) (λ_=>⟨[(1,pP 0),(3,vB (x1&&x2&&x3))],[(0,some (.box 254 [.st (J t),.st (J p),.st (J q),.st (J a),.st (J b),.st (J c),.st (J d),.st (J e),.st (J f)]))],1⟩) ?_ ?_
 ·refine aR ?_
  (conv=>whnf)
  repeat' ((first|refine tX 0 ?_|exact Zt|refine bR ?_ ?_<;>intro h)<;>(try conv=>whnf))
  all_goals((try simp only[Mb]at*);subst_vars;exact⟨(),trivial,Zc⟩)
 ·generalize (x1&&x2&&x3)=z0;intro _ _
  (try(refine tX 0 ?_;try exact Zt))
  refine af (ι:=Nat) (λi=>i<=3) (λi=>3 -i) (λi=>⟨[(3,vB (g9 z0 (x4&&x5) (x6&&x7) (x8&&x9) i)),(4,vB (g9 (decide (p<=q)) (decide (a<=b)) (decide (c<=d)) (decide (e<=f)) i)),(35,some (.val (true,[.st (J a),.st (J b),.st (J c),.st (J d),.st (J e),.st (J f)]))),(36,vI i)],[],1⟩) 0 Zc (dz _) ?_;intro i hi;rcases(show i=0\/i=1\/i=2\/i=3 by omega)with rfl|rfl|rfl|rfl
  ·have e1:g9 z0 (x4&&x5) (x6&&x7) (x8&&x9) (0+1)=(g9 z0 (x4&&x5) (x6&&x7) (x8&&x9) 0&&(x4&&x5)):=rfl;have e2:g9 (decide (p<=q)) (decide (a<=b)) (decide (c<=d)) (decide (e<=f)) (0+1)=(g9 (decide (p<=q)) (decide (a<=b)) (decide (c<=d)) (decide (e<=f)) 0&&decide (a<=b)):=rfl;generalize g9 z0 (x4&&x5) (x6&&x7) (x8&&x9) 0=z at e1 ⊢;generalize g9 (decide (p<=q)) (decide (a<=b)) (decide (c<=d)) (decide (e<=f)) 0=v at e2 ⊢;repeat' ((first|refine tX 0 ?_|exact Zt|refine bR ?_ ?_<;>intro h)<;>(try conv=>whnf))
   all_goals((try simp only[Mb]at*);subst_vars;exact⟨0+1,by omega,by omega,ai afS⟩)
  ·have e1:g9 z0 (x4&&x5) (x6&&x7) (x8&&x9) (1+1)=(g9 z0 (x4&&x5) (x6&&x7) (x8&&x9) 1&&(x6&&x7)):=rfl;have e2:g9 (decide (p<=q)) (decide (a<=b)) (decide (c<=d)) (decide (e<=f)) (1+1)=(g9 (decide (p<=q)) (decide (a<=b)) (decide (c<=d)) (decide (e<=f)) 1&&decide (c<=d)):=rfl;generalize g9 z0 (x4&&x5) (x6&&x7) (x8&&x9) 1=z at e1 ⊢;generalize g9 (decide (p<=q)) (decide (a<=b)) (decide (c<=d)) (decide (e<=f)) 1=v at e2 ⊢;repeat' ((first|refine tX 0 ?_|exact Zt|refine bR ?_ ?_<;>intro h)<;>(try conv=>whnf))
   all_goals((try simp only[Mb]at*);subst_vars;exact⟨1+1,by omega,by omega,ai afS⟩)
  ·have e1:g9 z0 (x4&&x5) (x6&&x7) (x8&&x9) (2+1)=(g9 z0 (x4&&x5) (x6&&x7) (x8&&x9) 2&&(x8&&x9)):=rfl;have e2:g9 (decide (p<=q)) (decide (a<=b)) (decide (c<=d)) (decide (e<=f)) (2+1)=(g9 (decide (p<=q)) (decide (a<=b)) (decide (c<=d)) (decide (e<=f)) 2&&decide (e<=f)):=rfl;generalize g9 z0 (x4&&x5) (x6&&x7) (x8&&x9) 2=z at e1 ⊢;generalize g9 (decide (p<=q)) (decide (a<=b)) (decide (c<=d)) (decide (e<=f)) 2=v at e2 ⊢;repeat' ((first|refine tX 0 ?_|exact Zt|refine bR ?_ ?_<;>intro h)<;>(try conv=>whnf))
   all_goals((try simp only[Mb]at*);subst_vars;exact⟨2+1,by omega,by omega,ai afS⟩)
  ·generalize g9 z0 (x4&&x5) (x6&&x7) (x8&&x9) 3=z;generalize g9 (decide (p<=q)) (decide (a<=b)) (decide (c<=d)) (decide (e<=f)) 3=v;repeat((first|(refine kO 7 rfl ?_;first|refine Rq (mJ _ _) ?_|refine rG (λ_ z=>⟨_,gW _ (fM rfl),z⟩) ?_)|refine tX 0 ?_|exact Zt);(try conv=>whnf))
   exact K5
def WA (t p q a b c d e f:Int):fs [if g9 (decide (zu t)&&decide (adr p)&&decide (adr q)) (decide (zu a)&&decide (zu b)) (decide (zu c)&&decide (zu d)) (decide (zu e)&&decide (zu f)) 3=true then 0 else 2,if g9 (decide (p<=q)) (decide (a<=b)) (decide (c<=d)) (decide (e<=f)) 3=true then 0 else 9]=eT t p q a b c d e f:=by
 unfold eT g9;simp only[<- Yh,SY];by_cases h:Ud t p q a b c d e f
 ·rw[if_pos h,if_pos (by obtain⟨⟨h1,h2,h3⟩,h4,h5,h6⟩:=h;exact⟨⟨⟨⟨⟨h1,h2⟩,h3⟩,h4⟩,h5⟩,h6⟩)];by_cases h':KB p q a b c d e f
  ·rw[if_pos h',if_pos (by obtain⟨k1,k2,k3,k4⟩:=h';exact⟨⟨⟨k1,k2⟩,k3⟩,k4⟩)];rfl
  ·rw[if_neg h',if_neg (by intro k;exact h' ⟨k.1.1.1,k.1.1.2,k.1.2,k.2⟩)];rfl
 ·rw[if_neg h,if_neg (by intro k;exact h ⟨⟨k.1.1.1.1.1,k.1.1.1.1.2,k.1.1.1.2⟩,k.1.1.2,k.1.2,k.2⟩)];simp[fs]
def AP (t p q a b c d e f:Int):ac 234 [F9 t p q a b c d e f] (.one (I (eT t p q a b c d e f))):=by
 rw[<- WA];exact zw _ _ _ _ _ _ _ _ _ _ _ _ _ _ _ _ _ _ (eO _ _ _) (eO _ _ _) (eO _ _ _) (eO _ _ _) (eO _ _ _) (eO _ _ _) (eO _ _ _) (eO _ _ _) (eO _ _ _)
def BY {t p q a b c d e f:Int}(h:eT t p q a b c d e f=0):Ud t p q a b c d e f/\KB p q a b c d e f:=by
 unfold eT at h;split at h
 ·rename_i h1;split at h
  ·rename_i h2;exact⟨h1,h2⟩
  ·omega
 ·omega
def G4 (t p q a b c d e f:Int):ac 316 [F9 t p q a b c d e f] (.one (I (eT t p q a b c d e f))):=by
 unfold eT;by_cases h:Ud t p q a b c d e f
 ·rw[if_pos h];obtain⟨⟨h1,h2,h3⟩,⟨h4,h5⟩,⟨h6,h7⟩,h8,h9⟩:=h;by_cases h':KB p q a b c d e f
  ·rw[if_pos h'];obtain⟨k1,k2,k3,k4⟩:=h';refine sF f316 ?_;repeat((first|(refine kO 7 rfl ?_;first|refine Rq (dt _ _ _) ?_)|refine tX 0 ?_|exact Zt);(try conv=>whnf))
   refine aA ?_;repeat((first|(refine kO 7 rfl ?_;first|refine Rq (dt _ _ _) ?_)|refine tX 0 ?_|exact Zt);(try conv=>whnf))
   refine aA ?_;repeat((first|(refine kO 7 rfl ?_;first|refine Rq (dt _ _ _) ?_)|refine tX 0 ?_|exact Zt);(try conv=>whnf))
   refine aA ?_;repeat((first|(refine kO 7 rfl ?_;first|refine Rq (dt _ _ _) ?_)|refine tX 0 ?_|exact Zt);(try conv=>whnf))
   refine aA ?_
   (try(refine tX 0 ?_;try exact Zt))
   refine aA ?_
   (try(refine tX 0 ?_;try exact Zt))
   refine aA ?_
   (try(refine tX 0 ?_;try exact Zt))
   refine aA ?_
   (try(refine tX 0 ?_;try exact Zt))
   refine aA ?_;exact K1
  ·rw[if_neg h'];refine sF f316 ?_;repeat((first|(refine kO 7 rfl ?_;first|refine Rq (dt _ _ _) ?_)|refine tX 0 ?_|exact Zt);(try conv=>whnf))
   refine aA ?_;repeat((first|(refine kO 7 rfl ?_;first|refine Rq (dt _ _ _) ?_)|refine tX 0 ?_|exact Zt);(try conv=>whnf))
   refine aA ?_;repeat((first|(refine kO 7 rfl ?_;first|refine Rq (dt _ _ _) ?_)|refine tX 0 ?_|exact Zt);(try conv=>whnf))
   refine aA ?_;repeat((first|(refine kO 7 rfl ?_;first|refine Rq (dt _ _ _) ?_)|refine tX 0 ?_|exact Zt);(try conv=>whnf))
   refine aA ?_
   (try(refine tX 0 ?_;try exact Zt))
   by_cases k1:p<=q
   ·(try(refine tX 0 ?_;try exact Zt))
    refine aA ?_;by_cases k2:a<=b
    ·(try(refine tX 0 ?_;try exact Zt))
     refine aA ?_;by_cases k3:c<=d
     ·(try(refine tX 0 ?_;try exact Zt))
      refine aA ?_;exact K1
     ·exact K1
    ·exact K1
   ·exact K1
 ·rw[if_neg h];refine sF f316 ?_;repeat' ((first|(refine kO 7 rfl ?_;first|refine Rq (dt _ _ _) ?_)|refine tX 0 ?_|exact Zt|refine bR ?_ ?_<;>intro h)<;>(try conv=>whnf))
  all_goals first|(exact rfl)|(refine aA ?_)
  repeat' ((first|(refine kO 7 rfl ?_;first|refine Rq (dt _ _ _) ?_)|refine tX 0 ?_|exact Zt|refine bR ?_ ?_<;>intro h)<;>(try conv=>whnf))
  all_goals first|(exact rfl)|(refine aA ?_)
  repeat' ((first|(refine kO 7 rfl ?_;first|refine Rq (dt _ _ _) ?_)|refine tX 0 ?_|exact Zt|refine bR ?_ ?_<;>intro h)<;>(try conv=>whnf))
  all_goals first|(exact rfl)|(refine aA ?_)
  repeat' ((first|(refine kO 7 rfl ?_;first|refine Rq (dt _ _ _) ?_)|refine tX 0 ?_|exact Zt|refine bR ?_ ?_<;>intro h)<;>(try conv=>whnf))
  all_goals first|exact Zo|(exact rfl)|(refine aA ?_)
  repeat' ((first|(refine kO 7 rfl ?_;first|refine Rq (dt _ _ _) ?_)|refine tX 0 ?_|exact Zt|refine bR ?_ ?_<;>intro h)<;>(try conv=>whnf))
  all_goals first|exact Zo|(exact rfl)
end Go.Proofs.Tryz
