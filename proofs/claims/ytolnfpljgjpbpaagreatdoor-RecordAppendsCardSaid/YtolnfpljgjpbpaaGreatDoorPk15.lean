import Derived.Test.YtolnfpljgjpbpaaGreatDoorPk13
set_option linter.all false
namespace Go.Proofs.Tryz
open Go.Fw Go.IntWalk Go.Plain
set_option maxRecDepth 100000
set_option maxHeartbeats 8000000
abbrev wb (p:Pu):List SC:=[J p.1,J p.2.1,J p.2.2]
abbrev Fo (x:G1):List SC:=[T x.name,J x.per,J x.least,J x.lo.1,J x.lo.2,J x.hi.1,J x.hi.2,.view (x.ps.map wb)]
def Rk (x:G1):Prop:=(qd x.lo.1/\qd x.lo.2)/\qd x.hi.1/\qd x.hi.2
def se {a b:Int × Int}(h:a.2≠0):o9 a b=a:=if_pos h
def aaw {a b:Int × Int}(h:a.2=0):o9 a b=b:=if_neg U6
def OB (e:Int):ac 267 [Bo true,I e] (.one (I 0)):=qL true e
def Fp (e:Int):ac 267 [Bo false,I e] (.one (I e)):=qL false e
def alf {b c d:Prop} [Decidable b] [Decidable c] [Decidable d]:fs [if b then 0 else 2,if c then 0 else 11,if d then 0 else 9]=if b then(if c then(if d then 0 else 9)else 11)else 2:=by by_cases x:b<;>by_cases y:c<;>by_cases z:d<;>simp[fs,x,y,z]
def dF {l:List Int}{E:Int}(h:fs l=E)(hl:l.length<=1000000:=by exact fM rfl):ac 266 [(false,[.ints l])] (.one (I E)):=by
 have:=Fm l hl;rwa [h]at this
def qM (x:G1)(hn:x.name.length<=1000000)(hp:x.ps.length<=1000000)(hi:Rk x):ac 224 [(true,Fo x)] (.aI [I (mO x).1,I (mO x).2]):=by
 obtain⟨nm,pe,le,⟨a,b⟩,⟨c,d⟩,ps⟩:=x;dsimp only at hn hp;obtain⟨⟨i1,i2⟩,i3,i4⟩:=hi;dsimp only at i1 i2 i3 i4;have hl:(ps.map wb).length =ps.length:=by simp
 have c1:=OA nm hn;have c2:=aav a b c d i1 i2 i3 i4;show nR _ _ _ [(true,[T nm,J pe,J le,J a,J b,J c,J d,.view (ps.map wb)])] _;have e:jp (if jJ nm then 0 else 4) (jp (if(1<=pe/\pe<=1000000)/\1<=le/\le<=60 then 0 else 2) (jp (N9 (a,b) (c,d)) (if ps.length<=60 then 0 else 8)))=II ⟨nm,pe,le,(a,b),(c,d),ps⟩:=rfl;have Xs:mO ⟨nm,pe,le,(a,b),(c,d),ps⟩=o9 (0,II ⟨nm,pe,le,(a,b),(c,d),ps⟩) (cR (zh ps) ps.length):=rfl;rw[Xs];clear Xs;generalize II ⟨nm,pe,le,(a,b),(c,d),ps⟩=hE at*;generalize N9 (a,b) (c,d)=z at*
 have q1: ∀ {b' c':Prop} [Decidable b'] [Decidable c'],(b'↔(1<=pe/\pe<=1000000)/\1<=le/\le<=60)->(c'↔ps.length<=60)->fs [if jJ nm then 0 else 4,if b' then 0 else 2,z,if c' then 0 else 8]=hE:=by
  intro b' c' _ _ h k;rw[<- e];unfold jp;simp only[fs,h,k];(repeat' split)<;>first|rfl|omega
 have q2: ∀ {c':Prop} [Decidable c'],¬((1<=pe/\pe<=1000000)/\1<=le/\le<=60)->(c'↔ps.length<=60)->fs [if jJ nm then 0 else 4,2,z,if c' then 0 else 8]=hE:=by
  intro c' _ h k;rw[<- e];unfold jp;simp only[fs,h,k,kM];(repeat' split)<;>first|rfl|omega
 clear e;by_cases h0:hE=0;rotate_left
 ·rw[se h0];refine sF f224 ?_;repeat' ((first|(refine kO 7 rfl ?_;first|refine Rq (eF _ _ _) ?_|refine Rq (Fp _) ?_|refine Rq (jC _) ?_|refine rG (λ_ z=>⟨_,dF (q1 K0 K0),z⟩) ?_|refine rG (λ_ z=>⟨_,dF (q2 K0 K0),z⟩) ?_)|refine tX 0 ?_|exact Zt|refine bR ?_ ?_<;>intro h)<;>(try conv=>whnf))
  all_goals exact Z0
 ·rw[aaw h0];refine sF f224 ?_;repeat' ((first|(refine kO 7 rfl ?_;first|refine Rq (eF _ _ _) ?_|refine Rq (Fp _) ?_|refine Rq (jC _) ?_|refine rG (λ_ z=>⟨_,dF (q1 K0 K0),z⟩) ?_|refine rG (λ_ z=>⟨_,dF (q2 K0 K0),z⟩) ?_)|refine tX 0 ?_|exact Zt|refine bR ?_ ?_<;>intro h)<;>(try conv=>whnf))
  all_goals
   refine af (ι:=Nat) (λi=>i<=ps.length/\∀j<i,zh ps j=0) (λi=>ps.length -i) (λi=>⟨[(1,pP 0),(36,some (.val (false,[.st (.view (ps.map wb))]))),(37,vI ps.length),(38,vI i)],[(0,some (.box 243 [.st (T nm),.st (J pe),.st (J le),.st (J a),.st (J b),.st (J c),.st (J d),.st (.view (ps.map wb))]))],1⟩) 0 (ai (by rw[<- hl];kernel_rfl)) ⟨dz _,λj hj=>by omega⟩ ?_;clear q1 q2 c1 c2;rintro i ⟨hi,dm⟩;by_cases al:i<ps.length
   ·have he:=aZ (f:=wb) al (0,0,0);have Xw:=λk=>fG (f:=zh ps) al dm k;have io:=λk=>all_succ (f:=zh ps) dm k
    have pN:(if(0<=(ps.getD i (0,0,0)).1/\(ps.getD i (0,0,0)).1<=1000000000000)/\(-4096<=(ps.getD i (0,0,0)).2.1/\(ps.getD i (0,0,0)).2.1<=4096)/\1<=(ps.getD i (0,0,0)).2.2/\(ps.getD i (0,0,0)).2.2<=100 then
     (if(ps.getD i (0,0,0)).2.1=0 then 11 else if i=0\/(ps.getD (i -1) (0,0,0)).1< (ps.getD i (0,0,0)).1 then 0 else 9)else 2)=zh ps i:=rfl
    generalize zh ps i=hE at*;by_cases hz:i=0
    ·subst hz;generalize ps.getD 0 (0,0,0)=q at*;rw[if_pos (c:=(0=0\/_)) (.inl rfl)]at pN
     have p1: ∀ {b c:Prop} [Decidable b] [Decidable c],(b↔(0<=q.1/\q.1<=1000000000000)/\(-4096<=q.2.1/\q.2.1<=4096)/\1<=q.2.2/\q.2.2<=100)->(c↔q.2.1≠0)->fs [if b then 0 else 2,if c then 0 else 11,0]=hE:=by
      intro b c _ _ h k;have:=alf (b:=b) (c:=c) (d:=True);rw[if_pos trivial]at this;rw[this,<- pN];simp only[h,k];by_cases x:q.2.1=0<;>simp[x]
     have p2: ∀ {c:Prop} [Decidable c],¬((0<=q.1/\q.1<=1000000000000)/\(-4096<=q.2.1/\q.2.1<=4096)/\1<=q.2.2/\q.2.2<=100)->(c↔q.2.1≠0)->fs [2,if c then 0 else 11,0]=hE:=by
      intro c _ h k;rw[<- pN,if_neg h];rfl
     clear pN;by_cases hv:hE=0
     ·repeat' ((first|(refine kO 7 rfl ?_;first|refine Rq (eF _ _ _) ?_|refine rG (λ_ z=>⟨_,o0 _ _ bX,z⟩) ?_|refine Rq (OB _) ?_|refine Rq (Fp _) ?_|refine Rq (jC _) ?_|refine rG (λ_ z=>⟨_,dF (p1 K0 K0),z⟩) ?_|refine rG (λ_ z=>⟨_,dF (p2 K0 K0),z⟩) ?_)|refine tX 0 ?_|exact Zt|refine bR ?_ ?_<;>intro h)<;>(try conv=>whnf))
      all_goals first|exact Zo|exact⟨0+1,⟨al,io hv⟩,by omega,Zc⟩
     ·rw[Xw hv];repeat' ((first|(refine kO 7 rfl ?_;first|refine Rq (eF _ _ _) ?_|refine rG (λ_ z=>⟨_,o0 _ _ bX,z⟩) ?_|refine Rq (OB _) ?_|refine Rq (Fp _) ?_|refine Rq (jC _) ?_|refine rG (λ_ z=>⟨_,dF (p1 K0 K0),z⟩) ?_|refine rG (λ_ z=>⟨_,dF (p2 K0 K0),z⟩) ?_)|refine tX 0 ?_|exact Zt|refine bR ?_ ?_<;>intro h)<;>(try conv=>whnf))
      all_goals exact Z0
    ·obtain⟨k,rfl⟩: ∃k,i=k+1:=⟨i -1,by omega⟩;have he2:=aZ (f:=wb) (l:=ps) (i:=k) K0 (0,0,0);rw[X7]at pN;generalize ps.getD (k+1) (0,0,0)=q at*;generalize ps.getD k (0,0,0)=r at*
     have p1: ∀ {b c d:Prop} [Decidable b] [Decidable c] [Decidable d],(b↔(0<=q.1/\q.1<=1000000000000)/\(-4096<=q.2.1/\q.2.1<=4096)/\1<=q.2.2/\q.2.2<=100)->(c↔q.2.1≠0)->(d↔r.1<q.1)->fs [if b then 0 else 2,if c then 0 else 11,if d then 0 else 9]=hE:=by
      intro b c d _ _ _ h k' m;rw[alf,<- pN];simp only[h,k',m];by_cases x:q.2.1=0<;>simp[x]
     have p2: ∀ {c d:Prop} [Decidable c] [Decidable d],¬((0<=q.1/\q.1<=1000000000000)/\(-4096<=q.2.1/\q.2.1<=4096)/\1<=q.2.2/\q.2.2<=100)->(c↔q.2.1≠0)->(d↔r.1<q.1)->fs [2,if c then 0 else 11,if d then 0 else 9]=hE:=by
      intro c d _ _ h k' m;rw[<- pN,if_neg h];rfl
     clear pN;by_cases hv:hE=0
     ·repeat' ((first|(refine kO 7 rfl ?_;first|refine Rq (eF _ _ _) ?_|refine rG (λ_ z=>⟨_,o0 _ _ bX,z⟩) ?_|refine Rq (OB _) ?_|refine Rq (Fp _) ?_|refine Rq (jC _) ?_|refine rG (λ_ z=>⟨_,dF (p1 K0 K0 K0),z⟩) ?_|refine rG (λ_ z=>⟨_,dF (p2 K0 K0 K0),z⟩) ?_)|refine tX 0 ?_|exact Zt|refine bR ?_ ?_<;>intro h)<;>(try conv=>whnf))
      all_goals first|exact Zo|exact⟨k+1+1,⟨al,io hv⟩,by omega,Zc⟩
     ·rw[Xw hv];repeat' ((first|(refine kO 7 rfl ?_;first|refine Rq (eF _ _ _) ?_|refine rG (λ_ z=>⟨_,o0 _ _ bX,z⟩) ?_|refine Rq (OB _) ?_|refine Rq (Fp _) ?_|refine Rq (jC _) ?_|refine rG (λ_ z=>⟨_,dF (p1 K0 K0 K0),z⟩) ?_|refine rG (λ_ z=>⟨_,dF (p2 K0 K0 K0),z⟩) ?_)|refine tX 0 ?_|exact Zt|refine bR ?_ ?_<;>intro h)<;>(try conv=>whnf))
      all_goals exact Z0
   ·exact ajq
end Go.Proofs.Tryz
