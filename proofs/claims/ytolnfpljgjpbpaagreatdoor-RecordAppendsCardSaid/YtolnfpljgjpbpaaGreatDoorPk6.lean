import Derived.Test.YtolnfpljgjpbpaaGreatDoorPk2
import Derived.Test.YtolnfpljgjpbpaaGreatDoorPk3
import Derived.RangeFuncCalls
import Derived.RangeFuncLeaves
import Derived.WalkKit
import Derived.OwnWalkIn
import Derived.TacticsInMore
import Derived.LoopNIn
import Derived.LoopIn
import Derived.Test.YtolnfpljgjpbpaaGreatDoorProg
import Derived.Lib.Walk
import Derived.Deep.RegionLaw
import Derived.Lib.SliceRun
import Derived.Laws.IdiomCopy
set_option linter.all false
set_option maxRecDepth 100000
set_option maxHeartbeats 8000000
namespace Go.Proofs.Tryz
open Go.Fw Go.IntWalk Go.Plain
def ac2:(0,[SC.num .i64])∈cx.gl:=jH (i:=0) dy
def rL (s:List UInt8)(c:UInt8)(hl:s.length<=1000000):ac 121 [SS s,SS [c]] (amL (aH c.toNat s)):=by
 have h:=uw s c;rw[<- h.1];exact Il Sq dy dy ac2 s c hl h.2
abbrev T (l:List UInt8):SC:=.lit (.string (B l))
abbrev K (b:Bool):SC:=.lit (.bool b)
abbrev V1 (l:List aj):SV:=(false,[.view (ab l)])
def mH {a b:Int}(h:a=b):mc.one (I a)= .one (I b):=by rw[h]
def gS {a b:Bool}(h:a=b):mc.one (Bo a)= .one (Bo b):=by rw[h]
def sA {l:List aj}{i:Nat}(h:i<l.length):(ab l)[i]? =some [.lit (.string (B (l.getD i [])))]:=by grind
def Kf {s:aj}{i:Nat}(h:i<s.length):(kS (B s))[i]? =some [.lit (.int .u8 (((s.getD i 0).toNat :Nat):Int))]:=by grind[kS,jG]
def vt (s:aj):(kS (B s)).length =s.length:=by simp[kS,jG]
def Nl (n lo hi:Int):ac 38 [I n,I lo,I hi] (.one (Bo (decide (lo<=n)&&decide (n<=hi)))):=by
 refine sF f38 ?_;repeat' ((first|refine tX 0 ?_|exact Zt|refine bR ?_ ?_<;>intro h)<;>(try conv=>whnf))
 all_goals exact gS wY
def bZ (b:Bool)(e:Int):ac 44 [Bo b,I e] (.one (I (if b=true then 0 else e))):=by
 refine sF f44 ?_
 (try(refine tX 0 ?_;try exact Zt))
 cases b
 ·exact K1
 ·exact K1
def iT {b:Bool}{p:Prop} [BP b p] [Decidable p](e:Int):ac 44 [Bo b,I e] (.one (I (if p then 0 else e))):=by
 have h:=bZ b e
 grind[BP.iff]
def bJ {b:Bool}{p:Prop} [BP b p](hp: ¬p)(e:Int):ac 44 [Bo b,I e] (.one (I e)):=by
 have h:=bZ b e;exact afE
def aN {b:Bool}{p:Prop} [BP b p](hp:p)(e:Int):ac 44 [Bo b,I e] (.one (I 0)):=by
 have h:=bZ b e;exact afM
def oS (l:List Int)(hl:l.length<=1000000):ac 42 [(false,[.ints l])] (.one (I (fs l))):=by
 have hd: ∀i,i<l.length->fs (l.drop i)=if l.getD i 0≠0 then l.getD i 0 else fs (l.drop (i+1)):=λi hi=>by grind[List.drop_eq_getElem_cons,fs]
 refine sF f42 ?_
 (try(refine tX 0 ?_;try exact Zt))
 refine af (ι:=Nat) (λi=>i<=l.length/\fs (l.drop i)=fs l) (λi=>l.length -i) (λi=>⟨[(5,some (.val (false,[.st (.ints l)]))),(6,vI l.length),(7,vI i)],[],0⟩) 0 Zc ⟨dz _,rfl⟩ ?_;rintro i ⟨hi,he⟩;by_cases al:i<l.length
 ·have h1:=hd i al;by_cases hz:l.getD i 0=0
  ·rw[if_neg K0]at h1;exact K59
  ·rw[if_pos hz]at h1;repeat' ((first|refine tX 0 ?_|exact Zt|refine bR ?_ ?_<;>intro h)<;>(try conv=>whnf))
   all_goals first
    |(exfalso;omega)
    |exact mH K0
 ·exact K51
def EA {l:List aj}{i:Nat}(h:i<l.length):(ab l)[i]? =some [T (l.getD i [])]:=sA h
def cD (l:List aj)(x:aj)(hl:l.length<=1000000):ac 13 [V1 l,SS x] (.one (Bo (decide (x∈l)))):=by
 have hn:(ab l).length =l.length:=by simp
 refine sF f13 ?_
 (try(refine tX 0 ?_;try exact Zt))
 refine af (ι:=Nat) (λi=>i<=l.length/\x∉l.take i) (λi=>l.length -i) (λi=>⟨[(0,some (.val (false,[.st (.view (ab l))]))),(1,lS x),(5,vI i)],[],0⟩) 0 Zc ⟨dz _,by simp⟩ ?_;rintro i ⟨hi,dm⟩;by_cases al:i<l.length
 ·have he:=EA al;have hm:=iN (x:=x) al;have Ad:l.getD i []∈l:=by grind
  repeat' ((first|refine tX 0 ?_|exact Zt|refine bR ?_ ?_<;>intro h)<;>(try conv=>whnf))
  all_goals first
   |(exact gS (fh (by rw[<- h];exact Ad)).symm)
   |exact⟨i+1,⟨al,λhh=>(hm.1 hh).elim dm λe=>h e.symm⟩,by omega,Zc⟩
   |(exfalso;omega)
 ·obtain rfl:i=l.length:=by omega
  rw[mB]at dm;repeat' ((first|refine tX 0 ?_|exact Zt|refine bR ?_ ?_<;>intro h)<;>(try conv=>whnf))
  all_goals first
   |(exfalso;omega)
   |exact gS (eJ dm).symm
def AB (l:List (List UInt8))(x:List UInt8)(hl:l.length<=1000000):ac 65 [(false,[.view (ab l)]),SS x] (.one (I (be l x))):=by
 have hn:(ab l).length =l.length:=by simp
 refine sF f65 ?_
 (try(refine tX 0 ?_;try exact Zt))
 refine af (ι:=Nat) (λi=>i<=l.length/\x∉l.take i) (λi=>l.length -i) (λi=>⟨[(0,some (.val (false,[.st (.view (ab l))]))),(1,lS x),(7,vI l.length),(8,vI i)],[],0⟩) 0 (ai P3) ⟨dz _,by simp⟩ ?_;rintro i ⟨hi,dm⟩;by_cases al:i<l.length
 ·have he:=sA al;have hg:l.getD i []=l[i]:=by grind
  by_cases hx:x=l.getD i []
  ·have e:be l x=i:=TN al bw dm;rw[e];repeat' ((first|refine tX 0 ?_|exact Zt|refine bR ?_ ?_<;>intro h)<;>(try conv=>whnf))
   all_goals first|(exact rfl)|(exact absurd hx h)
  ·have ahd:x∉l.take (i+1):=by
    rw[Db,o8 al]
    grind
   repeat' ((first|refine tX 0 ?_|exact Zt|refine bR ?_ ?_<;>intro h)<;>(try conv=>whnf))
   all_goals first|(exact absurd h hx)|(exact⟨i+1,⟨al,ahd⟩,by omega,Zc⟩)
 ·obtain rfl:i=l.length:=by omega
  have e:be l x= -1:=dW bw;rw[e];exact K1
def bG (l:List aj)(x:aj)(hl:l.length<=1000000):ac 45 [V1 l,SS x] (.one (Bo (decide (x∈l)))):=by
 have hi:=AB l x hl;refine sF f45 ?_
 (try(refine tX 0 ?_;try exact Zt))
 refine gS ?_;rw[vY];simp only[wX];unfold be
 grind
def QH (s:aj)(hl:s.length<=1000000):ac 64 [SS s] (.one (Bo (decide (jJ s)))):=by
 have hb:=vt s;refine sF f64 ?_
 (try(refine tX 0 ?_;try exact Zt))
 refine af (ι:=Nat) (λi=>i<=s.length/\QE s i) (λi=>s.length -i) (λi=>⟨[(0,lS s),(7,some (.val (false,[.st (.view (kS (B s)))]))),(8,vI s.length),(9,vI i)],[],0⟩) 0 (ai ab5) ⟨dz _,λj hj=>by omega⟩ ?_;rintro i ⟨hi,hp⟩;by_cases al:i<s.length
 ·have hg:=Kf al;have dm:=λh=>QF (s:=s) (i:=i) al h;have l6:=λh=>AA (s:=s) (i:=i) hp h;have Gq:((s.getD i 0).toNat :Int)<=255:=by exact U3
  unfold okc at dm l6;generalize (s.getD i 0).toNat =c at*;repeat' ((first|refine tX 0 ?_|exact Zt|refine bR ?_ ?_<;>intro h)<;>(try conv=>whnf))
  all_goals first
   |(exfalso;omega)
   |exact gS (eJ (dm K0)).symm
   |exact⟨i+1,⟨al,l6 K0⟩,by omega,Zc⟩
 ·obtain rfl:i=s.length:=by omega
  repeat' ((first|refine tX 0 ?_|exact Zt|refine bR ?_ ?_<;>intro h)<;>(try conv=>whnf))
  all_goals first
   |(exfalso;omega)
   |exact gS ahO
def gg (s:aj)(hl:s.length<=1000000):ac 43 [SS s] (.one (I (jF s))):=by
 refine sF f43 ?_;repeat((first|(refine kO 7 rfl ?_;first|refine rG (λ_ z=>⟨_,QH s hl,z⟩) ?_|refine Rq (iT _) ?_)|refine tX 0 ?_|exact Zt);(try conv=>whnf))
 exact mH (by unfold jF;rfl)
def py (s:aj)(hl:s.length<=1000000):ac 129 [SS s] (.one (Bo (decide (jJ s)))):=by
 by_cases h12:1<=s.length/\s.length<=12
 ·refine sF f129 ?_
  (try(refine tX 0 ?_;try exact Zt))
  refine af (ι:=Nat) (λi=>i<=s.length/\QE s i) (λi=>s.length -i) (λi=>⟨[(0,lS s),(3,vI i)],[],0⟩) 0 Zc ⟨dz _,λj hj=>by omega⟩ ?_;rintro i ⟨hi,hp⟩;by_cases al:i<s.length
  ·have dm:=λh=>QF (s:=s) (i:=i) al h;have l6:=λh=>AA (s:=s) (i:=i) hp h;unfold okc at dm l6
   (try(refine tX 0 ?_;try exact Zt))
   generalize (s.getD i 0).toNat =c at*;repeat' ((first|refine tX 0 ?_|exact Zt|refine bR ?_ ?_<;>intro h)<;>(try conv=>whnf))
   all_goals first
    |(exfalso;omega)
    |exact gS (eJ (dm K0)).symm
    |exact⟨i+1,⟨al,l6 K0⟩,by omega,Zc⟩
  ·obtain rfl:i=s.length:=by omega
   repeat' ((first|refine tX 0 ?_|exact Zt|refine bR ?_ ?_<;>intro h)<;>(try conv=>whnf))
   all_goals first
    |(exfalso;omega)
    |exact gS (fh ⟨h12,hp⟩).symm
 ·refine sF f129 ?_;repeat' ((first|refine tX 0 ?_|exact Zt|refine bR ?_ ?_<;>intro h)<;>(try conv=>whnf))
  all_goals first
   |(exfalso;omega)
   |exact gS (eJ λh=>h12 h.1).symm
end Go.Proofs.Tryz
namespace Go.Proofs.Tryz
open Go Go.RowKit Go.Shelf Go.Fw Go.Plain
attribute [local go_sem] Oper.semAt_some
set_option maxRecDepth 100000 in
set_option maxHeartbeats 4000000 in
def V8 (mr:Mem)(a:Option Addr)(n cap bc ob:Nat)(f:Nat->Array Value)(hn:n<=1000000)(w:World)(hbc:mr bc ob=some (.slice a n cap))
  (l7: ∀i,i<n->∃b o,a=some ⟨b,o,none⟩/\(f i).size =4/\∀k,k<4->mr b (o+i*4+k)=some ((f i).getD k undef)):
  akh prog 195 #[] #[.pointer (some ⟨bc,ob,none⟩)] ((List.range n).map λj=> #[.int .i64 ((n -1 -j:Nat):Int),.agg (f (n -1 -j))]) mr w:=by
 intro l J Jx W M0 hW hM0 hJ hJx hJm hY h0;refine callsIn_of_wp Tryz.func195 rfl trivial ?_ rfl;simp only[Tryz.ntmps195,List.size_toArray,kH,Ai,Nat.reduceAdd,Nat.reduceSub,Array.replicate_succ,Array.replicate_zero,List.push_toArray,List.append_toArray,Md,qX];have c0:W.cell? ⟨bc,ob,none⟩=some (.slice a n cap):=hJm _ _ h0 _ _ _ hbc
 gi_wp2
 gi_loopw [3] (λv wr=>∃j:Nat,j<=n/\v= .int .i64 ((n:Int) -1 -j)/\∃M,J (j,M) wr)
  (λv _=>(intOf v+1).toNat)
 case atStart=>exact⟨0,dz _,by simp,M0,h0⟩
 case round=>
  clear c0 h0;obtain⟨j,hj,rfl,M1,hJj⟩:=hrel;have c1:wr.cell? ⟨bc,ob,none⟩=some (.slice a n cap):=hJm _ _ hJj _ _ _ hbc;by_cases hjn:j<n
  ·have e1:decide ((n:Int) -1 -j>=0)=true:=fh K0;obtain⟨b,o,rfl,hs4,hk4⟩:=l7 (n -1 -j) K0;have hje:((n:Int) -1 -j).toNat =n -1 -j:=by omega
   have e2:(Instr.indexAt 91 (.slice (some ⟨b,o,none⟩) n cap) (.int .i64 ((n:Int) -1 -j))).run prog wr= .ok (.pointer (some ⟨b,o+(n -1 -j)*4,none⟩)) wr:=by
    have:=Im (C:=cx) (w:=wr) (b:=b) (o:=o) (n:=n) (cap:=cap) (k:=(n:Int) -1 -j) kz (T:=91) rfl rfl rfl K0 K0;rw[hje]at this;exact this
   obtain⟨v0,v1,v2,v3,Gi⟩: ∃v0 v1 v2 v3,f (n -1 -j)= #[v0,v1,v2,v3]:=by
    generalize f (n -1 -j)=g at hs4;obtain⟨l⟩:=g
    match l,hs4 with
    | [v0,v1,v2,v3],_=>exact⟨v0,v1,v2,v3,rfl⟩
   rw[Gi]at hk4;have k0:wr.cell? ⟨b,o+(n -1 -j)*4,none⟩=some v0:=hJm _ _ hJj _ _ _ (hk4 0 K0);have k1:wr.cell? ⟨b,o+(n -1 -j)*4+1,none⟩=some v1:=hJm _ _ hJj _ _ _ (hk4 1 K0);have k2:wr.cell? ⟨b,o+(n -1 -j)*4+2,none⟩=some v2:=hJm _ _ hJj _ _ _ (hk4 2 K0);have k3:wr.cell? ⟨b,o+(n -1 -j)*4+3,none⟩=some v3:=hJm _ _ hJj _ _ _ (hk4 3 K0)
   have hx:((List.range n).map λj=> #[Value.int .i64 ((n -1 -j:Nat):Int),Value.agg (f (n -1 -j))])[j]? =some #[.int .i64 ((n:Int) -1 -j),.agg #[v0,v1,v2,v3]]:=by
    rw[gA,List.getElem?_range hjn];simp only[ya,lM];rw[show((n -1 -j:Nat):Int)=(n:Int) -1 -j by omega,Gi]
   obtain⟨fn,tmps,assign,body,hy,hR⟩:=hY _ _ _ wr hx hJj
   gi_wp2
   refine⟨rfl,hR.mono ?_⟩;rintro e W3 (⟨rfl,M3,hJ3,hs3,hl3,hk3⟩|⟨rfl,hJx3⟩)
   ·gi_wp2
    refine⟨⟨j+1,by omega,by congr 1;omega,M3,hJ3⟩,by simp only[intOf];omega⟩
   ·gi_wp2
    refine bodyPost_ret (results_none rfl _ _ _) rfl ?_;exact⟨⟨_,rfl⟩,.inr hJx3⟩
  ·have e1:decide ((n:Int) -1 -j>=0)=false:=eJ K0;obtain rfl:j=n:=by omega
   gi_wp2
   go_end0
   refine⟨⟨_,rfl⟩,.inl ⟨M1,?_⟩⟩;rw[jf,List.length_range];exact hJj
def adc (es:List (List SC))(hn:es.length<=1000000)(h4: ∀e∈es,e.length=4):
  Tw cx.P cx.gl 195 [] [[.view es]] ((List.range es.length).map λj=>[(false,[.lit (.int .i64 ((es.length -1 -j:Nat):Int))]),(true,es.getD (es.length -1 -j) [])]):=by
 refine⟨by kernel_rfl,λmv mr w fb cv wW hmr hgl hfb hcv=>?_⟩;have am2:fb= #[]:=Array.eq_empty_of_size_eq_zero hfb.1;subst am2;obtain⟨v,rfl,hv⟩:=yO hcv
 cases hv with
 |empty _ _ hv=>simp[SC.ao]at hv
 |view _ _ _ _ _ hv=>simp[SC.ao]at hv
 |ref bc ob g hc hr=>
  have hbc:mr bc ob=some (g 0):=hc 0 (by simp);have hg:=hr 0 _ rfl;generalize g 0=hv at hbc hg
  obtain⟨a,cap,rfl,l7⟩: ∃a cap,hv= .slice a es.length cap/\∃f:Nat->Array Value,∀i,i<es.length->∃b o,a=some ⟨b,o,none⟩/\(f i).size =4/\(∀k,k<4->mr b (o+i*4+k)=some ((f i).getD k undef))/\
    ∀(k:Nat) (x:SC),(es.getD i [])[k]? =some x->dw mv eU ((f i).getD k undef) x:=by
   cases hg with
   |empty a cap hv h0=>exact⟨a,cap,by rw[show es.length=0 from h0],λ_=> #[],λi hi=>by rw[show es.length=0 from h0]at hi;omega⟩
   |view b o cap z f hv fL hz fZ hl hc hr=>
    have fL:0<es.length:=fL;have hz4:z=4:=by rw[<- hl 0 es[0] (by simp[SC.elem,fL])];exact h4 _ (pd fL)
    subst hz4;refine⟨_,cap,rfl,λi=> #[f (i*4),f (i*4+1),f (i*4+2),f (i*4+3)],λi hi=>⟨b,o,rfl,rfl,λk hk=>?_,λk x hx=>?_⟩⟩
    ·have:=wW _ _ _ (hc (i*4+k) (by show _<es.length*4;omega));rw[show o+i*4+k=o+(i*4+k)by omega,this]
     match k,hk with
     |0,_=>rfl
     |1,_=>rfl
     |2,_=>rfl
     |3,_=>rfl
    ·have he:(SC.view es).elem i=some (es.getD i []):=by simp[SC.elem,jX,hi]
     have hk:=(kF.1 hx).1;rw[hl i _ he]at hk;have:=hr i _ k x he hx
     match k,hk with
     |0,_=>exact this
     |1,_=>exact this
     |2,_=>exact this
     |3,_=>exact this
  obtain⟨f,hf⟩:=l7;refine⟨(List.range es.length).map λj=> #[.int .i64 ((es.length -1 -j:Nat):Int),.agg (f (es.length -1 -j))],by simp,λi x r hx Cx=>?_,?_⟩
  ·rw[gA,m7]at hx Cx;obtain⟨j,hj,rfl⟩:=hx;obtain⟨j',hj',rfl⟩:=Cx;rw[hj]at hj';cases hj'
   have hjl:j<es.length:=by
    have:=(kF.1 hj);obtain⟨q1,q2⟩:=this;simp at q1 q2;omega
   obtain⟨b,o,_,q2,_,q4⟩:=hf (es.length -1 -j) K0;refine⟨rfl,λk x hk=>?_⟩
   match k,hk with
   |0,hk=>simp at hk;subst hk;exact⟨_,rfl,.lit rfl⟩
   |1,hk=>
    simp at hk;subst hk;refine⟨_,rfl,?_,q4⟩;rw[q2];have al:es.length -1 -j<es.length:=by omega
    simp only[jX,o8 al,vX];exact(h4 _ (pd al)).symm
   |k+2,hk=>simp at hk
  ·exact V8 mr a es.length cap bc ob f hn w hbc λi hi=>let⟨b,o,h1,h2,h3,_⟩:=hf i hi;⟨b,o,h1,h2,h3⟩
end Go.Proofs.Tryz
namespace Go.Proofs.Tryz
open Go Go.RowKit Go.Fw Go.Lib
def zf {w:World}{b off:Nat}{arr:Array Value}{T:TypeId}{vs:List Value}(hb:w.heap[b]? =some (.cells arr T))(hf:off+vs.length<=arr.size)(h1: ∀v∈vs,v.oneCell'=true):w.setCells b off vs=w.setRow b (aO arr off vs):=by
 have e1:=SH (default:Program) b off T vs 0 arr w hb (by simpa using hf) h1;have e2:=run_storeCells_cells (P:=default) b off vs 0 w (λj hj=>by simp[World.cell?,hb];omega) (λj hj=>by simp[World.frozen?,hb]) h1;rw[e1]at e2;simp only[tO,Result.ok.injEq,Do]at e2;rw[<- e2];rfl
set_option maxHeartbeats 4000000 in
set_option maxRecDepth 1000000 in
def adf (zs:List (List UInt8))(i j:Nat)(PS:i<j)(hj:j<=zs.length)(b cap:Nat)(arr:Array Value)(T:TypeId)(w:World)(hb:w.heap[b]? =some (.cells arr T))(nA:arr.size=cap)(fZ:zs.length<=cap)
  (iR: ∀k,k<zs.length->arr[k]? =some (.string (B (zs.getD k [])))):
  Calls prog 140 #[.slice (some ⟨b,0,none⟩) zs.length cap,.int .i64 i,.int .i64 j] w λe w'=>e= .returned (.slice (some ⟨b,0,none⟩) (i+(zs.length -j)) cap)/\
   ∃arr',w'=w.drew.setRow b arr'/\arr'.size=arr.size/\∀k,k<i+(zs.length -j)->arr'[k]? =some (.string (B ((zs.take i++zs.drop j).getD k []))):=by
 have hbd:w.drew.heap[b]? =some (.cells arr T):=hb;have mixed:=kz.mixed;obtain⟨n,hn⟩: ∃n,n=zs.length:=⟨_,rfl⟩;obtain⟨news,Py⟩: ∃news,news=(zs.drop j).map λs=>Value.string (B s):=⟨_,rfl⟩;have bD:news.length=n -j:=by rw[Py,hn];simp
 have tk: ∀u∈news,u.oneCell'=true:=by intro u hu;rw[Py]at hu;obtain⟨x,_,rfl⟩:=dC.1 hu;rfl
 obtain⟨A,hA,ana⟩: ∃A:Addr,(if cap=j then(some ⟨b,0,none⟩:Option Addr)else some ⟨b,j,none⟩)=some A/\Hid (∀t u,news[t]? =some u->w.drew.cell? (A.add t)=some u):=by
  have hc: ∀t u,news[t]? =some u->w.drew.cell? ⟨b,j+t,none⟩=some u:=by
   intro t u hu;rw[Py,gA,Hz,m7]at hu;obtain⟨x,hx,rfl⟩:=hu;have al:=(kF.1 hx).1;have:=iR _ al;rw[jX,hx]at this;simp[World.cell?,hbd,this]
  by_cases h:cap=j
  ·refine⟨⟨b,0,none⟩,by simp[h],λt u hu=>?_⟩;have:t<news.length:=(kF.1 hu).1;omega
  ·refine⟨⟨b,j,none⟩,by simp[h],λt u hu=>?_⟩;rw[Fw.addr_add];exact hc t u hu
 have s1:Hid (news.length=(n -j)*1):=by show _=_;omega
 have s2:Hid (∀u∈news,u.oneCell'=true):=tk
 have s3:Hid (∀t,t<news.length->(w.drew.cell? ⟨b,0+i*1+t,none⟩).isSome =true/\w.drew.frozen? ⟨b,0+i*1+t,none⟩=false):=by
  intro t ht;constructor
  ·simp[World.cell?,hbd];omega
  ·simp[World.frozen?,hbd]
 obtain⟨tf,td,tz,hT⟩:=bS.Ok.get kz (t:=9) (i:=(cx.ti 9).getD default) dy;have hu:prog.underlying 23=some (.slice 9):=by kernel_rfl
 obtain⟨W1,hW1⟩: ∃W1,W1=w.drew.setCells b (0+i*1) news:=⟨_,rfl⟩
 have ag8:Hid (W1=w.drew.setRow b (aO arr i news)):=by
  have:=zf (off:=i) hbd K0 tk;rw[<- this,hW1,j9,Bi];exact rfl
 have hz: ∀w:World,(zeroValue 9).run prog w= .ok (.string ByteArray.empty) w:=λw=>by
  have:(prog.info? 9).bind (·.zero)=some (.string ByteArray.empty):=by kernel_rfl
  have h2:=hT.ou;rw[show cx.P=prog from rfl]at h2;rw[h2]at this;simp only[Ma]at this;simp[zeroValue,typeInfo,h2,this]
 have xQ:Hid (W1.heap[b]? =some (.cells (aO arr i news) T)):=by
  show _=_;rw[ag8.out];exact yd w.drew b arr _ T (0,0) hbd
 have hs1:(aO arr i news).size =arr.size:=fm K0
 have jc: ∀ty,(Builtin.clear_ #[23] ty #[.slice (some ⟨b,i+(n -j),none⟩) (n -(i+(n -j))) (cap -(i+(n -j)))]).run prog W1= .ok (.tuple #[]) (W1.setCells b (i+(n -j)) (List.replicate (n -(i+(n -j))) (.string ByteArray.empty))):=
  λty=>Lib.run_clear_slice W1 _ _ ty _ hu hz rfl rfl b _ _ _ K0 (λt ht=>by simp[World.cell?,xQ.out,hs1];omega) (λt ht=>by simp[World.frozen?,xQ.out])
 have hW:Hid (W1=w.drew.setCells b (0+i*1) news):=hW1;have UN:i+(n -j)+(List.replicate (n -(i+(n -j))) (Value.string ByteArray.empty)).length <=(aO arr i news).size :=by rw[hs1];simp;omega
 have R6:Hid (∃arr',W1.setCells b (i+(n -j)) (List.replicate (n -(i+(n -j))) (.string ByteArray.empty))=w.drew.setRow b arr'/\arr'.size=arr.size/\∀k,k<i+(n -j)->arr'[k]? =some (.string (B ((zs.take i++zs.drop j).getD k [])))):=by
  refine⟨aO (aO arr i news) (i+(n -j)) (List.replicate (n -(i+(n -j))) (.string ByteArray.empty)),?_,by rw[fm UN,hs1],λk hk=>?_⟩
  ·rw[zf (arr:=aO arr i news) xQ.out UN (λv hv=>by rw[List.eq_of_mem_replicate hv];rfl),ag8.out,setRow_setRow]
  ·rw[gc UN,if_pos hk,gc (arr:=arr) (off:=i) (vs:=news) K0];by_cases h1:k<i
   ·rw[if_pos h1,iR k K0];have e0:(zs.take i++zs.drop j).getD k []=zs.getD k []:=by rw[jX,UX wY,L7,if_pos h1,jX]
    rw[e0]
   ·rw[if_neg h1,if_pos K0,Py,gA,Hz];have al:j+(k -i)<zs.length:=by omega
    rw[o8 al,ya];congr 3;have e1: ¬k< (zs.take i).length :=by simp;omega
    simp only[jX,SG,if_neg e1,Dc,Hz];have e2: ¬k<min i zs.length:=by omega
    rw[show j+(k -min i zs.length)=j+(k -i)by omega,o8 al,if_neg e2,vX]
 have hic:i<=cap:=by omega
 have hjc:j<=cap:=by omega
 have gk: ¬i=j:=by omega
 have eA:i<=j:=by omega
 subst hn;clear Py tk bD hW1 ag8 UN xQ hs1 hz hb hbd iR
 go_enter Tryz.func140,Tryz.ntmps140
 go_wp2_with fail
 go_region_law_o (refine step_append_room rfl (.tmp 22) (.tmp 25) 23 rfl 9 tf 1 hu hT.ou hT.size b 0 i cap (by simp[Act.eval,Act.put]) A (zs.length -j) (cap -j) news (by simp[Act.eval,Act.put]) s1.out ana.out s2.out K0 s3.out ?_;rw[<- hW.out])
 go_wp2
 go_ret
 exact⟨rfl,R6.out⟩
end Go.Proofs.Tryz
