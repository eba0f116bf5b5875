import Derived.Test.YtolnfpljgjpbpaaGreatDoorPk12
import Derived.Lib.Walk
import Derived.Deep.RegionLaw
import Derived.Lib.SliceRun
import Derived.Laws.IdiomCopy
set_option linter.all false
set_option maxRecDepth 100000
set_option maxHeartbeats 8000000
namespace Go.Proofs.Tryz
open Go.Fw Go.IntWalk Go.Plain
def V4 (x:aj × List aj)(n:aj):ac 186 [(true,mj x),(false,[.ref [T n]])] (.one (Bo (decide (x.1=n)))):=by
 refine sF f186 ?_;exact tL
def mM {l:List aj}{x:aj}{i:Nat}(h:i<l.length)(e:l.getD i []=x)(dm:x∉l.take i):be l x=i:=TN h (by rw[<- getD_at h (d:=[])];exact e) dm
def NO (ps:List (aj × List aj))(n:aj)(hl:ps.length<=1000):ac 185 [(false,[.view (ps.map mj)]),LC 186 [[T n]]] (.one (I (be (ps.map Prod.fst) n))):=by
 have hn:(ps.map mj).length =ps.length:=by simp
 have Bf:(ps.map Prod.fst).length =ps.length:=by simp
 refine sF f185 ?_
 (try(refine tX 0 ?_;try exact Zt))
 refine af (ι:=Nat) (λi=>i<=ps.length/\n∉(ps.map Prod.fst).take i) (λi=>ps.length -i) (λi=>⟨[(0,some (.val (false,[.st (.view (ps.map mj))]))),(1,vF 186 [[T n]]),(7,vI ps.length),(8,vI i)],[],0⟩) 0 (ai P3) ⟨dz _,by simp⟩ ?_;rintro i ⟨hi,dm⟩;by_cases al:i<ps.length
 ·have he:=aZ (f:=mj) al ([],[]);have hg:(ps.map Prod.fst).getD i []=(ps.getD i ([],[])).1:=by rw[getD_at al,getD_at K0];simp
  have nP:=λe=>mM (l:=ps.map Prod.fst) (x:=n) (i:=i) K0 e dm;have Gt:=iN (l:=ps.map Prod.fst) (i:=i) (x:=n) K0;rw[hg]at nP Gt;have hp1:=V4 (ps.getD i ([],[])) n;by_cases hx:(ps.getD i ([],[])).1=n
  ·exact afN
  ·exact afT
 ·obtain rfl:i=ps.length:=by omega
  rw[pc K0]at dm;rw[dW dm];exact tL
def nv (p:Pl)(n:aj):aj × List aj:=if n∈p.ba then p.parts.getD (be p.ba n).toNat ([],[])else([],[])
def Q0 (p:Pl)(n:aj)(hl:p.parts.length<=1000):ac 144 [(true,bL p),SS n] (.aI [(true,mj (nv p n)),Bo (decide (n∈p.ba))]):=by
 have Xf:=NO p.parts n hl;have hq:p.parts.map Prod.fst=p.ba:=rfl;have pN:(p.parts.map mj).length =p.parts.length:=by simp
 rw[hq]at Xf;by_cases h:n∈p.ba
 ·obtain⟨k,hk,e⟩:=k9 h;have sC:k<p.parts.length:=by simpa [Pl.ba]using hk
  have hd:nv p n=p.parts.getD k ([],[]):=by unfold nv;rw[if_pos h,e,tK]
  have R7:=aZ (f:=mj) sC ([],[]);rw[e]at Xf;rw[hd,fh h];refine sF f144 ?_;exact tL
 ·have hd:nv p n=([],[]):=by unfold nv;rw[if_neg h]
  rw[dW h]at Xf;rw[hd,eJ h];refine sF f144 ?_;exact tL
def V5 (s:aj)(out:List aj)(hl:out.length<=1000):ac 187 [SS s,(false,[.ref [.view (ab out)]])] (.one (Bo (decide (s∈out)))):=by
 have hc:=bG out s K0;refine sF f187 ?_;exact tL
def inE (l out:List aj)(i:Nat):Int:=if l.getD i []∈out then 1 else 0
def G0 (l out:List aj):Int:=if(cR (inE l out) l.length).2=0 then -1 else(cR (inE l out) l.length).1
def NP (l out:List aj)(hl:l.length<=1000)(ho:out.length<=1000):ac 220 [V1 l,LC 187 [[.view (ab out)]]] (.one (I (G0 l out))):=by
 have hn:(ab l).length =l.length:=by simp
 refine sF f220 ?_
 (try(refine tX 0 ?_;try exact Zt))
 refine af (ι:=Nat) (λi=>i<=l.length/\∀j<i,inE l out j=0) (λi=>l.length -i) (λi=>⟨[(0,some (.val (false,[.st (.view (ab l))]))),(1,vF 187 [[.view (ab out)]]),(7,vI l.length),(8,vI i)],[],0⟩) 0 (ai P3) ⟨dz _,λj hj=>by omega⟩ ?_;rintro i ⟨hi,hp⟩;by_cases al:i<l.length
 ·have he:=sA al;have hv:=V5 (l.getD i []) out ho;have kI:inE l out i=if l.getD i []∈out then 1 else 0:=rfl
  have eL:=λ(h:inE l out i≠0)=>fG (f:=inE l out) al hp h;have io:=λ(h:inE l out i=0)=>all_succ hp h;by_cases hx:l.getD i []∈out
  ·rw[if_pos hx]at kI;rw[fh hx]at hv;have hr:=eL afZ;rw[kI]at hr;have hf:G0 l out=i:=by unfold G0;rw[hr];rfl
   rw[hf];exact tL
  ·rw[if_neg hx]at kI;rw[eJ hx]at hv;exact tL
 ·obtain rfl:i=l.length:=by omega
  have hf:G0 l out= -1:=by unfold G0;rw[gP hp];rfl
  rw[hf];exact tL
def Z1 (l out:List aj):0<=G0 l out↔∃n∈l,n∈out:=by
 rcases uz (inE l out) l.length with h|⟨k,h1,h2,h3⟩
 ·have:G0 l out= -1:=by unfold G0;rw[gP h];rfl
  rw[this];refine⟨λe=>absurd e bX,λ⟨n,hn,ho⟩=>?_⟩;obtain⟨j,hj,rfl⟩:=Jl.1 hn;have:=h j hj;unfold inE at this;rw[getD_at hj,if_pos ho]at this;cases this
 ·have:G0 l out=k:=by
   unfold G0;rw[fG h1 h2 h3,if_neg h3]
  rw[this];refine⟨λ_=>?_,λ_=>by omega⟩;unfold inE at h3;by_cases hx:l.getD k []∈out
  ·rw[getD_at h1]at hx;exact⟨_,pd h1,hx⟩
  ·rw[if_neg hx]at h3;exact absurd rfl h3
def V6 (l out:List aj)(hl:l.length<=1000)(ho:out.length<=1000):ac 176 [V1 l,LC 187 [[.view (ab out)]]] (.one (Bo (decide (∃n∈l,n∈out)))):=by
 have hi:=NP l out hl ho;have hp:=Z1 l out;refine sF f176 ?_;exact tL
def EZ {fid:Nat}{H:HF}{t:TypeId}{l out:List aj}(hl:l.length<=1000)(ho:out.length<=1000)(h1:H 1=some (.box t [.own 2]))(h2:H 2=some (.row true 1 (.view (ab out)))):
  bI cx fid 176 [(false,[.st (.view (ab l))]),(false,[.sS 187 1])] H (.val (dyn (Bo (decide (∃n∈l,n∈out))))) [] [1,2]:=by
 refine iK (l:=[V1 l,LC 187 [[.view (ab out)]]]) ⟨rfl,λk x y hx hy=>?_⟩ (V6 l out hl ho) rfl ⟨rfl,rfl,rfl⟩
 match k with
 |0=>
  cases hx;cases hy;refine⟨rfl,rfl,λk d c hd hc=>?_⟩
  match k with
  |0=>cases hd;cases hc;exact .st _
  |k+1=>simp at hd
 |1=>
  cases hx;cases hy;refine⟨rfl,rfl,λk d c hd hc=>?_⟩
  match k with
  |0=>
   cases hd;cases hc;refine .sS (by simp) h1 rfl λk d c hd hc=>?_
   match k with
   |0=>cases hd;cases hc;exact .row (by simp) h2
   |k+1=>simp at hd
  |k+1=>simp at hd
 |k+2=>simp at hx
def adb {fid:Nat}{H:HF}{t:TypeId}{l out:List aj}(h: ∃n∈l,n∈out)(hl:l.length<=1000)(ho:out.length<=1000)(h1:H 1=some (.box t [.own 2]))(h2:H 2=some (.row true 1 (.view (ab out)))):
  bI cx fid 176 [(false,[.st (.view (ab l))]),(false,[.sS 187 1])] H (.val (dyn (Bo true))) [] [1,2]:=by
 have:=EZ (fid:=fid) hl ho h1 h2;rwa [fh h]at this
def T4 {fid:Nat}{H:HF}{t:TypeId}{l out:List aj}(h: ¬ ∃n∈l,n∈out)(hl:l.length<=1000)(ho:out.length<=1000)(h1:H 1=some (.box t [.own 2]))(h2:H 2=some (.row true 1 (.view (ab out)))):
  bI cx fid 176 [(false,[.st (.view (ab l))]),(false,[.sS 187 1])] H (.val (dyn (Bo false))) [] [1,2]:=by
 have:=EZ (fid:=fid) hl ho h1 h2;rwa [eJ h]at this
abbrev PM (n:aj):List SC:=[T n,.any,.any,.any,.any,.any,.any,.any,.any,.any,.any,.any,.any,.any,.any,.any,.any]
def V7 (m n:aj):ac 124 [(true,PM m),(false,[.ref [T n]])] (.one (Bo (decide (m=n)))):=by
 refine sF f124 ?_;exact K1
def NQ (ns:List aj)(n:aj)(hl:ns.length<=1000):ac 123 [(false,[.view (ns.map PM)]),LC 124 [[T n]]] (.one (I (be ns n))):=by
 have hn:(ns.map PM).length =ns.length:=by simp
 refine sF f123 ?_
 (try(refine tX 0 ?_;try exact Zt))
 refine af (ι:=Nat) (λi=>i<=ns.length/\n∉ns.take i) (λi=>ns.length -i) (λi=>⟨[(0,some (.val (false,[.st (.view (ns.map PM))]))),(1,vF 124 [[T n]]),(7,vI ns.length),(8,vI i)],[],0⟩) 0 (ai P3) ⟨dz _,by simp⟩ ?_;rintro i ⟨hi,dm⟩;by_cases al:i<ns.length
 ·have he:=aZ (f:=PM) al [];have nP:=λe=>mM (l:=ns) (x:=n) (i:=i) al e dm;have Gt:=iN (l:=ns) (i:=i) (x:=n) al;have hp1:=V7 (ns.getD i []) n;generalize ns.getD i []=m at*;by_cases hx:m=n
  ·rw[fh hx]at hp1;rw[nP hx];exact tA
  ·rw[eJ hx]at hp1;repeat' ((first|refine tX 0 ?_|exact Zt|refine bR ?_ ?_<;>intro h)<;>(try conv=>whnf))
   all_goals first|exact Zo|exact⟨i+1,⟨al,λhm=>(Gt.1 hm).elim dm λe=>hx e.symm⟩,by omega,Zc⟩
 ·obtain rfl:i=ns.length:=by omega
  rw[pc (dG _)]at dm;rw[dW dm];exact tA
end Go.Proofs.Tryz
namespace Go.Proofs.Tryz
open Go Go.RowKit Go.Fw Go.Lib Go.Plain
def Z2 {mv mr:Mem}{a:Option Addr}{m cap:Nat}{c:SC}(h:dw mv mr (.slice a m cap) c)(hm:0<m)(hv:c.ao=true:=by rfl): ∃b o,a=some ⟨b,o,none⟩:=by
 generalize hs:Value.slice a m cap=v0 at h
 cases h with
 |empty a' jD PT h0=>simp only[Value.slice.injEq]at hs;omega
 |view b9 o jD z f PT fL hz fZ hl2 hcc UI=>simp only[Value.slice.injEq]at hs;exact⟨b9,o,hs.1⟩
 |_=>first|(simp[SC.ao]at hv;done)|cases hs
set_option maxHeartbeats 4000000 in
set_option maxRecDepth 1000000 in
def Z3 (ns:List aj)(n:aj)(hl:ns.length<=1000)(b:Nat)(a:Option Addr)(cap:Nat)(w:World)(hG: ∀w1,Below w.heap.size w w1->eQ cx.gl (rd w1))(hc:w.cell? ⟨b,12,none⟩=some (.slice a ns.length cap))
  (hr:dw (rd w) (rd w) (.slice a ns.length cap) (.view (ns.map PM)))(hb:b<w.heap.size):
  Calls prog 62 #[.pointer (some ⟨b,0,none⟩),.string (B n)] w λe w'=>Below w.heap.size w w'/\
   ∃v,e= .returned v/\((be ns n<0/\v= .pointer none)\/∃b9 o,0<=be ns n/\a=some ⟨b9,o,none⟩/\v= .pointer (some ⟨b9,o+(be ns n).toNat *17,none⟩)):=by
 go_enter Tryz.func62,Tryz.ntmps62
 go_wp2_with fail
 have Ly:Below w.heap.size w (w.alloc (.cells #[.string (B n)] 9)):=by
  refine⟨rfl,rfl,rfl,?_,λc hc=>?_⟩
  ·show w.heap.size<=(w.heap.push _).size;simp
  ·show(w.heap.push _)[c]? =w.heap[c]?;rw[Array.getElem?_push];rw[if_neg K0]
 have np:rd (w.alloc (.cells #[.string (B n)] 9)) w.heap.size 0=some (.string (B n)):=by
  have h:(w.alloc (.cells #[.string (B n)] 9)).heap[w.heap.size]? =some (.cells #[.string (B n)] 9):=by
   show(w.heap.push _)[w.heap.size]? =_;rw[Array.getElem?_push,if_pos rfl]
  show World.cell? _ _=_;unfold World.cell?;dsimp only;rw[h];rfl
 have eA:(rd w).le (rd (w.alloc (.cells #[.string (B n)] 9))):=λb o v h=>by
  have al:b<w.heap.size:=Jk _ _ h;have:rd (w.alloc (.cells #[.string (B n)] 9)) b o=rd w b o:=PZ (a:=⟨b,o,none⟩) (Ly.block b al);rw[this];exact h
 generalize tv:w.alloc (.cells #[.string (B n)] 9)=w1 at*;have nA:w.heap.size<=w1.heap.size:=Ly.size
 have xN:pg (rd w1) (rd w1) #[.slice a ns.length cap,.func (.func 124) #[] #[.pointer (some ⟨w.heap.size,0,none⟩)]] [(false,[.view (ns.map PM)]),LC 124 [[T n]]]:=by
  refine⟨rfl,λk x hk=>?_⟩
  match k,hk with
  |0,hk=>cases hk;exact⟨_,rfl,hr.mono eA eA⟩
  |1,hk=>
   cases hk;refine⟨_,rfl,?_⟩;refine .fn #[] #[.pointer (some ⟨w.heap.size,0,none⟩)] (λ_=> #[]) rfl rfl (λj c h=>by simp at h) (λj c h=>by simp at h) (λj c h=>by simp at h) (λj c k x h=>by simp at h) λj cs h=>?_
   match j,h with
   |0,h=>
    cases h;refine .ref w.heap.size 0 (λ_=>.string (B n)) (λk hk=>?_) λk x hx=>?_
    ·have:k=0:=by simpa using hk
     subst this;exact np
    ·match k,hx with
     |0,hx=>cases hx;exact .lit rfl
 refine((NQ ns n hl).pure.2 (rd w1) w1 _ (Mem.le_refl _) (hG w1 Ly) xN).mono λe w2 he=>?_;obtain⟨v,rfl,hB2,lE⟩:=he
 have hv:v= .int .i64 (be ns n):=by
  obtain⟨c,hc1,Xt⟩:=lE;simp only[Cb,sE]at hc1;subst hc1;exact ge Xt
 subst hv
 have Xt:w2.cell? ⟨b,12,none⟩=some (.slice a ns.length cap):=by
  have h1:w1.cell? ⟨b,12,none⟩=w.cell? ⟨b,12,none⟩:=PZ (Ly.block b hb);have h2:w2.cell? ⟨b,12,none⟩=w1.cell? ⟨b,12,none⟩:=PZ (hB2.block b K0);rw[h2,h1];exact hc
 have hB:Below w.heap.size w w2:=⟨hB2.os.trans Ly.os,hB2.tape.trans Ly.tape,hB2.output.trans Ly.output,pf nA hB2.size,λc hc=>(hB2.block c K0).trans (Ly.block c hc)⟩;by_cases Lu:be ns n<0
 ·have e1:decide (be ns n<0)=true:=fh Lu
  go_wp2_with fail
  go_ret
  exact⟨hB,_,rfl,.inl ⟨Lu,rfl⟩⟩
 ·have e1:decide (be ns n<0)=false:=eJ Lu
  have Ad:n∈ns:=by
   apply PY;intro h;rw[dW h]at Lu;omega
  obtain⟨k,hk,hke⟩:=k9 Ad;obtain⟨b9,o,rfl⟩: ∃b9 o,a=some ⟨b9,o,none⟩:=by exact Z2 hr K0
  have e2:(Instr.indexAt 33 (.slice (some ⟨b9,o,none⟩) ns.length cap) (.int .i64 (be ns n))).run prog w2= .ok (.pointer (some ⟨b9,o+(be ns n).toNat *17,none⟩)) w2:=
   Im (C:=cx) (w:=w2) (b:=b9) (o:=o) (n:=ns.length) (cap:=cap) (k:=be ns n) kz (T:=33) rfl rfl rfl K0 (by rw[hke];omega)
  go_wp2_with fail
  go_ret
  exact⟨hB,_,rfl,.inr ⟨b9,o,by omega,rfl,by rw[hke,tK];rfl⟩⟩
end Go.Proofs.Tryz
namespace Go.Proofs.Tryz
open Go Go.RowKit Go.Fw Go.Plain
structure Wk (H:HF) (id:Nat) (ns:List aj):Prop where
 box: ∃t cs,H id=some (.box t cs)/\cs[12]? =some (.own 9)
 row: ∃l,H 9=some (.az 17 l)/\l.length=ns.length/\∀(i:Nat) (e:List DC),l[i]? =some e->e.length=17/\e[0]? =some (.st (T (ns.getD i [])))
 len:ns.length<=1000
def E1 {H:HF}{id fid:Nat}{ns:List aj}(n:aj)(hw:Wk H id ns){r:DC}(hr:(be ns n<0/\r= .st (.lit (.pointer none)))\/(0<=be ns n/\r= .cK 9 17 (be ns n).toNat 0)):
  bI cx fid 62 [(false,[.ptr id 0]),(false,[.st (T n)])] H (bh r) [] [id,9]:=by
 obtain⟨⟨t,cs,h1,hc⟩,⟨l,h9,wu,Ja⟩,hl⟩:=hw;refine⟨by kernel_rfl,λF β N H' w vs UK hG hR hf nA hv=>?_⟩;have e1:H' id=some (.box t cs):=(UK id (by simp)).trans h1;have e9:H' 9=some (.az 17 l):=(UK 9 (by simp)).trans h9;obtain⟨_,b,arr,T',xQ,hb2,hb3,hb4,hb5⟩:=hR.rel id _ e1;obtain⟨hN9,_⟩:=hR.rel 9 _ e9;have hbl:=(GB.1 hb3).1;have a0:=hv 0 _ rfl;have a1:=hv 1 _ rfl;obtain⟨_,b',jW,hv0⟩:=ar.am a0;obtain rfl:b'=b:=qg (jW.symm.trans xQ);have hv1:vs.getD 1 undef= .string (B n):=ge (ar.am a1);have h12:12<arr.size:=by rw[hb4];exact(kF.1 hc).1
 have d12:=hb5 12 _ hc
 have I6:w.cell? ⟨b',12,none⟩=some (arr.getD 12 undef):=by
  unfold World.cell?;dsimp only;rw[hb3];simp[h12]
 have il:dw (rd w) (rd w) (arr.getD 12 undef) (.view (ns.map PM)):=by
  refine D5 (H:=H') (R:=[9]) hG hR (λ_ _=>rfl) (.az (by simp) e9 (by rw[jf,wu]) (λi e e' he C1=>?_) (λi e e' k d c he C1 hd Hq=>?_) (λi e' k c C1 Hq=>?_)) d12
  ·obtain⟨q1,_⟩:=Ja i e he;rw[gA,m7]at C1;obtain⟨m,_,rfl⟩:=C1;rw[q1];rfl
  ·obtain⟨q1,q2⟩:=Ja i e he;rw[gA,m7]at C1;obtain⟨m,hm,rfl⟩:=C1;have hmd:ns.getD i []=m:=by rw[jX,hm];rfl
   rw[hmd]at q2
   cases k with
   |zero=>
    rw[q2]at hd;cases hd;cases Hq;exact .st _
   |succ k=>
    have:c= .any :=by
     have hk:k<16:=by exact ai2
     have Xt:(List.replicate 16 SC.any)[k]? =some c:=Hq;rw[List.getElem?_replicate,if_pos hk]at Xt;exact(qg Xt).symm
    subst this;exact .any _
  ·rw[gA,m7]at C1;obtain⟨m,hm,rfl⟩:=C1
   cases k with
   |zero=>cases Hq;rfl
   |succ k=>
    have hk:k<16:=by exact ai2
    have Xt:(List.replicate 16 SC.any)[k]? =some c:=Hq;rw[List.getElem?_replicate,if_pos hk]at Xt;rw[<- qg Xt];rfl
 obtain⟨_,_,jo⟩:=d12;have jo:=jo _ 17 l.length e9 rfl
 have xN:vs= #[.pointer (some ⟨b',0,none⟩),.string (B n)]:=by
  apply Bk
  ·rw[nA];rfl
  ·intro i h1 h2;have h2:i<2:=h2;have hg:vs.getD i undef=vs[i]:=by simp[sT,h1]
   match i,h2 with
   |0,_=>rw[<- hg];exact hv0
   |1,_=>rw[<- hg];exact hv1
 have hGl: ∀w1,Below w.heap.size w w1->eQ cx.gl (rd w1):=λw1 hB=>eQ.later hG (hR.grow hB)
 have fin: ∀ {a:Option Addr} {cap:Nat},w.cell? ⟨b',12,none⟩=some (.slice a ns.length cap)->dw (rd w) (rd w) (.slice a ns.length cap) (.view (ns.map PM))->(∀b9 o,a=some ⟨b9,o,none⟩->β 9=some b9/\o=0)->
   Calls cx.P 62 vs w λe w'=>∃v cQ,e= .returned v/\Tr F β N H' w cQ (bg N fid) (Hp.on [] H') w'/\ad F cQ (bg N fid) (Hp.on [] H') w'/\co F cQ (bg N fid) (Hp.on [] H') w' v (bh r):=by
  intro a cap jc hrp ha;rw[xN];refine(Z3 ns n hl b' a cap w hGl jc hrp hbl).mono λe w' he=>?_;obtain⟨hB,v,rfl,lE⟩:=he;refine⟨v,β,rfl,(Tr.grow hR hB).bg,(hR.grow hB).bg,co.bg ?_⟩;show ar _ _ _ _ _ _ (false,[r])
  rcases hr with⟨Lu,rfl⟩|⟨fL,rfl⟩
  ·rcases lE with⟨_,rfl⟩|⟨b9,o,h0,rfl,rfl⟩
   ·exact⟨_,rfl,.lit rfl⟩
   ·omega
  ·rcases lE with⟨hn,_⟩|⟨b9,o,h0,rfl,rfl⟩
   ·omega
   ·obtain⟨q1,rfl⟩:=ha b9 o rfl;refine⟨_,rfl,hN9,b9,q1,by simp⟩
 rcases jo with⟨_,h0,hs⟩|⟨b9,cap,arr9,T9,q1,hs,_,_⟩
 ·rw[hs]at I6 il;have hz:ns.length=0:=by omega
  refine fin (a:=none) (cap:=0) (by rw[hz];exact I6) (by rw[hz];exact il) λb9 o h=>by cases h
 ·rw[hs,wu]at I6 il;exact fin I6 il λb9' o h=>by cases h;exact⟨q1,rfl⟩
end Go.Proofs.Tryz
namespace Go.Proofs.Tryz
open Go.Fw Go.IntWalk Go.Plain
abbrev xp (a:List aj)(n:List Int)(r:aj):SV:=(true,[.view (ab a),.ints n,T r])
inductive gY:Hp->Hp->Prop
 |base (R:Hp):gY R R
 |step {k:Nat} {b:Option cC} {H R:Hp} (h:J4 k=true) (e:gY H R):gY ((k,b)::H) R
theorem gY.get {H R:Hp}(h:gY H R)(hT:Cj R): ∀k∈ah R,H.get k=R.get k:=by
 induction h with
 |base=>exact λ_ _=>rfl
 |step h e ih=>
  intro k hk;rw[Hp.kL (λe=>by subst e;exact hT.not h hk)];exact ih hT k hk
def IF {us:List Un}{m:List (Nat × Nat)}(hm:Go.Fw.Jf m=true):fC (m++mZ (bt 0 us)) (ay 0 us)=some (ay 0 us)\/1000<us.length:=by
 by_cases hl:us.length<=1000
 ·refine .inl (Ax λx hx=>?_);have hT:=fW hl
  have key: ∀d∈x,na (m++mZ (bt 0 us)) d=some d:=λd hd=>by
   have hme:=lV hx d hd;exact K71
  exact ah3
 ·exact .inr K0
theorem cE {o n k:Nat}{m:List (Nat × Nat)}(h:k≠o):bU ((o,n)::m) k=bU m k:=by
 have e':Nat.beq k o=false:=by
  cases hb:Nat.beq k o
  ·rfl
  ·exact absurd (pj hb) h
 show(match Nat.beq k o with|true=>some n|false=>bU m k)=_;rw[e']
theorem mN {n k:Nat}{m:List (Nat × Nat)}:bU ((k,n)::m) k=some n:=by
 show(match Nat.beq k k with|true=>some n|false=>bU m k)=_;rw[Nat.beq_refl]
def Z4 (fn:Func)(p:Pl)(log:List En)(s:bV)(r:DV)(S:St):Prop:=∃lg op lt,
 S.env.get 0=some (.val (false,[.ptr 1 0]))/\S.hp.get 1=some (.box 81 [.st (.view (p.ae.map nh)),.st (.view (ab p.ap)),.st (.view (p.aa.map fB)),.st (.view (p.parts.map mj)),.st (J p.dY),.st (J p.eH),.own lg,.st (K s.volt),.st (K s.earth),.own op,.st (T s.hall),.own lt,.own 9])/\
 S.hp.get lg=some (.row true 3 (.view (log.map cd)))/\S.hp.get op=some (.row true 1 (.view (ab s.opens)))/\S.hp.get lt=some (.row true 1 (.view (ab s.lots)))/\S.hp.get 9=some (.az 17 (ay 0 s.units))/\
 Go.Fw.Jf [(9,9),(1,1),(lg,3),(op,5),(lt,7)]=true/\gY S.hp (bt 0 s.units)/\eu cx S.hp.get S.env.get fn.results.toList λys=>∃zs,kV ([(9,9),(1,1),(lg,3),(op,5),(lt,7)]++mZ (bt 0 s.units)) ys=some zs/\pv zs=r
def agv {a b c:Nat}(h:Go.Fw.Jf [(9,9),(1,1),(a,3),(b,5),(c,7)]=true):(a≠9/\a≠1)/\(b≠9/\b≠1/\b≠a)/\c≠9/\c≠1/\c≠a/\c≠b:=by
 unfold Go.Fw.Jf at h;simp only[sU]at h;have:=bY h.1.1;simp only[ju,Dh,Ah,cF,jN,jO,not_or]at this;obtain⟨⟨_,h1,h2,h3⟩,⟨h4,h5,h6⟩,⟨h7,h8⟩,h9,_⟩:=this;exact⟨⟨ox h1,ox h4⟩,⟨ox h2,ox h5,ox h7⟩,ox h3,ox h6,ox h8,ox h9⟩
def NR {fn:Func}{p:Pl}{log:List En}{s:bV}{r:DV}{S:St}(hl:s.units.length<=1000)(h:Z4 fn p log s r S):
  ∃m:List (Nat × Nat),cZ m S.hp.get (form p log s).get /\(∀q∈[(0,1)],∃o off,S.env.get q.1=some (.val (false,[.ptr o off]))/\(o,q.2)∈m)/\
   eu cx S.hp.get S.env.get fn.results.toList λys=>∃zs,kV m ys=some zs/\pv zs=r:=by
 obtain⟨lg,op,lt,h0,h1,h2,h3,h4,h9,hm,hE,hr⟩:=h;have hT:=fW hl;have iG:=(IF (us:=s.units) hm).resolve_right K0;obtain⟨⟨n1,n2⟩,⟨n3,n4,n5⟩,n6,n7,n8,n9⟩:=agv hm;refine⟨_,cZ.form (Y:=hd p log s) hT hm h9 iG ?_ rfl (hE.get hT),λq hq=>?_,hr⟩
 ·have id1:bU ((9,9)::[(1,1),(lg,3),(op,5),(lt,7)]++mZ (bt 0 s.units)) lg=some 3:=by
   simp only[qX];rw[cE n1,cE n2,mN]
  have id2:bU ((9,9)::[(1,1),(lg,3),(op,5),(lt,7)]++mZ (bt 0 s.units)) op=some 5:=by simp only[qX];rw[cE n3,cE n4,cE n5,mN]
  have id3:bU ((9,9)::[(1,1),(lg,3),(op,5),(lt,7)]++mZ (bt 0 s.units)) lt=some 7:=by simp only[qX];rw[cE n6,cE n7,cE n8,cE n9,mN]
  have id4:bU ((9,9)::[(1,1),(lg,3),(op,5),(lt,7)]++mZ (bt 0 s.units)) 9=some 9:=rfl;simp only[jY,h1,h2,h3,h4,fq,eX,na,id1,id2,id3,id4];rfl
 ·rw[mA]at hq;subst hq;exact⟨1,0,h0,by simp⟩
def gF {f:FuncId}{c:Code}{p:Pl}{log sB:List En}{s s':bV}{ys:List SV}{y:SV}(fn:Func)(hl:s'.units.length<=1000)(h:m9 cx c ⟨iz 0 ((false,[.ptr 1 0])::ys.map dyn),form p log s,1⟩ (Z4 fn p sB s' (.val (dyn y))) (λ_ _=>False) (Z4 fn p sB s' (.val (dyn y))))
  (h1:iI cx.P f=true:=by kernel_rfl)(h2:cx.P.funcs[f]? =some fn:=by kernel_rfl)(h3:fn.body=some c:=by rfl)(h4:bQ fn.ntmps c=true:=by kernel_rfl)(h5:ys.length+1<=fn.ntmps:=by exact fM rfl)(h6:aJ [0] c=true:=by kernel_rfl):
  bA cx f 1 ((false,[.ptr 1 0])::ys.map dyn) (form p log s) [1] (.val (dyn y)) (form p sB s'):=
 fw kz h1 h2 h3 h4 af3 [(0,1)] (λp hp=>by rw[mA]at hp;subst hp;exact⟨0,rfl⟩) h6 (λS hS=>NR hl hS) h
def qI (l:List aj)(x:aj):ab (l++[x])=ab l++[[T x]]:=by simp[ab]
def Er {p:Prop}(h:p:=by first|rfl|(rw[qI];rfl)|(rw[Aj];rfl)):p:=h
def Ew {p:Prop}(h:p:=by
 refine⟨_,_,_,rfl,rfl,Er,Er,Er,rfl,rfl,?_,_,rfl,rfl⟩
 repeat(first|exact gY.base _|refine gY.step rfl ?_)):p:=h
def ade (p:Pl)(log:List En)(s:bV)(hl:s.units.length<=1000)(a:List aj)(n:List Int)(r:aj):
  bA cx 110 1 ((false,[.ptr 1 0])::[xp a n r].map dyn) (form p log s) [1] (.val (dyn (I (if s.volt then 0 else 20)))) (form p log (if s.volt then {s with volt:=false}else s)):=by
 obtain⟨volt,earth,opens,hall,lots,units⟩:=s;cases volt
 ·refine gF f110 hl ?_;exact K99
 ·refine gF f110 hl ?_;exact K99
def wF {l:List Int}{E:Int}(h:fs l=E)(hl:l.length<=1000000:=by exact fM rfl):ac 42 [(false,[.ints l])] (.one (I E)):=by
 have:=oS l hl;rwa [h]at this
def V9 (E:to)(p:Pl)(log:List En)(s:bV)(hl:s.units.length<=1000)(a:List aj)(n:List Int)(r:aj):
  bA cx 107 1 ((false,[.ptr 1 0])::[xp a n r].map dyn) (form p log s) [1] (.val (dyn (I (bm E p log s 6 a n r).2))) (form p log (bm E p log s 6 a n r).1):=by
 obtain⟨volt,earth,opens,hall,lots,units⟩:=s;cases volt<;>cases earth
 ·refine gF (s':=⟨false,true,opens,hall,lots,units⟩) (y:=I 0) f107 hl ?_;exact tL
 ·refine gF (s':=⟨false,true,opens,hall,lots,units⟩) (y:=I 20) f107 hl ?_;exact tL
 ·refine gF (s':=⟨true,false,opens,hall,lots,units⟩) (y:=I 24) f107 hl ?_;exact tL
 ·refine gF (s':=⟨true,true,opens,hall,lots,units⟩) (y:=I 20) f107 hl ?_;exact tL
def Z6 (E:to)(p:Pl)(log:List En)(s:bV)(hl:s.units.length<=1000)(a:List aj)(n:List Int)(r:aj):
  bA cx 108 1 ((false,[.ptr 1 0])::[xp a n r].map dyn) (form p log s) [1] (.val (dyn (I (bm E p log s 7 a n r).2))) (form p log (bm E p log s 7 a n r).1):=by
 obtain⟨volt,earth,opens,hall,lots,units⟩:=s
 cases earth<;>rcases opens with _|⟨o,os⟩
 ·refine gF (s':=⟨volt,false,[],hall,lots,units⟩) (y:=I 20) f108 hl ?_;exact tL
 ·refine gF (s':=⟨volt,false,o::os,hall,lots,units⟩) (y:=I 20) f108 hl ?_;exact tL
 ·refine gF (s':=⟨volt,false,[],hall,lots,units⟩) (y:=I 0) f108 hl ?_;exact tL
 ·refine gF (s':=⟨volt,true,o::os,hall,lots,units⟩) (y:=I 24) f108 hl ?_;exact tL
def NT (E:to)(p:Pl)(log:List En)(s:bV)(hl:s.units.length<=1000)(a:List aj)(n:List Int)(r:aj):
  bA cx 109 1 ((false,[.ptr 1 0])::[xp a n r].map dyn) (form p log s) [1] (.val (dyn (I (bm E p log s 8 a n r).2))) (form p log (bm E p log s 8 a n r).1):=by
 obtain⟨volt,earth,opens,hall,lots,units⟩:=s
 cases volt<;>rcases opens with _|⟨o,os⟩<;>cases earth
 ·refine gF (s':=⟨true,false,[],hall,lots,units⟩) (y:=I 0) f109 hl ?_;exact tL
 ·refine gF (s':=⟨false,true,[],hall,lots,units⟩) (y:=I 24) f109 hl ?_;exact tL
 ·refine gF (s':=⟨false,false,o::os,hall,lots,units⟩) (y:=I 24) f109 hl ?_;exact tL
 ·refine gF (s':=⟨false,true,o::os,hall,lots,units⟩) (y:=I 24) f109 hl ?_;exact tL
 ·refine gF (s':=⟨true,false,[],hall,lots,units⟩) (y:=I 20) f109 hl ?_;exact tL
 ·refine gF (s':=⟨true,true,[],hall,lots,units⟩) (y:=I 20) f109 hl ?_;exact tL
 ·refine gF (s':=⟨true,false,o::os,hall,lots,units⟩) (y:=I 20) f109 hl ?_;exact tL
 ·refine gF (s':=⟨true,true,o::os,hall,lots,units⟩) (y:=I 20) f109 hl ?_;exact tL
def qJ {m:List (Nat × Nat)}{R:Hp}(hT:Cj R)(hm:Go.Fw.Jf m=true){k:Nat}{us:List Un}(hs: ∀n∈ah (bt k us),n∈ah R):fC (m++mZ R) (ay k us)=some (ay k us):=by
 refine Ax λx hx=>?_
 have key: ∀d∈x,na (m++mZ R) d=some d:=λd hd=>by
  have hme:=DC.dN hs (lV hx d hd);exact K71
 exact ah3
def zg {m:List (Nat × Nat)}: ∀ {A B A' B':List (List DC)},fC m A=some A'->fC m B=some B'->fC m (A++B)=some (A'++B')
 | [],B,A',B',h,h'=>by grind[fC]
 |e::A,B,A',B',h,h'=>by
  unfold fC at h
  cases h1:eX m e with
  |none=>simp_all
  |some e'=>
   cases h2:fC m A with
   |none=>simp_all
   |some A2=>
    rw[h1,h2]at h;cases h;rw[qX];unfold fC;rw[h1,zg h2 h'];rfl
def Wa {us:List Un}{i:Nat}{u:Un}(hi:us[i]? =some u):(ah (av us i)).Nodup :=by
 have hn:=y6 0 us;obtain⟨h1,h2⟩:=qB hi;have e:ah (bt 0 us)=ah (bt 0 (us.take i))++(ah (lC u (17+6*i) (19+6*i) (21+6*i))++ah (bt (i+1) (us.drop (i+1)))):=ahH
 grind
def BV {us:List Un}{i:Nat}{u:Un}(hi:us[i]? =some u)(hl:us.length<=1000):Cj (av us i):=
 ⟨Wa hi,λn hn=>by obtain⟨a1,_,_,_,a2,a3⟩:=xh hi hn;omega,λk b e=>by
  rw[Hp.get_append,oI]at e
  grind[uB]⟩
def Z7 (fn:Func)(p:Pl)(log:List En)(s:bV)(u:Un)(us:List Un)(i:Nat)(r:DV)(S:St):Prop:=∃lg op lt l9,
 S.env.get 0=some (.val (false,[.ptr 1 0]))/\S.hp.get 1=some (.box 81 [.st (.view (p.ae.map nh)),.st (.view (ab p.ap)),.st (.view (p.aa.map fB)),.st (.view (p.parts.map mj)),.st (J p.dY),.st (J p.eH),.own lg,.st (K s.volt),.st (K s.earth),.own op,.st (T s.hall),.own lt,.own 9])/\
 S.hp.get 9=some (.az 17 l9)/\∃a b c,l9=(ay 0 us).set i (cV u a b c)/\
 S.hp.get lg=some (.row true 3 (.view (log.map cd)))/\S.hp.get op=some (.row true 1 (.view (ab s.opens)))/\S.hp.get lt=some (.row true 1 (.view (ab s.lots)))/\
 S.hp.get a=some (.row true 1 (.view (ab u.lots)))/\S.hp.get b=some (.row true 4 (.view (u.res.map kg)))/\S.hp.get c=some (.row true 5 (.view (u.gas.map tp)))/\
 Go.Fw.Jf [(9,9),(1,1),(lg,3),(op,5),(lt,7),(a,11),(b,13),(c,15)]=true/\gY S.hp (av us i)/\
 eu cx S.hp.get S.env.get fn.results.toList λys=>∃zs,kV ([(9,9),(1,1),(lg,3),(op,5),(lt,7),(a,11),(b,13),(c,15)]++mZ (av us i)) ys=some zs/\pv zs=r
def adg {lg op lt a b c:Nat}(h:Go.Fw.Jf [(9,9),(1,1),(lg,3),(op,5),(lt,7),(a,11),(b,13),(c,15)]=true):
  (lg≠9/\lg≠1)/\(op≠9/\op≠1/\op≠lg)/\(lt≠9/\lt≠1/\lt≠lg/\lt≠op)/\(a≠9/\a≠1/\a≠lg/\a≠op/\a≠lt)/\(b≠9/\b≠1/\b≠lg/\b≠op/\b≠lt/\b≠a)/\c≠9/\c≠1/\c≠lg/\c≠op/\c≠lt/\c≠a/\c≠b:=by
 exact ahD
def T5 {fn:Func}{p:Pl}{log:List En}{s:bV}{u u0:Un}{us:List Un}{i:Nat}{r:DV}{S:St}(hi:us[i]? =some u0)(hl:us.length<=1000)(h:Z7 fn p log s u us i r S):
  ∃m:List (Nat × Nat),cZ m S.hp.get (ep p log s u ((ay 0 us).set i (cV u 11 13 15)) (av us i)).get /\(∀q∈[(0,1)],∃o off,S.env.get q.1=some (.val (false,[.ptr o off]))/\(o,q.2)∈m)/\
   eu cx S.hp.get S.env.get fn.results.toList λys=>∃zs,kV m ys=some zs/\pv zs=r:=by
 obtain⟨lg,op,lt,l9,h0,h1,h9,a,b,c,rfl,h2,h3,h4,h5,h6,h7,hm,hE,hr⟩:=h;have hT:=BV hi hl;obtain⟨⟨n1,n2⟩,⟨n3,n4,n5⟩,⟨n6,n7,n8,n9⟩,⟨a1,a2,a3,a4,a5⟩,⟨b1,b2,b3,b4,b5,b6⟩,c1,c2,c3,c4,c5,c6,c7⟩:=adg hm;have id1:bU ((9,9)::[(1,1),(lg,3),(op,5),(lt,7),(a,11),(b,13),(c,15)]++mZ (av us i)) lg=some 3:=acr;have id2:bU ((9,9)::[(1,1),(lg,3),(op,5),(lt,7),(a,11),(b,13),(c,15)]++mZ (av us i)) op=some 5:=acr;have id3:bU ((9,9)::[(1,1),(lg,3),(op,5),(lt,7),(a,11),(b,13),(c,15)]++mZ (av us i)) lt=some 7:=ab0;have id5:bU ((9,9)::[(1,1),(lg,3),(op,5),(lt,7),(a,11),(b,13),(c,15)]++mZ (av us i)) a=some 11:=ab0;have id6:bU ((9,9)::[(1,1),(lg,3),(op,5),(lt,7),(a,11),(b,13),(c,15)]++mZ (av us i)) b=some 13:=aiq;have id7:bU ((9,9)::[(1,1),(lg,3),(op,5),(lt,7),(a,11),(b,13),(c,15)]++mZ (av us i)) c=some 15:=ail;have id4:bU ((9,9)::[(1,1),(lg,3),(op,5),(lt,7),(a,11),(b,13),(c,15)]++mZ (av us i)) 9=some 9:=rfl
 have iG:fC ((9,9)::[(1,1),(lg,3),(op,5),(lt,7),(a,11),(b,13),(c,15)]++mZ (av us i)) ((ay 0 us).set i (cV u a b c))=some ((ay 0 us).set i (cV u 11 13 15)):=by
  rw[vA hi,vA hi];refine zg (qJ hT hm λn hn=>?_) ?_
  grind
  ·have h2:=qJ (m:=(9,9)::[(1,1),(lg,3),(op,5),(lt,7),(a,11),(b,13),(c,15)]) hT hm (k:=i+1) (us:=us.drop (i+1)) λn hn=>by
    grind
   unfold fC;rw[h2];simp only[cV,eX,na,id5,id6,id7]
 refine⟨_,cZ.form (Y:=hd p log s++lC u 11 13 15) hT hm h9 iG ?_ rfl (hE.get hT),λq hq=>?_,hr⟩
 ·exact aiR
 grind
def gI {f:FuncId}{c:Code}{p:Pl}{log sB:List En}{s s':bV}{u u':Un}{i:Nat}{ys:List SV}{y:SV}(fn:Func)(hi:s.units[i]? =some u)(hl:s.units.length<=1000)(hs:s'.units=s.units.set i u')
  (h:m9 cx c ⟨iz 0 ((false,[.ptr 1 0])::ys.map dyn),ep p log s u ((ay 0 s.units).set i (cV u 11 13 15)) (av s.units i),1⟩ (Z7 fn p sB s' u' s.units i (.val (dyn y))) (λ_ _=>False) (Z7 fn p sB s' u' s.units i (.val (dyn y))))
  (h1:iI cx.P f=true:=by kernel_rfl)(h2:cx.P.funcs[f]? =some fn:=by kernel_rfl)(h3:fn.body=some c:=by rfl)(h4:bQ fn.ntmps c=true:=by kernel_rfl)(h5:ys.length+1<=fn.ntmps:=by exact fM rfl)(h6:aJ [0] c=true:=by kernel_rfl):
  bA cx f 1 ((false,[.ptr 1 0])::ys.map dyn) (form p log s) [1] (.val (dyn y)) (form p sB s'):=
 focus hi hl (fw kz h1 h2 h3 h4 bw [(0,1)] (λp hp=>by grind) h6 (λS hS=>T5 hi hl hS) h) hs
def adh {us:List Un}{i:Nat}{X:List DC}:((ay 0 us).set i X).length =(us.map Un.name).length :=by rw[GD,eN,jf]
theorem AJ {us:List Un}{j:Nat}{e:List DC}(h:(ay 0 us)[j]? =some e):e.length=17/\e[0]? =some (.st (T ((us.map Un.name).getD j []))):=by
 have al:=(kF.1 h).1;rw[eN]at al;have hv:us[j]? =some us[j]:=by grind
 rw[vu hv]at h;cases h;refine⟨rfl,?_⟩;rw[jX,gA,hv];rfl
def ld {H:HF}{fid:Nat}{us:List Un}{i:Nat}{u:Un}(hi:us[i]? =some u)(hl:us.length<=1000){x:aj}(hx:be (us.map Un.name) x=(i:Nat))(h1: ∃t cs,H 1=some (.box t cs)/\cs[12]? =some (.own 9))(h9:H 9=some (.az 17 ((ay 0 us).set i (cV u 11 13 15)))):
  bI cx fid 62 [(false,[.ptr 1 0]),(false,[.st (T x)])] H (bh (.cK 9 17 i 0)) [] [1,9]:=by
 refine E1 (ns:=us.map Un.name) x ⟨h1,⟨_,h9,adh,λj e he=>?_⟩,by grind⟩ (.inr ⟨by omega,by grind⟩);by_cases hj:i=j
 ·subst hj;have al:=(kF.1 hi).1;rw[C9 bw]at he;cases he;refine⟨rfl,?_⟩;rw[jX,gA,hi];rfl
 grind[AJ]
def AK {H:HF}{fid:Nat}{us:List Un}(hl:us.length<=1000){x:aj}(hx:be (us.map Un.name) x<0)(h1: ∃t cs,H 1=some (.box t cs)/\cs[12]? =some (.own 9))(h9:H 9=some (.az 17 (ay 0 us))):
  bI cx fid 62 [(false,[.ptr 1 0]),(false,[.st (T x)])] H (bh (.st (.lit (.pointer none)))) [] [1,9]:=
 E1 (ns:=us.map Un.name) x ⟨h1,⟨_,h9,by rw[eN,jf],λ_ _ he=>AJ he⟩,by grind⟩ (.inl ⟨hx,rfl⟩)
def Ei {p:Prop}(h:p:=by
 refine⟨_,_,_,_,rfl,rfl,rfl,?_⟩;refine⟨?_,?_,?_,?_,?_⟩;rotate_left 3
 ·first|rfl|(simp only[Mi];rfl)
 ·refine⟨rfl,rfl,rfl,Er,Er,Er,rfl,?_,_,rfl,rfl⟩
  repeat(first|exact gY.base _|refine gY.step rfl ?_)):p:=h
def j7 {s:bV}{x:aj}(h:0<=iB s x): ∃i u,be (s.units.map Un.name) x=(i:Nat)/\(iB s x).toNat =i/\s.units[i]? =some u/\s.units.getD i pA=u/\i< (ay 0 s.units).length :=by
 have e:iB s x=be (s.units.map Un.name) x:=rfl;unfold be at e;by_cases hm:x∈s.units.map Un.name
 ·rw[if_pos hm]at e;have al:=XR hm;rw[jf]at al;refine⟨(s.units.map Un.name).idxOf x,s.units[(s.units.map Un.name).idxOf x],?_,?_,?_,?_,?_⟩
  ·unfold be;grind
  grind
  ·simp
  grind
  grind[eN]
 grind
def Q1 (p:Pl)(q:aj × List aj)(hl:p.aa.length<=1000)(hq:q.2.length<=1000)(hn: ∀i<p.aa.length,(p.aa.getD i dl).bv.length <=1000):
  ac 145 [(true,bL p),(true,mj q)] (.own 1 (.view (ab (jk p.aa q.2)))):=by
 have hn1:(p.aa.map fB).length =p.aa.length:=by simp
 refine sF f145 ?_
 (try(refine tX 0 ?_;try exact Zt))
 refine af (ι:=Nat) (λi=>i<=p.aa.length) (λi=>p.aa.length -i) (λi=>⟨[(3,pP 0),(5,pP 1),(10,some (.val (false,[.st (.view (p.aa.map fB))]))),(11,vI p.aa.length),(12,vI i)],[(0,some (.box 76 [.st (T q.1),.st (.view (ab q.2))])),(1,some (.box 23 [.own 2])),(2,some (.row true 1 (.view (ab (jk (p.aa.take i) q.2)))))],3⟩) 0
  (bu.trans (iL 6 0 1 (.view []) (T:=23) (cs:=[.nil]) bX rfl rfl rfl rfl) (ai (by rw[<- hn1];kernel_rfl))) (dz _) ?_
 intro i hi;by_cases al:i<p.aa.length
 ·have he:=iP al;have xR:=BM (voids:=q.2) al;have PP:=rM (p.aa.take i) q.2;have hnn:=hn i al;have ank:(p.aa.take i).length =i:=by simp;omega
  have hc:=bG q.2 (p.aa.getD i dl).name K0;unfold Ip at xR;generalize jk (p.aa.take i) q.2=out at*;generalize p.aa.getD i dl=t at*
  rcases t with⟨nm,kd,nd,ru,lo,lA⟩;have he:(p.aa.map fB)[i]? =some [T nm,J kd,.view (ab nd),T ru,J lo,J lA]:=he;dsimp only at xR hnn hc;have hol:(ab out).length =out.length:=by simp
  by_cases h1: ∃n∈nd,n∈out
  ·rw[if_pos (.inr h1)]at xR;repeat((first|(refine kO 7 rfl ?_;first|refine gu (λ_ z=>⟨_,_,_,adb (t:=23) h1 K0 K0 rfl rfl,z⟩) ?_)|refine tX 3 ?_|exact Zt);(try conv=>whnf))
   exact K19
  ·by_cases h2:nm∈q.2
   ·rw[if_pos (.inl h2)]at xR;rw[fh h2]at hc;repeat((first|(refine kO 7 rfl ?_;first|refine gu (λ_ z=>⟨_,_,_,T4 (t:=23) h1 K0 K0 rfl rfl,z⟩) ?_)|refine tX 3 ?_|exact Zt);(try conv=>whnf))
    exact K19
   ·rw[if_neg (by rintro(h|h);exact h2 h;exact h1 h)]at xR;rw[eJ h2]at hc;repeat((first|(refine kO 7 rfl ?_;first|refine gu (λ_ z=>⟨_,_,_,T4 (t:=23) h1 K0 K0 rfl rfl,z⟩) ?_)|refine tX 3 ?_|exact Zt);(try conv=>whnf))
    exact K25
 ·exact aiM
def xq (s:aj)(hl:s.length<=1000000):ac 121 [SS s,SS [32]] (.own 1 (.view (ab (aH 32 s)))):=by
 have h:=AF s 32 hl (uw s 32).2;rw[(uw s 32).1]at h;exact h
abbrev Ob (role words sR:Nat)(rest:Bool)(f:FuncId):SV:=(true,[J role,J words,J sR,K rest,.fn f [] []])
def aab (role words sR:Nat)(f:FuncId)(s:aj)(hl:s.length<=100000)(hw:words<=10)(h:(aH 32 s).length ≠words+1):ac 61 [Ob role words sR false f,SS s] (.aI [xp [] [] [],Bo false]):=by
 have c1:=xq s K0;have h1:=(cj 32 s).1;exact afy
def adm (role words sR:Nat)(f:FuncId)(s:aj)(hl:s.length<=100000)(hw:words<=10)(h:(aH 32 s).length =words+1)(he: []∈aH 32 s):ac 61 [Ob role words sR false f,SS s] (.aI [xp [] [] [],Bo false]):=by
 have c1:=xq s K0;have h1:=(cj 32 s).1;have c2:=bG (aH 32 s) [] K0;rw[fh he]at c2;exact afy
instance adn (a b:Nat):dJ (((a+b:Nat):Int) -(b:Int)) a:=⟨by omega⟩
def dP:List aj->List Int
 | []=>[]
 |s::r=>match wN false 7 s with
  |some n=>n::dP r
  |none=>[]
def E7: ∀u:List aj,(dP u).length <=u.length
 | []=>dG _
 |s::r=>by
  unfold dP;split
  ·have:=E7 r;simp;omega
  ·simp
def E8: ∀ {u:List aj} {i:Nat},i< (dP u).length ->wN false 7 (u.getD i [])=some ((dP u).getD i 0)
 | [],i,h=>by simp[dP]at h
 |s::r,i,h=>by
  unfold dP at h ⊢
  cases e:wN false 7 s with
  |none=>rw[e]at h;simp at h
  |some n=>
   rw[e]at h
   cases i with
   |zero=>simp[e]
   |succ i=>
    have:=E8 (u:=r) (i:=i) U6;simpa using this
def xu: ∀ {u:List aj},(dP u).length <u.length->wN false 7 (u.getD (dP u).length [])=none
 | [],h=>by simp[dP]at h
 |s::r,h=>by
  unfold dP at h ⊢
  cases e:wN false 7 s with
  |none=>simp[e]
  |some n=>
   rw[e]at h;have:=xu (u:=r) U6;simpa using this
def Q6 (role d k:Nat)(f:FuncId)(s:aj)(hl:s.length<=100000)(hw:d+k<=10)(h:(aH 32 s).length =d+k+1)(he: []∉aH 32 s):
  ac 61 [Ob role (d+k) k false f,SS s] (.aI [xp ((aH 32 s).drop 1) (dP (((aH 32 s).drop 1).drop d)) [],Bo (decide ((dP (((aH 32 s).drop 1).drop d)).length =k))]):=by
 have c1:=xq s K0;have h1:=(cj 32 s).1;have h2:=(cj 32 s).2;have c2:=bG (aH 32 s) [] K0;rw[eJ he]at c2;generalize aH 32 s=l at*;have hn:(ab l).length =l.length:=by simp
 have hu:(ab ((l.drop 1).drop d)).length =k:=by simp;omega
 have hlu: ∀i<k,(((l.drop 1).drop d).getD i []).length <=100000:=λi hi=>by
  have lA:i< ((l.drop 1).drop d).length :=by simp;omega
  have:((l.drop 1).drop d).getD i []∈l:=by
   rw[jX,o8 lA,vX];exact P2 (P2 (pd lA))
  have:=h2 _ this;omega
 refine sF f61 ?_;repeat' ((first|refine tX 0 ?_|exact Zt|refine bR ?_ ?_<;>intro h)<;>(try conv=>whnf))
 generalize hU:(l.drop 1).drop d=u at*;have hk:u.length=k:=by simpa using hu
 refine af (ι:=Nat) (λi=>i<=(dP u).length) (λi=>u.length -i) (λi=>⟨[(4,pP 0),(7,pP 1),(61,some (.val (false,[.st (.view (ab u))]))),(62,vI k),(63,vI i)],[(0,some (.box 129 [.nil,.nil,.st (T [])])),(1,some (.box 129 [.st (.view (ab (l.drop 1))),.own 2,.st (T [])])),(2,some (.row true 1 (.ints ((dP u).take i))))],3⟩) 0
  (bu.trans (iL 8 1 1 (.ints []) (T:=129) (cs:=[.st (.view (ab (l.drop 1))),.nil,.st (T [])]) bX rfl rfl rfl rfl) (ai (by rw[<- hu];kernel_rfl))) (dz _) ?_
 intro i hi;have eA:=E7 u;by_cases al:i<k
 ·have C1:=sA (l:=u) (i:=i) K0;have UQ:=hlu i al;obtain⟨v,cn,hv⟩:=mQ false 7 bX (u.getD i []) K0;by_cases hp:i< (dP u).length
  ·have tm:=E8 hp;have e1:=hv _ tm;have z6:(dP u).take (i+1)=(dP u).take i++[v]:=by rw[<- e1,Db,o8 hp,jX,o8 hp];rfl
   have htl:((dP u).take i).length =i:=by simp;omega
   rw[tm]at cn;generalize (dP u).take i=w at*;generalize u.getD i []=y at*;exact ahG
  ·have hi2:(dP u).length =i:=by omega
   have eG:=xu (u:=u) K0;rw[hi2]at eG;rw[eG]at cn;rw[pc K0,eJ K0];generalize u.getD i []=y at*;exact tA
 ·have I9:(dP u).length =k:=by omega
  have:i=k:=by omega
  subst this;rw[pc K0,fh I9];exact tA
abbrev vE (n:aj)(role words sR:Nat)(rest:Bool)(f:FuncId):aj × SV:=(n,Ob role words sR rest f)
abbrev kB (q:aj × SV):ByteArray × SV:=(B q.1,q.2)
def Oc:List (aj × SV):=[
 vE [110,111,116,101] 0 0 0 true 101,vE [108,111,116] 1 1 0 false 102,vE [117,110,105,116] 1 1 0 true 103,
 vE [117,115,101] 1 2 0 false 104,vE [111,112,101,110] 2 1 0 false 105,vE [115,104,117,116] 2 1 0 false 106,
 vE [101,97,114,116,104] 2 0 0 false 107,vE [108,105,102,116] 2 0 0 false 108,vE [118,111,108,116,97,103,101] 2 0 0 false 109,
 vE [111,102,102] 2 0 0 false 110,vE [101,110,116,101,114] 1 1 0 false 111,vE [108,101,97,118,101] 1 1 0 false 112,
 vE [116,101,115,116] 2 2 0 true 113,vE [114,101,112,97,105,114] 1 2 0 false 114,vE [114,101,108,101,97,115,101] 3 1 0 false 115,
 vE [115,104,111,99,107] 1 2 1 false 116,vE [105,110,115,112,101,99,116] 2 1 0 false 117,vE [108,111,97,100] 1 3 2 false 118,vE [103,97,115] 1 6 5 false 119]
def uL:List (ByteArray × SV):=Oc.map kB
def Od: ∀(l:List (aj × SV)) (w:aj),iZ (l.map kB) (B w)=(l[(l.map Prod.fst).idxOf w]?).map Prod.snd
 | [],_=>rfl
 |q::l,w=>by
  show(match(B w==B q.1)with|true=>some q.2|false=>iZ (l.map kB) (B w))=_;rw[ZH];by_cases h:w=q.1
  ·rw[fh h];simp[List.idxOf_cons,h]
  ·have hb:(q.1==w)=false:=by simp;exact λe=>h e.symm
   rw[eJ h];dsimp only;rw[Od l w];simp[List.idxOf_cons,hb]
def Wl (w:aj):iZ uL (B w)=(Oc[lB w]?).map Prod.snd:=Od Oc w
def agd (fn:Func)(fid:Nat)(S:St):Prop:=∃id,S.hp.get id=some (.map uL)/\eu cx S.hp.get S.env.get fn.results.toList λys=>∃zs,kV [(id,fid)] ys=some zs/\pv zs=bh (.mp fid)
def gM {f:FuncId}{c:Code}{fid:Nat}(fn:Func)(h:m9 cx c ⟨iz 0 [],[],1⟩ (agd fn fid) (λ_ _=>False) (agd fn fid))
  (h1:iI cx.P f=true:=by kernel_rfl)(h2:cx.P.funcs[f]? =some fn:=by kernel_rfl)(h3:fn.body=some c:=by rfl)(h4:bQ fn.ntmps c=true:=by kernel_rfl)(h5:([]:List DX).length <=fn.ntmps:=by exact dz _)(h6:aJ [] c=true:=by kernel_rfl):
  bA cx f 1 [] [] [] (bh (.mp fid)) [(fid,some (.map uL))]:=
 fw kz h1 h2 h3 h4 h5 [] (λ_ h=>by cases h) h6 (λS hS=>by
  obtain⟨id,g1,g2⟩:=hS;refine⟨[(id,fid)],⟨by simp,by simp,λn b' e=>?_⟩,(λ_ h=>by cases h),g2⟩;obtain⟨rfl,rfl⟩:=fJ e
  exact⟨id,_,by simp,g1,rfl⟩) h
def Wm (fid:Nat):bA cx 59 1 [] [] [] (bh (.mp fid)) [(fid,some (.map uL))]:=by
 refine gM f59 ?_
 (try(refine tX 0 ?_;try exact Zt))
 exact⟨4,by kernel_rfl,_,rfl,rfl⟩
def kl (H:HF)(fid:Nat):bI cx fid 59 [] H (bh (.mp fid)) [(fid,some (.map uL))] []:=
 gr (Wm fid) (λid hid=>by cases hid) (λid hid=>by cases hid) (λid b e=>by simp[Hp.get]at e) (λx hx=>by cases hx) (λid hid=>by cases hid)
  (λid hid=>.inr ajg) (λid b e=>by obtain⟨rfl,rfl⟩:=fJ e;trivial) (by
   intro d hd;have:d= .mp fid:=by simpa [bh]using hd
   subst this
   exact .inr rfl)
theorem oh: ∀(k:Nat) (s:aj),(ci k s).length <=s.length
 |0,s=>dG _
 |k+1,s=>by
  unfold ci;have:=oh k (s.drop ((aH 32 s).getD 0 []).length.succ);rw[S7]at this;omega
def Wn (role w:Nat)(f:FuncId)(s:aj)(hl:s.length<=100000)(hw:w<=10)(h:(aH 32 s).length <w+2):ac 61 [Ob role w 0 true f,SS s] (.aI [xp [] [] [],Bo false]):=by
 have c1:=rY s (w+2) K0 K0 K0;rw[N5 _ _ K0,if_pos K0,show(((w+2:Nat)):Int)=(w:Int)+2 by omega]at c1;have h1:=(cj 32 s).1;exact afy
instance agy (a:Nat):dJ ((a:Int) -((0:Nat):Int)) a:=⟨by omega⟩
instance alc (a:Nat):dJ ((a:Int)+1) (a+1):=⟨by omega⟩
def aac (role w:Nat)(f:FuncId)(s:aj)(hl:s.length<=100000)(hw:w<=10)(h:w+2<=(aH 32 s).length)(he: []∈(aH 32 s).take (w+1)):ac 61 [Ob role w 0 true f,SS s] (.aI [xp [] [] (ci (w+1) s),Bo false]):=by
 have c1:=rY s (w+2) K0 K0 K0;rw[Kr _ _ K0 h,show(((w+2:Nat)):Int)=(w:Int)+2 by omega,show w+2 -1=w+1 from rfl]at c1;have al:((aH 32 s).take (w+1)).length =w+1:=by simp;omega
 have c2:=bG ((aH 32 s).take (w+1)) [] K0;rw[fh he]at c2;generalize (aH 32 s).take (w+1)=l at*;generalize ci (w+1) s=r at*;have hn:(ab (l++[r])).length =w+2:=by simp;omega
 have hn2:(ab ((l++[r]).take (w+1))).length =w+1:=by exact aja
 have hg:(ab (l++[r]))[w+1]? =some [T r]:=by simp[ab,al]
 have z6:(l++[r]).take (w+1)=l:=by rw[<- al];simp
 have c3:=c2;rw[<- z6]at c3;refine sF f61 ?_;refine aS ?_;(refine aR ?_;conv=>whnf);(try(refine tX 2 ?_;try exact Zt));refine aS ?_;(refine aR ?_;conv=>whnf);(try(refine tX 2 ?_;try exact Zt));refine aS ?_;(refine aR ?_;conv=>whnf);(try(refine tX 2 ?_;try exact Zt));refine aS ?_;refine aS ?_;(refine aR ?_;conv=>whnf);(try(refine tX 2 ?_;try exact Zt))
 (try refine tB 0 ?_)
 refine aM ?_;(refine aR ?_;conv=>whnf);(try(refine tX 2 ?_;try exact Zt));refine⟨_,dk 22 rfl,?_⟩;exact tA
def Wo (role w:Nat)(f:FuncId)(s:aj)(hl:s.length<=100000)(hw:w<=10)(h:w+2<=(aH 32 s).length)(he: []∉(aH 32 s).take (w+1)):ac 61 [Ob role w 0 true f,SS s] (.aI [xp (((aH 32 s).take (w+1)).drop 1) [] (ci (w+1) s),Bo true]):=by
 have c1:=rY s (w+2) K0 K0 K0;rw[Kr _ _ K0 h,show(((w+2:Nat)):Int)=(w:Int)+2 by omega,show w+2 -1=w+1 from rfl]at c1;have al:((aH 32 s).take (w+1)).length =w+1:=by simp;omega
 have c2:=bG ((aH 32 s).take (w+1)) [] K0;rw[eJ he]at c2;generalize (aH 32 s).take (w+1)=l at*;generalize ci (w+1) s=r at*;have hn:(ab (l++[r])).length =w+2:=by simp;omega
 have hn2:(ab ((l++[r]).take (w+1))).length =w+1:=by exact aja
 have hg:(ab (l++[r]))[w+1]? =some [T r]:=by simp[ab,al]
 have z6:(l++[r]).take (w+1)=l:=by rw[<- al];simp
 have c3:=c2;rw[<- z6]at c3;have hn3:((l++[r]).take (w+1)).length =w+1:=by rw[z6];exact al
 have hn4:(((l++[r]).take (w+1)).drop 1).length =w:=by rw[z6];simp;omega
 have hz:(ab ((((l++[r]).take (w+1)).drop 1).drop w)).length =0:=by rw[z6];simp;omega
 refine sF f61 ?_;refine aS ?_;(refine aR ?_;conv=>whnf);(try(refine tX 2 ?_;try exact Zt));refine aS ?_;(refine aR ?_;conv=>whnf);(try(refine tX 2 ?_;try exact Zt));refine aS ?_;(refine aR ?_;conv=>whnf);(try(refine tX 2 ?_;try exact Zt));refine aS ?_;refine aS ?_;(refine aR ?_;conv=>whnf);(try(refine tX 2 ?_;try exact Zt))
 (try refine tB 0 ?_)
 refine aM ?_;(refine aR ?_;conv=>whnf);(try(refine tX 2 ?_;try exact Zt));refine⟨_,dk 22 rfl,?_⟩;repeat' ((first|refine tX 0 ?_|exact Zt|refine bR ?_ ?_<;>intro h)<;>(try conv=>whnf))
 generalize (((l++[r]).take (w+1)).drop 1).drop w=u at*
 refine af (ι:=Nat) (λ_=>True) (λ_=>0) (λ_=>⟨[(4,pP 0),(7,pP 1),(61,some (.val (false,[.st (.view (ab u))]))),(62,vI (ab u).length),(63,vI 0)],[(0,some (.box 129 [.nil,.nil,.st (T [])])),(1,some (.box 129 [.st (.view (ab (((l++[r]).take (w+1)).drop 1))),.nil,.st (T r)]))],2⟩) 0
  Zc trivial ?_
 intro i _;rw[z6];exact tA
def Fb: ∀u:List aj,jT u=if(dP u).length =u.length then some (dP u)else none
 | []=>rfl
 |s::r=>by
  unfold jT dP
  cases e:wN false 7 s with
  |none=>simp
  |some n=>
   rw[Fb r];by_cases h:(dP r).length =r.length
   ·simp[h]
   ·simp[h]
def Ws (role w k:Nat)(rest:Bool)(f:FuncId)(s:aj)(hl:s.length<=100000)(hw:w<=10)(hk:k<=w)(hr:rest=true->k=0):
  ∃a n r ok,ac 61 [Ob role w k rest f,SS s] (.aI [xp a n r,Bo ok])/\fT ⟨role,w,k,rest⟩ s=if ok=true then some (a,n,r)else none:=by
 have tv:w+1<=11:=by omega
 cases rest
 ·by_cases h:(aH 32 s).length =w+1
  ·have ht:(aH 32 s).take (w+1)=aH 32 s:=pc K0;by_cases he: []∈aH 32 s
   ·refine⟨_,_,_,_,adm role w k f s hl hw h he,?_⟩;unfold fT;rw[if_pos (.inr (.inr (by rw[show(Vb.mk role w k false).words +1=w+1 from rfl,ht];exact he)))];rfl
   ·obtain⟨d,rfl⟩: ∃d,w=d+k:=⟨w -k,by omega⟩;refine⟨_,_,_,_,Q6 role d k f s hl hw h he,?_⟩;unfold fT
    rw[if_neg (by
     show ¬((false=true/\_)\/(false=false/\(aH 32 s).length ≠d+k+1)\/[]∈(aH 32 s).take (d+k+1));rw[ht];rintro(⟨h1,_⟩|⟨_,h1⟩|h1)
     ·cases h1
     ·exact h1 h
     ·exact he h1)]
    show(jT (((aH 32 s).take (d+k+1)).drop (d+k+1 -k))).map (λn=>(((aH 32 s).take (d+k+1)).drop 1,n,if false=true then _ else []))=_;rw[ht,show d+k+1 -k=1+d by omega,<- Yk,Fb];have hu:(((aH 32 s).drop 1).drop d).length =k:=by simp;omega
    rw[hu];by_cases hn:(dP (((aH 32 s).drop 1).drop d)).length =k
    ·rw[if_pos hn,fh hn];rfl
    ·rw[if_neg hn,eJ hn];rfl
  ·refine⟨_,_,_,_,aab role w k f s hl hw h,?_⟩;unfold fT;rw[if_pos (.inr (.inl ⟨rfl,h⟩))];rfl
 ·obtain rfl:=hr rfl;by_cases h:(aH 32 s).length <w+2
  ·refine⟨_,_,_,_,Wn role w f s hl hw h,?_⟩;unfold fT;rw[if_pos (.inl ⟨rfl,h⟩)];rfl
  ·by_cases he: []∈(aH 32 s).take (w+1)
   ·refine⟨_,_,_,_,aac role w f s hl hw K0 he,?_⟩;unfold fT;rw[if_pos (.inr (.inr he))];rfl
   ·refine⟨_,_,_,_,Wo role w f s hl hw K0 he,?_⟩;unfold fT
    rw[if_neg (by
     rintro(⟨_,h1⟩|⟨h1,_⟩|h1)
     ·exact h h1
     ·cases h1
     ·exact he h1)]
    show(jT (((aH 32 s).take (w+1)).drop (w+1 -0))).map (λn=>(((aH 32 s).take (w+1)).drop 1,n,if true=true then _ else []))=_;rw[show((aH 32 s).take (w+1)).drop (w+1 -0)= []from List.drop_eq_nil_of_le wY];rfl
def RA (E:to)(p:Pl)(log:List En)(s:bV)(hl:s.units.length<=1000)(x:aj)(n:List Int)(r:aj)(hx:x.length<=1000)(hs:s.lots.length<=1000):
  bA cx 102 1 ((false,[.ptr 1 0])::[xp [x] n r].map dyn) (form p log s) [1] (.val (dyn (I (bm E p log s 1 [x] n r).2))) (form p log (bm E p log s 1 [x] n r).1):=by
 obtain⟨volt,earth,opens,hall,lots,units⟩:=s;have c1:=gg x K0;have c2:=bG lots x (by simp only at hs;omega);unfold jF at c1;have e:bm E p log ⟨volt,earth,opens,hall,lots,units⟩ 1 [x] n r=if jJ x then(if x∈lots then(⟨volt,earth,opens,hall,lots,units⟩,5)else if lots.length<12 then(⟨volt,earth,opens,hall,lots++[x],units⟩,0)else(⟨volt,earth,opens,hall,lots,units⟩,16))else(⟨volt,earth,opens,hall,lots,units⟩,4):=rfl
 rw[e];clear e;by_cases h1:jJ x
 ·rw[if_pos h1]at c1 ⊢;by_cases h2:x∈lots
  ·rw[fh h2]at c2;rw[if_pos h2];refine gF f102 hl ?_;by_cases h3:lots.length<12
   ·exact K8
   ·exact K8
  ·rw[eJ h2]at c2;rw[if_neg h2];by_cases h3:lots.length<12
   ·rw[if_pos h3];refine gF f102 hl ?_;exact K8
   ·rw[if_neg h3];refine gF f102 hl ?_;exact K8
 ·rw[if_neg h1]at c1 ⊢;refine gF f102 hl ?_;by_cases h2:x∈lots
  all_goals
   first|rw[fh h2]at c2|rw[eJ h2]at c2
   by_cases h3:lots.length<12
   ·exact K8
   ·exact K8
structure gz (p:Pl):Prop where
 pe:p.ae.length<=1000
 ga:p.ap.length<=1000
 te:p.aa.length<=1000
 pa:p.parts.length<=1000
 pn: ∀i<p.ae.length,(p.ae.getD i ([],0)).1.length <=1000
 gn: ∀i<p.ap.length,(p.ap.getD i []).length <=1000
 tn: ∀i<p.aa.length,(p.aa.getD i dl).name.length <=1000
 td: ∀i<p.aa.length,(p.aa.getD i dl).bv.length <=1000
 tr: ∀i<p.aa.length,(p.aa.getD i dl).rules.length <=10000
 qn: ∀i<p.parts.length,(p.parts.getD i ([],[])).1.length <=1000
 qv: ∀i<p.parts.length,(p.parts.getD i ([],[])).2.length <=1000
abbrev Xr (p:Pl):SV:=(false,[.ref (bL p)])
abbrev RE (r:Int × Int):List SV:=[I r.1,I r.2]
def alm (a b:Int):fs [a,b]=jp a b:=by unfold jp;by_cases h:a=0<;>by_cases h':b=0<;>simp[fs,h,h']
def aaR (a b:Int):ac 42 [(false,[.ints [a,b]])] (.one (I (fs [a,b]))):=oS [a,b] (fM rfl)
section
variable {p:Pl}
def adH:ac 66 [Xr p] (.aI (RE (0,pT p.ae.length 8))):=by
 have hn:(p.ae.map nh).length =p.ae.length:=by simp
 refine sF f66 ?_;repeat' ((first|(refine kO 7 rfl ?_;first|refine Rq (bZ _ _) ?_|refine Rq (aaR _ _) ?_)|refine tX 0 ?_|exact Zt|refine bR ?_ ?_<;>intro h)<;>(try conv=>whnf))
 refine aP mc.aI (aP (List.cons (I 0)) (aP (λn=>[I n]) ?_));rw[alm];unfold pT jp;rw[hn];by_cases h1:0<p.ae.length
 ·by_cases h2:p.ae.length<=8<;>simp[h1,h2]<;>omega
 ·simp[h1]<;>omega
def adI:ac 71 [Xr p] (.aI (RE (0,pT p.ap.length 4))):=by
 have hn:(ab p.ap).length =p.ap.length:=by simp
 refine sF f71 ?_;repeat' ((first|(refine kO 7 rfl ?_;first|refine Rq (bZ _ _) ?_|refine Rq (aaR _ _) ?_)|refine tX 0 ?_|exact Zt|refine bR ?_ ?_<;>intro h)<;>(try conv=>whnf))
 refine aP mc.aI (aP (List.cons (I 0)) (aP (λn=>[I n]) ?_));rw[alm];unfold pT jp;rw[hn];by_cases h1:0<p.ap.length
 ·by_cases h2:p.ap.length<=4<;>simp[h1,h2]<;>omega
 ·simp[h1]<;>omega
def adJ:ac 76 [Xr p] (.aI (RE (0,kA p.aa.length 8))):=by
 have hn:(p.aa.map fB).length =p.aa.length:=by simp
 refine sF f76 ?_;repeat' ((first|(refine kO 7 rfl ?_;first|refine Rq (bZ _ _) ?_)|refine tX 0 ?_|exact Zt|refine bR ?_ ?_<;>intro h)<;>(try conv=>whnf))
 refine aP mc.aI (aP (List.cons (I 0)) (aP (λn=>[I n]) ?_));unfold kA;rw[hn];by_cases h2:p.aa.length<=8<;>simp[h2]<;>omega
def adK:ac 82 [Xr p] (.aI (RE (0,kA p.parts.length 6))):=by
 have hn:(p.parts.map mj).length =p.parts.length:=by simp
 refine sF f82 ?_;repeat' ((first|(refine kO 7 rfl ?_;first|refine Rq (bZ _ _) ?_)|refine tX 0 ?_|exact Zt|refine bR ?_ ?_<;>intro h)<;>(try conv=>whnf))
 refine aP mc.aI (aP (List.cons (I 0)) (aP (λn=>[I n]) ?_));unfold kA;rw[hn];by_cases h2:p.parts.length<=6<;>simp[h2]<;>omega
def adL:ac 89 [Xr p] (.aI (RE (0,if(0<=p.dY/\p.dY<=1000)/\0<=p.eH/\p.eH<=1000000000000 then 0 else 2))):=by
 refine sF f89 ?_;repeat' ((first|(refine kO 7 rfl ?_;first|refine Rq (bZ _ _) ?_)|refine tX 0 ?_|exact Zt|refine bR ?_ ?_<;>intro h)<;>(try conv=>whnf))
 all_goals(refine aP mc.aI (aP (List.cons (I 0)) (aP (λn=>[I n]) ?_));first|(simp_all;done)|(simp;omega))
def aaS (i:Nat)(hi:i<p.ae.length):ac 70 [I i,Xr p] (.one (I (if 0<=(p.ae.getD i ([],0)).2/\(p.ae.getD i ([],0)).2<=3 then 0 else 15))):=by
 have he:=aZ (f:=nh) hi ([],0);have hn:(p.ae.map nh).length =p.ae.length:=by simp
 generalize p.ae.getD i ([],0)=x at*;refine sF f70 ?_;repeat' ((first|(refine kO 7 rfl ?_;first|refine Rq (bZ _ _) ?_)|refine tX 0 ?_|exact Zt|refine bR ?_ ?_<;>intro h)<;>(try conv=>whnf))
 exact mH (by by_cases h:0<=x.2/\x.2<=3<;>simp_all)
end
section
variable {p:Pl}(hs:gz p)
include hs
theorem aaT (i:Nat)(hi:i<p.aa.length):ac 80 [I i,Xr p] (.one (I (VK jb p.aa i))):=by
 have ht:=NN p.aa i hs.te hi (hs.td i hi) (hs.tr i hi);refine sF f80 ?_;exact K1
theorem aaU (i:Nat)(hi:i<p.parts.length):ac 86 [I i,Xr p] (.one (I (jS (p.parts.getD i ([],[])).2 (cU p.aa)))):=by
 have he:=aZ (f:=mj) hi ([],[]);have hn:(p.parts.map mj).length =p.parts.length:=by simp
 have ht:=uC p.aa hs.te;have ha:=Iw (p.parts.getD i ([],[])).2 (cU p.aa) (hs.qv i hi) (by simp[cU];exact hs.te);refine sF f86 ?_;exact K1
theorem adM:ac 67 [Xr p] (.aI (RE (cR p.du p.ae.length))):=by
 have h:=QI p hs.pe hs.pn λi hi=>aaS i hi;refine sF f67 ?_;exact K1
theorem adN:ac 72 [Xr p] (.aI (RE (cR (gQ p.ap) p.ap.length))):=by
 have h:=QJ p hs.ga hs.gn λi hi=>ZI i;have e:p.xU=gQ p.ap:=by funext i;unfold Pl.xU jp;by_cases h:gQ p.ap i=0<;>simp[h]
 rw[e]at h;refine sF f72 ?_;exact K1
theorem adO:ac 77 [Xr p] (.aI (RE (cR (p.gE jb) p.aa.length))):=by
 have h:=QK p jb hs.te hs.tn λi hi=>aaT hs i hi;refine sF f77 ?_;exact K1
theorem adP:ac 83 [Xr p] (.aI (RE (cR p.jd p.parts.length))):=by
 have h:=QL p hs.pa hs.qn λi hi=>aaU hs i hi;refine sF f83 ?_;exact K1
end
def jm:List (Int × Int)->Int × Int
 | []=>(0,0)
 |r::l=>o9 r (jm l)
def IX: ∀ {l:List (Int × Int)} {i:Nat},i<l.length->(∀j<i,(l.getD j (0,0)).2=0)->(l.getD i (0,0)).2≠0->jm l=l.getD i (0,0)
 | [],i,h,_,_=>by simp at h
 |r::l,0,_,_,h=>by unfold jm o9;exact if_pos h
 |r::l,i+1,h,h0,h1=>by
  unfold jm o9;rw[if_neg (by simpa using h0 0 K0),IX (i:=i) U6 (λj hj=>by simpa using h0 (j+1) K0) (by simpa using h1)];simp
def IY: ∀ {l:List (Int × Int)},(∀j<l.length,(l.getD j (0,0)).2=0)->jm l=(0,0)
 | [],_=>rfl
 |r::l,h=>by
  unfold jm o9;rw[if_neg (by simpa using h 0 (by simp)),IY λj hj=>by simpa using h (j+1) (by simpa using hj)]
noncomputable def xA (p:Pl):List (Int × Int):=[(0,pT p.ae.length 8),cR p.du p.ae.length,(0,pT p.ap.length 4),cR (gQ p.ap) p.ap.length,(0,kA p.aa.length 8),cR (p.gE jb) p.aa.length,(0,kA p.parts.length 6),cR p.jd p.parts.length,
 (0,if(0<=p.dY/\p.dY<=1000)/\0<=p.eH/\p.eH<=1000000000000 then 0 else 2)]
def aaV (p:Pl):p.err jb=jm (xA p):=by
 unfold Pl.err xA jm jm jm jm jm jm jm jm jm jm;have: ∀x:Int,o9 (0,x) (0,0)=(0,x):=λx=>by unfold o9;by_cases h:x=0<;>simp[h]
 rw[this]
abbrev cps:List Nat:=[66,67,71,72,76,77,82,83,89]
set_option maxRecDepth 100000 in
def FC {p:Pl}(hs:gz p):ac 47 [(true,bL p)] (.aI (RE (p.err jb))):=by
 have g0:=adH (p:=p);have g1:=adM hs;have g2:=adI (p:=p);have g3:=adN hs;have g4:=adJ (p:=p);have g5:=adO hs;have g6:=adK (p:=p);have g7:=adP hs;have g8:=adL (p:=p);rw[aaV];have eL:=λi h1 h2 h3=>IX (l:=xA p) (i:=i) h1 h2 h3;have dm:=IY (l:=xA p);have Ht:(xA p).getD 0 (0,0)=(0,pT p.ae.length 8):=rfl;have hn1:(xA p).getD 1 (0,0)=cR p.du p.ae.length:=rfl;have hn2:(xA p).getD 2 (0,0)=(0,pT p.ap.length 4):=rfl;have hn3:(xA p).getD 3 (0,0)=cR (gQ p.ap) p.ap.length:=rfl;have hn4:(xA p).getD 4 (0,0)=(0,kA p.aa.length 8):=rfl;have hn5:(xA p).getD 5 (0,0)=cR (p.gE jb) p.aa.length:=rfl;have hn6:(xA p).getD 6 (0,0)=(0,kA p.parts.length 6):=rfl;have hn7:(xA p).getD 7 (0,0)=cR p.jd p.parts.length:=rfl;have hn8:(xA p).getD 8 (0,0)=(0,if(0<=p.dY/\p.dY<=1000)/\0<=p.eH/\p.eH<=1000000000000 then 0 else 2):=rfl;have hl9:(xA p).length =9:=rfl;rw[<- Ht]at g0;rw[<- hn1]at g1;rw[<- hn2]at g2;rw[<- hn3]at g3;rw[<- hn4]at g4;rw[<- hn5]at g5;rw[<- hn6]at g6;rw[<- hn7]at g7;rw[<- hn8]at g8;clear Ht hn1 hn2 hn3 hn4 hn5 hn6 hn7 hn8;generalize xA p=L at*;have g0:ac 66 [(false,[.ref (bL p)])] (.aI [I (L.getD 0 (0,0)).1,I (L.getD 0 (0,0)).2]):=g0;have g1:ac 67 [(false,[.ref (bL p)])] (.aI [I (L.getD 1 (0,0)).1,I (L.getD 1 (0,0)).2]):=g1;have g2:ac 71 [(false,[.ref (bL p)])] (.aI [I (L.getD 2 (0,0)).1,I (L.getD 2 (0,0)).2]):=g2;have g3:ac 72 [(false,[.ref (bL p)])] (.aI [I (L.getD 3 (0,0)).1,I (L.getD 3 (0,0)).2]):=g3;have g4:ac 76 [(false,[.ref (bL p)])] (.aI [I (L.getD 4 (0,0)).1,I (L.getD 4 (0,0)).2]):=g4;have g5:ac 77 [(false,[.ref (bL p)])] (.aI [I (L.getD 5 (0,0)).1,I (L.getD 5 (0,0)).2]):=g5;have g6:ac 82 [(false,[.ref (bL p)])] (.aI [I (L.getD 6 (0,0)).1,I (L.getD 6 (0,0)).2]):=g6;have g7:ac 83 [(false,[.ref (bL p)])] (.aI [I (L.getD 7 (0,0)).1,I (L.getD 7 (0,0)).2]):=g7;have g8:ac 89 [(false,[.ref (bL p)])] (.aI [I (L.getD 8 (0,0)).1,I (L.getD 8 (0,0)).2]):=g8;clear hs;refine sF f47 ?_;refine aS ?_;(refine aR ?_;conv=>whnf);(try(refine tX 2 ?_;try exact Zt));refine aS ?_;refine aR ?_;conv=>whnf
 iterate 9 (refine oP rfl ?_;(conv=>whnf);refine rP rfl (λ_ z=>z) ?_;(conv=>whnf))
 refine oP rfl ?_;(conv=>whnf);refine rG (r:=.val (true,[.st (.fn 66 [] [bL p]),.st (.fn 67 [] [bL p]),.st (.fn 71 [] [bL p]),.st (.fn 72 [] [bL p]),.st (.fn 76 [] [bL p]),.st (.fn 77 [] [bL p]),.st (.fn 82 [] [bL p]),.st (.fn 83 [] [bL p]),.st (.fn 89 [] [bL p])])) (u:=[]) (R:=[]) (λK z=>cast dy z) ?_;conv=>whnf
 (try(refine tX 0 ?_;try exact Zt))
 refine af (ι:=Nat) (λi=>i<=9/\∀j<i,(L.getD j (0,0)).2=0) (λi=>9 -i) (λi=>⟨[(19,some (.val (true,cps.map λf=>.st (.fn f [] [bL p])))),(20,vI i)],[],0⟩) 0 Zc ⟨dz _,λj hj=>by omega⟩ ?_;rintro i ⟨hi,hp⟩;generalize bL p=P at*;have io:=λ(h:(L.getD i (0,0)).2=0)=>all_succ (f:=λj=>(L.getD j (0,0)).2) hp h;have eL:=λh1 h2=>eL i h1 hp h2;rcases(show i=0\/i=1\/i=2\/i=3\/i=4\/i=5\/i=6\/i=7\/i=8\/i=9 by omega)with rfl|rfl|rfl|rfl|rfl|rfl|rfl|rfl|rfl|rfl
 ·generalize L.getD 0 (0,0)=r at*;by_cases h:r.2=0
  ·rw[h]at g0;repeat' ((first|refine tX 0 ?_|exact Zt|refine bR ?_ ?_<;>intro h)<;>(try conv=>whnf))
   all_goals first|exact Zo|(exact absurd rfl h)|exact⟨0+1,⟨by omega,io h⟩,by omega,Zc⟩
  ·rw[eL K0 h];exact tL
 ·generalize L.getD 1 (0,0)=r at*;by_cases h:r.2=0
  ·rw[h]at g1;repeat' ((first|refine tX 0 ?_|exact Zt|refine bR ?_ ?_<;>intro h)<;>(try conv=>whnf))
   all_goals first|exact Zo|(exact absurd rfl h)|exact⟨1+1,⟨by omega,io h⟩,by omega,Zc⟩
  ·rw[eL K0 h];exact tL
 ·generalize L.getD 2 (0,0)=r at*;by_cases h:r.2=0
  ·rw[h]at g2;repeat' ((first|refine tX 0 ?_|exact Zt|refine bR ?_ ?_<;>intro h)<;>(try conv=>whnf))
   all_goals first|exact Zo|(exact absurd rfl h)|exact⟨2+1,⟨by omega,io h⟩,by omega,Zc⟩
  ·rw[eL K0 h];exact tL
 ·generalize L.getD 3 (0,0)=r at*;by_cases h:r.2=0
  ·rw[h]at g3;repeat' ((first|refine tX 0 ?_|exact Zt|refine bR ?_ ?_<;>intro h)<;>(try conv=>whnf))
   all_goals first|exact Zo|(exact absurd rfl h)|exact⟨3+1,⟨by omega,io h⟩,by omega,Zc⟩
  ·rw[eL K0 h];exact tL
 ·generalize L.getD 4 (0,0)=r at*;by_cases h:r.2=0
  ·rw[h]at g4;repeat' ((first|refine tX 0 ?_|exact Zt|refine bR ?_ ?_<;>intro h)<;>(try conv=>whnf))
   all_goals first|exact Zo|(exact absurd rfl h)|exact⟨4+1,⟨by omega,io h⟩,by omega,Zc⟩
  ·rw[eL K0 h];exact tL
 ·generalize L.getD 5 (0,0)=r at*;by_cases h:r.2=0
  ·rw[h]at g5;repeat' ((first|refine tX 0 ?_|exact Zt|refine bR ?_ ?_<;>intro h)<;>(try conv=>whnf))
   all_goals first|exact Zo|(exact absurd rfl h)|exact⟨5+1,⟨by omega,io h⟩,by omega,Zc⟩
  ·rw[eL K0 h];exact tL
 ·generalize L.getD 6 (0,0)=r at*;by_cases h:r.2=0
  ·rw[h]at g6;repeat' ((first|refine tX 0 ?_|exact Zt|refine bR ?_ ?_<;>intro h)<;>(try conv=>whnf))
   all_goals first|exact Zo|(exact absurd rfl h)|exact⟨6+1,⟨by omega,io h⟩,by omega,Zc⟩
  ·rw[eL K0 h];exact tL
 ·generalize L.getD 7 (0,0)=r at*;by_cases h:r.2=0
  ·rw[h]at g7;repeat' ((first|refine tX 0 ?_|exact Zt|refine bR ?_ ?_<;>intro h)<;>(try conv=>whnf))
   all_goals first|exact Zo|(exact absurd rfl h)|exact⟨7+1,⟨by omega,io h⟩,by omega,Zc⟩
  ·rw[eL K0 h];exact tL
 ·generalize L.getD 8 (0,0)=r at*;by_cases h:r.2=0
  ·rw[h]at g8;repeat' ((first|refine tX 0 ?_|exact Zt|refine bR ?_ ?_<;>intro h)<;>(try conv=>whnf))
   all_goals first|exact Zo|(exact absurd rfl h)|exact⟨8+1,⟨by omega,io h⟩,by omega,Zc⟩
  ·rw[eL K0 h];exact tL
 ·rw[dm (by rw[hl9];exact hp)];exact tL
def Hd (p:Pl)(n:aj)(hl:p.parts.length<=1000):ac 163 [(true,bL p),SS n] (.one (I (be p.ba n))):=by
 have hn:(p.parts.map mj).length =p.parts.length:=by simp
 have Bf:p.ba.length=p.parts.length:=by simp[Pl.ba]
 refine sF f163 ?_
 (try(refine tX 0 ?_;try exact Zt))
 refine af (ι:=Nat) (λi=>i<=p.parts.length/\n∉p.ba.take i) (λi=>p.parts.length -i) (λi=>⟨[(1,lS n),(2,pP 0),(5,vI i)],[(0,some (.box 27 ((bL p).map .st)))],1⟩) 0 Zc ⟨dz _,by simp⟩ ?_;rintro i ⟨hi,dm⟩;by_cases al:i<p.parts.length
 ·have he:=aZ (f:=mj) al ([],[]);have hg:p.ba.getD i []=(p.parts.getD i ([],[])).1:=by rw[getD_at al,getD_at K0];simp[Pl.ba]
  have nP:=λe=>mM (l:=p.ba) (x:=n) (i:=i) K0 e dm;have Gt:=iN (l:=p.ba) (i:=i) (x:=n) K0;rw[hg]at nP Gt;generalize p.parts.getD i ([],[])=x at*;by_cases hx:x.1=n
  ·rw[nP hx];exact K79
  ·exact K44
 ·obtain rfl:i=p.parts.length:=by omega
  rw[pc K0]at dm;rw[dW dm];exact tA
def p8 (p:Pl)(n:aj)(hl:p.aa.length<=1000):ac 92 [(true,bL p),SS n] (.one (I (be (cU p.aa) n))):=by
 have hn:(p.aa.map fB).length =p.aa.length:=by simp
 have Bf:(cU p.aa).length =p.aa.length:=by simp[cU]
 refine sF f92 ?_
 (try(refine tX 0 ?_;try exact Zt))
 refine af (ι:=Nat) (λi=>i<=p.aa.length/\n∉(cU p.aa).take i) (λi=>p.aa.length -i) (λi=>⟨[(1,lS n),(2,pP 0),(5,vI i)],[(0,some (.box 27 ((bL p).map .st)))],1⟩) 0 Zc ⟨dz _,by simp⟩ ?_;rintro i ⟨hi,dm⟩;by_cases al:i<p.aa.length
 ·have he:=iP al;have hg:=rN al;have nP:=λe=>mM (l:=cU p.aa) (x:=n) (i:=i) K0 e dm;have Gt:=iN (l:=cU p.aa) (i:=i) (x:=n) K0;rw[hg]at nP Gt;generalize p.aa.getD i dl=x at*;by_cases hx:x.name=n
  ·rw[nP hx];exact K79
  ·exact K44
 ·obtain rfl:i=p.aa.length:=by omega
  rw[pc K0]at dm;rw[dW dm];exact tA
def lf (l:List aj)(i:Nat)(hi:i<l.length)(hl:l.length<=1000)(hs:(l.getD i []).length <=1000):ac 90 [V1 l,I i] (.one (I (gQ l i))):=by
 have he:=sA hi;have hn:(ab l).length =l.length:=by simp
 have h1:=py (l.getD i []) K0;have h2:=cD (l.take i) (l.getD i []) wY;have z6:(ab l).take i=ab (l.take i):=by simp
 have hm:gQ l i=jp (jF (l.getD i [])) (if l.getD i []∈l.take i then 5 else 0):=rfl;unfold jF jp at hm;generalize l.getD i []=s at*;by_cases c1:jJ s
 ·rw[if_pos c1,if_neg bX]at hm;rw[fh c1]at h1;by_cases c2:s∈l.take i
  ·rw[if_pos c2]at hm;rw[fh c2]at h2;exact afX
  ·rw[if_neg c2]at hm;rw[eJ c2]at h2;exact afX
 ·rw[if_neg c1,if_pos bX]at hm;rw[eJ c1]at h1;exact afX
def AY {l:List aj}{i:Nat}(h:i<l.length):gQ (l.take (i+1)) i=gQ l i:=by
 unfold gQ;rw[List.take_take,Nat.min_eq_left K0,show(l.take (i+1)).getD i []=l.getD i []by simp[jX,h]]
abbrev bxP (p:Pl):cC:=.box 27 ((bL p).map .st)
def aln {p:Pl}{i:Nat}(h:gQ p.ax i≠0):p.du i=gQ p.ax i:=by unfold Pl.du;exact eS h _
def alo {p:Pl}{i:Nat}(h:gQ p.ax i=0):p.du i=if 0<=(p.ae.getD i ([],0)).2/\(p.ae.getD i ([],0)).2<=3 then 0 else 15:=by unfold Pl.du;rw[h,jj]
def p9 {a b:Int × Int}(h:a.2≠0):o9 a b=a:=if_pos h
def B6 {a b:Int × Int}(h:a.2=0):o9 a b=b:=if_neg U6
def Up {n m:Nat}(h:n=0):pT n m=10:=by subst h;rfl
def Uq {n m:Nat}(h0:0<n)(h:m<n):pT n m=8:=by unfold pT;rw[if_pos h0,if_neg K0]
def ae9 {n m:Nat}(h0:0<n)(h:n<=m):pT n m=0:=by unfold pT;rw[if_pos h0,if_pos h]
def He {p:Pl}(hs:gz p):ac 49 [(true,bL p)] (.aI (RE (o9 (0,pT p.ae.length 8) (cR p.du p.ae.length)))):=by
 have hn:(p.ae.map nh).length =p.ae.length:=by simp
 have Bf:p.ax.length=p.ae.length:=by simp[Pl.ax]
 have hpe:=hs.pe;by_cases h0:p.ae.length=0
 ·rw[p9 (by rw[Up h0];decide),Up h0];refine sF f49 ?_;exact tA
 by_cases h8:8<p.ae.length
 ·rw[p9 (by rw[Uq K0 h8];decide),Uq K0 h8];refine sF f49 ?_;exact tA
 rw[B6 (by rw[ae9 K0 K0])];refine sF f49 ?_
 (try(refine tX 0 ?_;try exact Zt))
 refine af (ι:=Nat) (λi=>i<=p.ae.length/\∀j<i,p.du j=0) (λi=>p.ae.length -i) (λi=>⟨[(1,pP 0),(4,pO 1),(5,vI i)],[(0,some (bxP p)),(1,some (.row true 1 (.view (ab (p.ax.take i)))))],2⟩) 0 (bu.trans (jz 4 1 (.view []) bX rfl rfl rfl) Zc) ⟨dz _,λj hj=>by omega⟩ ?_;rintro i ⟨hi,hp⟩;by_cases al:i<p.ae.length
 ·have he:=aZ (f:=nh) al ([],0);have hg:p.ax.getD i []=(p.ae.getD i ([],0)).1:=by rw[getD_at al,getD_at K0];simp[Pl.ax]
  have wq:=take_succ (l:=p.ax) (i:=i) K0;have gk:=lf (p.ax.take (i+1)) i wY wY (by rw[show(p.ax.take (i+1)).getD i []=p.ax.getD i []by simp[jX],hg];exact hs.pn i al);rw[AY K0]at gk;have hea:=aln (p:=p) (i:=i);have PV:=alo (p:=p) (i:=i);have eL:=λ(h:p.du i≠0)=>fG (f:=p.du) al hp h;have io:=λ(h:p.du i=0)=>all_succ hp h;have wu:(ab (p.ax.take i)).length <=1000:=by simp;omega
  rw[hg]at wq;rw[wq]at gk
  delta V1 at gk
  rw[lW]at gk;generalize p.ae.getD i ([],0)=x at*;generalize gQ p.ax i=e at*;by_cases h1:e=0
  ·have PV:=PV h1;by_cases h2:0<=x.2/\x.2<=3
   ·rw[if_pos h2]at PV;repeat' ((first|(refine kO 7 rfl ?_;first|refine Rq (eo _ _ _) ?_)|refine tX 0 ?_|exact Zt|refine bR ?_ ?_<;>intro h)<;>(try conv=>whnf))
    all_goals first|exact Zo|exact⟨i+1,⟨al,io PV⟩,by omega,ai ab1⟩
   ·rw[if_neg h2]at PV;rw[eL (by rw[PV];decide),PV];exact K13
  ·rw[eL (by rw[hea h1];exact h1),hea h1];exact K13
 ·obtain rfl:i=p.ae.length:=by omega
  rw[gP hp];exact tA
def KQ {p:Pl}(hs:gz p):ac 50 [(true,bL p)] (.aI (RE (o9 (0,pT p.ap.length 4) (cR (gQ p.ap) p.ap.length)))):=by
 have hn:(ab p.ap).length =p.ap.length:=by simp
 have hga:=hs.ga;by_cases h0:p.ap.length=0
 ·rw[p9 (by rw[Up h0];decide),Up h0];refine sF f50 ?_;exact tA
 by_cases h8:4<p.ap.length
 ·rw[p9 (by rw[Uq K0 h8];decide),Uq K0 h8];refine sF f50 ?_;exact tA
 rw[B6 (by rw[ae9 K0 K0])];refine sF f50 ?_
 (try(refine tX 0 ?_;try exact Zt))
 refine af (ι:=Nat) (λi=>i<=p.ap.length/\∀j<i,gQ p.ap j=0) (λi=>p.ap.length -i) (λi=>⟨[(1,pP 0),(4,vI i)],[(0,some (bxP p))],1⟩) 0 Zc ⟨dz _,λj hj=>by omega⟩ ?_;rintro i ⟨hi,hp⟩;by_cases al:i<p.ap.length
 ·have gk:=lf p.ap i al hga (hs.gn i al);have eL:=λ(h:gQ p.ap i≠0)=>fG (f:=gQ p.ap) al hp h;have io:=λ(h:gQ p.ap i=0)=>all_succ (f:=gQ p.ap) hp h;by_cases h1:gQ p.ap i=0
  ·rw[h1]at gk;repeat' ((first|refine tX 0 ?_|exact Zt|refine bR ?_ ?_<;>intro h)<;>(try conv=>whnf))
   all_goals first|exact Zo|exact⟨i+1,⟨al,io h1⟩,by omega,Zc⟩|(exact absurd rfl h)
  ·rw[eL h1];generalize gQ p.ap i=e at*;exact tA
 ·obtain rfl:i=p.ap.length:=by omega
  rw[gP hp];exact tA
end Go.Proofs.Tryz
