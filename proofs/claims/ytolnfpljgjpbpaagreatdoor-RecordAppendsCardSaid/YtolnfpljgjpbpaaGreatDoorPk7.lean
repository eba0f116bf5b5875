import Derived.Test.YtolnfpljgjpbpaaGreatDoorPk2
import Derived.Test.YtolnfpljgjpbpaaGreatDoorRows
import Derived.LaidMore
import Derived.LaidSub
import Derived.LaidLaws
import Derived.Stop.Joined
import Derived.Lay
import Derived.Lib.ItoaNum
import Derived.Shelf.Vars
set_option linter.all false
namespace Go.Proofs.Tryz
open Go.Fw Go.ChangeShapes Go.WideShapes Go.ChangeAt Go.RowKit
set_option maxRecDepth 100000
abbrev jn:List (String × DataW Unit):=[("math/bits.deBruijn32tab",Go.Proofs.YtolnfpljgjpbpaaGreatDoor.Rows.laid_math_bits_deBruijn32tab),("math/bits.deBruijn64tab",Go.Proofs.YtolnfpljgjpbpaaGreatDoor.Rows.laid_math_bits_deBruijn64tab),("internal/strconv.uint64pow10",Go.Proofs.YtolnfpljgjpbpaaGreatDoor.Rows.laid_internal_strconv_uint64pow10),("unicode/utf8.acceptRanges",Go.Proofs.YtolnfpljgjpbpaaGreatDoor.Rows.laid_unicode_utf8_acceptRanges),("strconv.ErrRange",Go.Proofs.YtolnfpljgjpbpaaGreatDoor.Rows.laid_strconv_ErrRange),("strconv.ErrSyntax",Go.Proofs.YtolnfpljgjpbpaaGreatDoor.Rows.laid_strconv_ErrSyntax),("buchholz/group.patterns",Go.Proofs.YtolnfpljgjpbpaaGreatDoor.Rows.laid_buchholz_group_patterns),("buchholz/wave.never",Go.Proofs.YtolnfpljgjpbpaaGreatDoor.Rows.laid_buchholz_wave_never),("unicode/utf8.first",Go.Proofs.YtolnfpljgjpbpaaGreatDoor.Rows.laid_unicode_utf8_first)]
def own:ownKnob prog.godebug=none:=by kernel_rfl
def Lo:laidOutB prog=true:=by kernel_rfl
def ag0 {W:World}(h:laidMet prog jn W):laidMetH prog jn W:=by
 unfold laidMetH;rw[show(jn.filter λx=>x.2.handleName?.isSome)= []by kernel_rfl];exact h
def Gf (os:Os)(args:Array Value):laidMetH prog jn ((World.laidAll prog os jn).forCall (λ_ _=>0) ⟨#[],args,[]⟩).memory :=
 ag0 (laidMet_laidAll _ dy dy)
def R1 {W:World}(h:laidMetH prog jn W):laidMet prog jn W:=(laidMetH_iff.1 h).1
def UD {w:World}{m:Nat}{l:List Value}{i j:Int}{x:DataW Unit × List MemPlace}
  (hd:DataW.trod (λ_=>()) prog w 0 (λ_=>true) false m 176 l=some x)(hx:x.1= .agg [.lit (.int .i64 i),.lit (.int .i64 j)]):l= [.int .i64 i,.int .i64 j]:=by
 obtain⟨xs,n,rfl,rfl,bD,hxl,iG⟩:=SJ underlying176 hd;have c2:prog.cellsOf 176=2:=by kernel_rfl
 have c3:prog.cellsOf 3=1:=by kernel_rfl
 rw[c2]at bD;simp only[HA]at hx
 match l,bD,xs,hx with
 | [v0,v1],_,[x0,x1],hx=>
  simp only[ju,Dh,Cb,sE]at hx;have h0:=iG 0 _ rfl;have h1:=iG 1 _ rfl;change DataW.trod (λ_=>()) prog w 0 (λ_=>true) false n 3 (List.take (prog.cellsOf 3) (List.drop 0 [v0,v1]))=some x0 at h0;change DataW.trod (λ_=>()) prog w 0 (λ_=>true) false n 3 (List.take (prog.cellsOf 3) (List.drop 1 [v0,v1]))=some x1 at h1;rw[c3]at h0 h1;simp only[GF,X4,Dl,X3]at h0 h1;obtain⟨d0,q0⟩:=x0;obtain⟨d1,q1⟩:=x1;obtain⟨rfl,rfl⟩:=hx;obtain⟨k0,e0,f0,_⟩:=Di underlying3 h0;obtain⟨k1,e1,f1,_⟩:=Di underlying3 h1;simp only[Cb,sE]at e0 e1;simp only[ii,SU,Lit.int.injEq,Do]at f0 f1;rw[e0,e1,<- f0.1,<- f1.1]
def abr {W:World}(h:laidMet prog jn W):rd W 7 0=some (.int .i64 1)/\rd W 7 1=some (.int .i64 1)/\rd W 7 2=some (.int .i64 0)/\rd W 7 3=some (.int .i64 1)/\rd W 7 4=none:=by
 have h1:laidMet prog [("buchholz/wave.never",Go.Proofs.YtolnfpljgjpbpaaGreatDoor.Rows.laid_buchholz_wave_never)] W:=(h.filter λx=>x.1=="buchholz/wave.never");obtain⟨ps,⟨g,t,cs,Bg,p,q,hg,ht,hv,hd,_,_⟩,_,_⟩:=h1;obtain rfl:=qg ((show prog.globalNamed "buchholz/wave.never" =some 7 by kernel_rfl).symm.trans hg);obtain rfl:=qg ((show(prog.globals[7]?).map (·.type)=some 349 by kernel_rfl).symm.trans ht);obtain⟨xs,m,rfl,hx,bD,hxl,iG⟩:=SJ underlying349 hd;have c4:prog.cellsOf 349=4:=by kernel_rfl
 have c2:prog.cellsOf 176=2:=by kernel_rfl
 rw[c4]at bD;have Hu:DataW.agg (xs.map (·.1))=DataW.agg [_,_]:=(aP Prod.fst hx).symm;simp only[HA]at Hu;obtain⟨l⟩:=cs
 match xs,Hu,l,bD with
 | [x0,x1],Hu,[v0,v1,v2,v3],_=>
  simp only[ju,Dh,Cb,sE]at Hu;obtain⟨y0,y1⟩:=Hu;have h0:=iG 0 _ rfl;have h1:=iG 1 _ rfl;change DataW.trod (λ_=>()) prog W 0 (λ_=>true) false m 176 (List.take (prog.cellsOf 176) (List.drop 0 [v0,v1,v2,v3]))=some x0 at h0;change DataW.trod (λ_=>()) prog W 0 (λ_=>true) false m 176 (List.take (prog.cellsOf 176) (List.drop 2 [v0,v1,v2,v3]))=some x1 at h1;rw[c2]at h0 h1;have k0:=UD h0 y0;have k1:=UD h1 y1;simp at k0 k1;obtain⟨rfl,rfl⟩:=k0;obtain⟨rfl,rfl⟩:=k1;exact⟨Da hg hv 0,Da hg hv 1,Da hg hv 2,Da hg hv 3,Da hg hv 4⟩
def ag1 {W:World}(h:laidMet prog jn W):(∀k z,Lib.pow10Tab[k]? =some z->rd W 6 k=some (.int .u64 z))/\rd W 6 20=none:=by
 have h1:laidMet prog [("internal/strconv.uint64pow10",Go.Proofs.YtolnfpljgjpbpaaGreatDoor.Rows.laid_internal_strconv_uint64pow10)] W:=(h.filter λx=>x.1=="internal/strconv.uint64pow10");obtain⟨ps,⟨g,t,cs,Bg,p,q,hg,ht,hv,hd,_,_⟩,_,_⟩:=h1;obtain rfl:=qg ((show prog.globalNamed "internal/strconv.uint64pow10" =some 6 by kernel_rfl).symm.trans hg);obtain rfl:=qg ((show(prog.globals[6]?).map (·.type)=some 403 by kernel_rfl).symm.trans ht);obtain⟨xs,m,rfl,hx,bD,hxl,iG⟩:=SM underlying403 hd;have c1:prog.cellsOf 361=1:=by kernel_rfl
 have c20:prog.cellsOf 403=20:=by kernel_rfl
 rw[c20]at bD;simp only[c1]at iG;have Hu:DataW.agg (xs.map (·.1))=DataW.agg (Lib.pow10Tab.map λz=>DataW.lit (.int .u64 z)):=(aP Prod.fst hx).symm;simp only[HA]at Hu
 have key: ∀(k:Nat) (z:Int),Lib.pow10Tab[k]? =some z->cs.toList[k]? =some (Value.int .u64 z):=by
  intro k z hz
  have hk:k<20:=by
   have:=(kF.1 hz).1;rwa [Lib.pow10Tab_length]at this
  have hy:(xs[k]?).map (·.1)=some (DataW.lit (.int .u64 z)):=by rw[<- gA,Hu,gA,hz];rfl
  cases hxk:xs[k]? with
  |none=>rw[hxk]at hy;cases hy
  |some y=>
   rw[hxk]at hy;have e:=iG k hk;obtain⟨d,r⟩:=y;simp only[ya,lM]at hy;subst hy;rw[hxk]at e;obtain⟨n,e1,e2,_⟩:=Di underlying361 e;simp only[ii,SU,Lit.int.injEq,Do]at e2;have e3:(List.take 1 (List.drop (k*1) cs.toList))[0]? =cs.toList[k]? :=by simp
   rw[<- e3,e1,<- e2.1];rfl
 refine⟨λk z hz=>?_,?_⟩
 ·show W.cell? ⟨6,k,none⟩=_;rw[Da hg hv k,<- U0];exact key k z hz
 ·show W.cell? ⟨6,20,none⟩=_;rw[Da hg hv 20,<- U0,List.getElem?_eq_none K0]
def abs {w:World}{m:Nat}{l:List Value}{i j k:Int}{x:DataW Unit × List MemPlace}
  (hd:DataW.trod (λ_=>()) prog w 0 (λ_=>true) false m 61 l=some x)(hx:x.1= .agg [.lit (.int .i64 i),.lit (.int .i64 j),.lit (.int .i64 k)]):l= [.int .i64 i,.int .i64 j,.int .i64 k]:=by
 obtain⟨xs,n,rfl,rfl,bD,hxl,iG⟩:=SM underlying61 hd;have c3:prog.cellsOf 61=3:=by kernel_rfl
 have c1:prog.cellsOf 3=1:=by kernel_rfl
 rw[c3]at bD;simp only[c1]at iG;simp only[HA]at hx
 match l,bD,xs,hx with
 | [v0,v1,v2],_,[x0,x1,x2],hx=>
  simp only[ju,Dh,Cb,sE]at hx;have h0:=iG 0 bX;have h1:=iG 1 bX;have h2:=iG 2 bX;obtain⟨d0,q0⟩:=x0;obtain⟨d1,q1⟩:=x1;obtain⟨d2,q2⟩:=x2;obtain⟨rfl,rfl,rfl⟩:=hx;change DataW.trod (λ_=>()) prog w 0 (λ_=>true) false n 3 [v0]=some _ at h0;change DataW.trod (λ_=>()) prog w 0 (λ_=>true) false n 3 [v1]=some _ at h1;change DataW.trod (λ_=>()) prog w 0 (λ_=>true) false n 3 [v2]=some _ at h2;obtain⟨k0,e0,f0,_⟩:=Di underlying3 h0;obtain⟨k1,e1,f1,_⟩:=Di underlying3 h1;obtain⟨k2,e2,f2,_⟩:=Di underlying3 h2;simp only[Cb,sE]at e0 e1 e2;simp only[ii,SU,Lit.int.injEq,Do]at f0 f1 f2;rw[e0,e1,e2,<- f0.1,<- f1.1,<- f2.1]
def xE {w:World}{m:Nat}{l:List Value}{c:UInt8}{i j k:Int}{x:DataW Unit × List MemPlace}
  (hd:DataW.trod (λ_=>()) prog w 0 (λ_=>true) false m 282 l=some x)(hx:x.1= .agg [.lit (.string [c]),.agg [.lit (.int .i64 i),.lit (.int .i64 j),.lit (.int .i64 k)]]):
  l= [.string ⟨#[c]⟩,.int .i64 i,.int .i64 j,.int .i64 k]:=by
 obtain⟨xs,n,rfl,rfl,bD,hxl,iG⟩:=SJ underlying282 hd;have c4:prog.cellsOf 282=4:=by kernel_rfl
 have c1:prog.cellsOf 9=1:=by kernel_rfl
 have c3:prog.cellsOf 61=3:=by kernel_rfl
 rw[c4]at bD;simp only[HA]at hx
 match l,bD,xs,hx with
 | [v0,v1,v2,v3],_,[x0,x1],hx=>
  simp only[ju,Dh,Cb,sE]at hx;have h0:=iG 0 _ rfl;have h1:=iG 1 _ rfl;change DataW.trod (λ_=>()) prog w 0 (λ_=>true) false n 9 (List.take (prog.cellsOf 9) (List.drop 0 [v0,v1,v2,v3]))=some x0 at h0;change DataW.trod (λ_=>()) prog w 0 (λ_=>true) false n 61 (List.take (prog.cellsOf 61) (List.drop 1 [v0,v1,v2,v3]))=some x1 at h1;rw[c1]at h0;rw[c3]at h1;simp only[GF,X4,Dl,X3]at h0 h1;have e1:=abs h1 hx.2;obtain⟨s,e0,f0,_⟩:=DataW.trod_string underlying9 h0;simp only[Cb,sE]at e0 e1;have f1:=hx.1;rw[f0]at f1;simp only[SU,Lit.string.injEq]at f1
  have es:s=⟨#[c]⟩:=by
   obtain⟨s⟩:=s;have:s= #[c]:=HJ f1;rw[this]
  rw[e0,es,e1.1,e1.2.1,e1.2.2]
def aea {W:World}(h:laidMet prog jn W):(∀(k:Nat) (v:Value),[Value.string ⟨#[121]⟩,.int .i64 1,.int .i64 (-1),.int .i64 0,.string ⟨#[100]⟩,.int .i64 1,.int .i64 0,.int .i64 0,.string ⟨#[122]⟩,.int .i64 1,.int .i64 (-2),.int .i64 1][k]? =some v->rd W 1 k=some v)/\rd W 1 12=none:=by
 have h1:laidMet prog [("buchholz/group.patterns",Go.Proofs.YtolnfpljgjpbpaaGreatDoor.Rows.laid_buchholz_group_patterns)] W:=(h.filter λx=>x.1=="buchholz/group.patterns");obtain⟨ps,⟨g,t,cs,Bg,p,q,hg,ht,hv,hd,_,_⟩,_,_⟩:=h1;obtain rfl:=qg ((show prog.globalNamed "buchholz/group.patterns" =some 1 by kernel_rfl).symm.trans hg);obtain rfl:=qg ((show(prog.globals[1]?).map (·.type)=some 283 by kernel_rfl).symm.trans ht);obtain⟨xs,m,rfl,hx,bD,hxl,iG⟩:=SM underlying283 hd;have c4:prog.cellsOf 282=4:=by kernel_rfl
 have c12:prog.cellsOf 283=12:=by kernel_rfl
 rw[c12]at bD;simp only[c4]at iG;have Hu:DataW.agg (xs.map (·.1))=DataW.agg [_,_,_]:=(aP Prod.fst hx).symm;simp only[HA]at Hu;obtain⟨l⟩:=cs
 match xs,Hu,l,bD with
 | [x0,x1,x2],Hu,[v0,v1,v2,v3,v4,v5,v6,v7,v8,v9,v10,v11],_=>
  simp only[ju,Dh,Cb,sE]at Hu;obtain⟨y0,y1,y2⟩:=Hu;have h0:=iG 0 bX;have h1:=iG 1 bX;have h2:=iG 2 bX;change DataW.trod (λ_=>()) prog W 0 (λ_=>true) false m 282 [v0,v1,v2,v3]=some x0 at h0;change DataW.trod (λ_=>()) prog W 0 (λ_=>true) false m 282 [v4,v5,v6,v7]=some x1 at h1;change DataW.trod (λ_=>()) prog W 0 (λ_=>true) false m 282 [v8,v9,v10,v11]=some x2 at h2;have k0:=xE h0 y0;have k1:=xE h1 y1;have k2:=xE h2 y2;simp only[Cb,sE]at k0 k1 k2;obtain⟨rfl,rfl,rfl,rfl⟩:=k0;obtain⟨rfl,rfl,rfl,rfl⟩:=k1;obtain⟨rfl,rfl,rfl,rfl⟩:=k2;refine⟨λk v hk=>?_,Da hg hv 12⟩;show W.cell? ⟨1,k,none⟩=_;rw[Da hg hv k,<- U0];exact hk
def abt {W:World}{n:String}{b:DataW Unit}{g0:Nat}(h1:laidMet prog [(n,.iface "*errors.errorString" b)] W)(hg0:prog.globalNamed n=some g0)(ht0:(prog.globals[g0]?).map (·.type)=some 213):
  (∃u v,rd W g0 0=some (.iface u v))/\rd W g0 1=none:=by
 obtain⟨ps,⟨g,t,cs,Bg,p,q,hg,ht,hv,hd,_,_⟩,_,_⟩:=h1;obtain rfl:=qg (hg0.symm.trans hg);obtain rfl:=qg (ht0.symm.trans ht);obtain⟨ms,hu⟩: ∃ms,prog.underlying 213=some (.interface ms):=⟨_,underlying213⟩;obtain⟨_,u,v,e,_,_⟩:=iface_of_trod hu hd;refine⟨⟨u,v,?_⟩,?_⟩
 ·show W.cell? ⟨g0,0,none⟩=_;rw[Da hg hv 0,<- U0,e];rfl
 ·show W.cell? ⟨g0,1,none⟩=_;rw[Da hg hv 1,<- U0,e];rfl
def max_zero:((Go.begin prog (λ_ _=>0) default).world.heap[0]?).bind Obj.row?=some (#[.int .i64 0],3):=by kernel_rfl
def ag2 {W:World}(h:W.ShapedOpen prog):(∃m,rd W 0 0=some (.int .i64 m))/\rd W 0 1=none:=by
 refine⟨cell_of_shapedOpen_int h bX max_zero rfl dy dy dy,?_⟩;obtain⟨cs,hh,hs,_⟩:=h.1 0 _ _ bX max_zero;have h1:cs.size=1:=hs;show W.cell? ⟨0,1,none⟩=none;simp[World.cell?,hh,h1]
def Lp {W:World}(h:laidMetH prog jn W)(hs:W.ShapedOpen prog):eQ cx.gl (rd W):=by
 have h':=R1 h;have hp:=ag1 h';have hq:=aea h';have hm:=ag2 hs;have hy:=abt (W:=W) (h'.filter λx=>x.1=="strconv.ErrSyntax") (g0:=2) dy dy;have hz:=abt (W:=W) (h'.filter λx=>x.1=="strconv.ErrRange") (g0:=3) dy dy;intro g cs hm0
 have hm1:(g,cs)=(0,[SC.num .i64])\/(g,cs)=(1,[SC.lit (.string ⟨#[121]⟩),SC.lit (.int .i64 1),SC.lit (.int .i64 (-1)),SC.lit (.int .i64 0),SC.lit (.string ⟨#[100]⟩),SC.lit (.int .i64 1),SC.lit (.int .i64 0),SC.lit (.int .i64 0),SC.lit (.string ⟨#[122]⟩),SC.lit (.int .i64 1),SC.lit (.int .i64 (-2)),SC.lit (.int .i64 1)])\/(g,cs)=(2,[SC.err])\/(g,cs)=(3,[SC.err])\/(g,cs)=(6,Lib.pow10Tab.map λz=>SC.lit (.int .u64 z))\/(g,cs)=(7,[SC.lit (.int .i64 1),SC.lit (.int .i64 1),SC.lit (.int .i64 0),SC.lit (.int .i64 1)]):=by
  rw[show cx.gl= [(0,[SC.num .i64]),(1,[SC.lit (.string ⟨#[121]⟩),SC.lit (.int .i64 1),SC.lit (.int .i64 (-1)),SC.lit (.int .i64 0),SC.lit (.string ⟨#[100]⟩),SC.lit (.int .i64 1),SC.lit (.int .i64 0),SC.lit (.int .i64 0),SC.lit (.string ⟨#[122]⟩),SC.lit (.int .i64 1),SC.lit (.int .i64 (-2)),SC.lit (.int .i64 1)]),(2,[SC.err]),(3,[SC.err]),(6,Lib.pow10Tab.map λz=>SC.lit (.int .u64 z)),(7,[SC.lit (.int .i64 1),SC.lit (.int .i64 1),SC.lit (.int .i64 0),SC.lit (.int .i64 1)])]by kernel_rfl]at hm0;simpa only[cF,jN,jO]using hm0
 rcases hm1 with e|e|e|e|e|e;all_goals simp only[ii]at e
 all_goals obtain⟨rfl,rfl⟩:=e
 ·obtain⟨⟨m,e⟩,e2⟩:=hm;refine⟨λk x hk=>?_,λ_=>e2⟩
  match k,hk with
  |0,hk=>cases hk;exact⟨_,e,.num ⟨m,rfl⟩⟩
  |k+1,hk=>cases hk
 ·refine⟨λk x hk=>?_,λ_=>hq.2⟩
  match k,hk with
  |0,hk=>cases hk;exact⟨_,hq.1 0 _ rfl,.lit rfl⟩
  |1,hk=>cases hk;exact⟨_,hq.1 1 _ rfl,.lit rfl⟩
  |2,hk=>cases hk;exact⟨_,hq.1 2 _ rfl,.lit rfl⟩
  |3,hk=>cases hk;exact⟨_,hq.1 3 _ rfl,.lit rfl⟩
  |4,hk=>cases hk;exact⟨_,hq.1 4 _ rfl,.lit rfl⟩
  |5,hk=>cases hk;exact⟨_,hq.1 5 _ rfl,.lit rfl⟩
  |6,hk=>cases hk;exact⟨_,hq.1 6 _ rfl,.lit rfl⟩
  |7,hk=>cases hk;exact⟨_,hq.1 7 _ rfl,.lit rfl⟩
  |8,hk=>cases hk;exact⟨_,hq.1 8 _ rfl,.lit rfl⟩
  |9,hk=>cases hk;exact⟨_,hq.1 9 _ rfl,.lit rfl⟩
  |10,hk=>cases hk;exact⟨_,hq.1 10 _ rfl,.lit rfl⟩
  |11,hk=>cases hk;exact⟨_,hq.1 11 _ rfl,.lit rfl⟩
  |k+12,hk=>cases hk
 ·obtain⟨⟨u,v,e⟩,e2⟩:=hy;exact aif
 ·obtain⟨⟨u,v,e⟩,e2⟩:=hz;exact aif
 ·refine⟨λk x hk=>?_,λ_=>by rw[jf,Lib.pow10Tab_length];exact hp.2⟩;rw[gA]at hk
  cases hz:Lib.pow10Tab[k]? with
  |none=>rw[hz]at hk;cases hk
  |some z=>
   rw[hz]at hk;cases hk;exact⟨_,hp.1 k z hz,.lit rfl⟩
 ·obtain⟨e0,e1,e2,e3,e4⟩:=abr h';refine⟨λk x hk=>?_,λ_=>e4⟩
  match k,hk with
  |0,hk=>cases hk;exact⟨_,e0,.lit rfl⟩
  |1,hk=>cases hk;exact⟨_,e1,.lit rfl⟩
  |2,hk=>cases hk;exact⟨_,e2,.lit rfl⟩
  |3,hk=>cases hk;exact⟨_,e3,.lit rfl⟩
  |k+4,hk=>cases hk
end Go.Proofs.Tryz
