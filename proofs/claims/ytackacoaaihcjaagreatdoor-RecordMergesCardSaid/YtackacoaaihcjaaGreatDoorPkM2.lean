import Derived.Test.YtackacoaaihcjaaGreatDoorPkM1
import Derived.Shelf.Strconv.Itoa3
import Derived.Shelf.Strconv.AtoiAll
import Derived.Shelf.Strings.Split
import Derived.Shelf.Strings.OnBuilder
import Derived.Shelf.Strings.Prefix
import Derived.Lib.AppendIntMem
import Derived.Lib.SmallJoins
import Derived.Shelf.LaysM
import Derived.Shelf.LaysC
import Derived.Shelf.Strings.Cut
import Derived.Ground.NamesProg
import Derived.Ground.Names2Prog
import Derived.Ground.Names7Prog
import Derived.Test.YtackacoaaihcjaaGreatDoorProg
import Derived.Lib.AtoiAll
import Derived.Lib.ItoaNum
import Derived.Lib.Strings
import Derived.Lib.Split
import Derived.Lib.Join
import Derived.Lib.AtoiAllCases
import Derived.KernelRfl
import Derived.IntWalk
import Derived.RangeFuncCalls
import Derived.RangeFuncLeaves
import Derived.WalkKit
import Derived.OwnWalkIn
import Derived.TacticsInMore
import Derived.LoopNIn
import Derived.LoopIn
import Derived.Lib.Walk
import Derived.Deep.RegionLaw
import Derived.Lib.SliceRun
import Derived.Laws.IdiomCopy
set_option linter.all false
set_option maxRecDepth 100000
set_option maxHeartbeats 8000000
namespace Go.Fw
open Go.RowKit (Below)
open Go.Shelf
variable {P:Program}{gl:tu}
abbrev SS (l:List UInt8):SV:=(false,[.lit (.string (B l))])
def DN {mv mr:Mem}{vs:Array Value}{c d:SC}(h:pf mv mr vs [(false,[c]),(false,[d])]): ∃v u,vs= #[v,u]/\dy mv mr v c/\dy mv mr u d:=by
 obtain⟨h1,h2⟩:=h;obtain⟨c',e,hr⟩:=h2 0 _ rfl;obtain⟨d',e',Ch⟩:=h2 1 _ rfl;simp at e e';subst e e';refine⟨vs.getD 0 undef,vs.getD 1 undef,?_,hr,Ch⟩;have h1:vs.size=2:=h1;apply A1;omega
 ·intro i hi _;rcases(show i=0\/i=1 by omega)with rfl|rfl<;>simp[sN,h1]
def acZ {w:World}{b o:Nat}{v:Value}(h:rd w b o=some v): ∃arr T fr,w.heap[b]? =some (.cells arr T fr)/\arr[o]? =some v:=by grind[rd,World.cell?]
def agD {w:World}{name:String}{g:Nat}{k:IntKind}{zs:List Int}(hn:P.globalNamed name=some g)(hg:(g,zs.map λz=>.lit (.int k z))∈gl)(hG:eQ gl (rd w))(h0:0<zs.length):Lib.TabIs P w name k zs:=by
 obtain⟨h1,h2⟩:=hG _ _ hg;have h2:=h2 bv;rw[jj]at h2;obtain⟨v0,hv0,_⟩:=h1 0 (.lit (.int k zs[0])) bv;obtain⟨arr,T,fr,hb,_⟩:=acZ hv0;unfold Lib.TabIs World.var?;rw[hn];simp only[LI,hb];congr 1;have iV: ∀o,rd w g o=arr[o]? :=λo=>by grind[rd,World.cell?]
 apply Ha;rw[List.toList_toArray];apply SJ;intro i;rw[UQ,gK];by_cases hi:i<zs.length
 ·obtain⟨v,hv,hr⟩:=h1 i (.lit (.int k zs[i])) bv
  grind[ge]
 grind
def Zm {ρ:Ren}(L:Proofs.LaysM.n171 P ρ)(fC:iN P (ρ.f 171)=true){g:Nat}(hn:P.globalNamed "internal/strconv.uint64pow10" =some g)(hg:(g,Lib.pow10Tab.map λz=>.lit (.int .u64 z))∈gl)
  (n:Int)(h: -9223372036854775808<=n/\n<=9223372036854775807):nY P gl (ρ.f 171) [(false,[.lit (.int .i64 n)])] (.one (SS (Lib.itoa n))):=by
 refine .inl ⟨fC,λmv w vs _ hG xy=>?_⟩;obtain⟨v,rfl,hr⟩:=yK xy;rw[ge hr];refine(Proofs.Any.strconv_Itoa L n h.1 h.2 w (agD hn hg hG (by grind[Lib.pow10Tab_length]))).mono λe w' he=>?_;obtain⟨rfl,k,os,rfl⟩:=he;exact⟨_,rfl,Lib.below_grow _ w (dE _) k os,⟨_,rfl,.lit rfl⟩⟩
theorem ac0 {ρ:Ren}(L:Proofs.LaysC.n172 P ρ)(fC:iN P (ρ.f 172)=true)(s:List UInt8)(hl:s.length<=1000000){v:Int}(h:Lib.atoiAll s= .ok v):nY P gl (ρ.f 172) [SS s] (.aI [(false,[.lit (.int .i64 v)]),(false,[.lit .nilIface])]):=by
 refine .inl ⟨fC,λmv w vs _ hG xy=>?_⟩;obtain⟨x,rfl,hr⟩:=yK xy;rw[ge hr];refine(Proofs.Any.strconv_Atoi_ok L (B s) agd v akz w).mono λe w' he=>?_;obtain⟨rfl,hw⟩:=he;refine⟨_,rfl,?_,#[.int .i64 v,.nilIface],rfl,rfl,λk x hk=>?_⟩
 grind[Below.refl,Lib.bytesWorld_below]
 ·match k,hk with
  |0,hk=>simp at hk;subst hk;exact⟨_,rfl,.lit rfl⟩
  |1,hk=>simp at hk;subst hk;exact⟨_,rfl,.lit rfl⟩
  |k+2,hk=>grind
theorem Zn {ρ:Ren}(L:Proofs.LaysC.n172 P ρ)(fC:iN P (ρ.f 172)=true)(h15:(ρ.g 15,[SC.err])∈gl)(h16:(ρ.g 16,[SC.err])∈gl)(s:List UInt8)(hl:s.length<=1000000)(h: ∀v,Lib.atoiAll s≠ .ok v):
  ∃v,nY P gl (ρ.f 172) [SS s] (.aI [(false,[.lit (.int .i64 v)]),(false,[.err])]):=by
 have key: ∀(v:Int) (g:Nat),(g,[SC.err])∈gl->(∀(ev:Value) (w:World),w.cell? ⟨g,0,none⟩=some ev->(ev= .nilIface \/∃te pe,ev= .iface te pe)->Calls P (ρ.f 172) #[.string (B s)] w λe w'=>∃N,e= .returned (.tuple #[.int .i64 v,.iface (ρ.t 168) (.pointer (some ⟨N,0,none⟩))])/\w.heap.size<=N/\w'.heap[N]? =some (.cells #[.string ⟨#[65,116,111,105]⟩,.string (B s),ev] (ρ.t 210) (0,0))/\Below w.heap.size w w')->
   nY P gl (ρ.f 172) [SS s] (.aI [(false,[.lit (.int .i64 v)]),(false,[.err])]):=by
  intro v g hg hc;refine .inl ⟨fC,λmv w vs _ hG xy=>?_⟩;obtain⟨x,rfl,hr⟩:=yK xy;rw[ge hr];obtain⟨ev,h1,h2⟩:=(hG _ _ hg).1 0 _ rfl
  have o9: ∃T x,ev= .iface T x:=by
   cases h2 with
   |err h=>exact h
   |empty a cap hv=>grind[SC.ao]
   |view _ _ _ _ _ hv=>grind[SC.ao]
  refine(hc ev w h1 (.inr o9)).mono λe w' he=>?_;obtain⟨N,rfl,_,_,hb⟩:=he;refine⟨_,rfl,hb,_,rfl,rfl,λk x hk=>?_⟩
  match k,hk with
  |0,hk=>simp at hk;subst hk;exact⟨_,rfl,.lit rfl⟩
  |1,hk=>simp at hk;subst hk;exact⟨_,rfl,.err ⟨_,_,rfl⟩⟩
  |k+2,hk=>grind
 rcases hs:Lib.atoiAll s with v|_|_
 grind
 ·exact⟨0,key 0 _ h15 λev w h1 h2=>Proofs.Any.strconv_Atoi_syntax L (B s) agd akz ev w h1 h2⟩
 ·refine⟨Lib.atoiSat s,key _ _ h16 λev w h1 h2=>?_⟩
  grind[Proofs.Any.strconv_Atoi_range,lV,jH]
def DO {ρ:Ren}(L:Proofs.Lays.n101 P ρ)(fC:iN P (ρ.f 101)=true)(s p:List UInt8):nY P gl (ρ.f 101) [SS s,SS p] (.one (SS (Lib.trimPrefix s p))):=by
 refine .inl ⟨fC,λmv w vs _ hG xy=>?_⟩;obtain⟨x,y,rfl,hr,Ch⟩:=DN xy;rw[ge hr,ge Ch];refine(Proofs.Any.strings_TrimPrefix L (B s) (B p) w).mono λe w' he=>?_;obtain⟨rfl,rfl⟩:=he;rw[jH,jH];exact ann
def CM (s:List UInt8)(c:UInt8):List (List UInt8):=Lib.splitK [c] 0 (Lib.countB (B s) (B [c])) s
abbrev ab (l:List (List UInt8)):List (List SC):=l.map λw=>[.lit (.string (B w))]
theorem od {l:List (List UInt8)}{i:Nat}{e:List SC}(h:(SC.view (ab l)).elem i=some e): ∃w,l[i]? =some w/\e= [.lit (.string (B w))]:=by grind[SC.elem]
theorem HN {ρ:Ren}(L:Proofs.Lays.n146 P ρ)(fC:iN P (ρ.f 146)=true)(hi9:(P.info? (ρ.t 9)).map (λi=>(i.zero,i.size,i.bytes))=some (some (.string ByteArray.empty),1,16))
  (hg:(ρ.g 1,[SC.num .i64])∈gl)(s:List UInt8)(c:UInt8)(hl:s.length<=1000000)(bG:(CM s c).length =Lib.countB (B s) (B [c])+1):nY P gl (ρ.f 146) [SS s,SS [c]] (.own 1 (.view (ab (CM s c)))):=by
 refine .inl ⟨fC,λmv w vs _ hG xy=>?_⟩;obtain⟨x,y,rfl,hr,Ch⟩:=DN xy;rw[ge hr,ge Ch];obtain⟨ev,h1,h2⟩:=(hG _ _ hg).1 0 _ rfl;have o9: ∃m,ev= .int .i64 m:=ani;obtain⟨m,rfl⟩:=o9;refine(Proofs.Any.strings_Split L hi9 (B s) (B [c]) m w agd h1 (by rw[lV];grind)).mono λe w' he=>?_;obtain⟨rfl,rfl⟩:=he
 have Xz:(Lib.splitB (B [c]) 0 (Lib.countB (B s) (B [c])) (B s))=(CM s c).map B:=by
  have h:=Lib.splitB_data (B [c]) 0 (Lib.countB (B s) (B [c])) (B s);rw[jH,jH]at h;have:(CM s c).map B=((Lib.splitB (B [c]) 0 (Lib.countB (B s) (B [c])) (B s)).map (·.data.toList)).map B:=by rw[h];rfl
  exact ang
 rw[Xz];refine⟨_,rfl,Below.oy _ _,.inr ⟨w.heap.size,_,by rw[show(SC.view (ab (CM s c))).len =Lib.countB (B s) (B [c])+1 by grind[SC.len]],dE _,_,_,gO w _,by grind,by decide,rfl,by grind[SC.len],λi e he=>?_,λi e j x he hx=>?_⟩⟩
 grind[od]
 ·obtain⟨u,hu,rfl⟩:=od he
  cases j with
  |zero=>
   simp at hx;subst hx;rw[show i*1+0=i by omega,sN];have:(((CM s c).map B).map Value.string).toArray[i]? =some (.string (B u)):=by grind
   exact agm
  |succ j=>grind
end Go.Fw
namespace Go.Fw
open Go.IntWalk Go.RowKit
variable {C:bU}{fid:Nat}{o:Oper}{E:dG}{H:Hp}{t:bq}{k:dG->Hp->bq->Prop}{T:TypeId}{x y:Operand}
def qu (l:List (List UInt8)):(SC.view (ab l)).zW 1:=by
 intro e he
 grind
def alm {i:TI}{e:TypeId}{ie:TI}{l:List (List UInt8)}{zz:Int}{n:Nat}{k':IntKind} [nz:dU zz n](ho:o.op= .slice T x none (some y) none)(hx:C.ev E.get x=some (.val (false,[.st (.view (ab l))])))(hy:C.ev E.get y=some (.val (false,[.st (.lit (.int k' zz))])))
  (hi:C.ti T=some i)(hc:i.b8= .slice e)(he:C.ti e=some ie)(hs:ie.size=1)(hb:n<=l.length)
  (h2:eA o.dst (bm (.st (.view (ab (l.take n))))) E λE'=>k E' H (([],[])::t)):cW C fid o E H t k:=by
 refine rG (r:=bm (.st (.view (ab (l.take n))))) (u:=[]) (R:=[]) (λK hK=>?_) h2;have e0:zz.toNat=n:=by rw[nz.eq];simp
 have u:=qu l;unfold fw;rw[ho];simp only[hx,Option.map];unfold gL;simp only[hi,hc,he,bV,bA,hy,SC.ao,F5,SC.len,SC.sub,xW];exact ajr
def aln {i:TI}{e:TypeId}{ie:TI}{l:List (List UInt8)}{zz:Int}{n:Nat}{k':IntKind} [nz:dU zz n](ho:o.op= .slice T x (some y) none none)(hx:C.ev E.get x=some (.val (false,[.st (.view (ab l))])))(hy:C.ev E.get y=some (.val (false,[.st (.lit (.int k' zz))])))
  (hi:C.ti T=some i)(hc:i.b8= .slice e)(he:C.ti e=some ie)(hs:ie.size=1)(hb:n<=l.length)
  (h2:eA o.dst (bm (.st (.view (ab (l.drop n))))) E λE'=>k E' H (([],[])::t)):cW C fid o E H t k:=by
 refine rG (r:=bm (.st (.view (ab (l.drop n))))) (u:=[]) (R:=[]) (λK hK=>?_) h2;have e0:zz.toNat=n:=by rw[nz.eq];simp
 have u:=qu l;unfold fw;rw[ho];simp only[hx,Option.map];unfold gL;simp only[hi,hc,he,bV,bA,hy,SC.ao,F5,SC.len,SC.sub,mA];exact ajs
def alo {i:TI}{e:TypeId}{ie:TI}{l:List (List UInt8)}{id:Nat}{zz:Int}{n:Nat}{k':IntKind} [nz:dU zz n](ho:o.op= .slice T x none (some y) none)(hx:C.ev E.get x=some (.val (false,[.own id])))(hy:C.ev E.get y=some (.val (false,[.st (.lit (.int k' zz))])))
  (hi:C.ti T=some i)(hc:i.b8= .slice e)(he:C.ti e=some ie)(hs:ie.size=1)(hH:H.get id=some (.row false 1 (.view (ab l))))(hb:n<=l.length)
  (h2:eA o.dst (bm (.st (.view (ab (l.take n))))) E λE'=>k E' H (([id],[])::t)):cW C fid o E H t k:=by
 refine rG (r:=bm (.st (.view (ab (l.take n))))) (u:=[]) (R:=[id]) (λK hK=>?_) h2;have e0:zz.toNat=n:=by rw[nz.eq];simp
 have u:=qu l;unfold fw;rw[ho];simp only[hx,Option.map];unfold gL;simp only[hi,hc,he,bV,bA,hH,hy,SC.ao,F5,SC.len,SC.sub,xW,xS];exact ajr
def alp {i:TI}{e:TypeId}{ie:TI}{l:List (List UInt8)}{id:Nat}{zz:Int}{n:Nat}{k':IntKind} [nz:dU zz n](ho:o.op= .slice T x (some y) none none)(hx:C.ev E.get x=some (.val (false,[.own id])))(hy:C.ev E.get y=some (.val (false,[.st (.lit (.int k' zz))])))
  (hi:C.ti T=some i)(hc:i.b8= .slice e)(he:C.ti e=some ie)(hs:ie.size=1)(hH:H.get id=some (.row false 1 (.view (ab l))))(hb:n<=l.length)
  (h2:eA o.dst (bm (.st (.view (ab (l.drop n))))) E λE'=>k E' H (([id],[])::t)):cW C fid o E H t k:=by
 refine rG (r:=bm (.st (.view (ab (l.drop n))))) (u:=[]) (R:=[id]) (λK hK=>?_) h2;have e0:zz.toNat=n:=by rw[nz.eq];simp
 have u:=qu l;unfold fw;rw[ho];simp only[hx,Option.map];unfold gL;simp only[hi,hc,he,bV,bA,hH,hy,SC.ao,F5,SC.len,SC.sub,mA,xS];exact ajs
def anA {i:TI}{id n:Nat}{m:Bool}{l:List (List SC)}{v:Value}(ho:o.op= .load T x)(hx:C.ev E.get x=some (.val (false,[.cI id 1 n 0])))(hi:C.ti T=some i)(hg:cJ i.b8=false)(hs:i.size=1)
  (hH:H.get id=some (.row m 1 (.view l)))(hb:l[n]? =some [.lit v])
  (h2:eA o.dst (lit v) E λE'=>k E' H (([id],[])::t)):cW C fid o E H t k:=by
 refine rG (r:=lit v) (u:=[]) (R:=[id]) (λK hK=>?_) h2;unfold fw;rw[ho];simp only[hx];unfold oC;simp only[hi,hH,hs,hg];refine⟨[.lit v],?_,hK⟩
 grind[SC.elem]
def iQ {E:dG}{Hh:Hp}{nx:Nat}(id k z:Nat)(c:SC){T:TypeId}{cs:List DC}(hz:0<z)(hv:c.ao=true)(h0:c.len=0)(hB:Hh.get id=some (.box T cs))(hk:cs[k]? =some .nil):
  bp ⟨E,Hh,nx⟩ ⟨E,(id,some (.box T (cs.set k (.own (2*nx)))))::((2*nx),some (.row true z c))::Hh,nx+1⟩:=by
 rintro F nt a w ⟨N,⟨q1,q2,q0,β,q3,q4⟩,q5⟩;have hf: ¬N (2*nx):=λh=>by have:=q5 _ h;rw[jQ]at this;grind
 have hu: ∀i e,c.elem i=some e->e.length=z:=λi e he=>by exact ace
 have t2:=Tr.new q4 (Below.refl _ w) hf none (by simp) (.row true z c);have hN:=ad.new q4 (Below.refl _ w) hf none (by simp) (.row true z c) ⟨⟨hz,hv,hu⟩,.inl ⟨by simp[cV],h0⟩⟩;rw[<- Hp.av]at t2 hN;have hid:N id:=(q4.rel id _ hB).1;have eU:id≠(2*nx):=λe=>hf (e▸hid);have KT:Hp.get (((2*nx),some (.row true z c))::Hh) id=some (.box T cs):=by rw[Hp.av,aG _ _ _ eU];exact hB
 generalize xI:Hp.get (((2*nx),some (.row true z c))::Hh)=H1 at*;have it:H1 (2*nx)=some (.row true z c):=by rw[<- xI,Hp.av,an]
 have t3:Tr F (cV β (2*nx) none) (Fw.bk N (2*nx)) H1 w (cV β (2*nx) none) (Fw.bk N (2*nx)) (bt H1 id (some (.box T (cs.set k (.own (2*nx)))))) w:={
  below:=jy.refl _ _
  aw:=λ_ _ h=>h
  mem:=λb o v _ hs e=>⟨λiW bC e' hb=>by
   by_cases h:iW=id
   ·subst h;exact(hs iW _ KT hb).elim
   ·rw[aG _ _ _ h]at e'
    exact hs iW bC e' hb,e⟩
  used:=λ_ h=>h
  kH:=λ_ _=>rfl
  keep:=λiW blk' _ e=>by
   by_cases h:iW=id
   ·subst h;rw[an]at e;cases e;exact⟨_,KT,trivial⟩
   ·exact aj0
  size:=λ_ _ _ _ arr _ _ _ _ _ _ h=>⟨arr,h,rfl⟩}
 have h3:ad F (cV β (2*nx) none) (Fw.bk N (2*nx)) (bt H1 id (some (.box T (cs.set k (.own (2*nx)))))) w:=by
  refine hN.step t3 (λi=>i=id) (λi b0 hi e=>?_) (λi b0 hi e=>?_) (λi j b x y hi hj bi bj=>?_)
  ·exact ajD
  ·subst hi;rw[an]at e;cases e;obtain⟨hn,b,arr,T',h1,h2,h3,h4,h5⟩:=hN.rel i _ KT;refine⟨hn,b,arr,T',h1,h2,h3,by grind,λj x hx=>?_⟩;by_cases hj:j=k
   ·subst hj;have ak:j<cs.length:=(kJ.1 hk).1;have:x= .own (2*nx):=by grind
    subst this;have Cg:arr.getD j undef= .slice none 0 0:=h5 j _ hk;exact aii
   ·rw[PC (oz hj)]at hx;exact t3.jw hN (h5 j x hx)
  ·have live: ∀ {k':Nat} {b0:cD},bt H1 id (some (.box T (cs.set k (.own (2*nx))))) k'=some b0->∃b1,H1 k'=some b1:=by
    grind[aG]
   obtain⟨b1,h1⟩:=live hi;obtain⟨b2,h2⟩:=live hj;exact hN.inj i j b b1 b2 h1 h2 bi bj
 refine⟨Fw.bk N (2*nx),⟨q1,q2,q0,cV β (2*nx) none,?_,?_⟩,λiW h=>?_⟩
 ·exact akt
 grind[Hp.av]
 ·exact aks
end Go.Fw
namespace Go.Fw
section
variable {C:bU}{fid:Nat}{o:Oper}{E:dG}{H:Hp}{t:bq}{k:dG->Hp->bq->Prop}{T:TypeId}{x y:Operand}
def alq {i:TI}{e:TypeId}{ie:TI}{l:List (List UInt8)}{id:Nat}{zz:Int}{n:Nat}{k':IntKind} [nz:dU zz n](ho:o.op= .slice T x (some y) none none)(hx:C.ev E.get x=some (.val (false,[.own id])))(hy:C.ev E.get y=some (.val (false,[.st (.lit (.int k' zz))])))
  (hi:C.ti T=some i)(hc:i.b8= .slice e)(he:C.ti e=some ie)(hs:ie.size=1)(hH:H.get id=some (.row true 1 (.view (ab l))))(hb:n<=l.length)
  (h2:Gd [(id,some (.row false 1 (.view (ab l))))] H λH'=>eA o.dst (bm (.st (.view (ab (l.drop n))))) E λE'=>k E' H' (([id],[id])::t)):cW C fid o E H t k:=by
 refine rG (r:=bm (.st (.view (ab (l.drop n))))) (u:=[(id,some (.row false 1 (.view (ab l))))]) (R:=[id]) (λK hK=>?_) h2;have e0:zz.toNat=n:=by rw[nz.eq];simp
 have u:=qu l;unfold fw;rw[ho];simp only[hx,Option.map];unfold gL;simp only[hi,hc,he,bV,bA,hH,hy,SC.ao,F5,SC.len,SC.sub,mA,xS];rw[hs];refine⟨by rw[nz.eq];omega,⟨by rw[e0];simpa using hb,by omega⟩,u,?_⟩;rw[e0,<- List.map_drop];exact hK
end
def jS {l:List (List DC)}{i:Nat}{X:List DC}(h:i<l.length):(l.set i X)[i]? =some X:=by simp[h]
def qU {C:bU}{fid:Nat}{o:Oper}{E:dG}{H:Hp}{t:bq}{k:dG->Hp->bq->Prop}{r:DV}{u:Hp}{R:List Nat}(h1: ∀K:j8,K r u R->hcA C fid o (C.ev E.get) H.get K)
  (h2:eA o.dst r E λE'=>k E' (u++H) ((R,u.map Prod.fst)::t)):cW C fid o E H t k:=im h1 (Do.2 h2)
open Go.RowKit (Below)
variable {P:Program}{gl:tu}
def nY.call {f:FuncId}{args:List SV}{x:SV}(h:nY P gl f args (.one x)){mv:Mem}{w:World}{vs:Array Value}(hm:mv.le (rd w))(hG:eQ gl (rd w))(ha:pf mv (rd w) vs args):
  Calls P f vs w λe w'=>∃v,e= .returned v/\Below w.heap.size w w'/\eu (dX mv w.heap.size w') eX v x:=by
 exact anl
end Go.Fw
namespace Go.Fw
abbrev CL:=FuncId->List SV->Sum (List Nat) lO
def jh (i:TI)(cs:List DC)(off:Nat):Option Gc:=
 match Nat.ble (off+i.size) cs.length&&(acw i || Nat.beq i.size 1)with
 |true=>some (.val (acw i,(cs.drop off).take i.size),[],[])
 |false=>none
abbrev CH:=Nat->FuncId->List DX->Hp->Sum (List Nat) Gc
structure Tv where
 cl:CL
 ch:CH
structure Tv.Ok (C:bU) (q:Tv):Prop where
 cl: ∀f a r,q.cl f a= .inr r->nY C.P C.gl f a r
 ch: ∀fid f xs (H:Hp) e,q.ch fid f xs H= .inr e->bX C fid f xs H.get e.1 e.2.1 e.2.2
def Co (C:bU)(S:St)(x:Operand):St:=match S with
 |⟨E,H,nx⟩=>match C.ev E.get x with
  |some (.val (false,[.ptr id 0]))=>match H.get id with
   |some (.box t cs)=>match bV H.get (C.kinds t) cs with
    |some (l,u,_)=>⟨E,((id,some (.ec l))::u)++H,nx⟩
    |none=>⟨E,H,nx⟩
   |_=>⟨E,H,nx⟩
  |_=>⟨E,H,nx⟩
def Bp (C:bU)(S:St)(x:Operand):bp S (Co C S x):=by
 unfold Co;repeat' split
 all_goals first|exact bp.refl _|(exact Y8 C _ F3 F3)
def JG (C:bU):List Operand->St->St
 | [],S=>S
 |x::l,S=>JG C l (Co C S x)
def MI (C:bU)(l:List Operand): ∀S,bp S (JG C l S):=by
 induction l with
 |nil=>exact λS=>bp.refl S
 |cons x l ih=>exact λS=>(Bp C S x).trans (ih _)
def Zp (C:bU)(S:St)(o:Oper):St:=match o.op with
 | .slice T x none none none=>match C.ti T with
  |some i=>match i.b8 with
   | .array _ _=>Co C S x
   |_=>S
  |none=>S
 | .makeFunc _ _ bM=>JG C bM.toList S
 |_=>S
def VC (C:bU)(S:St)(o:Oper):bp S (Zp C S o):=by
 unfold Zp;repeat' split
 all_goals first|exact bp.refl _|exact Bp C _ _|exact MI C _ _
def MJ {E:dG}{Hh:Hp}{nx:Nat}(id:Nat){m:Bool}{z:Nat}{c:SC}(hb:Hh.get id=some (.row m z c)):bp ⟨E,Hh,nx⟩ ⟨E,(id,some (.row false z c))::Hh,nx⟩:=K43
def ae5 (all:List Oper):Nat->Tmp->Tmp
 |0,s=>s
 |n+1,s=>match all.find? λo=>match o.dst with|some d=>Nat.beq d s|none=>false with
  |some o=>match o.op with
   | .move (.tmp s')=>ae5 all n s'
   |_=>s
  |none=>s
def JH (_C:bU)(all:List Oper)(S:St)(o:Oper):St:=match S with
 |⟨E,H,nx⟩=>match o.op with
  | .slice _ (.tmp s) _ _ none=>match E.get (ae5 all 4 s)with
   |some (.val (false,[.own id]))=>match H.get id with
    |some (.row true z c)=>⟨E,(id,some (.row false z c))::H,nx⟩
    |_=>⟨E,H,nx⟩
   |_=>⟨E,H,nx⟩
  |_=>⟨E,H,nx⟩
def MK (C:bU)(all:List Oper)(S:St)(o:Oper):bp S (JH C all S o):=by
 unfold JH;repeat' split
 all_goals first|exact bp.refl _|exact MJ _ F3
def DP (C:bU)(all:List Oper):List Oper->St->St
 | [],S=>S
 |o::l,S=>DP C all l (JH C all S o)
def JI (C:bU)(all l:List Oper): ∀S,bp S (DP C all l S):=by
 induction l with
 |nil=>exact λS=>bp.refl S
 |cons o l ih=>exact λS=>(MK C all S o).trans (ih _)
def Qb (C:bU):List Oper->St->St
 | [],S=>S
 |o::l,S=>Qb C l (Zp C S o)
def Qc (C:bU)(l:List Oper): ∀S,bp S (Qb C l S):=by
 induction l with
 |nil=>exact λS=>bp.refl S
 |cons o l ih=>exact λS=>(VC C S o).trans (ih _)
def ae6 (C:bU)(l:List Oper)(S:St):St:=DP C l l (Qb C l S)
def VD (C:bU)(l:List Oper)(S:St):bp S (ae6 C l S):=(Qc C l S).trans (JI C l l _)
def yL:Code->List Oper
 | .region _ cC _=>cC.toList
 | .seq x _=>yL x
 | .scope c=>yL c
 | .block _ c=>yL c
 |_=>[]
def aSs {C:bU}{S:St}{kn:St->Prop}{kx:Nat->St->Prop}{kr:St->Prop}{x y:Code}(h:m8 C x S (λS=>m8 C y (ae6 C (yL y) S) kn kx kr) kx kr):m8 C (.seq x y) S kn kx kr:=
 aM ⟨mE h.out (λS' h=>⟨_,VD C _ S',h⟩) (λ_ _ h=>h) λ_ h=>h⟩
inductive EO where
 |norm (S:St)
 |exit (id:Nat) (S:St)
 |ret (S:St)
 |bad (p:List Nat)
def EO.loops (C:bU)(c:Code)(S:St):EO->Prop
 | .norm _=>True
 | .exit id S'=>∀ {kx:Nat->St->Prop} {kr:St->Prop},kx id S'->Ti (λZ S=>rF C c S Z kx kr) S
 | .ret S'=>∀ {kx:Nat->St->Prop} {kr:St->Prop},kr S'->Ti (λZ S=>rF C c S Z kx kr) S
 | .bad _=>True
open Go.RowKit (Below)
def aF {C:bU}{g:Operand}{ps:Array Tmp}{x y:Code}{E:dG}{H:Hp}{n0:Nat}{kn:St->Prop}{kx:Nat->St->Prop}{kr:St->Prop}{gf:FuncId}{first:List SV}{bM:List (List SC)}
  (hg:C.ev E.get g=some (.val (false,[.st (.fn gf first bM)])))(xs:List (List SV))(Hs:Nat->Hp)(nx:Nat)(Inv:Nat->Prop)(hit:Th C.P C.gl gf first bM xs)(bG: ∀r∈xs,r.length=ps.size)
  (ox:(mD x&&(mD y&&(aN (ka E) x&&(aN (ka E) y&&qp (ka E) ps.toList))))=true)(hm: ∀i,rE (Hs i)=true)(h0:bp ⟨E,H,n0⟩ ⟨E,Hs 0,nx⟩)(hi:Inv 0)
  (hb: ∀i r,xs[i]? =some r->Inv i->m8 C x ⟨params ps.toList r E,Hs i,nx⟩ (λS1=>m8 C y S1 (λS2=>Inv (i+1)/\bp S2 ⟨E,Hs (i+1),nx⟩) (λ_ _=>False) (λS2=>∃Hr nr,rE Hr=true/\bp S2 ⟨E,Hr,nr⟩/\kr ⟨E,Hr,nr⟩)) (λ_ _=>False) (λ_=>False))
  (hd:Inv xs.length->kn ⟨E,Hs xs.length,nx⟩):m8 C (.rangeFunc g ps x y) ⟨E,H,n0⟩ kn kx kr:=by
 refine⟨?_⟩;unfold rF;simp only[hg];obtain⟨f1,ox⟩:=aH ox;obtain⟨f2,ox⟩:=aH ox;obtain⟨f3,ox⟩:=aH ox;obtain⟨f4,f5⟩:=aH ox;exact⟨xs,Hs,nx,Inv,hit,bG,⟨f1,f2,f3,f4,f5⟩,hm,h0,hi,λi r hr hv=>mE (hb i r hr hv).out (λS1 h=>⟨S1,bp.refl _,h.out⟩) (λ_ _ h=>h) λ_ h=>h,hd⟩
end Go.Fw
namespace Go.Fw
def HO {C:bU}(hC:C.Ok){T e:TypeId}{i ie:TI}{w:World}{b o n cap:Nat}{k:Int}(hi:C.ti T=some i)(jg:i.b8= .slice e)(he:C.ti e=some ie)(h0:0<=k)(h1:k< (n:Int)):
  (Instr.indexAt T (.slice (some ⟨b,o,none⟩) n cap) (.int .i64 k)).run C.P w= .ok (.pointer (some ⟨b,o+k.toNat*ie.size,none⟩)) w:=by
 obtain⟨tf,d,z,hT⟩:=hC.get hi;obtain⟨ef,ed,ez,hE⟩:=hC.get he;have hd:=dq (hT.b8.trans jg);have h2:0<=k/\k< (n:Int):=⟨h0,h1⟩;exact ajH
structure Hdn (m:Nat) (p:Prop):Prop where
 out:p
inductive Dum (p:Prop):Prop where
 |mk
def alr {n:Nat}{p q:Prop}(_:Hdn n q)(m:p)(_:Dum q):p:=m
def Zm0 {p q:Prop}(_:Hdn 0 q)(m:p):p:=m
def Zm1 {p q:Prop}(_:Hdn 1 q)(m:p):p:=m
def Zm3 {p q:Prop}(_:Hdn 3 q)(m:p):p:=m
def Zd {p:Prop}(h:p:=by(first|omega|decide|rfl|exact lnS (by omega)|exact lnN (by decide)|exact lnN (by omega)|exact lnC (by omega)|exact lvS (by omega)|exact lvN (by decide)|exact lvC (by omega)|exact uvS rfl|exact uvN rfl|((try unfold SC.len);(try unfold SC.zW);(try unfold xE);(try simp);(try omega);done)|omega)):p:=h
def Zq {p:Prop}(h:p:=by first|omega|decide|exact fO rfl|(dsimp only[SC.len];omega)|(simp;done)|(simp;omega)|omega):p:=h
def Zb {p:Prop}(h:p:=by first|omega|(simp;omega)|(simp only[sO,jP,xT];omega)|decide):p:=h
def Zc {S S':St}(h:Tn (Y7 S'.env) (aeV S S') S'.nx S=some S':=by kernel_rfl):bp S S':=fB h
def Rq {q p g:Prop}(c:q)(z:g)(h:q->g->p:=by(intro a b;refine rG (λ_ z=>⟨_,a,z⟩) ?_;exact b)):p:=h c z
def Rh {q p g:Prop}(c:q)(z:g)(h:q->g->p:=by(intro a b;refine im (λ_ z=>⟨_,_,_,a,z⟩) ?_;exact b)):p:=h c z
def Rw {q p g:Prop}(c:q)(z:g)(h:q->g->p:=by(intro a b;refine qU (λ_ z=>⟨_,_,_,a,z⟩) ?_;exact b)):p:=h c z
def anB:Op->Bool
 | .convert .. =>true
 |_=>false
section
variable {C:bU}{all:List Oper}{n0 i fid:Nat}{o:Oper}{l:List Oper}{E:dG}{H:Hp}{t:bq}{K:dG->Hp->Nat->bq->Prop}{k:dG->Hp->bq->Prop}
def rS {f:FuncId}{args:List SV}{r':lO}{u0 u:Hp}{rs R:List Nat}{r:DV}(h0: ∀K,fw C fid o (C.ev E.get) H.get K=aeI C f args (je fid u0 rs K))(hs:nY C.P C.gl f args r')(h3: ∀K:j8,K r u R->je fid u0 rs K r')
  (h2:Gd u H λH'=>eA o.dst r E λE'=>k E' H' ((R,u.map Prod.fst)::t)):cW C fid o E H t k:=rG (λK z=>by rw[h0];exact⟨r',hs,h3 K z⟩) h2
def cvO (_:anB o.op=true)(g:cW C fid o E H t k):cW C fid o E H t k:=g
def dR (g:cW C fid o E H t k):cW C fid o E H t k:=g
def dO (g:jA C all n0 l i E H t K):jA C all n0 l i E H t K:=g
def dA {c:Code}{S:St}{kn:St->Prop}{kx:Nat->St->Prop}{kr:St->Prop}(g:m8 C c S kn kx kr):m8 C c S kn kx kr:=g
def dB {b:Bool}{X Y:Prop}(g:Brn b X Y):Brn b X Y:=g
end
def tX (m:Nat){p q:Prop}(z:q)(h:Hdn m q->p:=by(intro zz;refine alr (q:=_) zz ?_ ?_;(try conv=>whnf);(repeat1' ((first|(refine dR ?_;first|(refine kO 0 rfl ?_;first|(refine cvO rfl ?_;first|refine Tt rfl rfl rfl rfl rfl rfl (cvI (by omega)) ?_|refine Tt rfl rfl rfl rfl rfl rfl (cv8 (by omega)) ?_)|(refine Zm3 zz ?_;refine anz rfl rfl rfl ?_)|refine rP rfl (λ_ z=>z) ?_|refine rGX rfl trivial ?_|refine rGX rfl Zd ?_|refine rG (λ_ z=>⟨Zd,z⟩) ?_|refine rG (λ_ z=>⟨Zd,Zd,z⟩) ?_)|(refine kO 3 rfl ?_;first|refine anA rfl rfl rfl rfl rfl rfl (by assumption) ?_|refine ak9 rfl rfl rfl rfl rfl ?_|refine ala rfl rfl rfl rfl rfl rfl rfl ?_|refine ak6 rfl rfl rfl rfl rfl rfl Zq ?_|refine rG (λ_ z=>z) ?_|refine rG (λ_ z=>⟨_,rfl,z⟩) ?_|refine rG (λ_ z=>⟨_,(by assumption),z⟩) ?_|refine rG (λ_ z=>⟨_,jS (by first|assumption|(simp only[FX];assumption)),z⟩) ?_)|(refine kO 1 rfl ?_;first|refine aeW rfl rfl rfl Zb ?_|refine alh rfl rfl rfl ?_|refine ali rfl rfl rfl ?_|refine ae2 rfl rfl rfl (by omega) ?_|refine ak0 rfl rfl rfl (by omega) ?_|refine ak1 rfl rfl rfl (by omega) ?_|refine ak2 rfl rfl rfl (by omega) ?_|refine ak3 rfl rfl rfl (by omega) ?_|refine ak4 rfl rfl rfl (by omega) ?_|refine aeO rfl rfl rfl (by omega) ?_|refine aeP rfl rfl rfl (by omega) ?_|refine rG (λ_ z=>z) ?_)|(refine kO 4 rfl ?_;first|refine ak7 rfl rfl rfl rfl rfl rfl Zq ?_|refine rG (λ_ z=>z) ?_|refine rG (λ_ z=>⟨_,(by assumption),z⟩) ?_|refine rG (λ_ z=>⟨_,jS (by first|assumption|(simp only[FX];assumption)),z⟩) ?_)|(refine kO 5 rfl ?_;first|refine ak8 rfl rfl rfl rfl rfl rfl rfl Zq ?_|refine agA rfl rfl rfl rfl rfl rfl rfl Zq ?_|refine aeQ rfl rfl rfl rfl rfl rfl rfl rfl Zq ?_|refine agB rfl rfl rfl rfl rfl rfl rfl rfl Zq ?_|refine aeR rfl rfl rfl rfl rfl rfl (by first|assumption|rfl) rfl ?_)|(refine kO 8 rfl ?_;first|refine aeY rfl rfl rfl rfl rfl Zb ?_|refine ae1 rfl rfl rfl rfl rfl rfl Zb ?_|refine aeZ rfl rfl rfl rfl rfl Zb ?_|refine ae0 rfl rfl rfl rfl rfl Zb ?_|refine alm rfl rfl rfl rfl rfl rfl rfl Zb ?_|refine aln rfl rfl rfl rfl rfl rfl rfl Zb ?_|refine alo rfl rfl rfl rfl rfl rfl rfl rfl Zb ?_|refine alp rfl rfl rfl rfl rfl rfl rfl rfl Zb ?_|refine alq rfl rfl rfl rfl rfl rfl rfl rfl Zb ?_|refine alc rfl rfl rfl rfl rfl rfl rfl (by omega) ?_|refine ald rfl rfl rfl rfl rfl rfl rfl (by omega) ?_|refine rG (λ_ z=>z) ?_)|(refine kO 6 rfl ?_;first|refine aeX rfl rfl rfl rfl rfl rfl ?_|refine alb rfl rfl rfl rfl rfl rfl ?_|refine aeS rfl rfl rfl rfl rfl rfl ?_|refine aeT rfl rfl rfl rfl rfl rfl rfl ?_|refine Y4 rfl rfl rfl rfl rfl rfl rfl ?_|refine ae3 rfl rfl rfl (by omega) ?_|refine rG (λ_ z=>z) ?_)|(refine kO 2 rfl ?_;first|refine ak5 rfl rfl (by omega) ?_|refine rG (λ_ z=>z) ?_)|(refine kO 7 rfl ?_;first|(apply rS (λ_=>rfl);assumption;exact λ_ z=>z)|refine Rq (ae8 _) ?_|refine Rq (ae7 _) ?_|refine Rq (alM _) ?_|refine Rq (MS _ _ _) ?_)|refine rGX rfl trivial ?_|refine rGX rfl Zd ?_|refine rG (λ_ z=>⟨Zd,z⟩) ?_|refine rG (λ_ z=>⟨Zd,Zd,z⟩) ?_)|(refine dO ?_;first|refine oP rfl ?_|refine oN ?_|refine oY rfl rfl rfl ?_|refine oZ rfl rfl rfl ?_|refine oO rfl rfl rfl ?_|refine oIt rfl rfl rfl (by omega) ?_|refine oIf rfl rfl rfl (by omega) ?_|refine oUt rfl rfl rfl (by omega) ?_|refine oUf rfl rfl rfl (by omega) ?_)|((first|refine Zm0 zz ?_|refine Zm3 zz ?_);(refine dA ?_;first|refine aS ?_|refine aR ?_|refine aC rfl ?_|refine aK ?_|refine aT ?_|refine aB ?_|refine aX ?_|refine aL ?_|refine aE ?_))|(refine Zm1 zz ?_;(refine dA ?_;first|refine aSs ?_|refine aR ?_|refine aC rfl ?_|refine aK ?_|refine aT ?_|refine aB ?_|refine aX ?_|refine aL ?_|refine aE ?_))|(refine dB ?_;first|refine bT ?_|refine bF ?_|refine bPt (by omega) ?_|refine bPf (by omega) ?_)|refine dI (by kernel_rfl) ?_);(try conv=>whnf)));(try exact zz.out);first|exact(Dum.mk:Dum True)|exact Dum.mk)):p:=h ⟨z⟩
def tB (m:Nat){p q:Prop}(z:q)(h:Hdn m q->p:=by(intro zz;refine alr (q:=_) zz ?_ ?_;(try conv=>whnf);(repeat1' ((first|(refine dA ?_;first|refine aC rfl ?_|refine aK ?_|refine aT ?_|refine aB ?_|refine aX ?_|refine aL ?_|refine aE ?_)|(refine dB ?_;first|refine bT ?_|refine bF ?_|refine bPt (by omega) ?_|refine bPf (by omega) ?_));(try conv=>whnf)));(try exact zz.out);first|exact(Dum.mk:Dum True)|exact Dum.mk)):p:=h ⟨z⟩
def bR {p q r:Prop}(z1:q)(z2:r)(h:Hdn 0 q->Hdn 0 r->p:=by(intro x y;(first|refine brp ?_ ?_|refine yF rfl rfl rfl ?_ ?_|refine nJ rfl rfl rfl ?_ ?_);exact x.out;exact y.out)):p:=h ⟨z1⟩ ⟨z2⟩
def Zt:True:=True.intro
def Zo {p:Prop}(h:p:=by(exfalso;omega)):p:=h
def Ze {p:Prop}(h:p:=by first|(exfalso;omega)|contradiction):p:=h
def Zs {p:Prop}(h:p:=by first|(exfalso;omega)|contradiction|(exfalso;simp_all;done)|omega):p:=h
def Z0 {p:Prop}(h:p:=by first|(exfalso;omega)|rfl):p:=h
def Zf {p:Prop}(h:p:=by first|(exfalso;omega)|contradiction|rfl):p:=h
def Zg {p:Prop}(h:p:=by first|(exfalso;omega)|(exfalso;simp_all;done)|omega):p:=h
def tA {p:Prop}(h:p:=by(repeat' ((first|refine tX 0 ?_|exact Zt|refine bR ?_ ?_<;>intro h)<;>(try conv=>whnf)));(all_goals exact Z0)):p:=h
def tB0 {p:Prop}(h:p:=by(repeat' ((first|refine tX 0 ?_|exact Zt|refine bR ?_ ?_<;>intro h)<;>(try conv=>whnf)));(all_goals exact Zf)):p:=h
def tL {p:Prop}(h:p:=by((repeat' ((first|refine tX 0 ?_|(refine kO 7 rfl ?_;first|refine rG (λ_ z=>⟨_,du _ _ _,z⟩) ?_|refine rG (λ_ z=>⟨_,ep _ _ _,z⟩) ?_|refine rG (λ_ z=>⟨_,wF rfl,z⟩) ?_|refine rG (λ_ z=>⟨_,wF (E:=0) rfl,z⟩) ?_|refine rG (λ_ z=>⟨_,bZ _ _,z⟩) ?_|refine rG (λ_ z=>⟨_,iY _,z⟩) ?_|refine rG (λ_ z=>⟨_,oh _,z⟩) ?_|refine rG (λ_ z=>⟨_,jD _,z⟩) ?_|refine rG (λ_ z=>⟨_,Ay _,z⟩) ?_|refine rG (λ_ z=>⟨_,unless_p _,z⟩) ?_|refine rG (λ_ z=>⟨_,g9 _ (fO rfl),z⟩) ?_|refine rG (λ_ z=>⟨_,first_fs _ (fO rfl),z⟩) ?_|refine rG (λ_ z=>⟨_,HS (by decide),z⟩) ?_|refine rG (λ_ z=>⟨_,eH _ _ _,z⟩) ?_|refine rG (λ_ z=>⟨_,mT _ _ _,z⟩) ?_|refine rG (λ_ z=>⟨_,pF _ _ _,z⟩) ?_|refine rG (λ_ z=>⟨_,eP _ _ _,z⟩) ?_|refine rG (λ_ z=>⟨_,gm _,z⟩) ?_|refine rG (λ_ z=>⟨_,o3 _ _ (by decide),z⟩) ?_|refine rG (λ_ z=>⟨_,kX _ _ (by omega),z⟩) ?_|refine rG (λ_ z=>⟨_,nN _ _,z⟩) ?_|refine rG (λ_ z=>⟨_,MZ _ _,z⟩) ?_|refine rG (λ_ z=>⟨_,aaP _ _,z⟩) ?_|refine rG (λ_ z=>⟨_,No _ _ _,z⟩) ?_|refine rG (λ_ z=>⟨_,EY _,z⟩) ?_|refine rG (λ_ z=>⟨_,N9 _,z⟩) ?_|refine rG (λ_ z=>⟨_,By _,z⟩) ?_|refine rG (λ_ z=>⟨_,within52_sat _ _ _,z⟩) ?_|refine rG (λ_ z=>⟨_,wF CD,z⟩) ?_|refine rG (λ_ z=>⟨_,mK _ _,z⟩) ?_|refine rG (λ_ z=>⟨_,both_sat _ _,z⟩) ?_|refine rG (λ_ z=>⟨_,aO (by assumption) _,z⟩) ?_|refine rG (λ_ z=>⟨_,bK (by assumption) _,z⟩) ?_|refine rG (λ_ z=>⟨_,aO (by(simp[ab]<;>fail "")) _,z⟩) ?_|refine rG (λ_ z=>⟨_,bK (by(simp[ab]<;>fail "")) _,z⟩) ?_|refine rG (λ_ z=>⟨_,aO (by simp only[ab,jd,CT,jP,xT,jj];omega) _,z⟩) ?_|refine rG (λ_ z=>⟨_,bK (by simp only[ab,jd,CT,jP,xT,jj];omega) _,z⟩) ?_|refine im (λ_ z=>⟨_,_,_,c0 _ _ ⟨_,_,rfl,rfl⟩ rfl,z⟩) ?_|refine im (λ_ z=>⟨_,_,_,c3 _ _ ⟨_,_,rfl,rfl⟩ rfl,z⟩) ?_|refine im (λ_ z=>⟨_,_,_,c2 _ _,z⟩) ?_|refine im (λ_ z=>⟨_,_,_,kh _ _,z⟩) ?_|refine im (λ_ z=>⟨_,_,_,cv _ _ _ _ _ _ _ rfl (jS (by assumption)) rfl rfl rfl,z⟩) ?_|refine im (λ_ z=>⟨_,_,_,cr _ _ _ _ _ _ _ rfl (jS (by assumption)) rfl rfl rfl,z⟩) ?_|refine im (λ_ z=>⟨_,_,_,cv _ _ _ _ _ rfl rfl rfl,z⟩) ?_|refine im (λ_ z=>⟨_,_,_,cr _ _ _ _ _ rfl rfl rfl,z⟩) ?_|refine im (λ_ z=>⟨_,_,_,cu _ _ rfl rfl rfl,z⟩) ?_|refine im (λ_ z=>⟨_,_,_,cu _ _ rfl rfl rfl rfl,z⟩) ?_|refine im (λ_ z=>⟨_,_,_,cm _ _ _ _ _ rfl rfl rfl,z⟩) ?_|refine im (λ_ z=>⟨_,_,_,vq hM hp hr rfl rfl rfl (jS (by assumption)) rfl rfl rfl,z⟩) ?_)|exact Zt|refine bR ?_ ?_<;>intro h)<;>(try conv=>whnf)));(all_goals first|exact Zf|exact Ei|exact Ew|exact rfl|exact⟨m0,dY rfl rfl,_,rfl,rfl⟩|exact⟨m3,dY rfl rfl,_,rfl,rfl⟩|exact⟨[],Ib _,_,rfl,rfl⟩|exact⟨rfl,rfl,_,rfl,rfl⟩|exact⟨i+1,ak,by omega,Zc⟩|exact⟨i+1,⟨ak,by assumption⟩,by omega,Zc⟩|exact⟨i+1,⟨ak,it (by omega)⟩,by omega,Zc⟩|exact⟨i+1,⟨ak,l8 (by omega)⟩,by omega,Zc⟩|exact⟨i+1,⟨ak,λhm=>(FL.1 hm).elim dp λe=>hx e.symm⟩,by omega,Zc⟩|exact⟨i+1,ak,by omega,ai (by rw[xG,lY];kernel_rfl)⟩|exact⟨i+1,ak,by omega,ai (by rw[xG];kernel_rfl)⟩|exact⟨k+1,⟨ak,it⟩,by omega,Zc⟩|exact gX (by simp;omega)|exact gX (by simp)|exact gX (fj (dp (by omega))).symm |exact gX (fL ⟨by assumption,by assumption⟩).symm |exact gX (fj λh=>h0 h.1).symm |exact p8 _ _ 7 (by decide)|exact p8 _ _ 18 (by decide)|exact absurd (by assumption) hx|exact absurd hx (by assumption)|exact absurd KW (dp (by omega))|exact kW (by simp)|exact Zg))):p:=h
end Go.Fw
namespace Go.Proofs
open Go.Shelf
def Tryz.IM:Go.Shelf.Ren:=⟨λ|171=>99|243=>194|246=>240|283=>275|284=>276|285=>277|286=>278|129=>300|317=>299|318=>301|319=>302|320=>303|337=>329|338=>330|n=>n,λ|3=>3|9=>9|2=>2|4=>4|171=>336|0=>0|53=>330|37=>239|5=>5|173=>339|212=>375|51=>345|20=>20|213=>376|46=>306|232=>418|233=>419|n=>n,λ|17=>6|18=>7|19=>8|n=>n⟩
def Tryz.XJ:Go.Proofs.LaysM.n171 Tryz.prog Tryz.IM:={
 mixed:=by kernel_rfl
 f129:=Tryz.func300.trans (aQ some (by kernel_rfl))
 f171:=Tryz.func99.trans (aQ some (by kernel_rfl))
 f243:=Tryz.func194.trans (aQ some (by kernel_rfl))
 f246:=Tryz.func240.trans (aQ some (by kernel_rfl))
 f283:=Tryz.func275.trans (aQ some (by kernel_rfl))
 f284:=Tryz.func276.trans (aQ some (by kernel_rfl))
 f285:=Tryz.func277.trans (aQ some (by kernel_rfl))
 f286:=Tryz.func278.trans (aQ some (by kernel_rfl))
 f317:=Tryz.func299.trans (aQ some (by kernel_rfl))
 f318:=Tryz.func301.trans (aQ some (by kernel_rfl))
 f319:=Tryz.func302.trans (aQ some (by kernel_rfl))
 f320:=Tryz.func303.trans (aQ some (by kernel_rfl))
 f337:=Tryz.func329.trans (aQ some (by kernel_rfl))
 f338:=Tryz.func330.trans (aQ some (by kernel_rfl))
 t0:=Tryz.underlying0
 a0:=Tryz.isAgg0
 z0:=Tryz.sizeOf0
 v0:=Tryz.zeroValue0
 t2:=Tryz.underlying2
 a2:=Tryz.isAgg2
 z2:=Tryz.sizeOf2
 v2:=Tryz.zeroValue2
 t3:=Tryz.underlying3
 a3:=Tryz.isAgg3
 z3:=Tryz.sizeOf3
 v3:=Tryz.zeroValue3
 t4:=Tryz.underlying4
 a4:=Tryz.isAgg4
 z4:=Tryz.sizeOf4
 v4:=Tryz.zeroValue4
 t5:=Tryz.underlying5
 a5:=Tryz.isAgg5
 z5:=Tryz.sizeOf5
 v5:=Tryz.zeroValue5
 t9:=Tryz.underlying9
 a9:=Tryz.isAgg9
 z9:=Tryz.sizeOf9
 v9:=Tryz.zeroValue9
 t20:=Tryz.underlying20
 a20:=Tryz.isAgg20
 z20:=Tryz.sizeOf20
 v20:=Tryz.zeroValue20
 t37:=Tryz.underlying239
 a37:=Tryz.isAgg239
 z37:=Tryz.sizeOf239
 v37:=Tryz.zeroValue239
 t46:=Tryz.underlying306
 a46:=Tryz.isAgg306
 z46:=Tryz.sizeOf306
 v46:=Tryz.zeroValue306
 t51:=Tryz.underlying345
 a51:=Tryz.isAgg345
 z51:=Tryz.sizeOf345
 v51:=Tryz.zeroValue345
 t53:=Tryz.underlying330
 a53:=Tryz.isAgg330
 z53:=Tryz.sizeOf330
 v53:=Tryz.zeroValue330
 t171:=Tryz.underlying336
 a171:=Tryz.isAgg336
 z171:=Tryz.sizeOf336
 v171:=Tryz.zeroValue336
 t173:=Tryz.underlying339
 a173:=Tryz.isAgg339
 z173:=Tryz.sizeOf339
 v173:=Tryz.zeroValue339
 t212:=Tryz.underlying375
 a212:=Tryz.isAgg375
 z212:=Tryz.sizeOf375
 v212:=Tryz.zeroValue375
 t213:=Tryz.underlying376
 a213:=Tryz.isAgg376
 z213:=Tryz.sizeOf376
 t232:=Tryz.underlying418
 a232:=Tryz.isAgg418
 z232:=Tryz.sizeOf418
 v232:=Tryz.zeroValue418
 t233:=Tryz.underlying419
 a233:=Tryz.isAgg419
 z233:=Tryz.sizeOf419
 v233:=Tryz.zeroValue419
 g17:=by kernel_rfl
 g18:=by kernel_rfl
 g19:=by kernel_rfl
 i0:=by kernel_rfl
 i2:=by kernel_rfl
 i3:=by kernel_rfl
 i4:=by kernel_rfl
 i5:=by kernel_rfl
 i9:=by kernel_rfl
 i20:=by kernel_rfl
 i37:=by kernel_rfl
 i46:=by kernel_rfl
 i51:=by kernel_rfl
 i53:=by kernel_rfl
 i171:=by kernel_rfl
 i173:=by kernel_rfl
 i212:=by kernel_rfl
 i232:=by kernel_rfl
 i233:=by kernel_rfl
 m17:=by kernel_rfl
 m18:=by kernel_rfl
 m19:=by kernel_rfl}
def Tryz.IQ:Go.Shelf.Ren:=⟨λ|172=>98|244=>192|245=>193|247=>235|279=>236|280=>237|281=>238|282=>239|287=>272|316=>273|171=>99|205=>274|321=>297|322=>298|243=>194|246=>240|283=>275|284=>276|285=>277|286=>278|129=>300|317=>299|318=>301|319=>302|320=>303|337=>329|338=>330|n=>n,λ|9=>9|3=>3|75=>201|76=>202|4=>4|5=>5|167=>297|37=>239|0=>0|85=>298|2=>2|168=>300|53=>330|175=>331|46=>306|210=>334|127=>370|145=>373|143=>371|21=>21|171=>336|173=>339|212=>375|51=>345|20=>20|213=>376|232=>418|233=>419|80=>341|n=>n,λ|15=>2|16=>3|17=>6|18=>7|19=>8|n=>n⟩
def Tryz.Ln:Go.Proofs.LaysC.n172 Tryz.prog Tryz.IQ:={
 mixed:=by kernel_rfl
 f129:=Tryz.func300.trans (aQ some (by kernel_rfl))
 f171:=Tryz.func99.trans (aQ some (by kernel_rfl))
 f172:=Tryz.func98.trans (aQ some (by kernel_rfl))
 f205:=Tryz.func274.trans (aQ some (by kernel_rfl))
 f243:=Tryz.func194.trans (aQ some (by kernel_rfl))
 f244:=Tryz.func192.trans (aQ some (by kernel_rfl))
 f245:=Tryz.func193.trans (aQ some (by kernel_rfl))
 f246:=Tryz.func240.trans (aQ some (by kernel_rfl))
 f247:=Tryz.func235.trans (aQ some (by kernel_rfl))
 f279:=Tryz.func236.trans (aQ some (by kernel_rfl))
 f280:=Tryz.func237.trans (aQ some (by kernel_rfl))
 f281:=Tryz.func238.trans (aQ some (by kernel_rfl))
 f282:=Tryz.func239.trans (aQ some (by kernel_rfl))
 f283:=Tryz.func275.trans (aQ some (by kernel_rfl))
 f284:=Tryz.func276.trans (aQ some (by kernel_rfl))
 f285:=Tryz.func277.trans (aQ some (by kernel_rfl))
 f286:=Tryz.func278.trans (aQ some (by kernel_rfl))
 f287:=Tryz.func272.trans (aQ some (by kernel_rfl))
 f316:=Tryz.func273.trans (aQ some (by kernel_rfl))
 f317:=Tryz.func299.trans (aQ some (by kernel_rfl))
 f318:=Tryz.func301.trans (aQ some (by kernel_rfl))
 f319:=Tryz.func302.trans (aQ some (by kernel_rfl))
 f320:=Tryz.func303.trans (aQ some (by kernel_rfl))
 f321:=Tryz.func297.trans (aQ some (by kernel_rfl))
 f322:=Tryz.func298.trans (aQ some (by kernel_rfl))
 f337:=Tryz.func329.trans (aQ some (by kernel_rfl))
 f338:=Tryz.func330.trans (aQ some (by kernel_rfl))
 t0:=Tryz.underlying0
 a0:=Tryz.isAgg0
 z0:=Tryz.sizeOf0
 v0:=Tryz.zeroValue0
 t2:=Tryz.underlying2
 a2:=Tryz.isAgg2
 z2:=Tryz.sizeOf2
 v2:=Tryz.zeroValue2
 t3:=Tryz.underlying3
 a3:=Tryz.isAgg3
 z3:=Tryz.sizeOf3
 v3:=Tryz.zeroValue3
 t4:=Tryz.underlying4
 a4:=Tryz.isAgg4
 z4:=Tryz.sizeOf4
 v4:=Tryz.zeroValue4
 t5:=Tryz.underlying5
 a5:=Tryz.isAgg5
 z5:=Tryz.sizeOf5
 v5:=Tryz.zeroValue5
 t9:=Tryz.underlying9
 a9:=Tryz.isAgg9
 z9:=Tryz.sizeOf9
 v9:=Tryz.zeroValue9
 t20:=Tryz.underlying20
 a20:=Tryz.isAgg20
 z20:=Tryz.sizeOf20
 v20:=Tryz.zeroValue20
 t21:=Tryz.underlying21
 a21:=Tryz.isAgg21
 z21:=Tryz.sizeOf21
 v21:=Tryz.zeroValue21
 t37:=Tryz.underlying239
 a37:=Tryz.isAgg239
 z37:=Tryz.sizeOf239
 v37:=Tryz.zeroValue239
 t46:=Tryz.underlying306
 a46:=Tryz.isAgg306
 z46:=Tryz.sizeOf306
 v46:=Tryz.zeroValue306
 t51:=Tryz.underlying345
 a51:=Tryz.isAgg345
 z51:=Tryz.sizeOf345
 v51:=Tryz.zeroValue345
 t53:=Tryz.underlying330
 a53:=Tryz.isAgg330
 z53:=Tryz.sizeOf330
 v53:=Tryz.zeroValue330
 t75:=Tryz.underlying201
 a75:=Tryz.isAgg201
 z75:=Tryz.sizeOf201
 v75:=Tryz.zeroValue201
 t76:=Tryz.underlying202
 a76:=Tryz.isAgg202
 z76:=Tryz.sizeOf202
 v76:=Tryz.zeroValue202
 t85:=Tryz.underlying298
 a85:=Tryz.isAgg298
 z85:=Tryz.sizeOf298
 v85:=Tryz.zeroValue298
 t127:=Tryz.underlying370
 a127:=Tryz.isAgg370
 z127:=Tryz.sizeOf370
 v127:=Tryz.zeroValue370
 t143:=Tryz.underlying371
 a143:=Tryz.isAgg371
 z143:=Tryz.sizeOf371
 v143:=Tryz.zeroValue371
 t145:=Tryz.underlying373
 a145:=Tryz.isAgg373
 z145:=Tryz.sizeOf373
 v145:=Tryz.zeroValue373
 t167:=Tryz.underlying297
 a167:=Tryz.isAgg297
 z167:=Tryz.sizeOf297
 v167:=Tryz.zeroValue297
 t168:=Tryz.underlying300
 a168:=Tryz.isAgg300
 z168:=Tryz.sizeOf300
 v168:=Tryz.zeroValue300
 t171:=Tryz.underlying336
 a171:=Tryz.isAgg336
 z171:=Tryz.sizeOf336
 v171:=Tryz.zeroValue336
 t173:=Tryz.underlying339
 a173:=Tryz.isAgg339
 z173:=Tryz.sizeOf339
 v173:=Tryz.zeroValue339
 t175:=Tryz.underlying331
 a175:=Tryz.isAgg331
 z175:=Tryz.sizeOf331
 v175:=Tryz.zeroValue331
 t210:=Tryz.underlying334
 a210:=Tryz.isAgg334
 z210:=Tryz.sizeOf334
 v210:=Tryz.zeroValue334
 t212:=Tryz.underlying375
 a212:=Tryz.isAgg375
 z212:=Tryz.sizeOf375
 v212:=Tryz.zeroValue375
 t213:=Tryz.underlying376
 a213:=Tryz.isAgg376
 z213:=Tryz.sizeOf376
 t232:=Tryz.underlying418
 a232:=Tryz.isAgg418
 z232:=Tryz.sizeOf418
 v232:=Tryz.zeroValue418
 t233:=Tryz.underlying419
 a233:=Tryz.isAgg419
 z233:=Tryz.sizeOf419
 v233:=Tryz.zeroValue419
 g15:=by kernel_rfl
 g16:=by kernel_rfl
 g17:=by kernel_rfl
 g18:=by kernel_rfl
 g19:=by kernel_rfl
 t80:=Tryz.underlying341
 a80:=Tryz.isAgg341
 z80:=Tryz.sizeOf341
 v80:=Tryz.zeroValue341
 i0:=by kernel_rfl
 i2:=by kernel_rfl
 i3:=by kernel_rfl
 i4:=by kernel_rfl
 i5:=by kernel_rfl
 i9:=by kernel_rfl
 i20:=by kernel_rfl
 i21:=by kernel_rfl
 i37:=by kernel_rfl
 i46:=by kernel_rfl
 i51:=by kernel_rfl
 i53:=by kernel_rfl
 i75:=by kernel_rfl
 i76:=by kernel_rfl
 i80:=by kernel_rfl
 i85:=by kernel_rfl
 i127:=by kernel_rfl
 i143:=by kernel_rfl
 i145:=by kernel_rfl
 i167:=by kernel_rfl
 i168:=by kernel_rfl
 i171:=by kernel_rfl
 i173:=by kernel_rfl
 i175:=by kernel_rfl
 i210:=by kernel_rfl
 i212:=by kernel_rfl
 i232:=by kernel_rfl
 i233:=by kernel_rfl
 m15:=by kernel_rfl
 m16:=by kernel_rfl
 m17:=by kernel_rfl
 m18:=by kernel_rfl
 m19:=by kernel_rfl
 c0:=by kernel_rfl
 c2:=by kernel_rfl
 c3:=by kernel_rfl
 c4:=by kernel_rfl
 c5:=by kernel_rfl
 c9:=by kernel_rfl
 c20:=by kernel_rfl
 c21:=by kernel_rfl
 c37:=by kernel_rfl
 c46:=by kernel_rfl
 c51:=by kernel_rfl
 c53:=by kernel_rfl
 c75:=by kernel_rfl
 c76:=by kernel_rfl
 c80:=by kernel_rfl
 c85:=by kernel_rfl
 c127:=by kernel_rfl
 c143:=by kernel_rfl
 c145:=by kernel_rfl
 c167:=by kernel_rfl
 c168:=by kernel_rfl
 c171:=by kernel_rfl
 c173:=by kernel_rfl
 c175:=by kernel_rfl
 c210:=by kernel_rfl
 c212:=by kernel_rfl
 c213:=by kernel_rfl
 c232:=by kernel_rfl
 c233:=by kernel_rfl}
def Tryz.Lo:Go.Shelf.Ren:=⟨λ|145=>67|220=>113|219=>201|217=>245|225=>246|224=>247|267=>248|266=>283|314=>284|n=>n,λ|9=>9|4=>4|59=>144|3=>3|5=>5|46=>306|146=>346|51=>345|n=>n,λ|1=>1|n=>n⟩
def Tryz.abV:Go.Proofs.Lays.n145 Tryz.prog Tryz.Lo:={
 mixed:=by kernel_rfl
 f145:=Tryz.func67.trans (aQ some (by kernel_rfl))
 f217:=Tryz.func245.trans (aQ some (by kernel_rfl))
 f219:=Tryz.func201.trans (aQ some (by kernel_rfl))
 f220:=Tryz.func113.trans (aQ some (by kernel_rfl))
 f224:=Tryz.func247.trans (aQ some (by kernel_rfl))
 f225:=Tryz.func246.trans (aQ some (by kernel_rfl))
 f266:=Tryz.func283.trans (aQ some (by kernel_rfl))
 f267:=Tryz.func248.trans (aQ some (by kernel_rfl))
 f314:=Tryz.func284.trans (aQ some (by kernel_rfl))
 t3:=Tryz.underlying3
 a3:=Tryz.isAgg3
 z3:=Tryz.sizeOf3
 v3:=Tryz.zeroValue3
 t4:=Tryz.underlying4
 a4:=Tryz.isAgg4
 z4:=Tryz.sizeOf4
 v4:=Tryz.zeroValue4
 t5:=Tryz.underlying5
 a5:=Tryz.isAgg5
 z5:=Tryz.sizeOf5
 v5:=Tryz.zeroValue5
 t9:=Tryz.underlying9
 a9:=Tryz.isAgg9
 z9:=Tryz.sizeOf9
 v9:=Tryz.zeroValue9
 t46:=Tryz.underlying306
 a46:=Tryz.isAgg306
 z46:=Tryz.sizeOf306
 v46:=Tryz.zeroValue306
 t51:=Tryz.underlying345
 a51:=Tryz.isAgg345
 z51:=Tryz.sizeOf345
 v51:=Tryz.zeroValue345
 t59:=Tryz.underlying144
 a59:=Tryz.isAgg144
 z59:=Tryz.sizeOf144
 v59:=Tryz.zeroValue144
 t146:=Tryz.underlying346
 a146:=Tryz.isAgg346
 z146:=Tryz.sizeOf346
 v146:=Tryz.zeroValue346
 g1:=by kernel_rfl}
def Tryz.Lm:Go.Shelf.Ren:=⟨λ|101=>207|208=>257|206=>191|n=>n,λ|9=>9|4=>4|3=>3|n=>n,λ|n=>n⟩
def Tryz.abT:Go.Proofs.Lays.n101 Tryz.prog Tryz.Lm:={
 mixed:=by kernel_rfl
 f101:=Tryz.func207.trans (aQ some (by kernel_rfl))
 f206:=Tryz.func191.trans (aQ some (by kernel_rfl))
 f208:=Tryz.func257.trans (aQ some (by kernel_rfl))
 t3:=Tryz.underlying3
 a3:=Tryz.isAgg3
 z3:=Tryz.sizeOf3
 v3:=Tryz.zeroValue3
 t4:=Tryz.underlying4
 a4:=Tryz.isAgg4
 z4:=Tryz.sizeOf4
 v4:=Tryz.zeroValue4
 t9:=Tryz.underlying9
 a9:=Tryz.isAgg9
 z9:=Tryz.sizeOf9
 v9:=Tryz.zeroValue9}
def Tryz.Ls:Go.Shelf.Ren:=⟨λ|146=>57|221=>94|268=>188|138=>189|143=>190|195=>232|197=>233|218=>234|219=>201|260=>271|217=>245|225=>246|224=>247|267=>248|266=>283|314=>284|n=>n,λ|9=>9|31=>23|3=>3|4=>4|0=>0|105=>294|21=>21|5=>5|46=>306|119=>365|139=>368|138=>367|146=>346|51=>345|n=>n,λ|1=>1|3=>4|4=>5|n=>n⟩
def Tryz.Se:Go.Proofs.Lays.n146 Tryz.prog Tryz.Ls:={
 mixed:=by kernel_rfl
 f138:=Tryz.func189.trans (aQ some (by kernel_rfl))
 f143:=Tryz.func190.trans (aQ some (by kernel_rfl))
 f146:=Tryz.func57.trans (aQ some (by kernel_rfl))
 f195:=Tryz.func232.trans (aQ some (by kernel_rfl))
 f197:=Tryz.func233.trans (aQ some (by kernel_rfl))
 f217:=Tryz.func245.trans (aQ some (by kernel_rfl))
 f218:=Tryz.func234.trans (aQ some (by kernel_rfl))
 f219:=Tryz.func201.trans (aQ some (by kernel_rfl))
 f221:=Tryz.func94.trans (aQ some (by kernel_rfl))
 f224:=Tryz.func247.trans (aQ some (by kernel_rfl))
 f225:=Tryz.func246.trans (aQ some (by kernel_rfl))
 f260:=Tryz.func271.trans (aQ some (by kernel_rfl))
 f266:=Tryz.func283.trans (aQ some (by kernel_rfl))
 f267:=Tryz.func248.trans (aQ some (by kernel_rfl))
 f268:=Tryz.func188.trans (aQ some (by kernel_rfl))
 f314:=Tryz.func284.trans (aQ some (by kernel_rfl))
 t0:=Tryz.underlying0
 a0:=Tryz.isAgg0
 z0:=Tryz.sizeOf0
 v0:=Tryz.zeroValue0
 t3:=Tryz.underlying3
 a3:=Tryz.isAgg3
 z3:=Tryz.sizeOf3
 v3:=Tryz.zeroValue3
 t4:=Tryz.underlying4
 a4:=Tryz.isAgg4
 z4:=Tryz.sizeOf4
 v4:=Tryz.zeroValue4
 t5:=Tryz.underlying5
 a5:=Tryz.isAgg5
 z5:=Tryz.sizeOf5
 v5:=Tryz.zeroValue5
 t9:=Tryz.underlying9
 a9:=Tryz.isAgg9
 z9:=Tryz.sizeOf9
 v9:=Tryz.zeroValue9
 t21:=Tryz.underlying21
 a21:=Tryz.isAgg21
 z21:=Tryz.sizeOf21
 v21:=Tryz.zeroValue21
 t31:=Tryz.underlying23
 a31:=Tryz.isAgg23
 z31:=Tryz.sizeOf23
 v31:=Tryz.zeroValue23
 t46:=Tryz.underlying306
 a46:=Tryz.isAgg306
 z46:=Tryz.sizeOf306
 v46:=Tryz.zeroValue306
 t51:=Tryz.underlying345
 a51:=Tryz.isAgg345
 z51:=Tryz.sizeOf345
 v51:=Tryz.zeroValue345
 t105:=Tryz.underlying294
 a105:=Tryz.isAgg294
 z105:=Tryz.sizeOf294
 v105:=Tryz.zeroValue294
 t119:=Tryz.underlying365
 a119:=Tryz.isAgg365
 z119:=Tryz.sizeOf365
 t138:=Tryz.underlying367
 a138:=Tryz.isAgg367
 z138:=Tryz.sizeOf367
 v138:=Tryz.zeroValue367
 t139:=Tryz.underlying368
 a139:=Tryz.isAgg368
 z139:=Tryz.sizeOf368
 v139:=Tryz.zeroValue368
 t146:=Tryz.underlying346
 a146:=Tryz.isAgg346
 z146:=Tryz.sizeOf346
 v146:=Tryz.zeroValue346
 g1:=by kernel_rfl
 g3:=by kernel_rfl
 g4:=by kernel_rfl}
def Tryz.Lk:Go.Shelf.Ren:=⟨λ|147=>133|221=>94|268=>188|138=>189|143=>190|195=>232|197=>233|218=>234|219=>201|260=>271|217=>245|225=>246|224=>247|267=>248|266=>283|314=>284|n=>n,λ|9=>9|3=>3|31=>23|4=>4|0=>0|105=>294|21=>21|5=>5|46=>306|119=>365|139=>368|138=>367|146=>346|51=>345|n=>n,λ|1=>1|3=>4|4=>5|n=>n⟩
def Tryz.abR:Go.Proofs.Lays.n147 Tryz.prog Tryz.Lk:={
 mixed:=by kernel_rfl
 f138:=Tryz.func189.trans (aQ some (by kernel_rfl))
 f143:=Tryz.func190.trans (aQ some (by kernel_rfl))
 f147:=Tryz.func133.trans (aQ some (by kernel_rfl))
 f195:=Tryz.func232.trans (aQ some (by kernel_rfl))
 f197:=Tryz.func233.trans (aQ some (by kernel_rfl))
 f217:=Tryz.func245.trans (aQ some (by kernel_rfl))
 f218:=Tryz.func234.trans (aQ some (by kernel_rfl))
 f219:=Tryz.func201.trans (aQ some (by kernel_rfl))
 f221:=Tryz.func94.trans (aQ some (by kernel_rfl))
 f224:=Tryz.func247.trans (aQ some (by kernel_rfl))
 f225:=Tryz.func246.trans (aQ some (by kernel_rfl))
 f260:=Tryz.func271.trans (aQ some (by kernel_rfl))
 f266:=Tryz.func283.trans (aQ some (by kernel_rfl))
 f267:=Tryz.func248.trans (aQ some (by kernel_rfl))
 f268:=Tryz.func188.trans (aQ some (by kernel_rfl))
 f314:=Tryz.func284.trans (aQ some (by kernel_rfl))
 t0:=Tryz.underlying0
 a0:=Tryz.isAgg0
 z0:=Tryz.sizeOf0
 v0:=Tryz.zeroValue0
 t3:=Tryz.underlying3
 a3:=Tryz.isAgg3
 z3:=Tryz.sizeOf3
 v3:=Tryz.zeroValue3
 t4:=Tryz.underlying4
 a4:=Tryz.isAgg4
 z4:=Tryz.sizeOf4
 v4:=Tryz.zeroValue4
 t5:=Tryz.underlying5
 a5:=Tryz.isAgg5
 z5:=Tryz.sizeOf5
 v5:=Tryz.zeroValue5
 t9:=Tryz.underlying9
 a9:=Tryz.isAgg9
 z9:=Tryz.sizeOf9
 v9:=Tryz.zeroValue9
 t21:=Tryz.underlying21
 a21:=Tryz.isAgg21
 z21:=Tryz.sizeOf21
 v21:=Tryz.zeroValue21
 t31:=Tryz.underlying23
 a31:=Tryz.isAgg23
 z31:=Tryz.sizeOf23
 v31:=Tryz.zeroValue23
 t46:=Tryz.underlying306
 a46:=Tryz.isAgg306
 z46:=Tryz.sizeOf306
 v46:=Tryz.zeroValue306
 t51:=Tryz.underlying345
 a51:=Tryz.isAgg345
 z51:=Tryz.sizeOf345
 v51:=Tryz.zeroValue345
 t105:=Tryz.underlying294
 a105:=Tryz.isAgg294
 z105:=Tryz.sizeOf294
 v105:=Tryz.zeroValue294
 t119:=Tryz.underlying365
 a119:=Tryz.isAgg365
 z119:=Tryz.sizeOf365
 t138:=Tryz.underlying367
 a138:=Tryz.isAgg367
 z138:=Tryz.sizeOf367
 v138:=Tryz.zeroValue367
 t139:=Tryz.underlying368
 a139:=Tryz.isAgg368
 z139:=Tryz.sizeOf368
 v139:=Tryz.zeroValue368
 t146:=Tryz.underlying346
 a146:=Tryz.isAgg346
 z146:=Tryz.sizeOf346
 v146:=Tryz.zeroValue346
 g1:=by kernel_rfl
 g3:=by kernel_rfl
 g4:=by kernel_rfl}
end Go.Proofs
namespace Go.Fw
open Go.RowKit (Below)
open Go.Shelf
variable {P:Program}{gl:tu}
theorem ac1 {ρ:Ren}(L:Proofs.Lays.n145 P ρ)(fC:iN P (ρ.f 145)=true)(hg:(ρ.g 1,[SC.num .i64])∈gl)(s:List UInt8)(c:UInt8)(hl:s.length<=1000000):
  nY P gl (ρ.f 145) [SS s,SS [c]] (.aI [SS (Lib.cut s [c]).1,SS (Lib.cut s [c]).2.1,(false,[.lit (.bool (Lib.cut s [c]).2.2)])]):=by
 refine .inl ⟨fC,λmv w vs _ hG xy=>?_⟩;obtain⟨x,y,rfl,hr,Ch⟩:=DN xy;rw[ge hr,ge Ch];obtain⟨ev,h1,h2⟩:=(hG _ _ hg).1 0 _ rfl;have o9: ∃m,ev= .int .i64 m:=aiR;obtain⟨m,rfl⟩:=o9;refine(Proofs.Any.strings_Cut L (B s) (B [c]) m w (by rw[lV];omega) h1).mono λe w' he=>?_;obtain⟨rfl,n,rfl⟩:=he;rw[jH,jH];refine⟨_,rfl,(Below.refl w.heap.size w).trans ⟨rfl,rfl,rfl,dE _,λ_ _=>rfl⟩,_,rfl,rfl,λk x hk=>?_⟩
 match k,hk with
 |0,hk=>simp at hk;subst hk;exact⟨_,rfl,.lit rfl⟩
 |1,hk=>simp at hk;subst hk;exact⟨_,rfl,.lit rfl⟩
 |2,hk=>simp at hk;subst hk;exact⟨_,rfl,.lit rfl⟩
 |k+3,hk=>simp at hk
end Go.Fw
namespace Go.Plain
open Go.Lib
abbrev ax:=List UInt8
def dt (b:UInt8):Prop:=48<=b.toNat/\b.toNat<=57
instance (b:UInt8):Decidable (dt b):=inferInstanceAs (Decidable (_/\_))
def fH (acc:Nat):ax->Nat
 | []=>acc
 |b::r=>fH (10*acc+(b.toNat -48)) r
def DQ (acc:Nat)(a b:ax):fH acc (a++b)=fH (fH acc a) b:=by
 induction a generalizing acc with
 |nil=>rfl
 |cons x a ih=>exact ih _
def Al {acc:Nat}{l:ax}:acc<=fH acc l:=by
 induction l generalizing acc with
 |nil=>exact dE _
 |cons x l ih=>exact pd K0 (ih (acc:=10*acc+(x.toNat -48)))
def JJ: ∀(l:ax) (acc:Nat),(∀b∈l,dt b)->fH acc l< (acc+1)*10^l.length
 | [],acc,_=>by
  show acc< (acc+1)*1;omega
 |b::l,acc,h=>by
  have h1:=h b (jx ..);have:=JJ l (10*acc+(b.toNat -48)) λx hx=>h x (ji _ hx);have h0:10*acc+(b.toNat -48)+1<=(acc+1)*10:=by grind[dt]
  have h2:(10*acc+(b.toNat -48)+1)*10^l.length<=(acc+1)*10*10^l.length:=kE _ h0;rw[jP,Nat.pow_succ];have e:(acc+1)*(10^l.length*10)=(acc+1)*10*10^l.length:=by ac_rfl
  rw[e];exact X4 this h2
theorem yM {d:Nat}(h:d<10):(UInt8.ofNat (48+d)).toNat =48+d:=by simp[UInt8.toNat_ofNat];omega
def ML {b:UInt8}(h:dt b):UInt8.ofNat (48+(b.toNat -48))=b:=by
 unfold dt at h;simp_all
def Tw: ∀(u:Nat),∀b∈decDigits u,dt b:=by
 intro u
 induction u using Nat.strongRecOn with
 |_ u ih=>
  grind[decDigits,dt,yM]
def Tx: ∀(u:Nat),fH 0 (decDigits u)=u:=by
 intro u
 induction u using Nat.strongRecOn with
 |_ u ih=>
  rw[decDigits];split
  ·rename_i h;show 10*0+((UInt8.ofNat (48+u)).toNat -48)=u
   grind[yM]
  ·rename_i h;rw[DQ,ih _ K0];show 10*(u/10)+((UInt8.ofNat (48+u%10)).toNat -48)=u
   grind[yM]
def agE (u:Nat):decDigits u≠[]:=by rw[decDigits];split<;>simp
theorem MM: ∀ {u:Nat},0<u->∃b r,decDigits u=b::r/\b.toNat≠48:=by
 intro u
 induction u using Nat.strongRecOn with
 |_ u ih=>
  intro h0;rw[decDigits];split
  grind[yM]
  ·rename_i h;obtain⟨b,r,e,hb⟩:=ih (u/10) K0 K0
   grind
theorem Zr: ∀(l:ax) (b:UInt8) (r:ax),l=b::r->(∀x∈l,dt x)->(b.toNat≠48\/r= [])->decDigits (fH 0 l)=l:=by
 intro l
 induction h:l.length using Nat.strongRecOn generalizing l with
 |_ n ih=>
  intro b r e hd hb;subst e;rcases List.eq_nil_or_concat r with rfl|⟨m,x,hr⟩
  ·have jW:=hd b (jx ..);have e:fH 0 [b]=b.toNat -48:=by show 10*0+(b.toNat -48)=_;omega
   rw[e,decDigits,dif_pos (by grind[dt]),ML jW]
  ·rw[List.concat_eq_append]at hr;subst hr;have hx:dt x:=hd x (by simp)
   have hm: ∀y∈b::m,dt y:=λy hy=>hd y (by
    grind)
   have xH:b.toNat≠48:=by grind
   have i1:=ih (b::m).length bv (b::m) rfl b m rfl hm (.inl xH);have hv:fH 0 (b::(m++[x]))=10*fH 0 (b::m)+(x.toNat -48):=by rw[show b::(m++[x])=(b::m)++[x]from rfl,DQ];rfl
   have fN:0<fH 0 (b::m):=by
    have h1:=hm b (jx ..);have:10*0+(b.toNat -48)<=fH 0 (b::m):=Al (acc:=10*0+(b.toNat -48)) (l:=m)
    grind[dt]
   unfold dt at hx;show decDigits (fH 0 (b::(m++[x])))=_;rw[hv,decDigits,dif_neg K0,show(10*fH 0 (b::m)+(x.toNat -48))/10=fH 0 (b::m)by omega,show(10*fH 0 (b::m)+(x.toNat -48))%10=x.toNat -48 by omega,i1,ML hx];rfl
def B0 (s:ax):Nat:=if(s.getD 0 0).toNat =45 then 1 else 0
def B4 (d:Nat)(s:ax):Prop:=s.length=B0 s\/d<s.length -B0 s\/((s.getD (B0 s) 0).toNat =48/\1<s.length)
instance (d:Nat)(s:ax):Decidable (B4 d s):=inferInstanceAs (Decidable (_\/_\/_))
def fP (d:Nat)(s:ax):Option Int:=
 if B4 d s then none else if ∀b∈s.drop (B0 s),dt b then some (if B0 s=1 then -(fH 0 (s.drop (B0 s)):Int)else(fH 0 (s.drop (B0 s)):Int))else none
def agF (s:ax):B0 s<=s.length:=by
 unfold B0
 cases s with
 |nil=>simp
 |cons b s=>grind
def DR {s:ax}{a i:Nat}(h1:a<=i)(h2:i<s.length):(s.take (i+1)).drop a=(s.take i).drop a++[s.getD i 0]:=by grind[List.take_succ_eq_append_getElem]
def MN {s:ax}{a i:Nat}(h1:a<=i)(h2:i<s.length)(h3:dt (s.getD i 0)):((fH 0 ((s.take (i+1)).drop a):Nat):Int)=10*((fH 0 ((s.take i).drop a):Nat):Int)+(((s.getD i 0).toNat :Nat) -48:Int):=by
 rw[DR h1 h2,DQ];unfold dt at h3;show((10*fH 0 _+((s.getD i 0).toNat -48):Nat):Int)=_;omega
def oM {l:ax}(h: ∀b∈l,dt b)(hl:l.length<=18):(fH 0 l:Int)<1000000000000000000:=by
 have h1:=JJ l 0 h
 have h2:(0+1)*10^l.length<=10^18:=by
  rw[j7,Nat.one_mul];exact XY K9 hl
 omega
def Bq {l:ax}(h: ∀b∈l,dt b)(hl:l.length<=17):(fH 0 l:Int)<100000000000000000:=by
 have h1:=JJ l 0 h
 have h2:(0+1)*10^l.length<=10^17:=by
  rw[j7,Nat.one_mul];exact XY K9 hl
 omega
def jf (s:ax)(c:Nat):Nat->List ax × Nat
 |0=>([],0)
 |i+1=>if(s.getD i 0).toNat =c then((jf s c i).1++[(s.take i).drop (jf s c i).2],i+1)else jf s c i
def agG (s:ax)(c:Nat):List ax:=(jf s c s.length).1++[s.drop (jf s c s.length).2]
def JK (s:ax)(c:Nat): ∀i,(jf s c i).2<=i/\(jf s c i).1.length <=i
 |0=>⟨dE _,dE _⟩
 |i+1=>by
  obtain⟨h1,h2⟩:=JK s c i;unfold jf
  grind
def bg (l:List ax)(x:ax):Int:=if x∈l then(l.idxOf x:Int)else -1
theorem fq {l:List ax}{x:ax}(h:x∉l):bg l x= -1:=by unfold bg;rw[if_neg h]
def Tz {l:List ax}{x:ax}{i:Nat}(h:i<l.length)(e:l[i]=x)(dp:x∉l.take i):bg l x=i:=by
 have hm:x∈l:=by rw[<- e];exact qd h
 unfold bg;rw[if_pos hm]
 have:l.idxOf x=i:=by
  have hs:l=l.take i++x::l.drop (i+1):=by rw[<- e,List.getElem_cons_drop h,LB]
  rw[hs,List.idxOf_append,if_neg dp,List.idxOf_cons_self];simp;omega
 rw[this]
def Zu: ∀(l:ax) (acc:Nat),(∀b∈l,dt b)->fH acc l<1000000000000000000->parseUint10 acc l= .ok (fH acc l)
 | [],_,_,_=>rfl
 |c::r,acc,h,hl=>by
  have hc:=h c (jx ..);have h1:10*acc+(c.toNat -48)<=fH (10*acc+(c.toNat -48)) r:=Al;have h2:fH (10*acc+(c.toNat -48)) r<1000000000000000000:=hl;have ih:=Zu r (10*acc+(c.toNat -48)) (λb hb=>h b (ji _ hb)) h2;unfold dt at hc;show(if 48<=c.toNat/\c.toNat<=57 then if 1844674407370955162<=acc then _ else if 18446744073709551616<=acc*10+(c.toNat -48)then _ else parseUint10 (acc*10+(c.toNat -48)) r else _)=_;rw[if_pos hc,if_neg K0,if_neg K0,Nat.mul_comm acc 10,ih];rfl
def Zv {l:ax}(h0:l≠[])(h: ∀b∈l,dt b)(hl:l.length<=18):parseMag l= .ok (fH 0 l):=by
 unfold parseMag;rw[if_neg h0];exact Zu l 0 h (by have:=oM h hl;omega)
def b45 {c:UInt8}(h:c.toNat=45):c=45:=G7.1 h
theorem MO (r:ax):trimPrefix (45::r) [45]=r:=by simp[trimPrefix,hasPrefix]
theorem DS {c:UInt8}(h:c.toNat≠45)(r:ax):trimPrefix (c::r) [45]=c::r:=by
 have: ¬(45:UInt8)=c:=λe=>h (by rw[<- e];rfl)
 grind[trimPrefix,hasPrefix]
def fW {d:Nat}{s:ax}{n:Int}(hd:d<=18)(h:fP d s=some n):atoiAll s= .ok n/\itoa n=s/\(trimPrefix s [45]).length <=d/\ -9223372036854775808<=n/\n<=9223372036854775807:=by
 unfold fP at h;split at h
 ·cases h
 rename_i hb;split at h
 ·rename_i xD
  cases s with
  |nil=>exact absurd (.inl rfl) hb
  |cons c r=>
   by_cases KQ:c.toNat=45
   ·have hc:=b45 KQ;subst hc;have ea:B0 (45::r)=1:=rfl;unfold B4 at hb;rw[ea]at h hb xD;simp only[jP,XZ,xW]at hb xD h;simp only[if_true]at h;have hn:n= -(fH 0 r:Int):=by grind
    cases r with
    |nil=>grind
    |cons b r'=>
     have an1:b.toNat≠48:=by grind
     have bG:(b::r').length <=d:=by omega
     have xH:=xD b (jx ..);have fN:0<fH 0 (b::r'):=aiT;have hsm:=oM xD K0;refine⟨?_,?_,?_,?_⟩
     ·rw[atoiAll_minus,Zv (by simp) xD K0,hn];unfold signed
      grind
     ·unfold itoa;rw[if_pos K0,hn];have:(-(fH 0 (b::r'):Int)).natAbs =fH 0 (b::r'):=by omega
      grind[Zr]
     grind[MO]
     ·omega
   ·have ea:B0 (c::r)=0:=by unfold B0;grind
    unfold B4 at hb;rw[ea]at h hb xD;simp only[jP,xW]at hb xD h;simp only[Nat.zero_ne_one,kK]at h;have hn:n=(fH 0 (c::r):Int):=by grind
    have hc1:=xD c (jx ..);have aoK:c.toNat≠48\/r= []:=by grind
    have bG:(c::r).length <=d:=by grind
    have hsm:=oM xD K0;refine⟨?_,?_,?_,?_⟩
    ·rw[atoiAll_plain c r (by grind[dt]) KQ,Zv (by simp) xD K0,hn];unfold signless
     grind
    ·unfold itoa;rw[if_neg K0,hn];have:((fH 0 (c::r):Nat):Int).toNat =fH 0 (c::r):=by omega
     grind[Zr]
    grind[DS]
    ·omega
 grind
def u5 {d:Nat}{n:Int}(h2:(trimPrefix (itoa n) [45]).length <=d):fP d (itoa n)=some n:=by
 unfold itoa at*;split at h2
 ·rename_i h;rw[MO]at h2;obtain⟨b,r,e,hb⟩:=MM (u:=n.natAbs) K0;have xD:=Tw n.natAbs;have hv:=Tx n.natAbs;rw[if_pos h];have ea:B0 (45::decDigits n.natAbs)=1:=rfl;have jt: ¬B4 d (45::decDigits n.natAbs):=by grind[B4]
  unfold fP
  grind
 ·rename_i h;have xD:=Tw n.toNat;have hv:=Tx n.toNat;rw[if_neg h];have eU:=agE n.toNat
  obtain⟨b,r,e⟩: ∃b r,decDigits n.toNat=b::r:=by
   cases hh:decDigits n.toNat with
   |nil=>grind
   |cons b r=>grind
  have xH:=xD b bv;have KQ:b.toNat≠45:=by grind[dt]
  rw[e,DS KQ,<- e]at h2;have ea:B0 (decDigits n.toNat)=0:=by rw[e];unfold B0;grind
  have jt: ¬B4 d (decDigits n.toNat):=by
   unfold B4;rw[ea];rintro(h1|h1|⟨h1,h3⟩)
   grind
   ·omega
   ·rw[e]at h1 h3;by_cases h0:0<n.toNat
    grind[MM]
    grind[decDigits]
  unfold fP
  grind
def DT (n:Int):Prop:= -9223372036854775808<=n/\n<=9223372036854775807
theorem wU {α:Type}{l:List α}{i:Nat}(h:i<l.length)(d:α):l.take (i+1)=l.take i++[l.getD i d]:=by
 rw[CQ,pj h];exact ajn
def jC {l:List Int}{P:Int->Prop}(hl: ∀n∈l,P n){i:Nat}(h:i<l.length):P (l.getD i 0):=by
 rw[show l.getD i 0=l[i]by simp[jN,h]];exact hl _ (qd h)
def aJ (c:Nat):ax->List ax
 | []=>[[]]
 |b::r=>if b.toNat=c then []::aJ c r else match aJ c r with
  |w::ws=>(b::w)::ws
  | []=>[[b]]
theorem ng (c:Nat): ∀s,aJ c s≠[]
 | []=>by simp[aJ]
 |b::r=>by grind[aJ]
def kv (c:UInt8): ∀s:ax,(indexByte s c= -1/\aJ c.toNat s= [s])\/∃i:Nat,i<s.length/\indexByte s c=i/\aJ c.toNat s=s.take i::aJ c.toNat (s.drop (i+1))
 | []=>.inl ⟨rfl,rfl⟩
 |b::r=>by
  by_cases hb:b=c
  ·subst hb;refine .inr ⟨0,by simp,?_,?_⟩
   ·unfold indexByte;grind
   ·show(if b.toNat=b.toNat then _ else _)=_
    grind
  ·have jW: ¬b.toNat=c.toNat:=λe=>hb (G7.1 e)
   rcases kv c r with⟨h1,h2⟩|⟨i,h1,h2,h3⟩
   ·refine .inl ⟨?_,?_⟩
    ·unfold indexByte;grind
    ·unfold aJ;grind
   ·refine .inr ⟨i+1,by grind,?_,?_⟩
    ·unfold indexByte;grind
    ·show(if b.toNat=c.toNat then _ else match aJ c.toNat r with|w::ws=>(b::w)::ws| []=>[[b]])=_
     grind
def DU (c:UInt8): ∀(n:Nat) (s:ax),s.length<=n->splitK [c] 0 (count s [c]) s=aJ c.toNat s/\(aJ c.toNat s).length =count s [c]+1
 |n,s,hn=>by
  rcases kv c s with⟨h1,h2⟩|⟨i,h1,h2,h3⟩
  ·rw[<- index_one]at h1;rw[count_miss h1,h2];exact⟨rfl,rfl⟩
  ·rw[<- index_one]at h2;rw[count_hit (by simp) h2,h3,Nat.add_comm 1];have hl:(s.drop (i+1)).length <s.length:=by grind
   cases n with
   |zero=>omega
   |succ n=>
    have ih:=DU c n (s.drop (i+1)) K0;simp only[jP,xT,j7];refine⟨?_,by omega⟩;show(if(index s [c]== -1)=true then _ else _)=_
    grind
def uf (s:ax)(c:UInt8):Go.Fw.CM s c=aJ c.toNat s/\(Go.Fw.CM s c).length =countB (Go.Fw.B s) (Go.Fw.B [c])+1:=by
 have e:countB (Go.Fw.B s) (Go.Fw.B [c])=count s [c]:=by grind[Go.Fw.jH]
 have h:=DU c s.length s (dE _)
 grind[Go.Fw.CM]
def yN (c:Nat)(b:UInt8): ∀(t:ax) (ps:List ax) (w:ax),aJ c t=ps++[w]->aJ c (t++[b])=if b.toNat=c then ps++[w]++[[]]else ps++[w++[b]]
 | [],ps,w,h=>by
  have h': [[]]=ps++[w]:=h
  have:ps= []/\w= []:=by
   cases ps with
   |nil=>grind
   |cons p ps=>simp at h'
  obtain⟨rfl,rfl⟩:=this;show(if b.toNat=c then []::[[]]else _)=_
  grind
 |x::t,ps,w,h=>by
  by_cases hx:x.toNat=c
  ·have h1: []::aJ c t=ps++[w]:=by rw[<- h];exact(if_pos hx).symm
   cases ps with
   |nil=>
    grind[ng]
   |cons p ps=>
    have h2:p= []/\aJ c t=ps++[w]:=by grind
    have ih:=yN c b t ps w h2.2;show(if x.toNat=c then []::aJ c (t++[b])else _)=_
    grind
  ·have eU:=ng c t
   cases hs:aJ c t with
   |nil=>grind
   |cons w0 ws=>
    have h1:(x::w0)::ws=ps++[w]:=by
     rw[<- h];show _=(if x.toNat=c then _ else match aJ c t with|w::ws=>(x::w)::ws| []=>[[x]])
     grind
    have go: ∀u us,aJ c (t++[b])=u::us->aJ c (x::t++[b])=(x::u)::us:=by
     intro u us e;show(if x.toNat=c then _ else match aJ c (t++[b])with|w::ws=>(x::w)::ws| []=>[[x]])=_
     grind
    cases ps with
    |nil=>
     have h2:x::w0=w/\ws= []:=by grind
     obtain⟨rfl,rfl⟩:=h2;have ih:=yN c b t [] w0 bv
     grind
    |cons p ps=>
     have h2:x::w0=p/\ws=ps++[w]:=by grind
     obtain⟨rfl,rfl⟩:=h2;have ih:=yN c b t (w0::ps) w bv
     grind
def MP (s:ax)(c:Nat): ∀i,i<=s.length->aJ c (s.take i)=(jf s c i).1++[(s.take i).drop (jf s c i).2]
 |0,_=>by simp[aJ,jf]
 |i+1,h=>by
  have ih:=MP s c i K0;have h2:=(JK s c i).1
  have e:s.take (i+1)=s.take i++[s.getD i 0]:=by
   have:=DR (s:=s) (a:=0) (i:=i) (dD _) K0
   grind
  have hs:=yN c (s.getD i 0) (s.take i) _ _ ih;rw[e,hs];show _=(if(s.getD i 0).toNat =c then((jf s c i).1++[(s.take i).drop (jf s c i).2],i+1)else jf s c i).1++[(s.take i++[s.getD i 0]).drop (if(s.getD i 0).toNat =c then((jf s c i).1++[(s.take i).drop (jf s c i).2],i+1)else jf s c i).2]
  grind
theorem iR (s:ax)(c:Nat):agG s c=aJ c s:=by
 have:=MP s c s.length (dE _);rw[mA]at this;exact this.symm
theorem cj (c:Nat): ∀s:ax,(aJ c s).length <=s.length+1/\∀w∈aJ c s,w.length<=s.length
 | []=>by simp[aJ]
 |b::r=>by
  have ih:=cj c r
  grind[aJ]
end Go.Plain
namespace Go.Fw
open Go.RowKit (Below)
open Go.Shelf Go.Plain
structure anC where
 split:Nat
 splitN:Nat
 cut:Nat
 atoi:Nat
 itoa:Nat
 trim:Nat
def anD (l:List (List UInt8)):lO:=.own 1 (.view (ab l))
end Go.Fw
namespace Go.Proofs.Tryz
open Go.Fw
namespace Ty
abbrev i0:ZC:=.lit (.int .i64 0)
abbrev b0:ZC:=.lit (.bool false)
abbrev s0:ZC:=.lit (.string (ByteArray.mk #[]))
abbrev w0:ZC:=.lit (.int .u64 0)
abbrev y0:ZC:=.lit (.int .u8 0)
abbrev v0:ZC:=.lit (.int .u32 0)
abbrev z0:ZC:=.lit .nilFunc
abbrev p0:ZC:=.lit (.pointer none)
abbrev n0:ZC:=.lit .nilIface
abbrev F:=false
abbrev eI:A4:=.int .i64
abbrev eY:A4:=.int .u8
abbrev eW:A4:=.int .u64
abbrev tF:TI:=⟨.func,1,8,[z0],[F],none⟩
abbrev tI:TI:=⟨eI,1,8,[i0],[F],some [eI]⟩
abbrev tB:TI:=⟨.bool,1,1,[b0],[F],some [.bool]⟩
abbrev tS:TI:=⟨.str,1,16,[s0],[F],some [.str]⟩
abbrev tY:TI:=⟨eY,1,1,[y0],[F],some [eY]⟩
abbrev tW:TI:=⟨eW,1,8,[w0],[F],some [eW]⟩
abbrev tL(n:TypeId)(k:=false):TI:=⟨.slice n,1,24,[.nil],[k],none⟩
abbrev tP(n:TypeId):TI:=⟨.ptr n,1,8,[p0],[F],none⟩
abbrev tN:TI:=⟨.iface,1,16,[n0],[F],none⟩
abbrev u7:TI:=⟨.struct [(0,2),(1,3),(2,4),(3,6)],4,24,[i0,i0,b0,y0],[F,F,F,F],some [eI,eI,.bool,eY]⟩
abbrev u13:TI:=⟨.struct [(0,9),(1,12)],2,24,[s0,w0],[F,F],none⟩
abbrev u18:TI:=⟨.struct [(0,17)],1,8,[p0],[F],none⟩
abbrev u21:TI:=⟨.int .i32,1,4,[.lit (.int .i32 0)],[F],some [.int .i32]⟩
abbrev u26:TI:=⟨.struct [(0,22),(1,23),(2,24),(3,25),(4,3),(5,3)],6,112,[.nil,.nil,.nil,.nil,i0,i0],[F,F,F,F,F,F],none⟩
abbrev u35:TI:=⟨.struct [(0,3),(1,9),(2,9)],3,40,[i0,s0,s0],[F,F,F],some [eI,.str,.str]⟩
abbrev u37:TI:=⟨.struct [(0,3),(1,3),(2,3),(3,4)],4,32,[i0,i0,i0,b0],[F,F,F,F],some [eI,eI,eI,.bool]⟩
abbrev u39:TI:=⟨.struct [(0,38),(4,38),(8,3)],9,72,[i0,i0,i0,b0,i0,i0,i0,b0,i0],[F,F,F,F,F,F,F,F,F],some [eI,eI,eI,.bool,eI,eI,eI,.bool,eI]⟩
abbrev u43:TI:=⟨.struct [(0,9),(1,40),(10,23),(11,41),(12,4),(13,4),(14,4),(15,3),(16,42)],17,176,[s0,i0,i0,i0,b0,i0,i0,i0,b0,i0,.nil,.nil,b0,b0,b0,i0,.nil],(List.replicate 17 false),none⟩
abbrev u51:TI:=⟨.struct [(0,3),(1,3)],2,16,[i0,i0],[F,F],some [eI,eI]⟩
abbrev u53:TI:=⟨.struct [(0,9),(1,3),(2,23),(3,9),(4,52)],6,80,[s0,i0,.nil,s0,i0,i0],[F,F,F,F,F,F],none⟩
abbrev u57:TI:=⟨.struct [(0,4),(1,4),(2,23),(3,9),(4,23),(5,56)],6,96,[b0,b0,.nil,s0,.nil,.nil],[F,F,F,F,F,F],none⟩
abbrev u77:TI:=⟨.struct [(0,3),(1,52),(3,52),(5,52),(7,52)],9,72,[i0,i0,i0,i0,i0,i0,i0,i0,i0],[F,F,F,F,F,F,F,F,F],some [eI,eI,eI,eI,eI,eI,eI,eI,eI]⟩
abbrev u99:TI:=⟨.struct [(0,3),(1,3),(2,3),(3,3),(4,3)],5,40,[i0,i0,i0,i0,i0],[F,F,F,F,F],some [eI,eI,eI,eI,eI]⟩
abbrev als:TI:=⟨.struct [(0,9),(1,3)],2,24,[s0,i0],[F,F],some [.str,eI]⟩
abbrev alt:TI:=⟨.struct [(0,9),(1,23)],2,40,[s0,.nil],[F,F],none⟩
abbrev ac2:TI:=⟨.struct [(0,9),(1,3),(2,3),(3,4)],4,40,[s0,i0,i0,b0],[F,F,F,F],some [.str,eI,eI,.bool]⟩
abbrev alu:TI:=⟨.struct [(0,27),(6,28),(7,58)],13,232,[.nil,.nil,.nil,.nil,i0,i0,.nil,b0,b0,.nil,s0,.nil,.nil],(List.replicate 13 false),none⟩
abbrev alv:TI:=⟨.struct [(0,23),(1,67),(2,9)],3,64,[.nil,.nil,s0],[F,true,F],none⟩
abbrev alw:TI:=⟨.struct [(0,3),(1,3),(2,3),(3,4),(4,149)],5,40,[i0,i0,i0,b0,z0],[F,F,F,F,F],none⟩
abbrev agH:TI:=⟨.struct [(0,159),(2,159)],4,32,[i0,i0,i0,i0],[F,F,F,F],some [eI,eI,eI,eI]⟩
abbrev alx:TI:=⟨.struct [(0,3),(1,161),(5,162)],6,64,[i0,i0,i0,i0,i0,.nil],[F,F,F,F,F,F],none⟩
abbrev ac3:TI:=⟨.struct [(0,3),(1,67)],2,32,[i0,.nil],[F,true],none⟩
abbrev aly:TI:=⟨.struct [(0,9),(1,96)],4,40,[s0,i0,i0,i0],[F,F,F,F],some [.str,eI,eI,eI]⟩
abbrev alz:TI:=⟨.struct [(0,67),(1,3)],2,32,[.nil,i0],[true,F],none⟩
abbrev alA:TI:=⟨.struct [(0,9),(1,3),(2,3),(3,161),(7,308)],8,88,[s0,i0,i0,i0,i0,i0,i0,.nil],[F,F,F,F,F,F,F,F],none⟩
abbrev alB:TI:=⟨.struct [(0,9),(1,9),(2,201)],3,48,[s0,s0,n0],[F,F,F],none⟩
abbrev alC:TI:=⟨.struct [(0,4)],1,1,[b0],[F],some [.bool]⟩
abbrev ac4:TI:=⟨.struct [(0,3),(1,3),(2,3)],3,24,[i0,i0,i0],[F,F,F],some [eI,eI,eI]⟩
abbrev alD:TI:=⟨.struct [(0,5),(1,5)],2,2,[y0,y0],[F,F],some [eY,eY]⟩
abbrev alE:TI:=⟨.struct [(0,9)],1,16,[s0],[F],some [.str]⟩
abbrev alF:TI:=⟨.struct [(0,310)],8,88,[s0,i0,i0,i0,i0,i0,i0,.nil],[F,F,F,F,F,F,F,F],none⟩
abbrev alG:TI:=⟨.struct [(0,394),(4,3),(5,67),(6,67)],7,88,[i0,i0,i0,i0,i0,.nil,.nil],[F,F,F,F,F,true,true],none⟩
abbrev alH:TI:=⟨.struct [(0,423),(2,423)],4,64,[i0,.nil,i0,.nil],[F,true,F,true],none⟩
abbrev alI:TI:=⟨.struct [(0,17),(1,17),(2,17),(3,9)],4,40,[p0,p0,p0,s0],[F,F,F,F],none⟩
abbrev alJ:TI:=⟨.struct [(0,461)],0,0,[],[],none⟩
abbrev alK:TI:=⟨.struct [(0,12),(1,12),(2,345),(3,464),(4,5),(5,5),(6,465),(7,466),(8,370),(9,467),(10,468)],11,48,[w0,w0,v0,y0,y0,y0,y0,z0,p0,.lit (.int .i32 0),.lit (.int .i32 0)],[F,F,F,F,F,F,F,F,F,F,F],none⟩
end Ty
open Ty in
noncomputable def cx:bU:={P:=prog,gl:=[(0,[.lit (.string ⟨#[121]⟩),.lit (.int .i64 1),.lit (.int .i64 (-1)),.lit (.int .i64 0),.lit (.string ⟨#[100]⟩),.lit (.int .i64 1),.lit (.int .i64 0),.lit (.int .i64 0),.lit (.string ⟨#[122]⟩),.lit (.int .i64 1),.lit (.int .i64 (-2)),.lit (.int .i64 1)]),(1,[.num .i64]),(2,[.err]),(3,[.err]),(6,Lib.pow10Tab.map λz=>.lit (.int .u64 z)),(9,[.lit (.int .i64 1),.lit (.int .i64 1),.lit (.int .i64 0),.lit (.int .i64 1)])],deep:=[44],fx:=[227,162,225,154,79,56,157,80,203,252],sx:=[(89,"record.go:493")],mz:=[(151,true),(4,false)],hx:=[51,47,91,68,114,62,89,56,206,87,115,116,117,118,119,120,121,122,123,124,125,126,127,128,129,130,131,132,202,155],ty:=[
(1,tF),
(2,tI),
(3,tI),
(4,tB),
(5,tY),
(6,tY),
(7,u7),
(8,u7),
(9,tS),
(10,tS),
(11,tS),
(12,tW),
(13,u13),
(14,u13),
(15,tP 460),
(16,tP 463),
(17,tP 470),
(18,u18),
(19,u18),
(20,tN),
(21,u21),
(22,tL 103),
(23,tL 9),
(24,tL 54),
(25,tL 106),
(26,u26),
(27,u26),
(28,tL 36),
(29,tF),
(30,tF),
(31,tF),
(32,tF),
(34,tF),
(35,u35),
(36,u35),
(37,u37),
(38,u37),
(39,u39),
(40,u39),
(41,tL 121),
(42,tL 100),
(43,u43),
(44,u43),
(45,tI),
(47,tF),
(48,tF),
(49,tF),
(50,tF),
(51,u51),
(52,u51),
(53,u53),
(54,u53),
(55,tF),
(56,tL 44),
(57,u57),
(58,u57),
(60,tF),
(62,tF),
(63,tF),
(65,tF),
(66,tF),
(67,tL 3 true),
(69,tF),
(71,tF),
(73,tF),
(74,tF),
(75,tF),
(76,tF),
(77,u77),
(78,u77),
(80,tF),
(82,tF),
(83,tF),
(84,tF),
(86,tF),
(87,tF),
(89,tF),
(90,tF),
(91,tF),
(92,tF),
(93,tF),
(95,tF),
(96,⟨.array 3 3,3,24,[i0,i0,i0],[F,F,F],some [eI,eI,eI]⟩),
(98,tF),
(99,u99),
(100,u99),
(101,tF),
(102,als),
(103,als),
(104,tF),
(105,alt),
(106,alt),
(107,tF),
(108,tF),
(109,tL 112),
(110,tF),
(111,ac2),
(112,ac2),
(113,tF),
(114,tP 126),
(115,tP 44),
(117,tF),
(118,tF),
(119,tF),
(120,ac2),
(121,ac2),
(122,tF),
(124,tF),
(125,alu),
(126,alu),
(127,tF),
(128,tF),
(129,tF),
(130,tF),
(131,tF),
(133,tF),
(135,tF),
(136,tF),
(137,tF),
(138,tF),
(140,tF),
(141,tF),
(143,tF),
(145,tF),
(146,alv),
(147,alv),
(149,tF),
(150,alw),
(151,alw),
(152,⟨.map 9 151,1,8,[.lit (.map none)],[F],none⟩),
(153,tF),
(154,tF),
(156,tF),
(157,tF),
(158,u51),
(159,u51),
(160,agH),
(161,agH),
(162,tL 161),
(163,alx),
(164,alx),
(166,tF),
(167,ac3),
(168,ac3),
(170,tF),
(171,tF),
(173,tF),
(175,tF),
(176,tF),
(177,tF),
(178,tF),
(179,tF),
(180,tF),
(181,tF),
(182,tF),
(183,tF),
(184,tI),
(185,tF),
(186,tF),
(187,tF),
(188,tF),
(189,tF),
(190,tL 45 true),
(191,tF),
(192,tF),
(193,tF),
(194,tL 196),
(195,aly),
(196,aly),
(197,⟨.array 3 196,12,120,[s0,i0,i0,i0,s0,i0,i0,i0,s0,i0,i0,i0],[F,F,F,F,F,F,F,F,F,F,F,F],some [.str,eI,eI,eI,.str,eI,eI,eI,.str,eI,eI,eI]⟩),
(198,tF),
(199,tF),
(200,tN),
(201,tN),
(203,tF),
(204,tF),
(205,tF),
(206,tF),
(207,tF),
(209,tF),
(210,tF),
(211,tF),
(212,tF),
(213,tF),
(214,tF),
(215,tF),
(216,tF),
(218,tF),
(219,tF),
(220,tF),
(221,alz),
(222,alz),
(224,tF),
(226,tF),
(227,tF),
(228,tF),
(229,tF),
(230,tF),
(231,tF),
(232,tF),
(233,tF),
(234,tF),
(235,tF),
(236,tF),
(237,⟨.array 5 3,5,40,[i0,i0,i0,i0,i0],[F,F,F,F,F],some [eI,eI,eI,eI,eI]⟩),
(238,tP 184),
(239,tL 5),
(240,tF),
(241,tF),
(242,tF),
(243,tF),
(244,tF),
(245,tF),
(246,tF),
(247,tF),
(248,tF),
(249,tF),
(250,tF),
(251,tF),
(252,tF),
(253,tF),
(254,tF),
(255,⟨.array 9 242,9,72,[z0,z0,z0,z0,z0,z0,z0,z0,z0],[F,F,F,F,F,F,F,F,F],none⟩),
(256,tF),
(257,tF),
(258,tF),
(260,tF),
(262,tF),
(263,tF),
(264,tF),
(265,tF),
(266,tP 58),
(267,tF),
(268,tF),
(270,tF),
(271,tF),
(273,tF),
(274,tF),
(276,tF),
(277,tF),
(278,tF),
(279,tF),
(280,tF),
(281,tF),
(282,tF),
(284,tF),
(286,tF),
(287,tF),
(288,tF),
(289,tF),
(290,tF),
(291,⟨.map 9 4,1,8,[.lit (.map none)],[F],none⟩),
(292,tF),
(293,tF),
(295,tF),
(296,tF),
(297,tI),
(299,tF),
(300,tP 334),
(301,tF),
(302,tF),
(303,tF),
(304,tF),
(305,tF),
(306,tW),
(307,tF),
(308,tL 355),
(309,alA),
(310,alA),
(312,tF),
(314,tF),
(315,tF),
(316,tF),
(317,tF),
(318,tF),
(320,tF),
(321,tF),
(322,tF),
(323,tF),
(324,tF),
(325,tF),
(326,tF),
(327,tF),
(328,tF),
(329,tF),
(330,tW),
(332,tF),
(333,alB),
(334,alB),
(335,tF),
(336,⟨.array 24 5,24,24,(List.replicate 24 y0),(List.replicate 24 false),some (List.replicate 24 eY)⟩),
(337,tF),
(338,tF),
(340,tF),
(341,tF),
(342,tF),
(343,tF),
(344,tF),
(345,⟨.int .u32,1,4,[v0],[F],some [.int .u32]⟩),
(347,tF),
(348,tF),
(349,tP 351),
(350,alC),
(351,alC),
(352,tF),
(353,tF),
(354,ac4),
(355,ac4),
(356,tF),
(357,tF),
(359,tF),
(360,tF),
(361,tF),
(362,u51),
(363,u51),
(364,tF),
(365,⟨.array 256 5,256,256,(List.replicate 256 y0),(List.replicate 256 false),some (List.replicate 256 eY)⟩),
(366,alD),
(367,alD),
(368,⟨.array 16 367,32,32,(List.replicate 32 y0),(List.replicate 32 false),some (List.replicate 32 eY)⟩),
(369,tF),
(370,tP 5),
(371,tP 373),
(372,alE),
(373,alE),
(374,tF),
(375,⟨.array 20 330,20,160,(List.replicate 20 w0),(List.replicate 20 false),some (List.replicate 20 eW)⟩),
(376,⟨.array 65 5,65,65,(List.replicate 65 y0),(List.replicate 65 false),some (List.replicate 65 eY)⟩),
(377,tF),
(379,tF),
(380,tF),
(382,tF),
(384,tF),
(385,tF),
(386,tF),
(387,tF),
(388,tF),
(389,alF),
(390,alF),
(392,tF),
(393,tF),
(394,agH),
(395,alG),
(396,alG),
(398,tF),
(399,tF),
(400,tF),
(401,⟨.array 3 52,6,48,[i0,i0,i0,i0,i0,i0],[F,F,F,F,F,F],some [eI,eI,eI,eI,eI,eI]⟩),
(402,tF),
(403,tF),
(404,tF),
(405,tF),
(406,tF),
(407,tF),
(408,tF),
(409,tF),
(410,tF),
(411,tF),
(412,tF),
(413,tF),
(414,tF),
(415,tF),
(416,tF),
(417,tF),
(418,⟨.array 32 5,32,32,(List.replicate 32 y0),(List.replicate 32 false),some (List.replicate 32 eY)⟩),
(419,⟨.array 64 5,64,64,(List.replicate 64 y0),(List.replicate 64 false),some (List.replicate 64 eY)⟩),
(420,tF),
(421,tF),
(422,ac3),
(423,ac3),
(424,alH),
(425,alH),
(426,tF),
(427,tF),
(428,tF),
(429,tF),
(430,tL 52),
(431,tF),
(432,tI),
(434,tF),
(435,tF),
(436,tF),
(437,tF),
(438,tF),
(439,tF),
(440,tF),
(441,tF),
(442,tF),
(443,tF),
(444,tW),
(445,tF),
(446,tF),
(447,tF),
(448,tP 3),
(449,tF),
(450,tF),
(451,tF),
(452,tF),
(453,tF),
(454,tP 444),
(455,tF),
(456,tF),
(457,tF),
(458,tF),
(459,alI),
(460,alI),
(461,⟨.array 0 16,0,0,[],[],none⟩),
(462,alJ),
(463,alJ),
(464,tY),
(465,tY),
(466,tF),
(467,u21),
(468,u21),
(469,alK),
(470,alK),
(471,tF),
(473,ac4),
(474,ac4)]}
def lJ:cx.Ok:=⟨by kernel_rfl,by kernel_rfl,by kernel_rfl⟩
def sF {f:FuncId}{c:Code}{args:List SV}{r:lO}(fn:Func)(h:m8 cx c (entry args) (λS=>acI cx fn S λr'=>r'=r) (λ_ _=>False) (λS=>acI cx fn S λr'=>r'=r))
  (h1:iN cx.P f=true:=by kernel_rfl)(h2:cx.P.funcs[f]? =some fn:=by kernel_rfl)(h3:fn.body=some c:=by rfl)(h4:bS fn.ntmps c=true:=by kernel_rfl)(h5:args.length<=fn.ntmps:=by exact fO rfl):nY cx.P cx.gl f args r:=
 P3 lJ h1 h2 h3 h4 h5 h
abbrev ac:=nY cx.P cx.gl
open Go.IntWalk Go.Plain
def ac5:(1,[SC.num .i64])∈cx.gl:=jI (i:=1) cT
def rK (s:List UInt8)(c:UInt8)(hl:s.length<=1000000):ac 57 [SS s,SS [c]] (anD (aJ c.toNat s)):=by
 have h:=uf s c;rw[<- h.1];exact HN Se cT cT ac5 s c hl h.2
end Go.Proofs.Tryz
namespace Go.Plain
open Go.Lib
def wN (sg:Bool)(d:Nat)(s:ax):Option Int:=match fP d s with
 |some n=>if sg=true\/0<=n then some n else none
 |none=>none
def yO {d:Nat}{s:ax}{n:Int}(h:fP d s=some n):0<s.length:=by
 unfold fP at h;split at h
 grind
 ·rename_i hb
  cases s with
  |nil=>exact absurd (.inl rfl) hb
  |cons c r=>simp
def qw {d:Nat}{s:ax}{n:Int}(h:fP d s=some n):(s.getD 0 0).toNat =45↔¬0<=n:=by
 unfold fP at h;split at h
 ·cases h
 rename_i hb;split at h
 ·rename_i xD;by_cases KQ:(s.getD 0 0).toNat =45
  ·have ea:B0 s=1:=by unfold B0;grind
   rw[ea]at h xD;unfold B4 at hb;rw[ea]at hb;rw[if_pos rfl]at h;have hn:n= -(fH 0 (s.drop 1):Int):=by grind
   refine⟨λ_=>?_,λ_=>KQ⟩
   match s,hb,xD,KQ,hn with
   | [],hb,_,KQ,_=>simp_all
   | [c],hb,_,_,_=>grind
   |c::b::r',hb,xD,_,hn=>
    have an1:b.toNat≠48:=λe=>hb (.inr (.inr ⟨e,by simp⟩));have xH:=xD b (by simp);have fN:0<fH 0 (b::r'):=aiT
    grind
  ·exact akB
 grind
def Qd {d:Nat}{s:ax}{n:Int}(h:fP d s=some n): ∀b∈s,b.toNat=45\/dt b:=by
 unfold fP at h;split at h
 grind
 split at h
 ·rename_i xD;intro b hb;by_cases KQ:(s.getD 0 0).toNat =45
  ·have ea:B0 s=1:=by unfold B0;grind
   rw[ea]at xD
   cases s with
   |nil=>grind
   |cons c r=>
    grind
  ·exact akB
 grind
def iH {sg:Bool}{d:Nat}{s:ax}{n:Int}(h:wN sg d s=some n):fP d s=some n/\(sg=true\/0<=n):=by grind[wN]
def Qe {d:Nat}{s:ax}{n:Int}(h:fP d s=some n):wN false d s=if(s.getD 0 0).toNat =45 then none else some n:=by
 unfold wN;rw[h];have:=qw h
 grind
def TA {sg:Bool}{d:Nat}{s:ax}(h:fP d s=none):wN sg d s=none:=by grind[wN]
def Cp (d:Nat)(s:ax):wN true d s=fP d s:=by grind[wN]
def DW {sg:Bool}{d:Nat}{s:ax}{n:Int}(h:wN sg d s=some n): ∀b∈s,b.toNat=45\/dt b:=Qd (iH h).1
theorem u6 (s:ax)(c:UInt8):(cut s [c]=(s,[],false)/\aJ c.toNat s= [s])\/∃a b,cut s [c]=(a,b,true)/\aJ c.toNat s=a::aJ c.toNat b/\a.length<=s.length/\b.length<=s.length:=by
 rcases kv c s with⟨h1,h2⟩|⟨i,h1,h2,h3⟩
 ·rw[<- index_one]at h1;refine .inl ⟨?_,h2⟩;unfold cut;grind
 ·rw[<- index_one]at h2;refine .inr ⟨s.take i,s.drop (i+1),?_,h3,by grind,by simp⟩;unfold cut;grind
def DY {α β:Type}(f:ax->Option α)(g:ax->Option β):List ax->Option (α × β)
 | [a,b]=>(f a).bind λx=>(g b).map λy=>(x,y)
 |_=>none
def DZ {α β:Type}(c:UInt8)(f:ax->Option α)(g:ax->Option β)(s:ax):Option (α × β):=DY f g (aJ c.toNat s)
def u9 (s:ax):Option (Int × Int):=DZ 47 (wN false 4) (wN false 4) s
def Br (s:ax):Option (Int × Int × Int × Int):=(DZ 32 u9 u9 s).map λp=>(p.1.1,p.1.2,p.2.1,p.2.2)
def JL {c:Nat}: ∀ {s:ax} {b:UInt8},b∈s->b.toNat≠c->∃w∈aJ c s,b∈w
 |x::r,b,hb,hc=>by
  unfold aJ;by_cases hx:x.toNat=c
  ·rw[if_pos hx];rcases dl.1 hb with rfl|hb
   grind
   ·obtain⟨w,h1,h2⟩:=JL hb hc
    grind
  ·rw[if_neg hx]
   cases hs:aJ c r with
   |nil=>grind[ng]
   |cons w ws=>
    show ∃w'∈(x::w)::ws,b∈w';rcases dl.1 hb with rfl|hb;simp_all
    ·obtain⟨w',h1,h2⟩:=JL hb hc
     grind
def TB {c:Nat}: ∀ {s:ax},(∀b∈s,b.toNat≠c)->aJ c s= [s]
 | [],_=>rfl
 |x::r,h=>by
  unfold aJ;rw[if_neg (h x (by simp)),TB λb hb=>h b bv]
def ac6 {c:Nat}{s:ax}{b:UInt8}(hb:b∈s)(hc:b.toNat=c): ∃x y r,aJ c s=x::y::r:=by
 induction s with
 |nil=>grind
 |cons x s ih=>
  unfold aJ;by_cases hx:x.toNat=c
  ·rw[if_pos hx]
   cases hs:aJ c s with
   |nil=>grind[ng]
   |cons w ws=>grind
  grind
def yP {α β:Type}{c:UInt8}{f:ax->Option α}{g:ax->Option β}{s:ax}(h:aJ c.toNat s= [s]):DZ c f g s=none:=by unfold DZ;rw[h];rfl
def yQ {α β:Type}{c:UInt8}{f:ax->Option α}{g:ax->Option β}(hg: ∀s,(∃y∈s,y=c)->g s=none){s a b:ax}(h:aJ c.toNat s=a::aJ c.toNat b):
  DZ c f g s=(f a).bind λx=>(g b).map λy=>(x,y):=by
 unfold DZ;rw[h];by_cases hb: ∃y∈b,y=c
 ·obtain⟨y,hy,e⟩:=hb;obtain⟨p,q,r,e2⟩:=ac6 hy (aQ UInt8.toNat e);rw[e2,hg b ⟨y,hy,e⟩];cases f a<;>rfl
 ·rw[TB λy hy e=>hb ⟨y,hy,G7.1 e⟩];rfl
def oQ {α β:Type}{p:Option α}{q:Option β}:((p.bind λx=>q.map λy=>(x,y)).isSome =(p.isSome&&q.isSome))/\∀z,(p.bind λx=>q.map λy=>(x,y))=some z->p=some z.1/\q=some z.2:=by
 cases p<;>cases q<;>refine⟨rfl,?_⟩<;>rintro⟨z1,z2⟩ h<;>simp at h
 grind
def JM {s:ax}{c:UInt8}(h:c=47\/c=32\/c=59)(hs: ∃y∈s,y=c):wN false 4 s=none:=by
 obtain⟨y,hy,rfl⟩:=hs
 cases hw:wN false 4 s with
 |none=>rfl
 |some n=>
  have:=DW hw y hy;unfold dt at this;exfalso;rcases h with rfl|rfl|rfl<;>revert this<;>decide
def alL {s:ax}(hs: ∃y∈s,y=(32:UInt8)):u9 s=none:=by
 obtain⟨y,hy,rfl⟩:=hs;obtain⟨w,hw,h2⟩:=JL (c:=47) hy K9;unfold u9 DZ;rw[show(47:UInt8).toNat =47 from rfl];generalize aJ 47 s=l at*
 match l,hw with
 | [],hw=>rfl
 | [a],hw=>rfl
 | [a,b],hw=>
  have hn:=JM (s:=w) (c:=32) (.inr (.inl rfl)) ⟨32,h2,rfl⟩;simp only[dl,nE,nF]at hw;rcases hw with rfl|rfl
  ·show(wN false 4 w).bind _=none
   grind
  ·show(wN false 4 a).bind (λx=>(wN false 4 w).map λy=>(x,y))=none;simp_all
 |a::b::c::r,hw=>rfl
def fQ {α:Type}(f:ax->Option α):List ax->Option (List α)
 | []=>some []
 |s::r=>match f s,fQ f r with
  |some n,some t=>some (n::t)
  |_,_=>none
variable {α:Type}{f:ax->Option α}
theorem yR (a b:List ax):fQ f (a++b)=match fQ f a,fQ f b with
  |some x,some y=>some (x++y)
  |_,_=>none:=by
 induction a with
 |nil=>show fQ f b=_;cases fQ f b<;>rfl
 |cons s a ih=>
  grind[fQ]
theorem D0 (s:ax):fQ f [s]=(f s).map λn=>[n]:=by
 show(match f s,some []with|some n,some t=>some (n::t)|_,_=>none)=_;cases f s<;>rfl
theorem vc {l:List ax}{i:Nat}(h:i<l.length){xs:List α}(hx:fQ f (l.take i)=some xs){n:α}(hn:f (l.getD i [])=some n):fQ f (l.take (i+1))=some (xs++[n]):=by grind[wU,yR,D0]
theorem ug {l:List ax}{i:Nat}(h:i<l.length)(hn:f (l.getD i [])=none):fQ f l=none:=by
 have hs:l=l.take i++([l.getD i []]++l.drop (i+1)):=by simp_all
 grind[yR,fQ]
theorem yS: ∀ {l:List ax} {xs:List α},fQ f l=some xs->xs.length=l.length
 | [],xs,h=>by grind[fQ]
 |s::r,xs,h=>by
  unfold fQ at h;split at h
  ·rename_i n t h1 h2;have:xs=n::t:=by grind
   rw[this,jP,jP,yS h2]
  grind
end Go.Plain
namespace Go.Plain
open Go.Lib
def cF:List ax->Option (Int × List Int)
 | []=>some (0,[])
 |w::r=>match wN false 7 w,fQ (fP 7) r with
  |some a,some b=>some (a,b)
  |_,_=>none
def Bs (w:ax)(r:List ax):cF (w::r)=(wN false 7 w).bind λa=>(fQ (fP 7) r).map λb=>(a,b):=by
 show(match wN false 7 w,fQ (fP 7) r with|some a,some b=>some (a,b)|_,_=>none)=_;cases wN false 7 w<;>cases fQ (fP 7) r<;>rfl
def Qf {ws:List ax}{st:Int}{l:List Int}(h:cF ws=some (st,l)):l.length<=ws.length:=by
 unfold cF at h
 grind[yS]
def Bt {ws:List ax}(h:0<ws.length){n:Int}(hn:wN false 7 (ws.getD 0 [])=some n):cF (ws.take 1)=some (n,[]):=by
 cases ws with
 |nil=>grind
 |cons w r=>
  have Lh:wN false 7 w=some n:=hn;show cF [w]=_;rw[Bs,Lh];rfl
def Bu {ws:List ax}{i:Nat}(h0:0<i)(h:i<ws.length){st:Int}{l:List Int}(hx:cF (ws.take i)=some (st,l)){n:Int}(hn:fP 7 (ws.getD i [])=some n):cF (ws.take (i+1))=some (st,l++[n]):=by
 cases ws with
 |nil=>grind
 |cons w r=>
  obtain⟨j,rfl⟩: ∃j,i=j+1:=⟨i -1,by omega⟩;have h':j<r.length:=by grind
  have AW:(match wN false 7 w,fQ (fP 7) (r.take j)with|some a,some b=>some (a,b)|_,_=>none)=some (st,l):=hx;have Lh:fP 7 (r.getD j [])=some n:=by grind
  show(match wN false 7 w,fQ (fP 7) (r.take (j+1))with|some a,some b=>some (a,b)|_,_=>none)=_
  grind[vc]
def D1 {ws:List ax}{i:Nat}(h:i<ws.length)(hn:(if i=0 then wN false 7 (ws.getD i [])else fP 7 (ws.getD i []))=none):cF ws=none:=by
 cases ws with
 |nil=>grind
 |cons w r=>
  rw[Bs];by_cases h0:i=0
  grind
  ·obtain⟨j,rfl⟩: ∃j,i=j+1:=⟨i -1,by omega⟩;rw[if_neg h0]at hn
   grind[ug,wN]
abbrev MQ:Type:=Int × Int × Int × Int
def eF (ws:List ax):Option (Int × MQ × List MQ):=match wN false 4 (ws.getD 0 []),fQ Br (ws.drop 1)with
 |some e,some (q::ch)=>some (e,q,ch)
 |_,_=>none
def HP {ws:List ax}(h:wN false 4 (ws.getD 0 [])=none):eF ws=none:=by grind[eF]
def D2 {ws:List ax}(h:fQ Br (ws.drop 1)=none):eF ws=none:=by grind[eF]
def D3 {ws:List ax}(h:fQ Br (ws.drop 1)=some []):eF ws=none:=by grind[eF]
def Bv {ws:List ax}{e:Int}{q:MQ}{ch:List MQ}(h1:wN false 4 (ws.getD 0 [])=some e)(h2:fQ Br (ws.drop 1)=some (q::ch)):eF ws=some (e,q,ch):=by grind[eF]
def HQ {sg:Bool}{d:Nat}{s:ax}{n:Int}(hd:d<=18)(h:wN sg d s=some n):DT n:=by
 obtain⟨_,_,_,h4⟩:=fW hd (iH h).1;exact h4
theorem Am {α β:Type}{c:UInt8}{f:ax->Option α}{g:ax->Option β}{s:ax}{z:α × β}(h:DZ c f g s=some z):(∃a,f a=some z.1)/\∃b,g b=some z.2:=by
 unfold DZ at h;generalize aJ c.toNat s=l at*
 match l,h with
 | [a,b],h=>
  obtain⟨h1,h2⟩:=oQ.2 z h
  grind
theorem agI {s:ax}{p:Int × Int}(h:u9 s=some p):DT p.1/\DT p.2:=by
 obtain⟨⟨a,h1⟩,b,h2⟩:=Am h;exact⟨HQ K9 h1,HQ K9 h2⟩
def Qg {s:ax}{q:MQ}(h:Br s=some q):DT q.1/\DT q.2.1/\DT q.2.2.1/\DT q.2.2.2:=by
 obtain⟨z,hz,rfl⟩:=mZ.1 h
 grind[Am,agI]
def yU {α:Type}{f:ax->Option α}{P:α->Prop}(hP: ∀s x,f s=some x->P x): ∀ {l:List ax} {xs:List α},fQ f l=some xs->∀x∈xs,P x
 | [],xs,h=>by grind[fQ]
 |s::r,xs,h=>by
  unfold fQ at h;split at h
  ·rename_i n t h1 h2;have:xs=n::t:=by grind
   subst this;intro x hx;rcases dl.1 hx with rfl|hx
   grind
   ·exact yU hP h2 x hx
  grind
def frS (a b:Int):ax:=itoa a++[47]++itoa b
def JN (q:MQ):ax:=frS q.1 q.2.1++[32]++frS q.2.2.1 q.2.2.2
theorem Zw (s:ax):(trimPrefix s [45]).length <=s.length:=by grind[trimPrefix]
def q4 (q:MQ):Prop:=(0<=q.1/\q.1<=9999)/\(0<=q.2.1/\q.2.1<=9999)/\(0<=q.2.2.1/\q.2.2.1<=9999)/\0<=q.2.2.2/\q.2.2.2<=9999
abbrev aj:=List UInt8
def okc (j:Nat)(c:UInt8):Prop:=((97<=c.toNat/\c.toNat<=122)\/(65<=c.toNat/\c.toNat<=90))\/(j≠0/\(c.toNat=45\/(48<=c.toNat/\c.toNat<=57)))
def Qh (s:aj)(i:Nat):Prop:=∀j<i,okc j (s.getD j 0)
def jK (s:aj):Prop:=(1<=s.length/\s.length<=12)/\Qh s s.length
instance (s:aj):Decidable (jK s):=by unfold jK Qh okc;infer_instance
def An {s:aj}{i:Nat}(h:Qh s i)(k:okc i (s.getD i 0)):Qh s (i+1):=λj hj=>by
 by_cases e:j=i
 grind
 ·exact h j K0
def Qi {s:aj}{i:Nat}(h:i<s.length)(k: ¬okc i (s.getD i 0)): ¬jK s:=λn=>k (n.2 i h)
def VE (f:Nat->Int):Nat->Nat->Int × Int
 |0,_=>(0,0)
 |n+1,i=>if f i≠0 then((i:Int),f i)else VE f n (i+1)
def cR (f:Nat->Int)(n:Nat):Int × Int:=VE f n 0
def TC {f:Nat->Int}: ∀ {n i k:Nat},i<=k->k<i+n->(∀j,i<=j->j<k->f j=0)->f k≠0->VE f n i=((k:Int),f k)
 |0,i,k,h1,h2,_,_=>by omega
 |n+1,i,k,h1,h2,h3,h4=>by
  unfold VE;by_cases e:i=k
  grind
  ·rw[if_neg bv];exact TC K0 K0 (λj h5 h6=>h3 j K0 h6) h4
def TD {f:Nat->Int}: ∀ {n i:Nat},(∀j,i<=j->j<i+n->f j=0)->VE f n i=(0,0)
 |0,_,_=>rfl
 |n+1,i,h=>by
  unfold VE;rw[if_neg bv];exact TD λj h1 h2=>h j K0 K0
theorem fI {f:Nat->Int}{n k:Nat}(h:k<n)(h0: ∀j<k,f j=0)(h1:f k≠0):cR f n=((k:Int),f k):=TC (dD _) K0 (λj _ hj=>h0 j hj) h1
theorem gT {f:Nat->Int}{n:Nat}(h: ∀j<n,f j=0):cR f n=(0,0):=TD λj _ hj=>h j K0
def all_succ {f:Nat->Int}{i:Nat}(h: ∀j<i,f j=0)(k:f i=0): ∀j<i+1,f j=0:=λj hj=>by grind
def uh (f:Nat->Int): ∀n:Nat,(∀j<n,f j=0)\/∃k,k<n/\(∀j<k,f j=0)/\f k≠0
 |0=>.inl λj hj=>by omega
 |n+1=>by
  rcases uh f n with h|⟨k,h1,h2,h3⟩
  grind
  grind
theorem oR {f:Nat->Int}{n:Nat}(h:(cR f n).2=0): ∀j<n,f j=0:=by
 rcases uh f n with h'|⟨k,h1,h2,h3⟩;omega
 ·rw[fI h1 h2 h3]at h;omega
def ju (a b:Int):Int:=if a≠0 then a else b
theorem jn (b:Int):ju 0 b=b:=by grind[ju]
theorem eS {a:Int}(h:a≠0)(b:Int):ju a b=a:=if_pos h
def wt {a b:Int}:ju a b=0↔a=0/\b=0:=by
 unfold ju
 grind
def o8 (a b:Int × Int):Int × Int:=if a.2≠0 then a else b
noncomputable def jG (s:aj):Int:=if jK s then 0 else 4
noncomputable def gW (l:List aj)(i:Nat):Int:=ju (jG (l.getD i [])) (if l.getD i []∈l.take i then 5 else 0)
def D4 (l all:List aj)(k:Nat):Int:=if l.getD k []∈all then(if l.getD k []∈l.take k then 23 else 0)else 6
def jT (l all:List aj):Int:=(cR (D4 l all) l.length).2
structure Ts where
 name:aj
 kind:Int
 bz:List aj
 rules:aj
 lo:Int
 hi:Int
structure Pl where
 ae:List (aj × Int)
 ap:List aj
 aa:List Ts
 parts:List (aj × List aj)
 dZ:Int
 eK:Int
def dz:Ts:=⟨[],0,[],[],0,0⟩
def Pl.ay (p:Pl):List aj:=p.ae.map Prod.fst
def Pl.bf (p:Pl):List aj:=p.parts.map Prod.fst
def sw (k:Int):Prop:=k=1\/k=2
instance (k:Int):Decidable (sw k):=by unfold sw;infer_instance
def cS (l:List Ts):List aj:=l.map Ts.name
def Zx (lo hi:Int):Int:=if((-1000000000000000<=lo/\lo<=1000000000000000)/\ -1000000000000000<=hi/\hi<=1000000000000000)then(if lo<=hi then 0 else 9)else 2
def Qj (l:List Ts)(t:Ts):Int:=if t.kind=2 then(if t.bz.length=0 then 10 else if(l.getD (bg (cS l) (t.bz.getD 0 [])).toNat dz).kind =1 then 0 else 3)else 0
def VF (re:aj->Int)(l:List Ts)(i:Nat):Int:=
 let t:=l.getD i dz
 ju (if 0<=t.kind/\t.kind<=3 then 0 else 15) (ju (jT t.bz ((cS l).take i)) (ju (Qj l t) (ju (if sw t.kind then re t.rules else if t.rules= []then 0 else 7) (Zx t.lo t.hi))))
noncomputable def Pl.dx (p:Pl)(i:Nat):Int:=ju (gW p.ay i) (if 0<=(p.ae.getD i ([],0)).2/\(p.ae.getD i ([],0)).2<=3 then 0 else 15)
noncomputable def Pl.gE (re:aj->Int)(p:Pl)(i:Nat):Int:=ju (gW (cS p.aa) i) (VF re p.aa i)
noncomputable def Pl.jh (p:Pl)(i:Nat):Int:=ju (gW p.bf i) (jT (p.parts.getD i ([],[])).2 (cS p.aa))
def pR (n ahw:Nat):Int:=if 0<n then(if n<=ahw then 0 else 8)else 10
def kw (n ahw:Nat):Int:=if n<=ahw then 0 else 8
noncomputable def Pl.err (re:aj->Int)(p:Pl):Int × Int:=
 o8 (0,pR p.ae.length 8) (o8 (cR p.dx p.ae.length) (o8 (0,pR p.ap.length 4) (o8 (cR (gW p.ap) p.ap.length)
  (o8 (0,kw p.aa.length 8) (o8 (cR (p.gE re) p.aa.length) (o8 (0,kw p.parts.length 6) (o8 (cR p.jh p.parts.length)
   (0,if(0<=p.dZ/\p.dZ<=1000)/\0<=p.eK/\p.eK<=1000000000000 then 0 else 2))))))))
def HR (voids:List aj)(out:List aj)(t:Ts):List aj:=if t.name∈voids\/∃n∈t.bz,n∈out then out++[t.name]else out
def jo (l:List Ts)(voids:List aj):List aj:=l.foldl (HR voids) []
def Bw {l:List Ts}{voids:List aj}{i:Nat}(h:i<l.length):jo (l.take (i+1)) voids=HR voids (jo (l.take i) voids) (l.getD i dz):=by grind[jo,List.take_add_one]
def rL (l:List Ts)(voids:List aj):(jo l voids).length <=l.length:=by
 have: ∀(l:List Ts) (out:List aj),(l.foldl (HR voids) out).length <=out.length+l.length:=by
  intro l
  induction l with
  |nil=>grind
  |cons t l ih=>
   grind[HR]
 have h:=this l [];simp only[xT,j7]at h;exact h
def getD_at {α:Type}{l:List α}{i:Nat}{d:α}(h:i<l.length):l.getD i d=l[i]:=by grind
def iS {l:List aj}{i:Nat}{x:aj}(h:i<l.length):x∈l.take (i+1)↔x∈l.take i\/x=l.getD i []:=by grind[List.take_add_one]
def rM {l:List Ts}{i:Nat}(h:i<l.length):(cS l).getD i []=(l.getD i dz).name :=by grind[cS]
def Zy (l:List Ts)(i:Nat):cS (l.take i)=(cS l).take i:=by simp[cS,LR]
end Go.Plain
namespace Go.Proofs.Tryz
open Go.Fw Go.IntWalk
abbrev I (n:Int):SV:=(false,[.lit (.int .i64 n)])
abbrev Bo (b:Bool):SV:=(false,[.lit (.bool b)])
abbrev vI (n:Int):Option DV:=some (.val (false,[.st (.lit (.int .i64 n))]))
abbrev J (n:Int):SC:=.lit (.int .i64 n)
abbrev F2 (a b:Int):SV:=(true,[J a,J b])
def VG {l:List Int}{i:Nat}(h:i<l.length):(SC.ints l).elem (i:Int).toNat =some [J l[i]]:=by simp[SC.elem,h]
def wu {a b:Int}(h:a=b):lO.one (I a)= .one (I b):=by rw[h]
def kW {a b:Bool}(h:a=b):lO.one (Bo a)= .one (Bo b):=by rw[h]
def Zz {a b c d:Int}(h:a=c)(h':b=d):lO.one (F2 a b)= .one (F2 c d):=by rw[h,h']
def TE (n:Int):Prop:= -9223372036854775807<=n/\n<=9223372036854775807
def p9 (n:Int):Prop:= -9223372036854775808<=n/\n<=9223372036854775807
def TE.i {n:Int}(h:TE n):p9 n:=⟨by have:=h.1;omega,h.2⟩
def TE.ne {n:Int}(h:TE n):n≠ -9223372036854775808:=by have:=h.1;omega
def ep (n lo hi:Int):ac 50 [I n,I lo,I hi] (.one (Bo (decide (lo<=n)&&decide (n<=hi)))):=by
 refine sF f50 ?_;repeat(first|refine oP rfl ?_|(refine rG (λ_ h=>h) ?_;conv=>whnf)|(refine oN ?_;conv=>whnf)|refine aS ?_|(refine aR ?_;conv=>whnf))
 refine Jj rfl rfl rfl (λh=>?_) (λh=>?_)<;>(try conv=>whnf)<;>(repeat(first|refine oP rfl ?_|(refine rG (λ_ h=>h) ?_;conv=>whnf)|(refine oN ?_;conv=>whnf)|(refine aT ?_;conv=>whnf)|refine oY rfl rfl rfl ?_|(refine oZ rfl rfl rfl ?_;conv=>whnf)))
 ·simp[h,Bo]
 ·simp[h,Bo]
def ZA (n:Int)(h0: -9223372036854775807<=n)(h1:n<=9223372036854775807):ac 328 [I n] (.one (I n.natAbs)):=by
 refine sF f328 ?_;repeat(first|refine oP rfl ?_|(refine rG (λ_ h=>h) ?_;conv=>whnf)|(refine oN ?_;conv=>whnf)|refine aS ?_|(refine aR ?_;conv=>whnf)|(refine aT ?_;conv=>whnf))
 have e:IntKind.i64.wrap (0 -n)= -n:=by rw[i64_in _ K0];omega
 show lO.one (false,[SC.lit (Value.int .i64 (if IntKind.i64.wrap (0 -n)>n then IntKind.i64.wrap (0 -n)else n))])=_;rw[e];have:(if -n>n then -n else n)=n.natAbs:=by split<;>omega
 rw[this]
def JO (a b:Int)(ha:p9 a)(hb:TE b)(Sb:a= -9223372036854775808->b≠0):ac 295 [I a,I b] (.one (I (Int.gcd a b))):=by
 refine sF f295 ?_;repeat(first|refine oP rfl ?_|(refine rG (λ_ h=>h) ?_;conv=>whnf)|(refine oN ?_;conv=>whnf)|refine aS ?_|(refine aR ?_;conv=>whnf)|refine aB ?_|refine aL ?_)
 refine af (ι:=Int × Int) (λp=>Int.gcd p.1 p.2=Int.gcd a b/\p9 p.1/\TE p.2/\(p.1= -9223372036854775808->p.2≠0)) (λp=>p.2.natAbs) (λp=>⟨[(0,vI p.1),(1,vI p.2)],[],0⟩) (a,b)
  (fB (ks:=[0,1]) (m:=[]) (n:=0) rfl) ⟨rfl,ha,hb,Sb⟩ ?_
 rintro⟨x,y⟩ ⟨hg,hx,hy,hxy⟩;simp only at hg hx hy hxy;repeat(first|refine oP rfl ?_|(refine rG (λ_ h=>h) ?_;conv=>whnf)|(refine oN ?_;conv=>whnf)|refine aS ?_|(refine aR ?_;conv=>whnf)|refine aC rfl ?_)
 (refine oH (λh=>?_) (λh=>?_))<;>(try conv=>whnf)<;>(repeat(first|refine oP rfl ?_|(refine rG (λ_ h=>h) ?_;conv=>whnf)|refine aS ?_|(refine aR ?_;conv=>whnf)|(refine aK ?_;conv=>whnf)|(refine aX ?_;conv=>whnf)|refine aB ?_))
 ·have h:(y != 0)=true:=h;have eU:y≠0:=by simpa using h
  refine rG (λ_ h=>⟨eU,h⟩) ?_;(conv=>whnf);repeat(first|refine oP rfl ?_|(refine rG (λ_ h=>h) ?_;conv=>whnf)|(refine oN ?_;conv=>whnf)|(refine dI cT ?_;conv=>whnf))
  have hy1:=hy.1;have hy2:=hy.2;refine⟨(y,x.tmod y),⟨?_,⟨by simp only;omega,hy2⟩,?_,λe=>absurd e agj⟩,?_,fB (ks:=[0,1]) (m:=[]) (n:=0) rfl⟩
  ·exact K60
  ·have h1:(x.tmod y).natAbs =x.natAbs%y.natAbs:=G6 _ _;have h2:x.natAbs%y.natAbs<y.natAbs:=tq _ K0;exact ajw
  ·show(x.tmod y).natAbs <y.natAbs;rw[G6];exact tq _ K0
 ·have h:(y != 0)=false:=h;have h0:y=0:=by simpa using h
  subst h0;have GY:=hx.1;have hx2:=hx.2;have hx3:x≠ -9223372036854775808:=λe=>hxy e rfl;refine rG (λ_ h=>⟨_,ZA x K0 hx2,h⟩) ?_;(conv=>whnf);repeat(first|refine oP rfl ?_|(refine rG (λ_ h=>h) ?_;conv=>whnf)|(refine oN ?_;conv=>whnf)|(refine aT ?_;conv=>whnf))
  exact wu (by rw[<- hg];simp)
open Go.Plain
abbrev T (l:List UInt8):SC:=.lit (.string (B l))
abbrev K (b:Bool):SC:=.lit (.bool b)
abbrev V1 (l:List aj):SV:=(false,[.view (ab l)])
def mH {a b:Int}(h:a=b):lO.one (I a)= .one (I b):=by rw[h]
def gX {a b:Bool}(h:a=b):lO.one (Bo a)= .one (Bo b):=by rw[h]
def sA {l:List aj}{i:Nat}(h:i<l.length):(ab l)[i]? =some [.lit (.string (B (l.getD i [])))]:=by grind
def JP {s:aj}{i:Nat}(h:i<s.length):(kQ (B s))[i]? =some [.lit (.int .u8 (((s.getD i 0).toNat :Nat):Int))]:=by grind[kQ,jH]
def vg (s:aj):(kQ (B s)).length =s.length:=by simp[kQ,jH]
def MS (n lo hi:Int):ac 66 [I n,I lo,I hi] (.one (Bo (decide (lo<=n)&&decide (n<=hi)))):=by
 refine sF f66 ?_;repeat' ((first|refine tX 0 ?_|exact Zt|refine bR ?_ ?_<;>intro h)<;>(try conv=>whnf))
 all_goals exact gX wa
def bZ (b:Bool)(e:Int):ac 54 [Bo b,I e] (.one (I (if b=true then 0 else e))):=by
 refine sF f54 ?_
 (try(refine tX 0 ?_;try exact Zt))
 cases b
 ·exact K1
 ·exact K1
def iY {b:Bool}{p:Prop} [BP b p] [Decidable p](e:Int):ac 54 [Bo b,I e] (.one (I (if p then 0 else e))):=by
 have h:=bZ b e
 grind[BP.iff]
def bK {b:Bool}{p:Prop} [BP b p](hp: ¬p)(e:Int):ac 54 [Bo b,I e] (.one (I e)):=by
 have h:=bZ b e;exact afU
def aO {b:Bool}{p:Prop} [BP b p](hp:p)(e:Int):ac 54 [Bo b,I e] (.one (I 0)):=by
 have h:=bZ b e;exact af4
def oS (l:List Int)(hl:l.length<=1000000):ac 52 [(false,[.ints l])] (.one (I (fs l))):=by
 have hd: ∀i,i<l.length->fs (l.drop i)=if l.getD i 0≠0 then l.getD i 0 else fs (l.drop (i+1)):=λi hi=>by grind[List.drop_eq_getElem_cons,fs]
 refine sF f52 ?_
 (try(refine tX 0 ?_;try exact Zt))
 refine af (ι:=Nat) (λi=>i<=l.length/\fs (l.drop i)=fs l) (λi=>l.length -i) (λi=>⟨[(5,some (.val (false,[.st (.ints l)]))),(6,vI l.length),(7,vI i)],[],0⟩) 0 Zc ⟨dD _,rfl⟩ ?_;rintro i ⟨hi,he⟩;by_cases ak:i<l.length
 ·have h1:=hd i ak;by_cases hz:l.getD i 0=0
  ·rw[if_neg K0]at h1;exact K66
  ·rw[if_pos hz]at h1;repeat' ((first|refine tX 0 ?_|exact Zt|refine bR ?_ ?_<;>intro h)<;>(try conv=>whnf))
   all_goals first
    |(exfalso;omega)
    |exact mH K0
 ·exact K56
def ZB {l:List aj}{i:Nat}(h:i<l.length):(ab l)[i]? =some [T (l.getD i [])]:=sA h
def df (l:List aj)(x:aj)(hl:l.length<=1000000):ac 19 [V1 l,SS x] (.one (Bo (decide (x∈l)))):=by
 have hn:(ab l).length =l.length:=by simp
 refine sF f19 ?_
 (try(refine tX 0 ?_;try exact Zt))
 refine af (ι:=Nat) (λi=>i<=l.length/\x∉l.take i) (λi=>l.length -i) (λi=>⟨[(0,some (.val (false,[.st (.view (ab l))]))),(1,lS x),(5,vI i)],[],0⟩) 0 Zc ⟨dD _,by simp⟩ ?_;rintro i ⟨hi,dp⟩;by_cases ak:i<l.length
 ·have he:=ZB ak;have hm:=iS (x:=x) ak;have Ce:l.getD i []∈l:=by grind
  repeat' ((first|refine tX 0 ?_|exact Zt|refine bR ?_ ?_<;>intro h)<;>(try conv=>whnf))
  all_goals first
   |(exact gX (fL (by rw[<- h];exact Ce)).symm)
   |exact⟨i+1,⟨ak,λhh=>(hm.1 hh).elim dp λe=>h e.symm⟩,by omega,Zc⟩
   |(exfalso;omega)
 ·obtain rfl:i=l.length:=by omega
  rw[mA]at dp;repeat' ((first|refine tX 0 ?_|exact Zt|refine bR ?_ ?_<;>intro h)<;>(try conv=>whnf))
  all_goals first
   |(exfalso;omega)
   |exact gX (fj dp).symm
def Ao (l:List (List UInt8))(x:List UInt8)(hl:l.length<=1000000):ac 93 [(false,[.view (ab l)]),SS x] (.one (I (bg l x))):=by
 have hn:(ab l).length =l.length:=by simp
 refine sF f93 ?_
 (try(refine tX 0 ?_;try exact Zt))
 refine af (ι:=Nat) (λi=>i<=l.length/\x∉l.take i) (λi=>l.length -i) (λi=>⟨[(0,some (.val (false,[.st (.view (ab l))]))),(1,lS x),(7,vI l.length),(8,vI i)],[],0⟩) 0 (ai PF) ⟨dD _,by simp⟩ ?_;rintro i ⟨hi,dp⟩;by_cases ak:i<l.length
 ·have he:=sA ak;have hg:l.getD i []=l[i]:=by grind
  by_cases hx:x=l.getD i []
  ·have e:bg l x=i:=Tz ak bv dp;rw[e];repeat' ((first|refine tX 0 ?_|exact Zt|refine bR ?_ ?_<;>intro h)<;>(try conv=>whnf))
   all_goals first|(exact rfl)|(exact absurd hx h)
  ·have ahL:x∉l.take (i+1):=by
    rw[CQ,pj ak]
    grind
   repeat' ((first|refine tX 0 ?_|exact Zt|refine bR ?_ ?_<;>intro h)<;>(try conv=>whnf))
   all_goals first|(exact absurd h hx)|(exact⟨i+1,⟨ak,ahL⟩,by omega,Zc⟩)
 ·obtain rfl:i=l.length:=by omega
  have e:bg l x= -1:=fq bv;rw[e];exact K1
def bI (l:List aj)(x:aj)(hl:l.length<=1000000):ac 55 [V1 l,SS x] (.one (Bo (decide (x∈l)))):=by
 have hi:=Ao l x hl;refine sF f55 ?_
 (try(refine tX 0 ?_;try exact Zt))
 refine gX ?_;rw[vN];simp only[vJ];unfold bg
 grind
def Qk (s:aj)(hl:s.length<=1000000):ac 92 [SS s] (.one (Bo (decide (jK s)))):=by
 have hb:=vg s;refine sF f92 ?_
 (try(refine tX 0 ?_;try exact Zt))
 refine af (ι:=Nat) (λi=>i<=s.length/\Qh s i) (λi=>s.length -i) (λi=>⟨[(0,lS s),(7,some (.val (false,[.st (.view (kQ (B s)))]))),(8,vI s.length),(9,vI i)],[],0⟩) 0 (ai ab5) ⟨dD _,λj hj=>by omega⟩ ?_;rintro i ⟨hi,hp⟩;by_cases ak:i<s.length
 ·have hg:=JP ak;have dp:=λh=>Qi (s:=s) (i:=i) ak h;have l8:=λh=>An (s:=s) (i:=i) hp h;have FJ:((s.getD i 0).toNat :Int)<=255:=by exact UX
  unfold okc at dp l8;generalize (s.getD i 0).toNat =c at*;repeat' ((first|refine tX 0 ?_|exact Zt|refine bR ?_ ?_<;>intro h)<;>(try conv=>whnf))
  all_goals first
   |(exfalso;omega)
   |exact gX (fj (dp K0)).symm
   |exact⟨i+1,⟨ak,l8 K0⟩,by omega,Zc⟩
 ·obtain rfl:i=s.length:=by omega
  repeat' ((first|refine tX 0 ?_|exact Zt|refine bR ?_ ?_<;>intro h)<;>(try conv=>whnf))
  all_goals first
   |(exfalso;omega)
   |exact gX aie
def gi (s:aj)(hl:s.length<=1000000):ac 53 [SS s] (.one (I (jG s))):=by
 refine sF f53 ?_;repeat((first|(refine kO 7 rfl ?_;first|refine rG (λ_ z=>⟨_,Qk s hl,z⟩) ?_|refine Rq (iY _) ?_)|refine tX 0 ?_|exact Zt);(try conv=>whnf))
 exact mH (by unfold jG;rfl)
def px (s:aj)(hl:s.length<=1000000):ac 81 [SS s] (.one (Bo (decide (jK s)))):=by
 by_cases h12:1<=s.length/\s.length<=12
 ·refine sF f81 ?_
  (try(refine tX 0 ?_;try exact Zt))
  refine af (ι:=Nat) (λi=>i<=s.length/\Qh s i) (λi=>s.length -i) (λi=>⟨[(0,lS s),(3,vI i)],[],0⟩) 0 Zc ⟨dD _,λj hj=>by omega⟩ ?_;rintro i ⟨hi,hp⟩;by_cases ak:i<s.length
  ·have dp:=λh=>Qi (s:=s) (i:=i) ak h;have l8:=λh=>An (s:=s) (i:=i) hp h;unfold okc at dp l8
   (try(refine tX 0 ?_;try exact Zt))
   generalize (s.getD i 0).toNat =c at*;repeat' ((first|refine tX 0 ?_|exact Zt|refine bR ?_ ?_<;>intro h)<;>(try conv=>whnf))
   all_goals first
    |(exfalso;omega)
    |exact gX (fj (dp K0)).symm
    |exact⟨i+1,⟨ak,l8 K0⟩,by omega,Zc⟩
  ·obtain rfl:i=s.length:=by omega
   repeat' ((first|refine tX 0 ?_|exact Zt|refine bR ?_ ?_<;>intro h)<;>(try conv=>whnf))
   all_goals first
    |(exfalso;omega)
    |exact gX (fL ⟨h12,hp⟩).symm
 ·refine sF f81 ?_;repeat' ((first|refine tX 0 ?_|exact Zt|refine bR ?_ ?_<;>intro h)<;>(try conv=>whnf))
  all_goals first
   |(exfalso;omega)
   |exact gX (fj λh=>h12 h.1).symm
end Go.Proofs.Tryz
namespace Go.Plain
open Go.Lib
structure Rs where
 test:aj
 ans:Int
 entry:Int
 void:Bool
structure Gs where
 h:Int
 m:Int
 e:Int
 y:Int
 a:Int
structure Win where
 k1:Int
 t1:Int
 s1:Int
 r1:Bool
 k2:Int
 t2:Int
 s2:Int
 r2:Bool
 st:Int
def wi0:Win:=⟨0,0,0,false,0,0,0,false,0⟩
structure Un where
 name:aj
 win:Win
 lots:List aj
 res:List Rs
 failed:Bool
 rel:Bool
 shaken:Bool
 used:Int
 gas:List Gs
def qa:Un:=⟨[],wi0,[],[],false,false,false,0,[]⟩
structure bP where
 volt:Bool
 earth:Bool
 opens:List aj
 hall:aj
 lots:List aj
 units:List Un
structure En where
 t:Int
 lz:aj
 text:aj
def iy:bP:=⟨false,true,[],[],[],[]⟩
def sS (t:aj)(r:Rs):Bool:=(r.test==t)&& !r.void
def iT (l:List Rs)(t:aj):Option Rs:=l.reverse.find? (sS t)
def B5:Rs:=⟨[],0,0,false⟩
def bL (l:List Rs)(t:aj):Bool:=match iT l t with
 |some r=>r.ans==2
 |none=>false
def ui (p:Pl)(l:List Rs):List aj:=(cS p.aa).filter λt=> !bL l t
def i6 (l:List Rs)(t:Ts):Bool:=t.bz.all λn=>bL l n
def jp (s:bP):List aj:=s.units.map Un.name
def io (s:bP)(n:aj):Int:=bg (jp s) n
def TF (s:bP)(lot:aj):List aj:=(s.units.filter λu=>decide (lot∈u.lots)).map Un.name
structure uj where
 pu:aj->Win × Int
 ev:List En->Un->Ts->aj->Int × Int
structure Vb where
 role:Int
 words:Nat
 sM:Nat
 rest:Bool
def lW:List (aj × Vb):=[
 ([110,111,116,101],⟨0,0,0,true⟩),
 ([108,111,116],⟨1,1,0,false⟩),
 ([117,110,105,116],⟨1,1,0,true⟩),
 ([117,115,101],⟨1,2,0,false⟩),
 ([111,112,101,110],⟨2,1,0,false⟩),
 ([115,104,117,116],⟨2,1,0,false⟩),
 ([101,97,114,116,104],⟨2,0,0,false⟩),
 ([108,105,102,116],⟨2,0,0,false⟩),
 ([118,111,108,116,97,103,101],⟨2,0,0,false⟩),
 ([111,102,102],⟨2,0,0,false⟩),
 ([101,110,116,101,114],⟨1,1,0,false⟩),
 ([108,101,97,118,101],⟨1,1,0,false⟩),
 ([116,101,115,116],⟨2,2,0,true⟩),
 ([114,101,112,97,105,114],⟨1,2,0,false⟩),
 ([114,101,108,101,97,115,101],⟨3,1,0,false⟩),
 ([115,104,111,99,107],⟨1,2,1,false⟩),
 ([105,110,115,112,101,99,116],⟨2,1,0,false⟩),
 ([108,111,97,100],⟨1,3,2,false⟩),
 ([103,97,115],⟨1,6,5,false⟩)]
def lB (w:aj):Nat:=(lW.map Prod.fst).idxOf w
def vb (k:Nat):Vb:=(lW.getD k ([],⟨0,0,0,false⟩)).2
def ZD (g:Gs):Prop:=((0<=g.h/\g.h<=1000000)/\(0<=g.m/\g.m<=1000000))/\(0<=g.e/\g.e<=1000000)/\(0<=g.y/\g.y<=1000000)/\0<=g.a/\g.a<=1000000
instance (g:Gs):Decidable (ZD g):=by unfold ZD;infer_instance
def ZE (d t:Int):Prop:=(0<=d/\d<=200)/\0<=t/\t<=100000
instance (d t:Int):Decidable (ZE d t):=by unfold ZE;infer_instance
def ZF (d t:Int):Int:=if ZE d t then(if d<80 then 0 else 2^((d -80)/6).toNat *t)else 0
def aU (E:uj)(p:Pl)(log:List En)(s:bP)(u:Un)(k:Nat)(a:List aj)(n:List Int)(rest:aj):Un × Int:=
 match k with
 |3=>if a.getD 1 []∈s.lots then(if u.rel then(u,20)else if a.getD 1 []∈u.lots then(u,23)else({u with lots:=u.lots++[a.getD 1 []]},0))else(u,6)
 |10=>if u.rel then(u,20)else if s.hall= []then(if s.opens= []then(u,24)else(u,0))else(u,17)
 |11=>if s.hall=u.name then(if s.opens= []then(u,24)else(u,0))else(u,20)
 |12=>if 0<=bg (cS p.aa) (a.getD 1 [])then
   (let t:=p.aa.getD (bg (cS p.aa) (a.getD 1 [])).toNat dz
    if s.hall=u.name/\u.failed=false then(if bL u.res t.name then(u,23)else if i6 u.res t=false then(u,14)else if decide (t.kind=0)=s.volt then(u,24)else
     if(E.ev log u t rest).2=0 then({u with res:=u.res++[⟨t.name,(E.ev log u t rest).1,log.length,false⟩],failed:=decide ((E.ev log u t rest).1=0)},0)else(u,(E.ev log u t rest).2))else(u,20))
   else(u,6)
 |13=>if 0<=bg p.bf (a.getD 1 [])then(if u.rel then(u,20)else if s.hall=u.name/\s.opens= []then(u,24)else
   ({u with res:=u.res.map λr=>{r with void:=r.void || decide (r.test∈jo p.aa (p.parts.getD (bg p.bf (a.getD 1 [])).toNat ([],[])).2)},failed:=false},0))else(u,6)
 |14=>if u.rel then(u,20)else if s.hall=u.name then(u,17)else if ui p u.res= []then({u with rel:=true},0)else(u,14)
 |15=>if u.rel then(if n.getD 0 0<=1000 then({u with shaken:=u.shaken || decide (n.getD 0 0>p.dZ)},0)else(u,2))else(u,20)
 |16=>if u.shaken then({u with shaken:=false},0)else(u,20)
 |17=>if u.rel then(if u.shaken then(u,24)else if ZE (n.getD 0 0) (n.getD 1 0)then(if u.used+ZF (n.getD 0 0) (n.getD 1 0)<=p.eK then({u with used:=u.used+ZF (n.getD 0 0) (n.getD 1 0)},0)else(u,22))else(u,2))else(u,20)
 |18=>if u.rel then(let g:Gs:=⟨n.getD 0 0,n.getD 1 0,n.getD 2 0,n.getD 3 0,n.getD 4 0⟩;if ZD g then(if u.gas.length<10 then({u with gas:=u.gas++[g]},0)else(u,16))else(u,2))else(u,20)
 |_=>(u,0)
noncomputable def bs (E:uj)(p:Pl)(log:List En)(s:bP)(k:Nat)(a:List aj)(n:List Int)(rest:aj):bP × Int:=
 match k with
 |0=>(s,0)
 |1=>if jK (a.getD 0 [])then(if a.getD 0 []∈s.lots then(s,5)else if s.lots.length<12 then({s with lots:=s.lots++[a.getD 0 []]},0)else(s,16))else(s,4)
 |2=>if jK (a.getD 0 [])then(if a.getD 0 []∈jp s then(s,5)else if s.units.length<6 then(if(E.pu rest).2=0 then({s with units:=s.units++[{qa with name:=a.getD 0 [],win:=(E.pu rest).1}]},0)else(s,(E.pu rest).2))else(s,16))else(s,4)
 |4=>if a.getD 0 []∈p.ap then(if a.getD 0 []∈s.opens then(s,20)else if s.volt=false/\s.earth=true then({s with opens:=s.opens++[a.getD 0 []]},0)else(s,24))else(s,6)
 |5=>if a.getD 0 []∈p.ap then(if a.getD 0 []∈s.opens then({s with opens:=s.opens.erase (a.getD 0 [])},0)else(s,20))else(s,6)
 |6=>if s.earth then(s,20)else if s.volt then(s,24)else({s with earth:=true},0)
 |7=>if s.earth then(if s.opens= []then({s with earth:=false},0)else(s,24))else(s,20)
 |8=>if s.volt then(s,20)else if s.opens= []/\s.earth=false then({s with volt:=true},0)else(s,24)
 |9=>if s.volt then({s with volt:=false},0)else(s,20)
 |_=>if 0<=io s (a.getD 0 [])then
   (let i:=(io s (a.getD 0 [])).toNat
    let r:=aU E p log s (s.units.getD i qa) k a n rest
    ({s with units:=s.units.set i r.1,hall:=if r.2=0 then(if k=10 then(s.units.getD i qa).name else if k=11 then []else s.hall)else s.hall},r.2))
   else(s,6)
def jU:List aj->Option (List Int)
 | []=>some []
 |s::r=>match wN false 7 s,jU r with
  |some n,some t=>some (n::t)
  |_,_=>none
def cd:Nat->aj->aj
 |0,s=>s
 |n+1,s=>cd n (s.drop ((aJ 32 s).getD 0 []).length.succ)
def fU (v:Vb)(text:aj):Option (List aj × List Int × aj):=
 let ws:=aJ 32 text
 if(v.rest=true/\ws.length<v.words+2)\/(v.rest=false/\ws.length≠v.words+1)\/[]∈ws.take (v.words+1)then none
 else(jU ((ws.take (v.words+1)).drop (v.words+1 -v.sM))).map λn=>((ws.take (v.words+1)).drop 1,n,if v.rest then cd (v.words+1) text else [])
def aW (s:aj):Prop:=∀j<s.length,32<=(s.getD j 0).toNat /\(s.getD j 0).toNat <=126
instance (s:aj):Decidable (aW s):=by unfold aW;infer_instance
def iq (l:List En):Int:=match l.getLast? with
 |some e=>e.t
 |none=>0
noncomputable def mI (E:uj)(p:Pl)(log:List En)(s:bP)(e:En):bP × Int:=
 if bg p.ay e.lz<0 then(s,6)else
 if ¬(0<=e.t/\e.t<=1000000000000)then(s,2)else
 if e.t<iq log then(s,9)else
 if 400<e.text.length then(s,8)else
 if ¬aW e.text then(s,3)else
 if 19<=lB ((aJ 32 e.text).getD 0 [])then(s,7)else
 if(p.ae.getD (bg p.ay e.lz).toNat ([],0)).2< (vb (lB ((aJ 32 e.text).getD 0 []))).role then(s,18)else
 match fU (vb (lB ((aJ 32 e.text).getD 0 []))) e.text with
 |none=>(s,7)
 |some (a,n,rest)=>bs E p log s (lB ((aJ 32 e.text).getD 0 [])) a n rest
end Go.Plain
namespace Go.Proofs.Tryz
open Go.Fw Go.IntWalk Go.Plain
abbrev Lb (f:Nat)(bM:List (List SC)):SV:=(false,[.fn f [] bM])
abbrev vF (f:Nat)(bM:List (List SC)):Option DV:=some (.val (false,[.st (.fn f [] bM)]))
abbrev vM (id:Nat):Option DV:=some (.val (false,[.mp id]))
def ae7 (e:Int):ac 54 [Bo false,I e] (.one (I e)):=bZ false e
def ae8 (e:Int):ac 54 [Bo true,I e] (.one (I 0)):=bZ true e
def HS {a b:Int}(h:a≠0):ac 52 [(false,[.ints [a,b]])] (.one (I a)):=by
 have:=oS [a,b] (fO rfl)
 grind[fs]
def alM (b:Int):ac 52 [(false,[.ints [0,b]])] (.one (I b)):=by
 have:=oS [0,b] (fO rfl)
 grind[fs]
def kn (l:List aj):List (ByteArray × SV):=l.map λs=>(B s,(false,[.lit (.bool true)]))
theorem ZG (a b:aj):(B a==B b)=decide (a=b):=by
 by_cases h:a=b
 ·subst h;rw[fL rfl];show((B a).data ==(B a).data)=true;simp
 ·rw[fj h];show((B a).data ==(B b).data)=false;simpa [B]using h
def TG (l:List aj)(s:aj):ja (kn l) (B s)=if s∈l then some (false,[.lit (.bool true)])else none:=by
 induction l with
 |nil=>rfl
 |cons a l ih=>
  show(match(B s==B a)with|true=>some ((false,[SC.lit (.bool true)]):SV)|false=>ja (kn l) (B s))=_
  grind[ZG]
def py {l:List aj}{s:aj}(h:s∈l):uX (ja (kn l) (B s)) (false,[.lit (.bool false)]) false=lit (.bool true):=by rw[TG,if_pos h];rfl
def pA {l:List aj}{s:aj}(h:s∉l):uX (ja (kn l) (B s)) (false,[.lit (.bool false)]) false=lit (.bool false):=by rw[TG,if_neg h];rfl
def JQ {l:List aj}{s:aj}(h:s∉l):Ae (kn l) (B s) (false,[.lit (.bool true)])=kn (l++[s]):=by
 induction l with
 |nil=>rfl
 |cons a l ih=>
  simp only[dl,not_or]at h
  grind[Ae,kn,ZG]
def take_succ {l:List aj}{i:Nat}(h:i<l.length):l.take (i+1)=l.take i++[l.getD i []]:=by simp_all
noncomputable def _root_.Go.Plain.Pl.xL (p:Pl)(i:Nat):Int:=ju (gW p.ap i) 0
abbrev kF (r:Rs):List SC:=[T r.test,J r.ans,J r.entry,K r.void]
abbrev vh (g:Gs):List SC:=[J g.h,J g.m,J g.e,J g.y,J g.a]
abbrev be (e:En):List SC:=[J e.t,T e.lz,T e.text]
abbrev fD (t:Ts):List SC:=[T t.name,J t.kind,.view (ab t.bz),T t.rules,J t.lo,J t.hi]
abbrev mj (q:aj × List aj):List SC:=[T q.1,.view (ab q.2)]
abbrev nh (q:aj × Int):List SC:=[T q.1,J q.2]
abbrev bE (p:Pl):List SC:=[.view (p.ae.map nh),.view (ab p.ap),.view (p.aa.map fD),.view (p.parts.map mj),J p.dZ,J p.eK]
def aV {α:Type}{f:α->List SC}{l:List α}{i:Nat}(h:i<l.length)(d:α):(l.map f)[i]? =some (f (l.getD i d)):=by grind
def VH (x:aj × Int):ac 167 [(true,nh x)] (.one (SS x.1)):=by
 refine sF f167 ?_;exact tL
def Ql (p:Pl)(hl:p.ae.length<=1000)(hs: ∀i<p.ae.length,((p.ae.getD i ([],0)).1).length <=1000)
  (hc: ∀i<p.ae.length,ac 168 [I (i:Int),(false,[.ref (bE p)])] (.one (I (if 0<=(p.ae.getD i ([],0)).2/\(p.ae.getD i ([],0)).2<=3 then 0 else 15)))):
  ac 166 [(false,[.view (p.ae.map nh)]),Lb 167 [],Lb 168 [bE p]] (.aI [I (cR (p.dx) p.ae.length).1,I (cR (p.dx) p.ae.length).2]):=by
 have AX:p.ay.length=p.ae.length:=by simp[Pl.ay]
 have hrl:(p.ae.map nh).length =p.ae.length:=by simp
 refine sF f166 ?_
 (try(refine tX 0 ?_;try exact Zt))
 refine af (ι:=Nat) (λi=>i<=p.ae.length/\∀j<i,(p.dx) j=0) (λi=>p.ae.length -i) (λi=>⟨[(1,vF 167 []),(2,vF 168 [bE p]),(8,vM 0),(14,some (.val (false,[.st (.view (p.ae.map nh))]))),(15,vI p.ae.length),(16,vI i)],[(0,some (.map (kn (p.ay.take i))))],1⟩) 0 (fB (ks:=[1,2,8,14,15,16]) (m:=[(4,0)]) (n:=1) UV) ⟨dD _,λj hj=>by omega⟩ ?_;rintro i ⟨hi,hp⟩;by_cases ak:i<p.ae.length
 ·have he:=aV (f:=nh) ak ([],0);have hgn:p.ay.getD i []=(p.ae.getD i ([],0)).1:=by grind[Pl.ay]
  have vX:=take_succ (l:=p.ay) (i:=i) bv;have hcc:=hc i ak;have O3:=hs i ak;have kG:(p.dx) i=ju (ju (jG (p.ay.getD i [])) (if p.ay.getD i []∈p.ay.take i then 5 else 0)) (if 0<=(p.ae.getD i ([],0)).2/\(p.ae.getD i ([],0)).2<=3 then 0 else 15):=rfl;have eM:=λ(h:(p.dx) i≠0)=>fI (f:=p.dx) ak hp h;have it:=λ(h:(p.dx) i=0)=>all_succ hp h;rw[hgn]at kG vX;have eU:=gi ((p.ae.getD i ([],0)).1) K0;have hnm:=VH (p.ae.getD i ([],0));generalize p.ay.take i=M at*;by_cases h1:jK ((p.ae.getD i ([],0)).1)
  ·have e1:jG ((p.ae.getD i ([],0)).1)=0:=if_pos h1;rw[e1]at eU;rw[e1,jn]at kG;by_cases h2:(p.ae.getD i ([],0)).1∈M
   ·rw[if_pos h2,eS K9]at kG;have vH:=py h2;rw[eM bv,kG]
    (try(refine tX 0 ?_;try exact Zt))
    rw[vH];exact K1
   ·rw[if_neg h2,jn]at kG;have vH:=pA h2;have hpk:=JQ h2;by_cases h3:((if 0<=(p.ae.getD i ([],0)).2/\(p.ae.getD i ([],0)).2<=3 then 0 else 15):Int)=0
    ·exact K32
    ·rw[eM ab9,kG]
     (try(refine tX 0 ?_;try exact Zt))
     rw[vH];exact K24
  ·have e1:jG ((p.ae.getD i ([],0)).1)=4:=if_neg h1;rw[e1]at eU;rw[e1,eS (show(4:Int)≠0 by decide),eS (show(4:Int)≠0 by decide)]at kG;rw[eM bv,kG];by_cases h2:(p.ae.getD i ([],0)).1∈M
   ·have vH:=py h2;exact K6
   ·have vH:=pA h2;exact K6
 ·obtain rfl:i=p.ae.length:=by omega
  rw[gT hp];exact K24
def VI (x:aj):ac 172 [SS x] (.one (SS x)):=by
 refine sF f172 ?_;exact tL
def ZH (i:Int):ac 173 [I i] (.one (I 0)):=by
 refine sF f173 ?_;exact tL
def Qm (p:Pl)(hl:p.ap.length<=1000)(hs: ∀i<p.ap.length,(p.ap.getD i []).length <=1000)
  (hc: ∀i<p.ap.length,ac 173 [I (i:Int)] (.one (I 0))):
  ac 171 [(false,[.view (ab p.ap)]),Lb 172 [],Lb 173 []] (.aI [I (cR (p.xL) p.ap.length).1,I (cR (p.xL) p.ap.length).2]):=by
 have AX:p.ap.length=p.ap.length:=rfl;have hrl:(ab p.ap).length =p.ap.length:=by simp
 refine sF f171 ?_
 (try(refine tX 0 ?_;try exact Zt))
 refine af (ι:=Nat) (λi=>i<=p.ap.length/\∀j<i,(p.xL) j=0) (λi=>p.ap.length -i) (λi=>⟨[(1,vF 172 []),(2,vF 173 []),(8,vM 0),(14,some (.val (false,[.st (.view (ab p.ap))]))),(15,vI p.ap.length),(16,vI i)],[(0,some (.map (kn (p.ap.take i))))],1⟩) 0 (fB (ks:=[1,2,8,14,15,16]) (m:=[(4,0)]) (n:=1) UV) ⟨dD _,λj hj=>by omega⟩ ?_;rintro i ⟨hi,hp⟩;by_cases ak:i<p.ap.length
 ·have he:=sA ak;have hgn:p.ap.getD i []=p.ap.getD i []:=rfl;have vX:=take_succ (l:=p.ap) (i:=i) bv;have hcc:=hc i ak;have O3:=hs i ak;have kG:(p.xL) i=ju (ju (jG (p.ap.getD i [])) (if p.ap.getD i []∈p.ap.take i then 5 else 0)) 0:=rfl;have eM:=λ(h:(p.xL) i≠0)=>fI (f:=p.xL) ak hp h;have it:=λ(h:(p.xL) i=0)=>all_succ hp h;rw[hgn]at kG vX;have eU:=gi (p.ap.getD i []) K0;have hnm:=VI (p.ap.getD i []);generalize p.ap.take i=M at*;by_cases h1:jK (p.ap.getD i [])
  ·have e1:jG (p.ap.getD i [])=0:=if_pos h1;rw[e1]at eU;rw[e1,jn]at kG;by_cases h2:p.ap.getD i []∈M
   ·rw[if_pos h2,eS K9]at kG;have vH:=py h2;rw[eM bv,kG]
    (try(refine tX 0 ?_;try exact Zt))
    rw[vH];exact K1
   ·rw[if_neg h2,jn]at kG;have vH:=pA h2;have hpk:=JQ h2;by_cases h3:(0:Int)=0
    ·exact K32
    ·rw[eM ab9,kG]
     (try(refine tX 0 ?_;try exact Zt))
     rw[vH];exact K24
  ·have e1:jG (p.ap.getD i [])=4:=if_neg h1;rw[e1]at eU;rw[e1,eS (show(4:Int)≠0 by decide),eS (show(4:Int)≠0 by decide)]at kG;rw[eM bv,kG];by_cases h2:p.ap.getD i []∈M
   ·have vH:=py h2;exact K6
   ·have vH:=pA h2;exact K6
 ·obtain rfl:i=p.ap.length:=by omega
  rw[gT hp];exact K24
def VJ (x:Ts):ac 177 [(true,fD x)] (.one (SS x.name)):=by
 refine sF f177 ?_;exact tL
def Qo (p:Pl)(re:aj->Int)(hl:p.aa.length<=1000)(hs: ∀i<p.aa.length,((p.aa.getD i dz).name).length <=1000)
  (hc: ∀i<p.aa.length,ac 178 [I (i:Int),(false,[.ref (bE p)])] (.one (I (VF re p.aa i)))):
  ac 176 [(false,[.view (p.aa.map fD)]),Lb 177 [],Lb 178 [bE p]] (.aI [I (cR (p.gE re) p.aa.length).1,I (cR (p.gE re) p.aa.length).2]):=by
 have AX:(cS p.aa).length =p.aa.length:=by simp[cS]
 have hrl:(p.aa.map fD).length =p.aa.length:=by simp
 refine sF f176 ?_
 (try(refine tX 0 ?_;try exact Zt))
 refine af (ι:=Nat) (λi=>i<=p.aa.length/\∀j<i,(p.gE re) j=0) (λi=>p.aa.length -i) (λi=>⟨[(1,vF 177 []),(2,vF 178 [bE p]),(8,vM 0),(14,some (.val (false,[.st (.view (p.aa.map fD))]))),(15,vI p.aa.length),(16,vI i)],[(0,some (.map (kn ((cS p.aa).take i))))],1⟩) 0 (fB (ks:=[1,2,8,14,15,16]) (m:=[(4,0)]) (n:=1) UV) ⟨dD _,λj hj=>by omega⟩ ?_;rintro i ⟨hi,hp⟩;by_cases ak:i<p.aa.length
 ·have he:=aV (f:=fD) ak dz;have hgn:(cS p.aa).getD i []=(p.aa.getD i dz).name :=rM ak;have vX:=take_succ (l:=(cS p.aa)) (i:=i) bv;have hcc:=hc i ak;have O3:=hs i ak;have kG:(p.gE re) i=ju (ju (jG ((cS p.aa).getD i [])) (if(cS p.aa).getD i []∈(cS p.aa).take i then 5 else 0)) (VF re p.aa i):=rfl;have eM:=λ(h:(p.gE re) i≠0)=>fI (f:=p.gE re) ak hp h;have it:=λ(h:(p.gE re) i=0)=>all_succ hp h;rw[hgn]at kG vX;have eU:=gi ((p.aa.getD i dz).name) K0;have hnm:=VJ (p.aa.getD i dz);generalize (cS p.aa).take i=M at*;by_cases h1:jK ((p.aa.getD i dz).name)
  ·have e1:jG ((p.aa.getD i dz).name)=0:=if_pos h1;rw[e1]at eU;rw[e1,jn]at kG;by_cases h2:(p.aa.getD i dz).name ∈M
   ·rw[if_pos h2,eS K9]at kG;have vH:=py h2;rw[eM bv,kG]
    (try(refine tX 0 ?_;try exact Zt))
    rw[vH];exact K1
   ·rw[if_neg h2,jn]at kG;have vH:=pA h2;have hpk:=JQ h2;by_cases h3:((VF re p.aa i):Int)=0
    ·exact K32
    ·rw[eM ab9,kG]
     (try(refine tX 0 ?_;try exact Zt))
     rw[vH];exact K24
  ·have e1:jG ((p.aa.getD i dz).name)=4:=if_neg h1;rw[e1]at eU;rw[e1,eS (show(4:Int)≠0 by decide),eS (show(4:Int)≠0 by decide)]at kG;rw[eM bv,kG];by_cases h2:(p.aa.getD i dz).name ∈M
   ·have vH:=py h2;exact K6
   ·have vH:=pA h2;exact K6
 ·obtain rfl:i=p.aa.length:=by omega
  rw[gT hp];exact K24
def VK (x:aj × List aj):ac 183 [(true,mj x)] (.one (SS x.1)):=by
 refine sF f183 ?_;exact tL
def Qp (p:Pl)(hl:p.parts.length<=1000)(hs: ∀i<p.parts.length,((p.parts.getD i ([],[])).1).length <=1000)
  (hc: ∀i<p.parts.length,ac 184 [I (i:Int),(false,[.ref (bE p)])] (.one (I (jT (p.parts.getD i ([],[])).2 (cS p.aa))))):
  ac 182 [(false,[.view (p.parts.map mj)]),Lb 183 [],Lb 184 [bE p]] (.aI [I (cR (p.jh) p.parts.length).1,I (cR (p.jh) p.parts.length).2]):=by
 have AX:p.bf.length=p.parts.length:=by simp[Pl.bf]
 have hrl:(p.parts.map mj).length =p.parts.length:=by simp
 refine sF f182 ?_
 (try(refine tX 0 ?_;try exact Zt))
 refine af (ι:=Nat) (λi=>i<=p.parts.length/\∀j<i,(p.jh) j=0) (λi=>p.parts.length -i) (λi=>⟨[(1,vF 183 []),(2,vF 184 [bE p]),(8,vM 0),(14,some (.val (false,[.st (.view (p.parts.map mj))]))),(15,vI p.parts.length),(16,vI i)],[(0,some (.map (kn (p.bf.take i))))],1⟩) 0 (fB (ks:=[1,2,8,14,15,16]) (m:=[(4,0)]) (n:=1) UV) ⟨dD _,λj hj=>by omega⟩ ?_;rintro i ⟨hi,hp⟩;by_cases ak:i<p.parts.length
 ·have he:=aV (f:=mj) ak ([],[]);have hgn:p.bf.getD i []=(p.parts.getD i ([],[])).1:=by grind[Pl.bf]
  have vX:=take_succ (l:=p.bf) (i:=i) bv;have hcc:=hc i ak;have O3:=hs i ak;have kG:(p.jh) i=ju (ju (jG (p.bf.getD i [])) (if p.bf.getD i []∈p.bf.take i then 5 else 0)) (jT (p.parts.getD i ([],[])).2 (cS p.aa)):=rfl;have eM:=λ(h:(p.jh) i≠0)=>fI (f:=p.jh) ak hp h;have it:=λ(h:(p.jh) i=0)=>all_succ hp h;rw[hgn]at kG vX;have eU:=gi ((p.parts.getD i ([],[])).1) K0;have hnm:=VK (p.parts.getD i ([],[]));generalize p.bf.take i=M at*;by_cases h1:jK ((p.parts.getD i ([],[])).1)
  ·have e1:jG ((p.parts.getD i ([],[])).1)=0:=if_pos h1;rw[e1]at eU;rw[e1,jn]at kG;by_cases h2:(p.parts.getD i ([],[])).1∈M
   ·rw[if_pos h2,eS K9]at kG;have vH:=py h2;rw[eM bv,kG]
    (try(refine tX 0 ?_;try exact Zt))
    rw[vH];exact K1
   ·rw[if_neg h2,jn]at kG;have vH:=pA h2;have hpk:=JQ h2;by_cases h3:((jT (p.parts.getD i ([],[])).2 (cS p.aa)):Int)=0
    ·exact K32
    ·rw[eM ab9,kG]
     (try(refine tX 0 ?_;try exact Zt))
     rw[vH];exact K24
  ·have e1:jG ((p.parts.getD i ([],[])).1)=4:=if_neg h1;rw[e1]at eU;rw[e1,eS (show(4:Int)≠0 by decide),eS (show(4:Int)≠0 by decide)]at kG;rw[eM bv,kG];by_cases h2:(p.parts.getD i ([],[])).1∈M
   ·have vH:=py h2;exact K6
   ·have vH:=pA h2;exact K6
 ·obtain rfl:i=p.parts.length:=by omega
  rw[gT hp];exact K24
abbrev ky (u:Un):List SC:=[T u.name,J u.win.k1,J u.win.t1,J u.win.s1,K u.win.r1,J u.win.k2,J u.win.t2,J u.win.s2,K u.win.r2,J u.win.st,.view (ab u.lots),.view (u.res.map kF),K u.failed,K u.rel,K u.shaken,J u.used,.view (u.gas.map vh)]
abbrev uk (s:bP):List SC:=[K s.volt,K s.earth,.view (ab s.opens),T s.hall,.view (ab s.lots),.view (s.units.map ky)]
def cU (u:Un)(a b c:Nat):List DC:=[.st (T u.name),.st (J u.win.k1),.st (J u.win.t1),.st (J u.win.s1),.st (K u.win.r1),.st (J u.win.k2),.st (J u.win.t2),.st (J u.win.s2),.st (K u.win.r2),.st (J u.win.st),.own a,.own b,.st (K u.failed),.st (K u.rel),.st (K u.shaken),.st (J u.used),.own c]
def lC (u:Un)(a b c:Nat):Hp:=[(a,some (.row true 1 (.view (ab u.lots)))),(b,some (.row true 4 (.view (u.res.map kF)))),(c,some (.row true 5 (.view (u.gas.map vh))))]
def az:Nat->List Un->List (List DC)
 |_,[]=>[]
 |k,u::us=>cU u (17+6*k) (19+6*k) (21+6*k)::az (k+1) us
def bw:Nat->List Un->Hp
 |_,[]=>[]
 |k,u::us=>lC u (17+6*k) (19+6*k) (21+6*k)++bw (k+1) us
theorem eO: ∀(k:Nat) (us:List Un),(az k us).length =us.length
 |_,[]=>rfl
 |k,u::us=>by simp[az,eO (k+1) us]
def vi: ∀ {k:Nat} {us:List Un} {i:Nat} {u:Un},us[i]? =some u->(az k us)[i]? =some (cU u (17+6*(k+i)) (19+6*(k+i)) (21+6*(k+i)))
 |k,[],i,u,h=>by simp at h
 |k,v::us,0,u,h=>by simp at h;subst h;rfl
 |k,v::us,i+1,u,h=>by
  have:=vi (k:=k+1) (us:=us) (i:=i) (u:=u) bv
  grind[az]
def HT: ∀ {k:Nat} {us:List Un} {i:Nat} {u:Un},i<us.length->az k (us.set i u)=(az k us).set i (cU u (17+6*(k+i)) (19+6*(k+i)) (21+6*(k+i)))
 |k,[],i,u,h=>by simp at h
 |k,v::us,0,u,h=>rfl
 |k,v::us,i+1,u,h=>by
  have:=HT (k:=k+1) (us:=us) (i:=i) (u:=u) bv
  grind[az]
def yV: ∀(k:Nat) (a b:List Un),bw k (a++b)=bw k a++bw (k+a.length) b
 |k,[],b=>by simp[bw]
 |k,u::a,b=>by
  simp only[qX,bw,yV (k+1) a b,G3,jP]
  grind
theorem gj: ∀ {k:Nat} {us:List Un} {n:Nat},n∈ah (bw k us)->∃j,k<=j/\j<k+us.length/\(n=17+6*j\/n=19+6*j\/n=21+6*j)
 |k,[],n,h=>by cases h
 |k,u::us,n,h=>by
  have h:n∈(17+6*k)::(19+6*k)::(21+6*k)::ah (bw (k+1) us):=by simpa [bw,lC,ah]using h
  rcases dl.1 h with rfl|h
  ·exact⟨k,dE _,by simp,.inl rfl⟩
  rcases dl.1 h with rfl|h
  ·exact⟨k,dE _,by simp,.inr (.inl rfl)⟩
  rcases dl.1 h with rfl|h
  ·exact⟨k,dE _,by simp,.inr (.inr rfl)⟩
  obtain⟨j,h1,h2,h3⟩:=gj h;exact⟨j,by omega,by grind,h3⟩
theorem yW: ∀(k:Nat) (us:List Un),(ah (bw k us)).Nodup
 |_,[]=>LN
 |k,u::us=>by
  have e:ah (bw k (u::us))=(17+6*k)::(19+6*k)::(21+6*k)::ah (bw (k+1) us):=by exact acv
  have hn: ∀n,n∈ah (bw (k+1) us)->22+6*k<=n:=λn h=>by grind[gj]
  rw[e,xQ,xQ,xQ];refine⟨λh=>?_,λh=>?_,λh=>?_,yW (k+1) us⟩
  grind
  grind
  grind
theorem um: ∀ {k:Nat} {us:List Un} {n:Nat} {b:cD},(bw k us).get n=some b->∃m z c,b= .row m z c
 |k,[],n,b,h=>by grind[bw,Hp.get]
 |k,u::us,n,b,h=>by
  have h:Hp.get ((17+6*k,some (.row true 1 (.view (ab u.lots))))::(19+6*k,some (.row true 4 (.view (u.res.map kF))))::(21+6*k,some (.row true 5 (.view (u.gas.map vh))))::bw (k+1) us) n=some b:=h;rw[Hp.av,Hp.av,Hp.av]at h;by_cases h1:n=17+6*k
  grind[an]
  rw[aG _ _ _ h1]at h;by_cases h2:n=19+6*k
  grind[an]
  rw[aG _ _ _ h2]at h;by_cases h3:n=21+6*k
  grind[an]
  rw[aG _ _ _ h3]at h;exact um h
def gY {us:List Un}(h:us.length<=1000):BY (bw 0 us):=
 ⟨yW 0 us,λn hn=>by grind[gj],λn b e=>um e⟩
def wkB (p:Pl)(s:bP):cD:=.box 126 [.st (.view (p.ae.map nh)),.st (.view (ab p.ap)),.st (.view (p.aa.map fD)),.st (.view (p.parts.map mj)),.st (J p.dZ),.st (J p.eK),.own 3,.st (K s.volt),.st (K s.earth),.own 5,.st (T s.hall),.own 7,.own 9]
def hd (p:Pl)(log:List En)(s:bP):Hp:=[(1,some (wkB p s)),(3,some (.row true 3 (.view (log.map be)))),(5,some (.row true 1 (.view (ab s.opens)))),(7,some (.row true 1 (.view (ab s.lots))))]
def form (p:Pl)(log:List En)(s:bP):Hp:=(9,some (.aD 17 (az 0 s.units)))::hd p log s++bw 0 s.units
def er (p:Pl)(log:List En)(s:bP)(u:Un)(l:List (List DC))(R:Hp):Hp:=(9,some (.aD 17 l))::(hd p log s++lC u 11 13 15)++R
def qx (i k:Nat):Nat:=if k=17+6*i then 11 else if k=19+6*i then 13 else if k=21+6*i then 15 else k
def HU (i k:Nat):Nat:=if k=11 then 17+6*i else if k=13 then 19+6*i else if k=15 then 21+6*i else k
theorem pS {i k:Nat}(h1:k≠17+6*i)(h2:k≠19+6*i)(h3:k≠21+6*i):qx i k=k:=by unfold qx;grind
def ae9 (i:Nat):qx i (17+6*i)=11:=by unfold qx;grind
def afa (i:Nat):qx i (19+6*i)=13:=by unfold qx;grind
def afb (i:Nat):qx i (21+6*i)=15:=by unfold qx;grind
theorem JR {i k:Nat}(h1:k≠11)(h2:k≠13)(h3:k≠15):HU i k=k:=by unfold HU;grind
def ZI (ρ:Nat->Nat)(u:Un)(a b c:Nat):(cU u a b c).map (DC.rn ρ)=cU u (ρ a) (ρ b) (ρ c):=rfl
theorem qy (ρ:Nat->Nat)(a b:Hp):cP ρ (a++b)=cP ρ a++cP ρ b:=by simp[cP]
theorem vj {ρ:Nat->Nat}: ∀ {k:Nat} {us:List Un},(∀n∈ah (bw k us),ρ n=n)->cP ρ (bw k us)=bw k us
 |k,[],_=>rfl
 |k,u::us,h=>by
  have e:ah (bw k (u::us))=(17+6*k)::(19+6*k)::(21+6*k)::ah (bw (k+1) us):=by exact acv
  rw[e]at h;have h1:=h (17+6*k) (by simp);have h2:=h (19+6*k) (by simp);have h3:=h (21+6*k) (by simp);rw[show bw k (u::us)=lC u (17+6*k) (19+6*k) (21+6*k)++bw (k+1) us from rfl,qy,vj λn hn=>h n bv];congr 1;show [(ρ (17+6*k),_),(ρ (19+6*k),_),(ρ (21+6*k),_)]=_;rw[h1,h2,h3];rfl
def yX {ρ:Nat->Nat}: ∀ {k:Nat} {us:List Un},(∀n∈ah (bw k us),ρ n=n)->(az k us).map (λe=>e.map (DC.rn ρ))=az k us
 |k,[],_=>rfl
 |k,u::us,h=>by
  have e:ah (bw k (u::us))=(17+6*k)::(19+6*k)::(21+6*k)::ah (bw (k+1) us):=by exact acv
  rw[e]at h;have h1:=h (17+6*k) (by simp);have h2:=h (19+6*k) (by simp);have h3:=h (21+6*k) (by simp);rw[show az k (u::us)=cU u (17+6*k) (19+6*k) (21+6*k)::az (k+1) us from rfl,jd,yX λn hn=>h n bv,ZI,h1,h2,h3]
def vk: ∀(k:Nat) (a b:List Un),az k (a++b)=az k a++az (k+a.length) b
 |k,[],b=>by simp[az]
 |k,u::a,b=>by
  simp only[qX,az,vk (k+1) a b,jP]
  grind
def oT {A F' B:Hp}(h: ∀n∈ah F',n∉ah A):Hp.get (A++(F'++B))=Hp.get (F'++(A++B)):=by
 funext n;rw[Hp.get_append,Hp.get_append,Hp.get_append,Hp.get_append,na,na,na,na]
 grind
theorem bx.congr {C:bU}{f:FuncId}{nx:Nat}{xs:List DX}{Hs Hs2 mq amw:Hp}{fK:List Nat}{r:DV}(h:bx C f nx xs Hs fK r mq)(e:Hs.get=Hs2.get)(e':mq.get=amw.get):bx C f nx xs Hs2 fK r amw:=by
 unfold bx at*
 grind
abbrev aw (us:List Un)(i:Nat):Hp:=bw 0 (us.take i)++bw (i+1) (us.drop (i+1))
def qz {us:List Un}{i:Nat}{u:Un}(h:us[i]? =some u):us=us.take i++u::us.drop (i+1)/\(us.take i).length =i:=by grind[List.getElem_cons_drop,List.take_append_drop]
def wV {us:List Un}{i n:Nat}{u:Un}(h:us[i]? =some u)(hn:n∈ah (aw us i)):17<=n/\n≠17+6*i/\n≠19+6*i/\n≠21+6*i/\n<23+6*us.length/\n%2=1:=by
 obtain⟨h1,h2⟩:=kJ.1 h;have hn:n∈ah (bw 0 (us.take i))++ah (bw (i+1) (us.drop (i+1))):=by grind
 grind[gj]
def VL {us:List Un}{i:Nat}{u:Un}(h:us[i]? =some u):(az 0 us).map (λe=>e.map (DC.rn (qx i)))=(az 0 us).set i (cU u 11 13 15):=by
 obtain⟨h1,h2⟩:=qz h;generalize us.take i=A at*;generalize us.drop (i+1)=B at*;subst h1;rw[vk,zZ,h2,j7];rw[show az i (u::B)=cU u (17+6*i) (19+6*i) (21+6*i)::az (i+1) B from rfl,jd,ZI,ae9,afa,afb];rw[yX λn hn=>by grind[gj,pS]];rw[yX λn hn=>by grind[gj,pS]];rw[Sn _ _ (by grind[eO]),eO,h2,G9,SF]
def VM {us:List Un}{i:Nat}{u':Un}(h:i<us.length):((az 0 us).set i (cU u' 11 13 15)).map (λe=>e.map (DC.rn (HU i)))=az 0 (us.set i u'):=by
 rw[SW,yX λn hn=>by grind[gj,JR],HT h,j7];rfl
def ZJ {us:List Un}{i:Nat}{u:Un}(h:us[i]? =some u):cP (qx i) (bw 0 us)=bw 0 (us.take i)++(lC u 11 13 15++bw (i+1) (us.drop (i+1))):=by
 obtain⟨h1,h2⟩:=qz h;generalize us.take i=A at*;generalize us.drop (i+1)=B at*;subst h1;rw[yV,h2,j7,qy,show bw i (u::B)=lC u (17+6*i) (19+6*i) (21+6*i)++bw (i+1) B from rfl,qy];rw[vj λn hn=>by grind[gj,pS]];rw[vj λn hn=>by grind[gj,pS]];congr 2;show [(qx i (17+6*i),_),(qx i (19+6*i),_),(qx i (21+6*i),_)]=_;rw[ae9,afa,afb];rfl
def ZK {us:List Un}{i:Nat}{u u':Un}(h:us[i]? =some u):bw 0 (us.set i u')=bw 0 (us.take i)++(lC u' (17+6*i) (19+6*i) (21+6*i)++bw (i+1) (us.drop (i+1))):=by
 obtain⟨h1,h2⟩:=qz h;generalize us.take i=A at*;generalize us.drop (i+1)=B at*;subst h1;rw[Sn _ _ K0,h2,G9,SF,yV,h2,j7];rfl
def lX: ∀ {k:Nat} {us:List Un} {e:List DC},e∈az k us->∀d∈e,d.dJ (· ∈ah (bw k us))
 |k,[],e,h=>by cases h
 |k,u::us,e,h=>by
  have hk:ah (bw k (u::us))=(17+6*k)::(19+6*k)::(21+6*k)::ah (bw (k+1) us):=by exact acv
  rw[hk];rcases dl.1 h with rfl|h
  ·intro d hd;exact ah0
  ·intro d hd;exact DC.dS (λn hn=>by grind) (lX h d hd)
theorem HV {k:Nat}(h:k%2=1)(h':k<4294967296):tag k=0:=by grind[JB]
def qA (p:Pl)(log:List En)(s:bP):ah (form p log s)=9::1::3::5::7::ah (bw 0 s.units):=by simp[form,hd,ah]
def wW (p:Pl)(log:List En)(s:bP)(u:Un)(l:List (List DC))(R:Hp):ah (er p log s u l R)=9::1::3::5::7::11::13::15::ah R:=by simp[er,hd,lC,ah]
def alN {L R:List Nat}(h:L.Nodup)(h':R.Nodup)(hL: ∀k∈L,k<17)(hR: ∀k∈R,17<=k):(L++R).Nodup :=by grind
def ci (p:Pl)(log:List En){s:bP}(h:s.units.length<=1000):HJ (form p log s) 1:=by
 have hk:=qA p log s;have hr: ∀n∈ah (bw 0 s.units),17<=n/\n<4294967296/\n%2=1:=(gY h).key;refine⟨?_,λk qR=>?_,λk b e=>?_,⟨_,_,rfl⟩⟩
 grind[yW]
 grind[HV]
 ·rw[hk];unfold form hd at e;simp only[qX,LM]at e;rw[Hp.av,Hp.av,Hp.av,Hp.av,Hp.av]at e;by_cases h9:k=9
  ·subst h9;rw[an]at e;cases e;exact λx hx d hd=>DC.dS (λn hn=>by grind) (lX hx d hd)
  rw[aG _ _ _ h9]at e;by_cases h1:k=1
  ·exact K96
  rw[aG _ _ _ h1]at e;by_cases h3:k=3
  ·exact akK
  rw[aG _ _ _ h3]at e;by_cases h5:k=5
  ·exact akL
  rw[aG _ _ _ h5]at e;by_cases h7:k=7
  ·exact akJ
  rw[aG _ _ _ h7]at e;obtain⟨m,z,c,rfl⟩:=um e;trivial
def vl {us:List Un}{i:Nat}{u:Un}(h:us[i]? =some u)(X:List DC):(az 0 us).set i X=az 0 (us.take i)++X::az (i+1) (us.drop (i+1)):=by
 obtain⟨h1,h2⟩:=qz h;generalize us.take i=A at*;generalize us.drop (i+1)=B at*;subst h1;rw[vk,h2,j7,Sn _ _ (by grind[eO]),eO,h2,G9];rfl
def oe (p:Pl)(log:List En)(s:bP){us:List Un}{i:Nat}{u u':Un}(hi:us[i]? =some u)(h:us.length<=1000):HJ (er p log s u' ((az 0 us).set i (cU u' 11 13 15)) (aw us i)) 1:=by
 have hk:=wW p log s u' ((az 0 us).set i (cU u' 11 13 15)) (aw us i);have hr:=λn (hn:n∈ah (aw us i))=>wV hi hn;refine⟨?_,λk qR=>?_,λk b e=>?_,⟨_,_,rfl⟩⟩
 ·rw[hk];refine alN (L:=[9,1,3,5,7,11,13,15]) K9 ?_ K9 λk hk=>(hr k hk).1;have hn:=yW 0 us;obtain⟨h1,h2⟩:=qz hi;have e:ah (bw 0 us)=ah (bw 0 (us.take i))++(ah (lC u (17+6*i) (19+6*i) (21+6*i))++ah (bw (i+1) (us.drop (i+1)))):=ah8;rw[e]at hn;have e2:ah (aw us i)=ah (bw 0 (us.take i))++ah (bw (i+1) (us.drop (i+1))):=by grind
  show(ah (aw us i)).Nodup;rw[e2];rw[Lw]at hn ⊢
  grind
 ·rw[hk]at qR;simp only[dl]at qR;rcases qR with rfl|rfl|rfl|rfl|rfl|rfl|rfl|rfl|h'
  ·decide
  ·decide
  ·decide
  ·decide
  ·decide
  ·decide
  ·decide
  ·decide
  grind[HV]
 ·rw[hk];unfold er hd lC at e;simp only[qX,LM]at e;rw[Hp.av,Hp.av,Hp.av,Hp.av,Hp.av,Hp.av,Hp.av,Hp.av]at e;by_cases h9:k=9
  ·subst h9;rw[an]at e;cases e;have up: ∀ {n:Nat},n∈ah (aw us i)->n∈9::1::3::5::7::11::13::15::ah (aw us i):=λhn=>by grind
   intro x hx d hd;rw[vl hi]at hx;rcases iz.1 hx with hx|hx
   ·exact DC.dS (λn hn=>up bv) (lX hx d hd)
   rcases dl.1 hx with rfl|hx;rotate_left
   ·exact DC.dS (λn hn=>up bv) (lX hx d hd)
   ·exact ah0
  rw[aG _ _ _ h9]at e;by_cases h1:k=1
  ·exact K96
  rw[aG _ _ _ h1]at e;by_cases h3:k=3
  ·exact akK
  rw[aG _ _ _ h3]at e;by_cases h5:k=5
  ·exact akL
  rw[aG _ _ _ h5]at e;by_cases h7:k=7
  ·exact akJ
  rw[aG _ _ _ h7]at e;by_cases h11:k=11
  ·subst h11;rw[an]at e;cases e;trivial
  rw[aG _ _ _ h11]at e;by_cases h13:k=13
  ·subst h13;rw[an]at e;cases e;trivial
  rw[aG _ _ _ h13]at e;by_cases h15:k=15
  ·subst h15;rw[an]at e;cases e;trivial
  rw[aG _ _ _ h15]at e;rw[Hp.get_append,na]at e;split at e
  ·exact akF
  ·exact akF
def HW {X L L':Hp}(h:L.get=L'.get):(X++L).get =(X++L').get :=by grind[Hp.get_append]
def ZL (p:Pl)(log:List En){s:bP}{i:Nat}{u:Un}(h:s.units[i]? =some u):(cP (qx i) (form p log s)).get =(er p log s u ((az 0 s.units).set i (cU u 11 13 15)) (aw s.units i)).get :=by
 have h3:qx i 3=3:=pS K0 K0 K0;have h5:qx i 5=5:=pS K0 K0 K0;have h7:qx i 7=7:=pS K0 K0 K0;have h9:qx i 9=9:=pS K0 K0 K0;have h1:qx i 1=1:=pS K0 K0 K0
 have e:cP (qx i) (form p log s)=((9,some (.aD 17 ((az 0 s.units).set i (cU u 11 13 15))))::hd p log s)++(bw 0 (s.units.take i)++(lC u 11 13 15++bw (i+1) (s.units.drop (i+1)))):=by
  unfold form;rw[qy,ZJ h];congr 1;show [(qx i 9,some (cD.aD 17 ((az 0 s.units).map λe=>e.map (DC.rn (qx i))))),(qx i 1,some (.box _ [_,_,_,_,_,_,.own (qx i 3),_,_,.own (qx i 5),_,.own (qx i 7),.own (qx i 9)])),(qx i 3,_),(qx i 5,_),(qx i 7,_)]=_;rw[VL h,h1,h3,h5,h7,h9];rfl
 rw[e,show er p log s u ((az 0 s.units).set i (cU u 11 13 15)) (aw s.units i)=((9,some (.aD 17 ((az 0 s.units).set i (cU u 11 13 15))))::hd p log s)++(lC u 11 13 15++aw s.units i)by simp[er]];refine HW (oT λn hn hm=>?_);obtain⟨j,q1,q2,q3⟩:=gj hm;have:n=11\/n=13\/n=15:=by simpa [lC,ah]using hn
 omega
theorem MT (p:Pl)(log:List En)(s:bP){us:List Un}{i:Nat}{u u':Un}(h:us[i]? =some u)(hs:s.units=us.set i u'):(cP (HU i) (er p log s u' ((az 0 us).set i (cU u' 11 13 15)) (aw us i))).get =(form p log s).get :=by
 have ak:=(kJ.1 h).1
 have e:cP (HU i) (er p log s u' ((az 0 us).set i (cU u' 11 13 15)) (aw us i))=((9,some (.aD 17 (az 0 s.units)))::hd p log s)++(lC u' (17+6*i) (19+6*i) (21+6*i)++aw us i):=by
  have e1:cP (HU i) (aw us i)=aw us i:=by grind[qy,vj,gj,JR]
  have e2:cP (HU i) ((9,some (cD.aD 17 ((az 0 us).set i (cU u' 11 13 15))))::(hd p log s++lC u' 11 13 15))=((9,some (.aD 17 (az 0 s.units)))::hd p log s)++lC u' (17+6*i) (19+6*i) (21+6*i):=by
   show(9,some (cD.aD 17 (((az 0 us).set i (cU u' 11 13 15)).map λe=>e.map (DC.rn (HU i)))))::_=_;rw[VM ak,hs];rfl
  show cP (HU i) (((9,some (cD.aD 17 ((az 0 us).set i (cU u' 11 13 15))))::(hd p log s++lC u' 11 13 15))++aw us i)=_
  grind[qy]
 rw[e,show form p log s=((9,some (.aD 17 (az 0 s.units)))::hd p log s)++bw 0 s.units by simp[form],hs,ZK h];refine HW (oT λn hn hm=>?_).symm;obtain⟨j,q1,q2,q3⟩:=gj hm;have:n=17+6*i\/n=19+6*i\/n=21+6*i:=by simpa [lC,ah]using hn
 grind
def focus {f:FuncId}{ys:List SV}{p:Pl}{log sr:List En}{s s':bP}{i:Nat}{u u':Un}{y:SV}(hi:s.units[i]? =some u)(hl:s.units.length<=1000)
  (h:bx cx f 1 ((false,[.ptr 1 0])::ys.map dyn) (er p log s u ((az 0 s.units).set i (cU u 11 13 15)) (aw s.units i)) [1] (.val (dyn y)) (er p sr s' u' ((az 0 s.units).set i (cU u' 11 13 15)) (aw s.units i)))
  (hs:s'.units=s.units.set i u'):bx cx f 1 ((false,[.ptr 1 0])::ys.map dyn) (form p log s) [1] (.val (dyn y)) (form p sr s'):=by
 have hk:=qA p log s;have hT:=ci p log hl;have eJ:=oe p sr s' (u':=u') hi hl;have gC: ∀n∈ah (bw 0 s.units),17<=n:=λn hn=>by grind[gj]
 have aoG: ∀k∈ah (form p log s),k≠11/\k≠13/\k≠15:=λk qR=>by grind
 have amr: ∀a∈ah (form p log s),∀b∈ah (form p log s),qx i a=qx i b->a=b:=λa ha b hb e=>by grind[qx]
 have amJ: ∀k∈ah (er p sr s' u' ((az 0 s.units).set i (cU u' 11 13 15)) (aw s.units i)),k≠17+6*i/\k≠19+6*i/\k≠21+6*i:=λk qR=>by exact ahZ
 have ahS: ∀a∈ah (er p sr s' u' ((az 0 s.units).set i (cU u' 11 13 15)) (aw s.units i)),∀b∈ah (er p sr s' u' ((az 0 s.units).set i (cU u' 11 13 15)) (aw s.units i)),HU i a=HU i b->a=b:=λa ha b hb e=>by grind[HU]
 have f1:qx i 1=1:=pS K0 K0 K0;have u1:HU i 1=1:=JR K0 K0 K0
 have Cd:((false,[DC.ptr 1 0])::ys.map dyn).map (Gk (qx i))=(false,[.ptr 1 0])::ys.map dyn:=by
  rw[jd,z6];refine congr (aQ List.cons ?_) ?_
  ·show(false,[DC.ptr (qx i 1) 0])=_;rw[f1]
  ·refine Lt λx _=>?_;show((dyn x).1,(dyn x).2.map (DC.rn (qx i)))=dyn x;exact af9
 have g1:bx cx f 1 (((false,[DC.ptr 1 0])::ys.map dyn).map (Gk (qx i))) (cP (qx i) (form p log s)) [1] (.val (dyn y)) (er p sr s' u' ((az 0 s.units).set i (cU u' 11 13 15)) (aw s.units i)):=by rw[Cd];exact bx.congr h (ZL p log hi).symm rfl
 have O7: ∀x∈((false,[DC.ptr 1 0])::ys.map dyn),eh (· ∈ah (form p log s)) x:=by
  intro x hx;rcases dl.1 hx with rfl|hx
  ·intro d hd;rw[m6]at hd;subst hd;show(1:Nat)∈ah _
   grind
  ·obtain⟨z,_,rfl⟩:=dT.1 hx;exact af3
 have g2:=g1.inn (nx0:=1) (nf.hp hT amr) (λo b e=>⟨Hp.dK e,by rw[jR amr o (Hp.dK e),e];rfl⟩) (λk qR=>by
   have h1:=(hT.lt k qR).2
   have:tag (qx i k)=0:=by
    unfold qx;split
    ·rfl
    ·split
     ·rfl
     ·split
      ·rfl
      grind
   omega) O7 (λid hid=>by grind)
 have g3:=g2.out (nf.hp eJ ahS) (by
   show lH _ (.val (dyn y));intro d hd;obtain⟨c,_,rfl⟩:=dT.1 hd
   trivial) (λid hid=>by rw[m6]at hid;subst hid;exact⟨eJ.xJ,u1⟩)
 have hr:La (HU i) (.val (dyn y))= .val (dyn y):=by
  show DV.val ((dyn y).1,(dyn y).2.map (DC.rn (HU i)))=_;exact af9
 grind[bx.congr,MT]
end Go.Proofs.Tryz
namespace Go.Proofs.Tryz
open Go.Fw Go.IntWalk
abbrev vL (l:List Int):Option DV:=some (.val (false,[.st (.ints l)]))
def JS {n g:Int}(hn:TE n)(_:0<g)(hd:g∣n):IntKind.i64.wrap (n.tdiv g)=n/g:=by
 rw[Int.tdiv_eq_ediv_of_dvd hd];have h1:=hn.1;have h2:=hn.2;have:=XQ n g;exact i64_in _ K0
def Qq (n d:Int)(hn:TE n)(hd:0<d/\d<=9223372036854775807):ac 371 [I n,I d] (.one (F2 (n/Int.gcd n d) (d/Int.gcd n d))):=by
 have hg:(0:Int)<Int.gcd n d:=ajM;refine sF f371 ?_;repeat(first|refine oP rfl ?_|(refine rG (λ_ h=>h) ?_;conv=>whnf)|(refine oN ?_;conv=>whnf)|refine aS ?_|(refine aR ?_;conv=>whnf))
 refine rG (λ_ h=>⟨_,JO n d hn.i ⟨by omega,by omega⟩ (λe=>absurd e hn.ne),h⟩) ?_;(conv=>whnf);repeat(first|refine oP rfl ?_|(refine rG (λ_ h=>h) ?_;conv=>whnf)|(refine oN ?_;conv=>whnf)|refine aS ?_|(refine aR ?_;conv=>whnf)|refine aC rfl ?_)
 (refine oH (λh=>?_) (λh=>?_))<;>(try conv=>whnf)<;>(repeat(first|refine oP rfl ?_|(refine rG (λ_ h=>h) ?_;conv=>whnf)|(refine oN ?_;conv=>whnf)|refine aS ?_|(refine aR ?_;conv=>whnf)|(refine aK ?_;conv=>whnf)))
 ·have h:decide (d<0)=true:=h;simp at h;omega
 ·refine rG (λ_ h=>⟨SX hg,h⟩) ?_;(conv=>whnf);repeat(first|refine oP rfl ?_|(refine rG (λ_ h=>h) ?_;conv=>whnf))
  refine rG (λ_ h=>⟨SX hg,h⟩) ?_;(conv=>whnf);repeat(first|refine oP rfl ?_|(refine rG (λ_ h=>h) ?_;conv=>whnf)|(refine oN ?_;conv=>whnf)|(refine aT ?_;conv=>whnf)|(refine dI cT ?_;conv=>whnf))
  exact ai3
def nM (n d:Int)(hn:p9 n)(hd:p9 d):ac 268 [F2 n d] (.one (Bo (decide (0<d/\Int.gcd n d=1)))):=by
 refine sF f268 ?_;repeat(first|refine oP rfl ?_|(refine rG (λ_ h=>h) ?_;conv=>whnf)|(refine oN ?_;conv=>whnf)|refine aS ?_|(refine aR ?_;conv=>whnf))
 (refine Jj rfl rfl rfl (λh=>?_) (λh=>?_))<;>(try conv=>whnf)<;>(repeat(first|refine oP rfl ?_|(refine rG (λ_ h=>h) ?_;conv=>whnf)|(refine oN ?_;conv=>whnf)|(refine aT ?_;conv=>whnf)|refine oY rfl rfl rfl ?_|(refine oZ rfl rfl rfl ?_;conv=>whnf)))
 ·have h:decide (d>0)=true:=h;simp at h;have:=hd.2;refine rG (λ_ h=>⟨_,JO n d hn ⟨by omega,by omega⟩ (λ_=>by omega),h⟩) ?_;(conv=>whnf);repeat(first|refine oP rfl ?_|(refine rG (λ_ h=>h) ?_;conv=>whnf)|(refine oN ?_;conv=>whnf)|(refine aT ?_;conv=>whnf)|refine oY rfl rfl rfl ?_)
  exact kW (by rw[vN];simp[h];omega)
 ·have h:decide (d>0)=false:=h;simp at h;exact kW wa
abbrev F4 (a b c d:Int):SV:=(true,[J a,J b,J c,J d])
end Go.Proofs.Tryz
namespace Go.Fw
open Go.IntWalk
end Go.Fw
namespace Go.Proofs.Tryz
open Go.Fw Go.IntWalk
end Go.Proofs.Tryz
namespace Go.Plain
theorem Ap {α:Type}{l:List α}{i:Nat}{d:α}(h:i<l.length):l.take (i+1)=l.take i++[l.getD i d]:=by simp_all
def qB {α:Type}{l:List α}{i:Nat}{d:α}(h:i<l.length):l.getD i d∈l:=by grind
theorem og {α:Type}{l:List α}{i:Nat}{d:α}(h:i<l.length):l.drop i=l.getD i d::l.drop (i+1):=by simp_all
def wv {α:Type}{n:Nat}{f:Nat->α}:(List.range (n+1)).map f=(List.range n).map f++[f n]:=by simp[List.range_succ]
def alO (l:List Int)(k:Nat):Int:=(l.take k).sum
def rs (a b:List Int)(k:Nat):Int:=alO a k+alO b k
def jb (l:List Int)(lo hi:Int):Prop:=∀n∈l,lo<=n/\n<=hi
instance (l:List Int)(lo hi:Int):Decidable (jb l lo hi):=inferInstanceAs (Decidable (∀n∈l,lo<=n/\n<=hi))
def HX (a b:List Int):Int:=
 if 0<a.length/\a.length=b.length then if a.length<=15 then if jb a (-100) 100 then if jb b (-100) 100 then if a.sum+b.sum=0 then 0 else 13 else 2 else 2 else 8 else 10
structure VW (a b:List Int):Prop where
 len:b.length=a.length
 pos:0<a.length
 le:a.length<=15
 ra: ∀n∈a,-100<=n/\n<=100
 rb: ∀n∈b,-100<=n/\n<=100
 sum:a.sum+b.sum=0
def D5 {a b:List Int}:HX a b=0↔VW a b:=by
 unfold HX;constructor
 ·intro h
  (repeat' split at h)<;>first|omega|skip
  rename_i h1 h2 h3 h4 h5;exact⟨by omega,by omega,by omega,h3,h4,by omega⟩
 ·intro h;have:=h.len;have:=h.pos;have:=h.le;rw[if_pos K0,if_pos K0,if_pos (show jb a (-100) 100 from h.ra),if_pos (show jb b (-100) 100 from h.rb),if_pos h.sum]
instance (a b:List Int):Decidable (VW a b):=decidable_of_iff _ D5
end Go.Plain
namespace Go.Proofs.Tryz
open Go.Fw Go.IntWalk Go.Plain
abbrev L (l:List Int):SV:=(false,[.ints l])
abbrev W2 (a b:List Int):SV:=(true,[.ints a,.ints b])
def Gl (l:List Int)(g:FuncId)(first:List (Bool × List SC))(bM:List (List SC))(p:Int->Bool)(hp: ∀n,ac g (first++[I n]++bM.map λcs=>(false,[.ref cs])) (.one (Bo (p n))))(hl:l.length<=maxLen):
  ac 267 [L l,(false,[.fn g first bM])] (.one (I (if l.any p then(l.findIdx p:Int)else -1))):=by
 unfold maxLen at hl;refine sF f267 ?_
 (try(refine tX 0 ?_;try exact Zt))
 refine af (ι:=Nat) (λi=>i<=l.length/\∀j<i,p (l.getD j 0)=false) (λi=>l.length -i) (λi=>⟨[(0,vL l),(1,some (.val (false,[.st (.fn g first bM)]))),(7,vI l.length),(8,vI i)],[],0⟩) 0 Zc ⟨dD _,by intro j hj;omega⟩ ?_;rintro i ⟨hi,hf⟩
 (try(refine tX 0 ?_;try exact Zt))
 (refine bR ?_ ?_<;>intro h<;>(try conv=>whnf))<;>((try(refine tX 0 ?_;try exact Zt)))
 ·have ak:i<l.length:=by omega
  repeat((first|(refine kO 7 rfl ?_;first|refine Rq (hp _) ?_)|refine tX 0 ?_|exact Zt);(try conv=>whnf))
  have iV:l.getD i 0=l[i]:=by simp[jN,ak]
  (refine bR ?_ ?_<;>intro h<;>(try conv=>whnf))<;>((try(refine tX 0 ?_;try exact Zt)))
  ·have ahI:l.any p=true:=G4.2 ⟨l.getD i 0,qB ak,h⟩;refine wu ?_;rw[if_pos ahI]
   have:l.findIdx p=i:=by
    rw[Ye ak];refine⟨by rw[<- iV];exact h,λj hj=>?_⟩;have:=hf j hj;simpa [jN,show j<l.length by omega]using this
   rw[this]
  ·refine⟨i+1,⟨ak,λj hj=>?_⟩,by omega,Zc⟩;by_cases e:j=i
   ·subst e;simpa using h
   ·exact hf j K0
 ·refine wu ?_;rw[if_neg];intro ahI;obtain⟨x,hx,hpx⟩:=G4.1 ahI;obtain⟨j,hj,rfl⟩:=IU.1 hx;have:=hf j K0;simp[jN,hj,hpx]at this
def Aq (l:List Int)(g:FuncId)(first:List (Bool × List SC))(bM:List (List SC))(p:Int->Bool)(hp: ∀n,ac g (first++[I n]++bM.map λcs=>(false,[.ref cs])) (.one (Bo (p n))))(hl:l.length<=maxLen):
  ac 264 [L l,(false,[.fn g first bM])] (.one (Bo (l.any p))):=by
 refine sF f264 ?_;repeat' ((first|(refine kO 7 rfl ?_;first|refine rG (λ_ z=>⟨_,Gl l g first bM p hp hl,z⟩) ?_)|refine tX 0 ?_|exact Zt|refine bR ?_ ?_<;>intro h)<;>(try conv=>whnf))
 refine kW ?_;cases l.any p
 ·simp
 ·simp
def ac7 {l:List Int}{lo hi:Int}:(l.any λn=> !(decide (lo<=n)&&decide (n<=hi)))=decide (¬jb l lo hi):=by
 rw[vN,vJ];rw[G4];unfold jb;constructor
 ·rintro⟨x,hx,h⟩ hh;have:=hh x hx;simp at h;omega
 ·intro h;apply Pz;intro hn;refine h λn hm=>?_;apply Pz;intro hc;exact hn ⟨n,hm,by simp;omega⟩
abbrev pP (id:Nat):Option DV:=some (bm (.ptr id 0))
abbrev pO (id:Nat):Option DV:=some (bm (.own id))
def lY (l:List aj)(x:aj):ab (l++[x])=ab l++[[.lit (.string (B x))]]:=by simp
def kX (n m:Int)(h: -9223372036854775807<=m/\m<=9223372036854775807):ac 231 [I n,I m] (.one (Bo (decide (-m<=n)&&decide (n<=m)))):=by
 refine sF f231 ?_;exact K1
def kY (k:Int):ac 71 [I k] (.one (Bo (decide (sw k)))):=by
 refine sF f71 ?_;repeat' ((first|refine tX 0 ?_|exact Zt|refine bR ?_ ?_<;>intro h)<;>(try conv=>whnf))
 all_goals exact gX (by rw[vN];simp;unfold sw;omega)
def HY (l all:List aj)(hl:l.length<=1000)(ha:all.length<=1000):ac 185 [V1 l,V1 all] (.one (I (jT l all))):=by
 have hn:(ab l).length =l.length:=by simp
 refine sF f185 ?_
 (try(refine tX 0 ?_;try exact Zt))
 refine af (ι:=Nat) (λi=>i<=l.length/\∀j<i,D4 l all j=0) (λi=>l.length -i) (λi=>⟨[(0,some (.val (false,[.st (.view (ab l))]))),(1,some (.val (false,[.st (.view (ab all))]))),(8,some (.val (false,[.st (.view (ab l))]))),(9,vI l.length),(10,vI i)],[],0⟩) 0 (ai PF) ⟨dD _,λj hj=>by omega⟩ ?_;rintro i ⟨hi,hp⟩;by_cases ak:i<l.length
 ·have he:=sA ak;have kG:D4 l all i=if l.getD i []∈all then(if l.getD i []∈l.take i then 23 else 0)else 6:=rfl
  have eM:=λ(h:D4 l all i≠0)=>fI (f:=D4 l all) ak hp h;have it:=λ(h:D4 l all i=0)=>all_succ hp h;have hra:jT l all=(cR (D4 l all) l.length).2:=rfl;have c1:=bI all (l.getD i []) K0;have c2:=bI (l.take i) (l.getD i []) wa;have xp:(ab l).take i=ab (l.take i):=by simp
  generalize l.getD i []=s at*;by_cases h1:s∈all
  ·rw[fL h1]at c1;rw[if_pos h1]at kG;by_cases h2:s∈l.take i
   ·rw[fL h2]at c2;rw[if_pos h2]at kG;rw[hra,eM agk,kG];exact tA
   ·rw[fj h2]at c2;rw[if_neg h2]at kG;repeat' ((first|refine tX 0 ?_|exact Zt|refine bR ?_ ?_<;>intro h)<;>(try conv=>whnf))
    all_goals first|exact Zo|exact⟨i+1,⟨ak,it kG⟩,by omega,Zc⟩
  ·rw[fj h1]at c1;rw[if_neg h1]at kG;rw[hra,eM agk,kG];by_cases h2:s∈l.take i
   ·rw[fL h2]at c2;exact ah1
   ·rw[fj h2]at c2;exact ah1
 ·obtain rfl:i=l.length:=by omega
  have hra:jT l all=0:=by unfold jT;rw[gT hp]
  rw[hra];exact tA
def uo (l:List Ts)(hl:l.length<=1000):ac 186 [(false,[.view (l.map fD)])] (.own 1 (.view (ab (cS l)))):=by
 have hn:(l.map fD).length =l.length:=by simp
 have AX:(cS l).length =l.length:=by simp[cS]
 refine sF f186 ?_
 (try(refine tX 0 ?_;try exact Zt))
 refine af (ι:=Nat) (λi=>i<=l.length) (λi=>l.length -i) (λi=>⟨[(3,pO 0),(6,some (.val (false,[.st (.view (l.map fD))]))),(7,vI l.length),(8,vI i)],[(0,some (.row true 1 (.view (ab ((cS l).take i)))))],1⟩) 0 (bp.trans (iG 3 1 (.view []) K9 rfl rfl rfl) (ai PF)) (dD _) ?_;intro i hi;by_cases ak:i<l.length
 ·have he:=aV (f:=fD) ak dz;have vX:=take_succ (l:=cS l) (i:=i) K0;rw[rM ak]at vX;have vV:(ab ((cS l).take i)).length <=1000:=by simp;omega
  repeat' ((first|refine tX 0 ?_|exact Zt|refine bR ?_ ?_<;>intro h)<;>(try conv=>whnf))
  all_goals first|exact Zo|exact⟨i+1,ak,by omega,ai ab1⟩
 ·obtain rfl:i=l.length:=by omega
  rw[pc K0];exact tA
end Go.Proofs.Tryz
namespace Go.Plain
end Go.Plain
namespace Go.Proofs.Tryz
open Go.Fw Go.IntWalk Go.Plain
end Go.Proofs.Tryz
namespace Go.Plain
def mx (a b:Int):Int:=if b>a then b else a
end Go.Plain
namespace Go.Proofs.Tryz
open Go.Fw Go.IntWalk Go.Plain
def IL (x:Int):Prop:= -1000000000<=x/\x<=1000000000
def ac8 {a b:List Int}(h:a.length=b.length)(he: ∀j<a.length,a.getD j 0=b.getD j 0):a=b:=by
 refine List.ext_getElem h λj h1 h2=>?_;have:=he j h1;simpa [jN,h1,h2]using this
def MU (a b:List Int)(ha:a.length<=maxLen):ac 26 [L a,L b] (.one (Bo (decide (a=b)))):=by
 unfold maxLen at ha;refine sF f26 ?_
 (try(refine tX 0 ?_;try exact Zt))
 (refine bR ?_ ?_<;>intro h<;>(try conv=>whnf))
 ·(try(refine tX 0 ?_;try exact Zt))
  refine kW ?_;rw[eq_comm,decide_eq_false_iff_not];intro e;subst e;omega
 ·have hl:a.length=b.length:=by omega
  (try(refine tX 0 ?_;try exact Zt))
  refine af (ι:=Nat) (λi=>i<=a.length/\∀j<i,a.getD j 0=b.getD j 0) (λi=>a.length -i) (λi=>⟨[(0,vL a),(1,vL b),(5,vI i)],[],0⟩) 0 Zc ⟨dD _,by intro j hj;omega⟩ ?_;rintro i ⟨hi,he⟩
  (try(refine tX 0 ?_;try exact Zt))
  (refine bR ?_ ?_<;>intro h<;>(try conv=>whnf))
  ·have ak:i<a.length:=by omega
   (try(refine tX 0 ?_;try exact Zt))
   (refine bR ?_ ?_<;>intro h<;>(try conv=>whnf))
   ·(try(refine tX 0 ?_;try exact Zt))
    refine kW ?_;rw[eq_comm,decide_eq_false_iff_not];intro e;subst e;exact h rfl
   ·(try(refine tX 0 ?_;try exact Zt))
    refine⟨i+1,⟨ak,λj hj=>?_⟩,by omega,Zc⟩;by_cases e:j=i
    ·subst e;simpa using h
    ·exact he j K0
  ·(try(refine tX 0 ?_;try exact Zt))
   refine kW ?_;rw[eq_comm,vJ];exact ac8 hl λj hj=>he j K0
def agJ:(6,Lib.pow10Tab.map λz=>SC.lit (.int .u64 z))∈cx.gl:=jI (i:=4) cT
def Qr:(1,[SC.num .i64])∈cx.gl:=jI (i:=1) cT
def agK:(2,[SC.err])∈cx.gl:=jI (i:=2) cT
def agL:(3,[SC.err])∈cx.gl:=jI (i:=3) cT
def uq (n:Int)(h:p9 n):ac 99 [I n] (.one (SS (Lib.itoa n))):=Zm XJ cT (g:=6) cT agJ n h
def ur (s:List UInt8)(hl:s.length<=1000000){v:Int}(h:Lib.atoiAll s= .ok v):ac 98 [SS s] (.aI [I v,(false,[.lit .nilIface])]):=ac0 Ln cT s hl h
def pB (s:List UInt8)(hl:s.length<=1000000)(h: ∀v,Lib.atoiAll s≠ .ok v): ∃v,ac 98 [SS s] (.aI [I v,(false,[.err])]):=Zn Ln cT agK agL s hl h
def gZ (s:List UInt8)(c:UInt8)(hl:s.length<=1000000):ac 67 [SS s,SS [c]] (.aI [SS (Lib.cut s [c]).1,SS (Lib.cut s [c]).2.1,Bo (Lib.cut s [c]).2.2]):=ac1 abV cT Qr s c hl
def kZ (s p:List UInt8):ac 207 [SS s,SS p] (.one (SS (Lib.trimPrefix s p))):=DO abT cT s p
def Ar (s:List UInt8)(c:UInt8)(hl:s.length<=1000000)(bG:(CM s c).length =Lib.countB (B s) (B [c])+1):ac 57 [SS s,SS [c]] (.own 1 (.view (ab (CM s c)))):=HN Se cT cT Qr s c hl bG
def TH (n:Int)(h: -1000000<=n/\n<=1000000):ac 328 [I n] (.one (I (n.natAbs:Nat))):=by
 have e:(if -n>n then -n else n)=((n.natAbs:Nat):Int):=by split<;>omega
 rw[<- e];refine sF f328 ?_;exact K1
def MW (o:Option Int):List SV:=match o with
 |some n=>[I n,Bo true]
 |none=>[I 0,Bo false]
def iI (s:List UInt8)(d:Nat)(hd:d<=18)(hl:s.length<=1000000):ac 148 [SS s,I d] (.aI (MW (fP d s))):=by
 have eC:=agF s;by_cases KQ:(s.getD 0 0).toNat =45
 ·have ea:B0 s=1:=by unfold B0;rw[if_pos KQ]
  rw[ea]at eC;unfold fP;by_cases hb0:B4 d s
  ·have hb:s.length=1\/d<s.length -1\/((s.getD 1 0).toNat =48/\1<s.length):=by exact ab2
   rw[if_pos hb0];unfold MW;refine sF f148 ?_;exact K5
  ·have hb: ¬(s.length=1\/d<s.length -1\/((s.getD 1 0).toNat =48/\1<s.length)):=by exact ab2
   rw[if_neg hb0,ea];have hz: ¬(s.getD 1 0).toNat =48:=by omega
   all_goals
    refine sF f148 ?_
    (try(refine tX 0 ?_;try exact Zt))
    refine af (ι:=Nat) (λi=>(1<=i/\i<=s.length)/\∀b∈(s.take i).drop 1,dt b) (λi=>s.length -i) (λi=>⟨[(0,lS s),(6,vI 1),(7,vI (fH 0 ((s.take i).drop 1):Nat)),(8,vI i)],[],0⟩) 1 (ai (by rw[show(s.take 1).drop 1= []by simp];kernel_rfl)) ⟨⟨dE _,eC⟩,by rw[show(s.take 1).drop 1= []by simp];simp⟩ ?_;rintro i ⟨⟨zO,hi⟩,xD⟩;have hsm:=oM xD wa;have hby:(s.getD i 0).toNat <=255:=by exact UX
    by_cases ak:i<s.length
    ·by_cases hx:dt (s.getD i 0)
     ·have anT:=Bq xD wa;have hv:=MN zO ak hx;have am5: ∀b∈(s.take (i+1)).drop 1,dt b:=aiA;unfold dt at hx;generalize fH 0 ((s.take i).drop 1)=v at*;exact aiL
     ·have dp: ¬ ∀b∈s.drop 1,dt b:=λh=>hx (h _ (by
       have e:s.getD i 0=(s.drop 1).getD (i -1) 0:=ajj;rw[e];have:i -1< (s.drop 1).length :=by simp;omega
       rw[jN,pj this]
       exact qd this))
      rw[if_neg dp];unfold dt at hx;generalize fH 0 ((s.take i).drop 1)=v at*;exact K5
    ·obtain rfl:i=s.length:=by omega
     rw[mA]at xD hsm ⊢;rw[if_pos xD];generalize fH 0 (s.drop 1)=v at*;exact K1
 ·have ea:B0 s=0:=by unfold B0;rw[if_neg KQ]
  rw[ea]at eC;unfold fP;by_cases hb0:B4 d s
  ·have hb:s.length=0\/d<s.length -0\/((s.getD 0 0).toNat =48/\1<s.length):=by exact ab2
   rw[if_pos hb0];unfold MW;refine sF f148 ?_;exact K5
  ·have hb: ¬(s.length=0\/d<s.length -0\/((s.getD 0 0).toNat =48/\1<s.length)):=by exact ab2
   rw[if_neg hb0,ea];rcases Classical.em ((s.getD 0 0).toNat =48)with hz|hz
   all_goals
    refine sF f148 ?_
    (try(refine tX 0 ?_;try exact Zt))
    refine af (ι:=Nat) (λi=>(0<=i/\i<=s.length)/\∀b∈(s.take i).drop 0,dt b) (λi=>s.length -i) (λi=>⟨[(0,lS s),(6,vI 0),(7,vI (fH 0 ((s.take i).drop 0):Nat)),(8,vI i)],[],0⟩) 0 (ai (by rw[show(s.take 0).drop 0= []by simp];kernel_rfl)) ⟨⟨dE _,eC⟩,by rw[show(s.take 0).drop 0= []by simp];simp⟩ ?_;rintro i ⟨⟨zO,hi⟩,xD⟩;have hsm:=oM xD wa;have hby:(s.getD i 0).toNat <=255:=by exact UX
    by_cases ak:i<s.length
    ·by_cases hx:dt (s.getD i 0)
     ·have anT:=Bq xD wa;have hv:=MN zO ak hx;have am5: ∀b∈(s.take (i+1)).drop 0,dt b:=aiA;unfold dt at hx;generalize fH 0 ((s.take i).drop 0)=v at*;exact aiL
     ·have dp: ¬ ∀b∈s.drop 0,dt b:=λh=>hx (h _ (by
       have e:s.getD i 0=(s.drop 0).getD (i -0) 0:=by
        simp only[jN,G1];rw[show 0+(i -0)=i by omega]
       rw[e];have:i -0< (s.drop 0).length :=by simp;omega
       rw[jN,pj this]
       exact qd this))
      rw[if_neg dp];unfold dt at hx;generalize fH 0 ((s.take i).drop 0)=v at*;exact K5
    ·obtain rfl:i=s.length:=by omega
     rw[mA]at xD hsm ⊢;rw[if_pos xD];generalize fH 0 (s.drop 0)=v at*;exact K1
def HZ (l:List (List UInt8))(x:List UInt8):ab (l++[x])=ab l++[[.lit (.string (B x))]]:=by simp
def eo (l:List (List UInt8)):(ab l).length =l.length:=by simp
def MX (l:List (List UInt8))(x:List UInt8):(SC.view (ab l++[[.lit (.string (B x))]])).zW 1:=aiz
def jY (s:List UInt8)(c:UInt8)(hl:s.length<=1000000):ac 44 [SS s,(false,[.lit (.int .u8 (c.toNat:Nat))])] (.own 1 (.view (ab (agG s c.toNat)))):=by
 refine sF f44 ?_
 (try(refine tX 0 ?_;try exact Zt))
 refine af (ι:=Nat) (λi=>i<=s.length) (λi=>s.length -i) (λi=>⟨[(0,lS s),(1,some (lit (.int .u8 (c.toNat:Nat)))),(5,pO 0),(6,vI (jf s c.toNat i).2),(7,vI i)],[(0,some (.row true 1 (.view (ab (jf s c.toNat i).1))))],1⟩) 0 (bp.trans (iG 5 1 (.view []) K9 rfl rfl rfl) Zc) (dD _) ?_;intro i hi;obtain⟨h1,h2⟩:=JK s c.toNat i;have h3:=eo (jf s c.toNat i).1;by_cases ak:i<s.length
 ·by_cases hx:(s.getD i 0).toNat =c.toNat
  ·have e:jf s c.toNat (i+1)=((jf s c.toNat i).1++[(s.take i).drop (jf s c.toNat i).2],i+1):=by
    show(if(s.getD i 0).toNat =c.toNat then _ else _)=_;rw[if_pos hx]
   have e2:=HZ (jf s c.toNat i).1 ((s.take i).drop (jf s c.toNat i).2);have u:=MX (jf s c.toNat i).1 ((s.take i).drop (jf s c.toNat i).2);generalize jf s c.toNat i=P at*
   (try(refine tX 0 ?_;try exact Zt))
   exact⟨i+1,ak,by omega,ai (by rw[e];dsimp only;rw[e2];kernel_rfl)⟩
  ·have e:jf s c.toNat (i+1)=jf s c.toNat i:=by
    show(if(s.getD i 0).toNat =c.toNat then _ else _)=_;rw[if_neg hx]
   generalize jf s c.toNat i=P at*
   (try(refine tX 0 ?_;try exact Zt))
   exact⟨i+1,ak,by omega,ai (by rw[e];kernel_rfl)⟩
 ·obtain rfl:i=s.length:=by omega
  unfold agG;have e2:=HZ (jf s c.toNat s.length).1 (s.drop (jf s c.toNat s.length).2);have u:=MX (jf s c.toNat s.length).1 (s.drop (jf s c.toNat s.length).2);rw[e2];generalize jf s c.toNat s.length=P at*;exact K1
def mJ {x:SV}{b c:Bool}(h:b=c):lO.aI [x,Bo b]=lO.aI [x,Bo c]:=by rw[h]
def rN {sg:Bool}{s:List UInt8}{d:Nat}(hd:d<=18)(hl:s.length<=1000000){n:Int}(h:wN sg d s=some n):ac 137 [SS s,I d,Bo sg] (.aI [I n,Bo true]):=by
 obtain⟨h0,h9⟩:=iH h;obtain⟨h1,h2,h3,h4⟩:=fW hd h0;have c1:=ur s hl h1;have c2:=uq n h4;rw[h2]at c2;have c3:=kZ s [45];generalize Lib.trimPrefix s [45]=u at*
 cases sg with
 |true=>
  refine sF f137 ?_;repeat' ((first|refine tX 0 ?_|exact Zt|refine bR ?_ ?_<;>intro h)<;>(try conv=>whnf))
  all_goals first|exact Zo|(exact rfl)|(exact absurd rfl (by assumption))|(exact mJ (fL K0))|(exact mJ (fj (by omega)))
 |false=>
  have h8:0<=n:=by simpa using h9
  refine sF f137 ?_;repeat' ((first|refine tX 0 ?_|exact Zt|refine bR ?_ ?_<;>intro h)<;>(try conv=>whnf))
  all_goals first|exact Zo|(exact rfl)|(exact absurd rfl (by assumption))|(exact mJ (fL K0))|(exact mJ (fj (by omega)))
def rO {sg:Bool}{s:List UInt8}{d:Nat}(hl:s.length<=1000000)(hn:wN sg d s=none): ∃v,ac 137 [SS s,I d,Bo sg] (.aI [I v,Bo false]):=by
 by_cases fC: ∀v,Lib.atoiAll s≠ .ok v
 ·obtain⟨v,c1⟩:=pB s hl fC;refine⟨v,?_⟩;cases sg
  ·refine sF f137 ?_;exact K40
  ·refine sF f137 ?_;exact K40
 ·simp only[ne_eq,Sy,LG]at fC;obtain⟨v,hv⟩:=fC;refine⟨v,?_⟩;have h4:=Sq hv;have c1:=ur s hl hv;have c2:=uq v h4;have c3:=kZ s [45]
  have key: ¬(Lib.itoa v=s/\(sg=true\/0<=v)/\(Lib.trimPrefix s [45]).length <=d):=by
   rintro⟨h5,h6,h7⟩;have:=u5 (d:=d) (n:=v) (by rw[h5];exact h7);rw[h5]at this;unfold wN at hn;rw[this]at hn;have Lh:(if sg=true\/0<=v then some v else none)=none:=hn;rw[if_pos h6]at Lh;cases Lh
  generalize Lib.trimPrefix s [45]=u at*;by_cases hp:Lib.itoa v=s
  ·rw[hp]at c2;have amF: ¬((sg=true\/0<=v)/\u.length<=d):=λh=>key ⟨hp,h⟩;clear key
   cases sg with
   |true=>
    have k3: ¬u.length<=d:=λh=>amF ⟨.inl rfl,h⟩;refine sF f137 ?_;repeat' ((first|refine tX 0 ?_|exact Zt|refine bR ?_ ?_<;>intro h)<;>(try conv=>whnf))
    all_goals first|exact Zo|(exact rfl)|(exact absurd rfl (by assumption))|(exact mJ (fL K0))|(exact mJ (fj K0))
   |false=>
    have k3: ¬(0<=v/\u.length<=d):=λh=>amF ⟨.inr h.1,h.2⟩;refine sF f137 ?_;repeat' ((first|refine tX 0 ?_|exact Zt|refine bR ?_ ?_<;>intro h)<;>(try conv=>whnf))
    all_goals first|exact Zo|(exact rfl)|(exact absurd rfl (by assumption))|(exact mJ (fL K0))|(exact mJ (fj K0))
  ·clear key;generalize Lib.itoa v=y at*;cases sg
   ·exact K83
   ·exact K83
end Go.Proofs.Tryz
namespace Go.Proofs.Tryz
open Go.Fw Go.IntWalk
def yY (a b:Int)(ha:p9 a)(hb:TE b)(Sb:a= -9223372036854775808->b≠0):ac 261 [I a,I b] (.one (I (Int.gcd a b))):=by
 refine sF f261 ?_;repeat(first|refine oP rfl ?_|(refine rG (λ_ h=>h) ?_;conv=>whnf)|(refine oN ?_;conv=>whnf)|refine aS ?_|(refine aR ?_;conv=>whnf)|refine aB ?_|refine aL ?_)
 refine af (ι:=Int × Int) (λp=>Int.gcd p.1 p.2=Int.gcd a b/\p9 p.1/\TE p.2/\(p.1= -9223372036854775808->p.2≠0)) (λp=>p.2.natAbs) (λp=>⟨[(0,vI p.1),(1,vI p.2)],[],0⟩) (a,b)
  (fB (ks:=[0,1]) (m:=[]) (n:=0) rfl) ⟨rfl,ha,hb,Sb⟩ ?_
 rintro⟨x,y⟩ ⟨hg,hx,hy,hxy⟩;simp only at hg hx hy hxy;repeat(first|refine oP rfl ?_|(refine rG (λ_ h=>h) ?_;conv=>whnf)|(refine oN ?_;conv=>whnf)|refine aS ?_|(refine aR ?_;conv=>whnf)|refine aC rfl ?_)
 (refine oH (λh=>?_) (λh=>?_))<;>(try conv=>whnf)<;>(repeat(first|refine oP rfl ?_|(refine rG (λ_ h=>h) ?_;conv=>whnf)|(refine oN ?_;conv=>whnf)|refine aS ?_|(refine aR ?_;conv=>whnf)|(refine aK ?_;conv=>whnf)|(refine aX ?_;conv=>whnf)|refine aB ?_|(refine aT ?_;conv=>whnf)))
 ·have h:(y != 0)=true:=h;have eU:y≠0:=by simpa using h
  refine rG (λ_ h=>⟨eU,h⟩) ?_;(conv=>whnf);repeat(first|refine oP rfl ?_|(refine rG (λ_ h=>h) ?_;conv=>whnf)|(refine oN ?_;conv=>whnf)|(refine dI cT ?_;conv=>whnf))
  have hy1:=hy.1;have hy2:=hy.2;refine⟨(y,x.tmod y),⟨?_,⟨by simp only;omega,hy2⟩,?_,λe=>absurd e agj⟩,?_,fB (ks:=[0,1]) (m:=[]) (n:=0) rfl⟩
  ·exact K60
  ·have h1:(x.tmod y).natAbs =x.natAbs%y.natAbs:=G6 _ _;have h2:x.natAbs%y.natAbs<y.natAbs:=tq _ K0;exact ajw
  ·show(x.tmod y).natAbs <y.natAbs;rw[G6];exact tq _ K0
 ·have h:(y != 0)=false:=h;have h0:y=0:=by simpa using h
  subst h0;have GY:=hx.1;have hx2:=hx.2;have hx3:x≠ -9223372036854775808:=λe=>hxy e rfl;have e:IntKind.i64.wrap (0 -x)= -x:=by rw[i64_in _ K0];omega
  show lO.one (I (if IntKind.i64.wrap (0 -x)>x then IntKind.i64.wrap (0 -x)else x))=lO.one (I (Int.gcd a b));refine wu ?_;rw[<- hg,e];have:(if -x>x then -x else x)=x.natAbs:=by split<;>omega
  rw[this];simp
def mK (b:Bool)(e:Int):ac 211 [Bo b,I e] (.one (I (if b then 0 else e))):=by
 refine sF f211 ?_;repeat(first|refine oP rfl ?_|(refine rG (λ_ h=>h) ?_;conv=>whnf)|(refine oN ?_;conv=>whnf)|refine aS ?_|(refine aR ?_;conv=>whnf)|refine aC rfl ?_)
 (refine oH (λh=>?_) (λh=>?_))<;>(try conv=>whnf)<;>(repeat(first|refine oP rfl ?_|(refine rG (λ_ h=>h) ?_;conv=>whnf)|(refine oN ?_;conv=>whnf)|refine aS ?_|(refine aR ?_;conv=>whnf)|(refine aK ?_;conv=>whnf)|(refine aT ?_;conv=>whnf)))
 ·exact wu U3
 ·exact wu U3
def Qs (l:List Int)(hl:l.length<=1000000):ac 210 [(false,[.ints l])] (.one (I ((l.find? (· ≠0)).getD 0))):=by
 refine sF f210 ?_;repeat(first|refine oP rfl ?_|(refine rG (λ_ h=>h) ?_;conv=>whnf)|(refine oN ?_;conv=>whnf)|refine aS ?_|(refine aR ?_;conv=>whnf)|refine aB ?_|refine aL ?_)
 refine af (ι:=Nat) (λi=>i<=l.length/\l.find? (· ≠0)=(l.drop i).find? (· ≠0)) (λi=>l.length -i) (λi=>⟨[(5,vL l),(6,vI l.length),(7,vI i)],[],0⟩) 0
  (fB (ks:=[5,6,7]) (m:=[]) (n:=0) rfl) ⟨dD _,rfl⟩ ?_
 rintro i ⟨hi,hf⟩;repeat(first|refine oP rfl ?_|(refine rG (λ_ h=>h) ?_;conv=>whnf)|(refine oN ?_;conv=>whnf)|refine aS ?_|(refine aR ?_;conv=>whnf)|refine aC rfl ?_)
 (refine oH (λh=>?_) (λh=>?_))<;>(try conv=>whnf)<;>(repeat(first|refine oP rfl ?_|(refine rG (λ_ h=>h) ?_;conv=>whnf)|(refine oN ?_;conv=>whnf)|refine aS ?_|(refine aR ?_;conv=>whnf)|(refine aK ?_;conv=>whnf)|(refine aX ?_;conv=>whnf)|refine aB ?_|(refine aT ?_;conv=>whnf)))
 ·have ak:i<l.length:=by simpa using h
  have hd:l.drop i=l[i]::l.drop (i+1):=UM ak;refine rG (λ_ h=>⟨Int.natCast_nonneg i,[J l[i]],VG ak,rfl,h⟩) ?_;(conv=>whnf);repeat(first|refine oP rfl ?_|(refine rG (λ_ h=>h) ?_;conv=>whnf)|(refine oN ?_;conv=>whnf)|refine aS ?_|(refine aR ?_;conv=>whnf)|refine aC rfl ?_)
  (refine oH (λh=>?_) (λh=>?_))<;>(try conv=>whnf)<;>(repeat(first|refine oP rfl ?_|(refine rG (λ_ h=>h) ?_;conv=>whnf)|(refine oN ?_;conv=>whnf)|refine aS ?_|(refine aR ?_;conv=>whnf)|(refine aK ?_;conv=>whnf)|(refine aT ?_;conv=>whnf)))
  ·have h:(l[i] != 0)=true:=h;exact wu (by simp at h;rw[hf,hd,List.find?_cons_of_pos U1];rfl)
  ·have h:(l[i] != 0)=false:=h;refine⟨i+1,⟨ak,?_⟩,by omega,fB (ks:=[5,6,7]) (m:=[]) (n:=0) ?_⟩
   ·rw[hf,hd];simp at h;simp[h]
   ·have e:IntKind.i64.wrap (i+1)=((i+1:Nat):Int):=by rw[i64_in _ K0];simp
    rw[<- e];rfl
 ·have h:decide ((i:Int)<l.length)=false:=h;have:i=l.length:=by simp at h;omega
  subst this;exact wu (by rw[hf];simp)
def Bx (n d:Int)(hn:TE n)(hd:0<d/\d<=9223372036854775807):ac 350 [I n,I d] (.one (F2 (n/Int.gcd n d) (d/Int.gcd n d))):=by
 have hg:(0:Int)<Int.gcd n d:=ajM;refine sF f350 ?_;repeat(first|refine oP rfl ?_|(refine rG (λ_ h=>h) ?_;conv=>whnf)|(refine oN ?_;conv=>whnf)|refine aS ?_|(refine aR ?_;conv=>whnf))
 refine rG (λ_ h=>⟨_,yY n d hn.i ⟨by omega,by omega⟩ (λe=>absurd e hn.ne),h⟩) ?_;(conv=>whnf);repeat(first|refine oP rfl ?_|(refine rG (λ_ h=>h) ?_;conv=>whnf)|(refine oN ?_;conv=>whnf)|refine aS ?_|(refine aR ?_;conv=>whnf))
 refine rG (λ_ h=>⟨SX hg,h⟩) ?_;(conv=>whnf);repeat(first|refine oP rfl ?_|(refine rG (λ_ h=>h) ?_;conv=>whnf))
 refine rG (λ_ h=>⟨SX hg,h⟩) ?_;(conv=>whnf);repeat(first|refine oP rfl ?_|(refine rG (λ_ h=>h) ?_;conv=>whnf)|(refine oN ?_;conv=>whnf)|(refine aT ?_;conv=>whnf)|(refine dI cT ?_;conv=>whnf))
 exact ai3
open Go.Plain
def du (n lo hi:Int):ac 50 [I n,I lo,I hi] (.one (Bo (decide (lo<=n/\n<=hi)))):=by
 have:=ep n lo hi;rwa [<- Yf]at this
end Go.Proofs.Tryz
namespace Go.Plain
def ZM {l:List Int}{lo hi:Int}(h: ∀j<l.length,lo<=l.getD j 0/\l.getD j 0<=hi):jb l lo hi:=by
 intro n hn;obtain⟨j,hj,rfl⟩:=IU.1 hn
 grind
def VN {l:List Int}{lo hi:Int}{j:Nat}(hj:j<l.length)(h: ¬(lo<=l.getD j 0/\l.getD j 0<=hi)): ¬jb l lo hi:=λha=>h (ha _ (qB hj))
def Bal (a b:List Int)(n:Nat):Prop:=∀j<n,a.getD j 0= -b.getD j 0
instance (a b:List Int)(n:Nat):Decidable (Bal a b n):=inferInstanceAs (Decidable (∀j<n,a.getD j 0= -b.getD j 0))
def fu (n d:Int):Int:=n/Int.gcd n d
def eG (n d:Int):Int:=d/Int.gcd n d
def MY {n d:Int}(hd:0<d):(0:Int)<Int.gcd n d:=by grind[Int.gcd_pos_of_ne_zero_right]
def Qt (n d:Int):n=Int.gcd n d*fu n d:=by grind[fu,Int.mul_ediv_cancel',Int.gcd_dvd_left]
def Qu (n d:Int):d=Int.gcd n d*eG n d:=by grind[eG,Int.mul_ediv_cancel',Int.gcd_dvd_right]
def wX {n d:Int}(hd:0<d):0<eG n d:=by
 have h1:=MY (n:=n) hd;have h2:=Qu n d;rcases Int.lt_or_le 0 (eG n d)with h|h;omega
 ·have:=CS (Int.le_of_lt h1) (show 0<= -eG n d by omega)
  grind
def Gm {n d:Int}(hn:0<=n):0<=fu n d:=LL hn K0
def agM {n d:Int}(hn:0<=n)(hd:0<d):fu n d<=n/\eG n d<=d:=by
 unfold fu eG;have h1:=XQ n (Int.gcd n d);have h2:=XQ d (Int.gcd n d);omega
def Qv (p q r s:Int):Int:=if p*s<r*q then -1 else if p*s>r*q then 1 else 0
end Go.Plain
namespace Go.Proofs.Tryz
open Go.Fw Go.IntWalk Go.Plain
set_option maxHeartbeats 16000000
def MZ (p q:Int):ac 377 [F2 p q] (.one (Bo (decide ((-1000000000<=p/\p<=1000000000)/\1<=q/\q<=1000000000)))):=by
 refine sF f377 ?_;repeat' ((first|(refine kO 7 rfl ?_;first|refine Rq (du _ _ _) ?_)|refine tX 0 ?_|exact Zt|refine bR ?_ ?_<;>intro h)<;>(try conv=>whnf))
 ·refine kW ?_;simp[h]
 ·refine kW ?_;simp[h]
theorem JT (p q r s:Int)(h1: -4611686018427387904<=p*s/\p*s<=4611686018427387903)(h2: -4611686018427387904<=r*q/\r*q<=4611686018427387903):ac 269 [F2 p q,F2 r s] (.one (I (Qv p q r s))):=by
 unfold Qv;refine sF f269 ?_;repeat' ((first|refine tX 0 ?_|exact Zt|refine bR ?_ ?_<;>intro h)<;>(try conv=>whnf))
 ·rw[if_pos h]
 ·rw[if_neg K0,if_pos h]
 ·rw[if_neg K0,if_neg K0]
end Go.Proofs.Tryz
namespace Go.Plain
def D6 (a:Int){b:Int}(_hb:0<b):(a.tdiv b).natAbs <=a.natAbs:=by
 rw[Int.natAbs_tdiv];exact Nat.div_le_self _ _
def M2 (a:Int){b:Int}(hb:0<b):a/b=if a.tmod b<0 then a.tdiv b -1 else a.tdiv b:=by
 have h1:=Int.tmod_lt_of_pos a hb;have h2:=Int.lt_tmod_of_pos a hb;have h3:=Int.mul_tdiv_add_tmod a b;split
 ·exact((LD hb (r:=a.tmod b+b) (q:=a.tdiv b -1)).2 ⟨by grind,by omega,by omega⟩).1
 ·exact((LD hb (r:=a.tmod b) (q:=a.tdiv b)).2 ⟨by omega,by omega,by omega⟩).1
def D7 (a:Int){b:Int}(_hb:0<b): -(a.natAbs:Int)<=a/b/\a/b<=a.natAbs:=by
 have:=XQ a b;omega
end Go.Plain
namespace Go.Proofs.Tryz
open Go.Fw Go.IntWalk Go.Plain
abbrev Qw (n:Int):Prop:= -4611686018427387903<=n/\n<=4611686018427387903
def eP (n lo hi:Int):ac 212 [I n,I lo,I hi] (.one (Bo (decide (lo<=n/\n<=hi)))):=by
 refine sF f212 ?_;repeat' ((first|refine tX 0 ?_|exact Zt|refine bR ?_ ?_<;>intro h)<;>(try conv=>whnf))
 ·exact kW U3
 ·exact kW U3
def oh {b:Bool}{p:Prop} [BP b p] [Decidable p](e:Int):ac 211 [Bo b,I e] (.one (I (if p then 0 else e))):=by
 have h:=mK b e;exact afN
def g9 (l:List Int)(hl:l.length<=1000000):ac 210 [(false,[.ints l])] (.one (I (fs l))):=by rw[<- acQ];exact Qs l hl
def D8 {b:Bool}{p:Prop} [BP b p](hp: ¬p)(e:Int):ac 211 [Bo b,I e] (.one (I e)):=by
 have h:=mK b e;exact afU
def M4 {b:Bool}{p:Prop} [BP b p](hp:p)(e:Int):ac 211 [Bo b,I e] (.one (I 0)):=by
 have h:=mK b e;exact af4
def VO {x y:Int}(h:x≠0):ac 210 [(false,[.ints [x,y]])] (.one (I x)):=by
 have:=g9 [x,y] (fO rfl);rwa [show fs [x,y]=x by simp[fs,h]]at this
def VP {y:Int}:ac 210 [(false,[.ints [0,y]])] (.one (I y)):=by
 have:=g9 [0,y] (fO rfl);rwa [show fs [0,y]=y by by_cases h:y=0<;>simp[fs,h]]at this
def H3 (n m:Int)(hm:Qw m):ac 266 [I n,I m] (.one (Bo (decide (-m<=n/\n<=m)))):=by
 refine sF f266 ?_;repeat((first|(refine kO 7 rfl ?_;first|refine Rq (eP _ _ _) ?_)|refine tX 0 ?_|exact Zt);(try conv=>whnf))
 exact K7
def nN (p q:Int):ac 325 [F2 p q] (.one (Bo (decide ((-1000000000<=p/\p<=1000000000)/\q<=1000000000)))):=by
 refine sF f325 ?_;repeat' ((first|(refine kO 7 rfl ?_;first|refine rG (λ_ z=>⟨_,H3 _ _ K0,z⟩) ?_)|refine tX 0 ?_|exact Zt|refine bR ?_ ?_<;>intro h)<;>(try conv=>whnf))
 ·exact kW U3
 ·exact kW U3
def D9 (n d:Int)(hn:Qw n)(hd:0<d/\d<=9223372036854775807):ac 326 [F2 n d] (.one (I (n/d))):=by
 have b1:=D6 n hd.1;have e1:IntKind.i64.wrap (n.tdiv d)=n.tdiv d:=i64_in _ K0;have f:=M2 n hd.1;by_cases h0:0<=n
 ·have h1:n.tmod d=n%d:=Int.tmod_eq_emod_of_nonneg h0;have h2:=CR n (show d≠0 by omega);refine sF f326 ?_;exact K1
 ·refine sF f326 ?_;exact ah2
def VQ (n d:Int)(hn:Qw n)(hd:0<d/\d<=9223372036854775807):ac 327 [F2 n d] (.one (I (-(-n/d)))):=by
 have b1:=D7 (-n) hd.1;have g:=D9 (-n) d K0 hd;refine sF f327 ?_;exact K1
def M5 (n d m k:Int)(hn:Qw n)(hd:0<d/\d<=9223372036854775807)(hm:Qw m)(hk:0<k/\k<=9223372036854775807):ac 294 [F2 n d,F2 m k] (.one (F2 (n/d) (-(-m/k)))):=by
 refine sF f294 ?_;repeat((first|(refine kO 7 rfl ?_;first|refine rG (λ_ z=>⟨_,D9 n d hn hd,z⟩) ?_|refine rG (λ_ z=>⟨_,VQ m k hm hk,z⟩) ?_)|refine tX 0 ?_|exact Zt);(try conv=>whnf))
 exact K7
def As (n d:Int)(hn:Qw n)(hd:0<d/\d<=9223372036854775807):ac 337 [I n,I d] (.one (I (n/d))):=by
 have b1:=D6 n hd.1;have e1:IntKind.i64.wrap (n.tdiv d)=n.tdiv d:=i64_in _ K0;have f:=M2 n hd.1;by_cases h0:0<=n
 ·have h2:=CR n (show d≠0 by omega);refine sF f337 ?_;exact K1
 ·refine sF f337 ?_;exact ah2
def M6 (n d:Int)(hn:Qw n)(hd:0<d/\d<=9223372036854775807):ac 338 [I n,I d] (.one (I (-(-n/d)))):=by
 have b1:=D7 (-n) hd.1;have g:=As (-n) d K0 hd;refine sF f338 ?_;exact K1
def By (n:Int):ac 214 [I n] (.one (I (if 1<=n/\n<=1000000 then 0 else 2))):=by
 refine sF f214 ?_;repeat((first|(refine kO 7 rfl ?_;first|refine Rq (eP _ _ _) ?_|refine Rq (oh _) ?_)|refine tX 0 ?_|exact Zt);(try conv=>whnf))
 exact K7
def M7 (n m:Int)(hm:Qw m):ac 265 [I n,(false,[.ref [J m]])] (.one (Bo (!(decide (-m<=n)&&decide (n<=m))))):=by
 have g:=H3 n m hm;rw[Yf]at g;refine sF f265 ?_;exact K1
def Ea (l:List Int)(m:Int)(hm:Qw m)(hl:l.length<=maxLen):ac 215 [L l,I m] (.one (I (if jb l (-m) m then 0 else 2))):=by
 have g:=Aq l 265 [] [[J m]] (λn=> !(decide (-m<=n)&&decide (n<=m))) (λn=>M7 n m hm) hl;rw[ac7]at g;refine sF f215 ?_;repeat((first|(refine kO 7 rfl ?_;first|refine Rq (oh _) ?_)|refine tX 0 ?_|exact Zt);(try conv=>whnf))
 exact wu (by simp)
def dn (st:Int)(l:List Int):Int:=if 1<=st/\st<=1000000 then(if 3<=l.length then(if l.length<=64 then(if jb l (-4096) 4096 then 0 else 2)else 8)else 10)else 2
def fs3 (a b c:Int):fs [a,b,c]=if a≠0 then a else if b≠0 then b else c:=by by_cases h:a=0<;>by_cases h':b=0<;>by_cases h'':c=0<;>simp[fs,h,h',h'']
def fs4 (a b c d:Int):fs [a,b,c,d]=if a≠0 then a else if b≠0 then b else if c≠0 then c else d:=by by_cases h:a=0<;>by_cases h':b=0<;>by_cases h'':c=0<;>by_cases h3:d=0<;>simp[fs,h,h',h'',h3]
abbrev Rc (st:Int)(l:List Int):SV:=(true,[J st,.ints l])
def jZ (st:Int)(l:List Int)(hl:l.length<=maxLen):ac 140 [Rc st l] (.one (I (dn st l))):=by
 have g:=Ea l 4096 K0 hl;unfold maxLen at hl
 have e:fs [if 1<=st/\st<=1000000 then 0 else 2,if(3:Int)<=l.length then 0 else 10,if(l.length:Int)<=64 then 0 else 8,if jb l (-4096) 4096 then 0 else 2]=dn st l:=by
  rw[fs4];unfold dn
  (repeat' split)<;>first|omega|rfl
 rw[<- e];refine sF f140 ?_;repeat((first|(refine kO 7 rfl ?_;first|refine Rq (By _) ?_|refine Rq (oh _) ?_|refine rG (λ_ z=>⟨_,g9 _ (fO rfl),z⟩) ?_)|refine tX 0 ?_|exact Zt);(try conv=>whnf))
 exact K7
def lZ (st:Int)(l:List Int)(hl:l.length<=maxLen):ac 149 [Rc st l] (.one (I (dn st l))):=by
 unfold maxLen at hl;unfold dn;refine sF f149 ?_;repeat((first|(refine kO 7 rfl ?_;first|refine Rq (du _ _ _) ?_)|refine tX 0 ?_|exact Zt);(try conv=>whnf))
 (refine bR ?_ ?_<;>intro h<;>(try conv=>whnf))
 ·exact afS
 ·rw[if_pos K0]
  (try(refine tX 0 ?_;try exact Zt))
  (refine bR ?_ ?_<;>intro h<;>(try conv=>whnf))
  ·(try(refine tX 0 ?_;try exact Zt))
   rw[if_neg K0];(first|done|rfl|exact True.intro)
  ·rw[if_pos K0]
   (try(refine tX 0 ?_;try exact Zt))
   (refine bR ?_ ?_<;>intro h<;>(try conv=>whnf))
   ·(try(refine tX 0 ?_;try exact Zt))
    rw[if_neg K0];(first|done|rfl|exact True.intro)
   ·rw[if_pos K0]
    (try(refine tX 0 ?_;try exact Zt))
    refine af (ι:=Nat) (λi=>i<=l.length/\∀j<i,-4096<=l.getD j 0/\l.getD j 0<=4096) (λi=>l.length -i) (λi=>⟨[(1,pP 0),(3,vI i)],[(0,some (.box 168 [.st (J st),.st (.ints l)]))],1⟩) 0 Zc ⟨dD _,by intro j hj;omega⟩ ?_;rintro i ⟨hi,he⟩
    (try(refine tX 0 ?_;try exact Zt))
    (refine bR ?_ ?_<;>intro h<;>(try conv=>whnf))
    ·have ak:i<l.length:=by omega
     repeat((first|(refine kO 7 rfl ?_;first|refine Rq (du _ _ _) ?_)|refine tX 0 ?_|exact Zt);(try conv=>whnf))
     (refine bR ?_ ?_<;>intro h<;>(try conv=>whnf))
     ·(try(refine tX 0 ?_;try exact Zt))
      rw[if_neg (VN ak h)];(first|done|rfl|exact True.intro)
     ·have h: -4096<=l.getD i 0/\l.getD i 0<=4096:=by omega
      (try(refine tX 0 ?_;try exact Zt))
      refine⟨i+1,⟨ak,λj hj=>?_⟩,by omega,Zc⟩;by_cases e:j=i
      ·subst e;exact h
      ·exact he j K0
    ·obtain rfl:i=l.length:=by omega
     (try(refine tX 0 ?_;try exact Zt))
     rw[if_pos (ZM he)];(first|done|rfl|exact True.intro)
abbrev Sp:Type:=Int × Int × Int × Int
abbrev sp (q:Sp):List SC:=[J q.1,J q.2.1,J q.2.2.1,J q.2.2.2]
abbrev qC (q:Sp):Prop:=p9 q.1/\p9 q.2.1/\p9 q.2.2.1/\p9 q.2.2.2
abbrev Ru (e:Int)(q:Sp)(ch:List Sp):SV:=(true,[J e,J q.1,J q.2.1,J q.2.2.1,J q.2.2.2,.view (ch.map sp)])
def ww (n d:Int)(hn:p9 n)(hd:p9 d):ac 260 [F2 n d] (.one (Bo (decide (0<d/\Int.gcd n d=1)))):=by
 have:=hd.2;refine sF f260 ?_
 (try(refine tX 0 ?_;try exact Zt))
 (refine bR ?_ ?_<;>intro h<;>(try conv=>whnf))
 ·repeat((first|(refine kO 7 rfl ?_;first|refine rG (λ_ z=>⟨_,yY n d hn ⟨by omega,by omega⟩ (λ_=>by omega),z⟩) ?_)|refine tX 0 ?_|exact Zt);(try conv=>whnf))
  exact kW bv
 ·exact K98
def yZ (n d:Int):ac 262 [F2 n d] (.one (Bo (decide ((1<=n/\n<=1000)/\d<=1000)))):=by
 refine sF f262 ?_;repeat' ((first|(refine kO 7 rfl ?_;first|refine Rq (eP _ _ _) ?_)|refine tX 0 ?_|exact Zt|refine bR ?_ ?_<;>intro h)<;>(try conv=>whnf))
 grind
 grind
def H4 (a b c d:Int)(h1:Qw (a*d))(h2:Qw (c*b)):ac 263 [F2 a b,F2 c d] (.one (Bo (decide (a*d<c*b)))):=by
 refine sF f263 ?_;exact tL
def dN (q:Sp):Int:=if(0<q.2.1/\Int.gcd q.1 q.2.1=1)/\0<q.2.2.2/\Int.gcd q.2.2.1 q.2.2.2=1 then(if((1<=q.1/\q.1<=1000)/\q.2.1<=1000)/\(1<=q.2.2.1/\q.2.2.1<=1000)/\q.2.2.2<=1000 then(if q.2.2.1*q.2.1<q.1*q.2.2.2 then 9 else 0)else 2)else 3
def fs2 (a b:Int):fs [a,b]=if a≠0 then a else b:=by grind[fs]
def Cq {a d:Int}(h1:1<=a/\a<=1000)(h2:0<d/\d<=1000):Qw (a*d):=by
 have h3:0<=a*d:=CS K0 K0;have h4:a*d<=1000*1000:=CY h1.2 h2.2 K0 K0;omega
def wx (q:Sp)(hq:qC q):ac 213 [(true,sp q)] (.one (I (dN q))):=by
 obtain⟨a,b,c,d⟩:=q;obtain⟨ha,hb,hc,hd⟩:=hq;simp only at ha hb hc hd;change ac 213 [F4 a b c d] _;unfold dN;simp only;have l1:=ww a b ha hb;have l2:=ww c d hc hd;have f1:=yZ a b;have f2:=yZ c d;by_cases k1:(0<b/\Int.gcd a b=1)/\0<d/\Int.gcd c d=1
 ·rw[if_pos k1];rw[fL k1.1]at l1;rw[fL k1.2]at l2;by_cases k2:((1<=a/\a<=1000)/\b<=1000)/\(1<=c/\c<=1000)/\d<=1000
  ·rw[if_pos k2];rw[fL k2.1]at f1;rw[fL k2.2]at f2;have g:=H4 c d a b (Cq k2.2.1 ⟨k1.1.1,k2.1.2⟩) (Cq k2.1.1 ⟨k1.2.1,k2.2.2⟩);refine sF f213 ?_;repeat((first|(refine kO 7 rfl ?_;first|refine Rq (oh _) ?_|refine rG (λ_ z=>⟨_,g9 _ (fO rfl),z⟩) ?_)|refine tX 0 ?_|exact Zt);(try conv=>whnf))
   exact wu bv
  ·rw[if_neg k2];by_cases k3:(1<=a/\a<=1000)/\b<=1000
   ·rw[fL k3]at f1;rw[fj (show ¬((1<=c/\c<=1000)/\d<=1000)from λh=>k2 ⟨k3,h⟩)]at f2;exact ack
   ·rw[fj k3]at f1;exact ack
 ·rw[if_neg k1];by_cases k3:0<b/\Int.gcd a b=1
  ·rw[fL k3]at l1;rw[fj (show ¬(0<d/\Int.gcd c d=1)from λh=>k1 ⟨k3,h⟩)]at l2;exact ack
  ·rw[fj k3]at l1;exact ack
def qD (q:Sp)(hq:qC q):ac 224 [(true,sp q)] (.one (I (dN q))):=by
 obtain⟨a,b,c,d⟩:=q;obtain⟨ha,hb,hc,hd⟩:=hq;simp only at ha hb hc hd;change ac 224 [F4 a b c d] _;unfold dN;simp only;have l1:=nM a b ha hb;have l2:=nM c d hc hd;by_cases k1:(0<b/\Int.gcd a b=1)/\0<d/\Int.gcd c d=1
 ·rw[if_pos k1];rw[fL k1.1]at l1;rw[fL k1.2]at l2;by_cases k2:((1<=a/\a<=1000)/\b<=1000)/\(1<=c/\c<=1000)/\d<=1000
  ·rw[if_pos k2];have m1:=Cq k2.1.1 ⟨k1.2.1,k2.2.2⟩;have m2:=Cq k2.2.1 ⟨k1.1.1,k2.1.2⟩;have g:=JT a b c d K0 K0;unfold Qv at g;by_cases k:c*b<a*d
   ·rw[if_neg K0,if_pos k]at g;rw[if_pos k];exact U2
   ·rw[if_neg k];by_cases k':a*d<c*b
    ·rw[if_pos k']at g;exact U2
    ·rw[if_neg k',if_neg k]at g;exact U2
  ·rw[if_neg k2];exact U2
 ·rw[if_neg k1];by_cases k3:0<b/\Int.gcd a b=1
  ·rw[fL k3]at l1;rw[fj (show ¬(0<d/\Int.gcd c d=1)from λh=>k1 ⟨k3,h⟩)]at l2;exact U2
  ·rw[fj k3]at l1;exact U2
def aY (e:Int)(q:Sp)(ch:List Sp):Int:=if 0<=e/\e<=100 then(if dN q≠0 then dN q else if ch.length<=4 then fs (ch.map dN)else 8)else 2
def JU {ch:List Sp}{i:Nat}(h:i<ch.length):(ch.map sp)[i]? =some (sp (ch.getD i (0,0,0,0))):=by grind
def Eb {ch:List Sp}{i:Nat}(h:i<ch.length):ch.getD i (0,0,0,0)∈ch:=by grind
def TJ {ch:List Sp}{i:Nat}(h:i<ch.length):fs ((ch.drop i).map dN)=if dN (ch.getD i (0,0,0,0))≠0 then dN (ch.getD i (0,0,0,0))else fs ((ch.drop (i+1)).map dN):=by grind[List.drop_eq_getElem_cons,fs]
def k7 (e:Int)(q:Sp)(ch:List Sp)(hq:qC q)(vW: ∀s∈ch,qC s)(hl:ch.length<=4294967296):ac 139 [Ru e q ch] (.one (I (aY e q ch))):=by
 have f3:=fs3 (if 0<=e/\e<=100 then 0 else 2) (dN q) (if((ch.map sp).length :Int)<=4 then 0 else 8);have g:=wx q hq;have key:aY e q ch=if fs [if 0<=e/\e<=100 then 0 else 2,dN q,if((ch.map sp).length :Int)<=4 then 0 else 8]≠0 then fs [if 0<=e/\e<=100 then 0 else 2,dN q,if((ch.map sp).length :Int)<=4 then 0 else 8]else fs (ch.map dN):=by grind[aY]
 rw[key];clear key f3;refine sF f139 ?_;repeat((first|(refine kO 7 rfl ?_;first|refine Rq (eP _ _ _) ?_|refine Rq (oh _) ?_|refine rG (λ_ z=>⟨_,g9 _ (fO rfl),z⟩) ?_)|refine tX 0 ?_|exact Zt);(try conv=>whnf))
 (refine bR ?_ ?_<;>intro h<;>(try conv=>whnf))
 ·(try(refine tX 0 ?_;try exact Zt))
  rw[if_pos h];(first|done|rfl|exact True.intro)
 ·rw[if_neg h]
  (try(refine tX 0 ?_;try exact Zt))
  refine af (ι:=Nat) (λi=>i<=ch.length/\fs (ch.map dN)=fs ((ch.drop i).map dN)) (λi=>ch.length -i) (λi=>⟨[(25,some (.val (false,[.st (.view (ch.map sp))]))),(26,vI ch.length),(27,vI i)],[],0⟩) 0 (ai akl) ⟨dD _,rfl⟩ ?_;rintro i ⟨hi,he⟩
  (try(refine tX 0 ?_;try exact Zt))
  (refine bR ?_ ?_<;>intro h<;>(try conv=>whnf))
  ·have ak:i<ch.length:=by omega
   have iV:=JU ak;have g:=wx _ (vW _ (Eb ak));rw[TJ ak]at he
   (try(refine tX 0 ?_;try exact Zt))
   (refine bR ?_ ?_<;>intro h<;>(try conv=>whnf))
   ·exact ajg
   ·rw[if_neg h]at he;exact tL
  ·exact aiH
abbrev FnQ (f:Nat):SV:=(false,[.fn f [] []])
def M8 {s:List UInt8}(hl:s.length<=1000000){n:Int}(h:wN false 4 s=some n):ac 259 [SS s] (.aI [I n,Bo true]):=by
 have c:=rN (d:=4) K9 hl h;refine sF f259 ?_;exact K1
def M9 {s:List UInt8}(hl:s.length<=1000000)(h:wN false 4 s=none): ∃v,ac 259 [SS s] (.aI [I v,Bo false]):=by
 obtain⟨v,c⟩:=rO (d:=4) hl h;refine⟨v,?_⟩;refine sF f259 ?_;exact K1
def nO {s:List UInt8}(hl:s.length<=1000000): ∃v,ac 259 [SS s] (.aI [I v,Bo (wN false 4 s).isSome])/\∀n,wN false 4 s=some n->v=n:=by
 cases h:wN false 4 s with
 |some n=>exact⟨n,M8 hl h,λm hm=>by simpa using hm⟩
 |none=>
  obtain⟨v,c⟩:=M9 hl h;exact⟨v,c,λm hm=>by cases hm⟩
def ac9 (s:List UInt8)(hl:s.length<=1000000): ∃v u,ac 258 [SS s,SS [47],FnQ 259] (.aI [I v,I u,Bo (u9 s).isSome])/\∀p,u9 s=some p->p=(v,u):=by
 rcases u6 s 47 with⟨h1,h2⟩|⟨a,b,h1,h2,h3,h4⟩
 ·have c1:=gZ s 47 hl;rw[h1]at c1;obtain⟨v,c2,_⟩:=nO hl;obtain⟨u,c3,_⟩:=nO (s:=[]) (by simp);have e:u9 s=none:=yP h2;rw[e];refine⟨v,u,?_,λp hp=>by cases hp⟩;show nY _ _ _ _ (.aI [I v,I u,Bo false]);generalize (wN false 4 s).isSome =x at*;generalize (wN false 4 []).isSome =y at*;refine sF f258 ?_;exact aiI
 ·have c1:=gZ s 47 hl;rw[h1]at c1;obtain⟨v,c2,k2⟩:=nO (s:=a) K0;obtain⟨u,c3,k3⟩:=nO (s:=b) K0
  have e:u9 s=(wN false 4 a).bind λx=>(wN false 4 b).map λy=>(x,y):=by
   unfold u9;exact yQ (c:=47) (λs=>JM (.inl rfl)) h2
  rw[e];refine⟨v,u,?_,λp hp=>?_⟩
  ·rw[oQ.1];clear e k2 k3;generalize (wN false 4 a).isSome =x at*;generalize (wN false 4 b).isSome =y at*;refine sF f258 ?_;exact ah6
  ·exact ake
def nP (s:List UInt8)(hl:s.length<=1000000): ∃v u,ac 209 [SS s] (.aI [F2 v u,Bo (u9 s).isSome])/\∀p,u9 s=some p->p=(v,u):=by
 obtain⟨v,u,c,k⟩:=ac9 s hl;refine⟨v,u,?_,k⟩;generalize (u9 s).isSome =x at*;refine sF f209 ?_;exact K1
def ZN (s:List UInt8)(hl:s.length<=1000000): ∃v u v' u',ac 208 [SS s,SS [32],FnQ 209] (.aI [F2 v u,F2 v' u',Bo (Br s).isSome])/\∀p,Br s=some p->p=(v,u,v',u'):=by
 rcases u6 s 32 with⟨h1,h2⟩|⟨a,b,h1,h2,h3,h4⟩
 ·have c1:=gZ s 32 hl;rw[h1]at c1;obtain⟨v,u,c2,_⟩:=nP s hl;obtain⟨v',u',c3,_⟩:=nP [] (by simp);have e:Br s=none:=by unfold Br;rw[yP h2];rfl
  rw[e];refine⟨v,u,v',u',?_,λp hp=>by cases hp⟩;show nY _ _ _ _ (.aI [F2 v u,F2 v' u',Bo false]);generalize (u9 s).isSome =x at*;generalize (u9 []).isSome =y at*;refine sF f208 ?_;exact aiI
 ·have c1:=gZ s 32 hl;rw[h1]at c1;obtain⟨v,u,c2,k2⟩:=nP a K0;obtain⟨v',u',c3,k3⟩:=nP b K0
  have e:Br s=((u9 a).bind λx=>(u9 b).map λy=>(x,y)).map λp=>(p.1.1,p.1.2,p.2.1,p.2.2):=by
   unfold Br;rw[yQ (c:=32) (λs=>alL) h2]
  rw[e];refine⟨v,u,v',u',?_,λp hp=>?_⟩
  ·rw[SL,oQ.1];clear e k2 k3;generalize (u9 a).isSome =x at*;generalize (u9 b).isSome =y at*;refine sF f208 ?_;exact ah6
  ·exact afK
def JV (s:List UInt8)(hl:s.length<=1000000): ∃q,ac 138 [SS s] (.aI [(true,sp q),Bo (Br s).isSome])/\∀p,Br s=some p->p=q:=by
 obtain⟨v,u,v',u',c,k⟩:=ZN s hl;refine⟨(v,u,v',u'),?_,k⟩;generalize (Br s).isSome =x at*;refine sF f138 ?_;exact K1
def Ec (s:List UInt8)(hl:s.length<=1000000): ∃v,ac 145 [SS s] (.aI [I v,Bo (wN false 4 s).isSome])/\∀n,wN false 4 s=some n->v=n:=by
 have c:=iI s 4 K9 hl
 cases h:fP 4 s with
 |none=>
  rw[h]at c;rw[TA h];refine⟨0,?_,λn hn=>by cases hn⟩;refine sF f145 ?_;exact K40
 |some n=>
  rw[h]at c;have bG:=yO h;rw[Qe h];by_cases KQ:(s.getD 0 0).toNat =45
  ·rw[if_pos KQ];refine⟨n,?_,λn hn=>by cases hn⟩;refine sF f145 ?_
   (try(refine tX 0 ?_;try exact Zt))
   (try(refine tX 0 ?_;try exact Zt))
   exact mJ (c:=false) (by rw[KQ];rfl)
  ·rw[if_neg KQ];refine⟨n,?_,λm hm=>by simpa using hm⟩;refine sF f145 ?_
   (try(refine tX 0 ?_;try exact Zt))
   (try(refine tX 0 ?_;try exact Zt))
   exact mJ (c:=true) (bne_iff_ne.2 K0)
def H5 (s:List UInt8)(hl:s.length<=10000): ∃v u,ac 223 [SS s] (.aI [F2 v u,Bo (u9 s).isSome])/\∀p,u9 s=some p->p=(v,u):=by
 obtain⟨h3,h4⟩:=cj 47 s;have c1:=jY s 47 K0;rw[show(47:UInt8).toNat =47 from rfl,iR]at c1;have e:u9 s=DY (wN false 4) (wN false 4) (aJ 47 s):=rfl;rw[e];clear e;generalize aJ 47 s=ws at*;have hn:=eo ws
 match ws,h4 with
 | [],_=>
  refine⟨0,0,?_,λp hp=>by cases hp⟩;refine sF f223 ?_;refine aS ?_;(refine aR ?_;conv=>whnf);(try(refine tX 2 ?_;try exact Zt));refine aM ?_;(refine aR ?_;conv=>whnf);(try(refine tX 2 ?_;try exact Zt));refine⟨_,cL 6 rfl,?_⟩;exact K1
 | [a],_=>
  refine⟨0,0,?_,λp hp=>by cases hp⟩;refine sF f223 ?_;refine aS ?_;(refine aR ?_;conv=>whnf);(try(refine tX 2 ?_;try exact Zt));refine aM ?_;(refine aR ?_;conv=>whnf);(try(refine tX 2 ?_;try exact Zt));refine⟨_,cL 6 rfl,?_⟩;exact K1
 | [a,b],h4=>
  obtain⟨v,c2,k2⟩:=Ec a akx;obtain⟨u,c3,k3⟩:=Ec b akw;refine⟨v,u,?_,λp hp=>?_⟩
  ·show nY _ _ _ _ (.aI [F2 v u,Bo (Option.isSome ((wN false 4 a).bind λx=>(wN false 4 b).map λy=>(x,y)))]);rw[oQ.1];clear k2 k3;generalize (wN false 4 a).isSome =x at*;generalize (wN false 4 b).isSome =y at*;refine sF f223 ?_;exact K58
  ·exact ake
 |a::b::c::r,_=>
  have bG:(ab (a::b::c::r)).length =r.length+3:=by simp
  refine⟨0,0,?_,λp hp=>by cases hp⟩;refine sF f223 ?_;refine aS ?_;(refine aR ?_;conv=>whnf);(try(refine tX 2 ?_;try exact Zt));refine aM ?_;(refine aR ?_;conv=>whnf);(try(refine tX 2 ?_;try exact Zt));refine⟨_,cL 6 rfl,?_⟩;exact K1
def VR (s:List UInt8)(hl:s.length<=10000): ∃q,ac 146 [SS s] (.aI [(true,sp q),Bo (Br s).isSome])/\∀p,Br s=some p->p=q:=by
 obtain⟨h3,h4⟩:=cj 32 s;have c1:=jY s 32 K0;rw[show(32:UInt8).toNat =32 from rfl,iR]at c1;have e:Br s=(DY u9 u9 (aJ 32 s)).map (λp=>(p.1.1,p.1.2,p.2.1,p.2.2)):=rfl;rw[e];clear e;generalize aJ 32 s=ws at*;have hn:=eo ws
 match ws,h4 with
 | [],_=>
  refine⟨(0,0,0,0),?_,λp hp=>by cases hp⟩;refine sF f146 ?_;refine aS ?_;(refine aR ?_;conv=>whnf);(try(refine tX 2 ?_;try exact Zt));refine aM ?_;(refine aR ?_;conv=>whnf);(try(refine tX 2 ?_;try exact Zt));refine⟨_,cL 6 rfl,?_⟩;exact K1
 | [a],_=>
  refine⟨(0,0,0,0),?_,λp hp=>by cases hp⟩;refine sF f146 ?_;refine aS ?_;(refine aR ?_;conv=>whnf);(try(refine tX 2 ?_;try exact Zt));refine aM ?_;(refine aR ?_;conv=>whnf);(try(refine tX 2 ?_;try exact Zt));refine⟨_,cL 6 rfl,?_⟩;exact K1
 | [a,b],h4=>
  obtain⟨v,u,c2,k2⟩:=H5 a akx;obtain⟨v',u',c3,k3⟩:=H5 b akw;refine⟨(v,u,v',u'),?_,λp hp=>?_⟩
  ·show nY _ _ _ _ (.aI [(true,sp (v,u,v',u')),Bo (Option.isSome (((u9 a).bind λx=>(u9 b).map λy=>(x,y)).map λp=>(p.1.1,p.1.2,p.2.1,p.2.2)))]);rw[SL,oQ.1];clear k2 k3;generalize (u9 a).isSome =x at*;generalize (u9 b).isSome =y at*;refine sF f146 ?_;exact K58
  ·exact afK
 |a::b::c::r,_=>
  have bG:(ab (a::b::c::r)).length =r.length+3:=by simp
  refine⟨(0,0,0,0),?_,λp hp=>by cases hp⟩;refine sF f146 ?_;refine aS ?_;(refine aR ?_;conv=>whnf);(try(refine tX 2 ?_;try exact Zt));refine aM ?_;(refine aR ?_;conv=>whnf);(try(refine tX 2 ?_;try exact Zt));refine⟨_,cL 6 rfl,?_⟩;exact K1
end Go.Proofs.Tryz
namespace Go.Plain
def ada {x:Int}(h:x<0):x.sign= -1:=aeB h
def TK (n d:Int):n/d*d=n -n%d:=by grind[Int.ediv_mul_add_emod]
def agN {n d m k:Int}(hd:0<d)(hk:0<k)(h:n/d<m/k):(n*k -m*d).sign = -1:=by
 refine ada ?_;have h1:n< (n/d+1)*d:=by rw[Int.add_mul,TK];have:=Lv n hd;omega
 have h2:m/k*k<=m:=by rw[TK];have:=CR m (show k≠0 by omega);omega
 have h3:n*k< (n/d+1)*d*k:=Sg h1 hk;have h4:m/k*k*d<=m*d:=XM h2 K0;have h5:(n/d+1)*(d*k)<=m/k*(d*k):=XM K0 (Int.le_of_lt (Int.mul_pos hd hk))
 grind
def ZO {n d m k:Int}(hd:0<d)(hk:0<k)(h:n/d>m/k):(n*k -m*d).sign =1:=by
 have:=agN hk hd h
 grind
def adb (n d:Int):(fu n d).natAbs <=n.natAbs:=by grind[fu,Int.natAbs_ediv_le_natAbs]
def agO {n d:Int}(hd:0<d):eG n d<=d:=by
 unfold eG;have:=XQ d (Int.gcd n d:Int);omega
def VS (x:Int):(x.sign=0↔x=0)/\(x.sign=1↔0<x)/\(x.sign= -1↔x<0)/\(x.sign=0\/x.sign=1\/x.sign= -1):=by grind
def aZ:List Int->Int
 | []=>0
 |x::l=>x+1000000000*aZ l
def Dg (l:List Int):Prop:=∀x∈l,0<=x/\x<1000000000
def bh (n:Nat):List Int:=if h:n=0 then []else((n%1000000000:Nat):Int)::bh (n/1000000000)
termination_by n
decreasing_by omega
theorem dj:bh 0= []:=by grind[bh]
theorem qE {n:Nat}(h:n≠0):bh n=((n%1000000000:Nat):Int)::bh (n/1000000000):=by
 conv=>lhs;unfold bh
 grind
abbrev pw (n:Nat):Int:=(1000000000:Int)^n
def adc:pw 0=1:=rfl
def pC (n:Nat):pw (n+1)=pw n*1000000000:=Int.pow_succ _ _
def Qx (n:Nat):0<pw n:=Int.pow_pos K9
theorem bu (n:Nat):aZ (bh n)=n:=by
 induction n using Nat.strongRecOn with
 |_ n ih=>
  grind[dj,qE,aZ]
def dh (n:Nat):Dg (bh n):=by
 induction n using Nat.strongRecOn with
 |_ n ih=>
  by_cases h:n=0
  ·subst h;rw[dj];intro x hx;grind
  ·rw[qE h];intro x hx;rcases dl.1 hx with rfl|hx
   ·omega
   ·exact ih _ (Nat.div_lt_self K0 K9) x hx
def Qy:Dg []:=by intro x hx;grind
def Dg.tail {x:Int}{l:List Int}(h:Dg (x::l)):Dg l:=λy hy=>h y (ji _ hy)
def Dg.take {l:List Int}(h:Dg l)(n:Nat):Dg (l.take n):=λy hy=>h y (CO hy)
def Dg.drop {l:List Int}(h:Dg l)(n:Nat):Dg (l.drop n):=λy hy=>h y (PD hy)
theorem Dg.get {l:List Int}(h:Dg l)(i:Nat):0<=l.getD i 0/\l.getD i 0<1000000000:=by
 by_cases hi:i<l.length
 ·exact h _ (qB hi)
 grind
def mL {l:List Int}(h:Dg l):0<=aZ l:=by
 induction l with
 |nil=>simp[aZ]
 |cons x l ih=>
  have:=h x jx;have:=ih h.tail
  grind[aZ]
theorem Bz (l l':List Int):aZ (l++l')=aZ l+pw l.length*aZ l':=by
 induction l with
 |nil=>simp[aZ,pw]
 |cons x l ih=>
  simp only[qX,aZ,ih,jP,pC]
  grind
theorem vm (l:List Int)(x:Int):aZ (l++[x])=aZ l+pw l.length*x:=by grind[Bz,aZ]
def vn {l:List Int}(h:Dg l):aZ l<pw l.length:=by
 induction l with
 |nil=>simp[aZ,pw]
 |cons x l ih=>
  have h1:=h x jx;have h2:=ih h.tail
  grind[aZ]
theorem ut {l:List Int}{n:Nat}(h:n<l.length):aZ (l.take (n+1))=aZ (l.take n)+pw n*l.getD n 0:=by grind[Ap,vm]
def wY (l:List Int)(n:Nat)(h:n<=l.length):aZ l=aZ (l.take n)+pw n*aZ (l.drop n):=by grind[Bz,List.take_append_drop]
def wz (l:List Int):Prop:=Dg l/\(l= []\/l.getD (l.length -1) 0≠0)
def wz.tail {x:Int}{l:List Int}(h:wz (x::l))(hl:l≠[]):wz l:=by
 refine⟨h.1.tail,.inr ?_⟩;rcases h.2 with h2|h2
 grind
 grind
def VT {l:List Int}(h:wz l)(hl:l≠[]):0<aZ l:=by
 induction l with
 |nil=>grind
 |cons x l ih=>
  have h1:=h.1 x jx;by_cases he:l= []
  ·subst he;rcases h.2 with h2|h2
   grind
   grind[aZ]
  ·have:=ih (h.tail he) he
   grind[aZ]
theorem ZP {l:List Int}(h:wz l):l=bh (aZ l).toNat :=by
 induction l with
 |nil=>simp[aZ,dj]
 |cons x l ih=>
  have h1:=h.1 x jx;have hp:=VT h (by simp);have h0:=mL h.1.tail;have hn:(aZ (x::l)).toNat ≠0:=by omega
  rw[qE hn];have ed:aZ (x::l)=x+1000000000*aZ l:=rfl;have e1:(((aZ (x::l)).toNat %1000000000:Nat):Int)=x:=by omega
  have e2:(aZ (x::l)).toNat /1000000000=(aZ l).toNat :=by omega
  rw[e1,e2];by_cases he:l= []
  grind[aZ,dj]
  ·rw[<- ih (h.tail he)]
def rQ (n:Nat):wz (bh n):=by
 refine⟨dh n,?_⟩
 induction n using Nat.strongRecOn with
 |_ n ih=>
  grind[bh]
def oU (l:List Int):Nat->Nat
 |0=>0
 |n+1=>if l.getD n 0=0 then oU l n else n+1
def Na (l:List Int): ∀n,oU l n<=n
 |0=>by simp[oU]
 |n+1=>by have:=Na l n;grind[oU]
def trim (l:List Int):List Int:=l.take (oU l l.length)
def Ed {l:List Int}: ∀ {n:Nat},n<=l.length->aZ (l.take (oU l n))=aZ (l.take n)
 |0,_=>rfl
 |n+1,h=>by
  unfold oU;split
  ·rename_i h0;rw[Ed (n:=n) K0,ut K0,h0];simp
  ·rfl
def Ef {l:List Int}: ∀ {n:Nat},oU l n=0\/l.getD (oU l n -1) 0≠0
 |0=>.inl rfl
 |n+1=>by
  unfold oU;split
  ·exact Ef (n:=n)
  grind
def Cr {l:List Int}(h:Dg l):trim l=bh (aZ l).toNat :=by
 have h1:aZ (trim l)=aZ l:=by unfold trim;rw[Ed (dE _),mA]
 have h2:wz (trim l):=by
  refine⟨h.take _,?_⟩;have eC:=Na l l.length;unfold trim;rcases Ef (l:=l) (n:=l.length)with h3|h3
  grind
  ·by_cases h0:oU l l.length=0
   grind
   grind
 grind[ZP]
def BA {n k:Nat}(h:(n:Int)<pw k):(bh n).length <=k:=by
 induction k generalizing n with
 |zero=>
  have:n=0:=by grind
  grind[dj]
 |succ k ih=>
  by_cases h0:n=0
  grind
  grind[qE]
theorem y6 {n:Nat}:bh n= []↔n=0:=by grind[qE,dj]
end Go.Plain
namespace Go.Proofs.Tryz
open Go.Fw Go.IntWalk Go.Plain
def pD (l:List Int)(hl:l.length<=4294967296):ac 391 [L l] (.one (L (trim l))):=by
 refine sF f391 ?_
 (try(refine tX 0 ?_;try exact Zt))
 refine af (ι:=Nat) (λn=>n<=l.length/\oU l n=oU l l.length) (λn=>n) (λn=>⟨[(0,vL l),(3,vI n)],[],0⟩) l.length Zc ⟨dE _,rfl⟩ ?_;rintro n ⟨hn,ht⟩
 cases n with
 |zero=>
  (try(refine tX 0 ?_;try exact Zt))
  unfold trim;rw[<- ht];rfl
 |succ n=>
  have e1:(((n+1:Nat):Int) -1).toNat =n:=by omega
  rw[show oU l (n+1)=if l.getD n 0=0 then oU l n else n+1 from rfl]at ht
  (try(refine tX 0 ?_;try exact Zt))
  try rw[e1]
  (refine bR ?_ ?_<;>intro h<;>(try conv=>whnf))
  ·(try(refine tX 0 ?_;try exact Zt))
   rw[if_pos h]at ht;exact⟨n,⟨by omega,ht⟩,by omega,ai (by rw[show((n+1:Nat):Int) -1=(n:Int)by omega];kernel_rfl)⟩
  ·rw[if_neg h]at ht
   (try(refine tX 0 ?_;try exact Zt))
   unfold trim;rw[<- ht];rfl
abbrev Wd (s:Int)(l:List Int):SV:=(true,[J s,.ints l])
def BB (s:Int)(l:List Int)(hl:l.length<=4294967296):ac 384 [I s,L l] (.one (Wd (if trim l= []then 0 else s) (trim l))):=by
 have e:((trim l).length :Int)=0↔trim l= []:=by rw[<- CN];omega
 refine sF f384 ?_;repeat((first|(refine kO 7 rfl ?_;first|refine rG (λ_ z=>⟨_,pD l hl,z⟩) ?_)|refine tX 0 ?_|exact Zt);(try conv=>whnf))
 (refine bR ?_ ?_<;>intro h<;>(try conv=>whnf))
 ·(try(refine tX 0 ?_;try exact Zt))
  rw[if_pos (e.1 h)];rfl
 ·(try(refine tX 0 ?_;try exact Zt))
  rw[if_neg (λhh=>h (e.2 hh))];rfl
abbrev wd (x:Int):SV:=Wd x.sign (bh x.natAbs)
def oV {s:Int}{l:List Int}(hl:l.length<=4294967296)(hd:Dg l)(hs:s=1\/s= -1):ac 384 [I s,L l] (.one (wd (s*aZ l))):=by
 have h:=BB s l hl;have h0:=mL hd;rw[Cr hd]at h;have e1:(s*aZ l).natAbs =(aZ l).toNat :=by rcases hs with rfl|rfl<;>omega
 have e2:(if bh (aZ l).toNat = []then 0 else s)=(s*aZ l).sign :=by
  by_cases hz:aZ l=0
  ·rw[hz];simp[dj]
  ·rw[if_neg (λhh=>by rw[y6]at hh;omega)];rcases hs with rfl|rfl
   ·rw[C0,Int.sign_eq_one_of_pos K0]
   ·rw[aeB K0]
 unfold wd;rw[e1,<- e2];exact h
def ke (n:Int)(h: -9223372036854775807<=n/\n<=9223372036854775807):ac 372 [I n] (.one (wd n)):=by
 have key: ∀(s x:Int),(s=1\/s= -1)->0<=x->s*x=n->x<=9223372036854775807->
   ∀(l:List Int) (m:Nat),Dg l/\aZ l+pw l.length*m=x->m=0->l.length<=3->ac 384 [I s,L l] (.one (wd n)):=by
  intro s x hs hx hsx hb l m ⟨hd,he⟩ hm hl;subst hm;have:=oV (s:=s) (l:=l) K0 hd hs;rwa [show s*aZ l=n by rw[<- hsx,<- he];simp]at this
 have grow: ∀(x:Int) (l:List Int) (m:Nat),Dg l/\aZ l+pw l.length*m=x->Dg (l++[(m:Int)%1000000000])/\aZ (l++[(m:Int)%1000000000])+pw (l++[(m:Int)%1000000000]).length *((m/1000000000:Nat):Int)=x:=by
  intro x l m ⟨hd,he⟩;refine⟨λy hy=>?_,?_⟩
  ·rcases iz.1 hy with hy|hy
   ·exact hd y hy
   ·simp at hy;subst hy;omega
  ·rw[vm,sO,Lz,pC,<- he];have:(m:Int)=m%1000000000+1000000000*((m/1000000000:Nat):Int):=by omega
   conv=>rhs;rw[this]
   rw[Int.mul_add,LS];omega
 by_cases KR:n<0
 ·have hk:=key (-1) (-n) (.inr rfl) K0 K0 K0;refine sF f372 ?_
  (try(refine tX 0 ?_;try exact Zt))
  refine aA ?_
  (try(refine tX 0 ?_;try exact Zt))
  have g0:=grow (-n) [] (-n).toNat ⟨Qy,by simp[aZ,pw];omega⟩
  refine af (ι:=List Int × Nat) (λp=>(Dg p.1/\aZ p.1+pw p.1.length*p.2= -n)/\p.1.length<=3/\(p.1.length<=1->p.2<=9223372036)/\(p.1.length=2->p.2<=9)/\(p.1.length=3->p.2=0)/\1<=p.1.length) (λp=>p.2) (λp=>⟨[(0,vI p.2),(2,pP 0),(3,vI (-1)),(4,pO 1)],[(0,some (.box 423 [.st (J 0),.nil])),(1,some (.row true 1 (.ints p.1)))],2⟩) ([-n%1000000000],(-n).toNat /1000000000)
   (ai (by rw[show(((-n).toNat /1000000000:Nat):Int)= -n/1000000000 by omega];kernel_rfl)) ⟨by rw[show((-n).toNat :Int)= -n by omega]at g0;exact g0,by simp,by simp;omega,by simp,by simp,by simp⟩ ?_
  rintro⟨l,m⟩ ⟨h1,h2,h3,h4,h5,h6⟩;simp only at h1 h2 h3 h4 h5 h6
  (try(refine tX 0 ?_;try exact Zt))
  (refine bR ?_ ?_<;>intro h<;>(try conv=>whnf))
  ·have g:=grow (-n) l m h1;exact K84
  ·repeat((first|(refine kO 7 rfl ?_;first|refine rG (λ_ z=>⟨_,hk l m h1 K0 h2,z⟩) ?_)|refine tX 0 ?_|exact Zt);(try conv=>whnf))
   rfl
 ·have hk:=key 1 n (.inl rfl) K0 K0 K0;by_cases hz:n=0
  ·subst hz;have hk:=hk [] 0 ⟨Qy,by simp[aZ]⟩ rfl (by simp);refine sF f372 ?_
   (try(refine tX 0 ?_;try exact Zt))
   refine aA ?_;exact IV
  ·refine sF f372 ?_
   (try(refine tX 0 ?_;try exact Zt))
   refine aA ?_
   (try(refine tX 0 ?_;try exact Zt))
   have g0:=grow n [] n.toNat ⟨Qy,by simp[aZ,pw];omega⟩
   refine af (ι:=List Int × Nat) (λp=>(Dg p.1/\aZ p.1+pw p.1.length*p.2=n)/\p.1.length<=3/\(p.1.length<=1->p.2<=9223372036)/\(p.1.length=2->p.2<=9)/\(p.1.length=3->p.2=0)/\1<=p.1.length) (λp=>p.2) (λp=>⟨[(0,vI p.2),(2,pP 0),(3,vI 1),(4,pO 1)],[(0,some (.box 423 [.st (J 0),.nil])),(1,some (.row true 1 (.ints p.1)))],2⟩) ([n%1000000000],n.toNat/1000000000)
    (ai (by rw[show((n.toNat/1000000000:Nat):Int)=n/1000000000 by omega];kernel_rfl)) ⟨by rw[show(n.toNat:Int)=n by omega]at g0;exact g0,by simp,by simp;omega,by simp,by simp,by simp⟩ ?_
   rintro⟨l,m⟩ ⟨h1,h2,h3,h4,h5,h6⟩;simp only at h1 h2 h3 h4 h5 h6
   (try(refine tX 0 ?_;try exact Zt))
   (refine bR ?_ ?_<;>intro h<;>(try conv=>whnf))
   ·have g:=grow n l m h1;exact K84
   ·repeat((first|(refine kO 7 rfl ?_;first|refine rG (λ_ z=>⟨_,hk l m h1 K0 h2,z⟩) ?_)|refine tX 0 ?_|exact Zt);(try conv=>whnf))
    rfl
end Go.Proofs.Tryz
namespace Go.Plain
def fX (l:List Int)(n:Nat):aZ (l.take (n+1))=aZ (l.take n)+pw n*l.getD n 0:=by grind[ut,List.take_of_length_le]
def Cs {m n:Nat}(h:m<=n):pw m<=pw n:=by
 induction n with
 |zero=>grind
 |succ n ih=>
  grind
def wZ (x y:Nat):Int:=if x<y then -1 else if y<x then 1 else 0
def ZQ {l:List Int}(h:wz l)(hl:l≠[]):pw (l.length -1)<=aZ l:=by
 have fN:0<l.length:=Lu.2 hl;have h1:=wY l (l.length -1) K0;have h2:l.drop (l.length -1)= [l.getD (l.length -1) 0]:=by grind[og]
 rw[h2]at h1
 have h3:l.getD (l.length -1) 0≠0:=by
  rcases h.2 with h3|h3
  grind
  omega
 have h4:=h.1.get (l.length -1);have h5:=mL (h.1.take (l.length -1));have h6:=Qx (l.length -1);have h7:pw (l.length -1)*1<=pw (l.length -1)*l.getD (l.length -1) 0:=XN K0 K0;simp only[aZ]at h1
 grind
def Qz {a b:List Int}(ha:wz a)(hb:wz b)(h:a.length<b.length):aZ a<aZ b:=by
 have h1:=vn ha.1;have h2:=ZQ hb bv;have h3:=Cs (show a.length<=b.length -1 by omega);omega
def ZR {a b:List Int}(ha:Dg a)(hb:Dg b){i:Nat}(h:a.length=b.length)(hi:i<a.length)(ht:a.drop (i+1)=b.drop (i+1))(ak:a.getD i 0<b.getD i 0):aZ a<aZ b:=by
 have h1:=wY a i K0;have h2:=wY b i K0;rw[og (d:=0) hi]at h1;rw[og (d:=0) (show i<b.length by omega)]at h2;rw[ht]at h1;simp only[aZ]at h1 h2;generalize aZ (List.drop (i+1) b)=z at*;have h3:=vn (ha.take i);have e:(a.take i).length =i:=by grind
 rw[e]at h3;have h4:=mL (hb.take i);have h5:=Qx i;have h6:pw i*(a.getD i 0+1+1000000000*z)<=pw i*(b.getD i 0+1000000000*z):=XN K0 K0
 grind
def sT (a b:List Int):Nat->Int
 |0=>0
 |i+1=>(a.getD i 0+b.getD i 0+sT a b i)/1000000000
def ZS (a b:List Int)(i:Nat):Int:=(a.getD i 0+b.getD i 0+sT a b i)%1000000000
def rR {a b:List Int}(ha:Dg a)(hb:Dg b): ∀i,0<=sT a b i/\sT a b i<=1
 |0=>by simp[sT]
 |i+1=>by
  have h1:=rR ha hb i;have h2:=ha.get i;have h3:=hb.get i
  grind[sT]
def B6 (a b:List Int)(n:Nat):List Int:=(List.range n).map (ZS a b)
def H6 (a b:List Int)(n:Nat):B6 a b (n+1)=B6 a b n++[ZS a b n]:=wv
def Eg (a b:List Int)(n:Nat):(B6 a b n).length =n:=by simp[B6]
def ade {a b:List Int}(n:Nat):Dg (B6 a b n):=by
 intro x hx;obtain⟨k,_,rfl⟩:=dT.1 hx
 grind[ZS]
def Nb (a b:List Int): ∀n,aZ (B6 a b n)+pw n*sT a b n=aZ (a.take n)+aZ (b.take n)
 |0=>by simp[B6,aZ,sT]
 |n+1=>by
  have h:=Nb a b n;rw[H6,vm,Eg,fX,fX,pC];have e:a.getD n 0+b.getD n 0+sT a b n=ZS a b n+1000000000*sT a b (n+1):=by grind[ZS,sT]
  grind
def rT (a b:List Int):Nat:=max a.length b.length+(if sT a b (max a.length b.length)>0 then 1 else 0)
def H7 {a b:List Int}(ha:Dg a)(hb:Dg b){i:Nat}(hi:i<=rT a b):(i<a.length\/i<b.length\/sT a b i>0)↔i<rT a b:=by
 have xH:=rR ha hb (max a.length b.length);unfold rT at hi ⊢;by_cases h:i<max a.length b.length;omega
 ·by_cases hm:i=max a.length b.length
  grind
  ·split at hi<;>rename_i hc
   ·have hi2:i=max a.length b.length+1:=by omega
    have e1:a.getD (max a.length b.length) 0=0:=by grind
    have e2:b.getD (max a.length b.length) 0=0:=by grind
    have e3:sT a b i=0:=by grind[sT]
    grind
   ·omega
def ZT {a b:List Int}(ha:Dg a)(hb:Dg b):aZ (B6 a b (rT a b))=aZ a+aZ b:=by
 have h1:=Nb a b (rT a b);have h2:=(H7 ha hb (dE _)).1;have h3:=rR ha hb (rT a b);have h4:sT a b (rT a b)=0:=by omega
 rw[h4,Int.mul_zero,Int.add_zero]at h1
 grind[List.take_of_length_le]
def FU (a b:List Int):Nat->Int
 |0=>0
 |i+1=>if a.getD i 0 -b.getD i 0 -FU a b i<0 then 1 else 0
def sbD (a b:List Int)(i:Nat):Int:=if a.getD i 0 -b.getD i 0 -FU a b i<0 then a.getD i 0 -b.getD i 0 -FU a b i+1000000000 else a.getD i 0 -b.getD i 0 -FU a b i
def At (a b:List Int): ∀i,0<=FU a b i/\FU a b i<=1
 |0=>by simp[FU]
 |i+1=>by grind[FU]
def Xx (a b:List Int)(n:Nat):List Int:=(List.range n).map (sbD a b)
def Nc (a b:List Int)(n:Nat):Xx a b (n+1)=Xx a b n++[sbD a b n]:=wv
theorem Ct (a b:List Int)(n:Nat):(Xx a b n).length =n:=by simp[Xx]
def ZU {a b:List Int}(ha:Dg a)(hb:Dg b)(n:Nat):Dg (Xx a b n):=by
 intro x hx;obtain⟨k,_,rfl⟩:=dT.1 hx;have:=ha.get k;have:=hb.get k;have:=At a b k
 grind[sbD]
def TL (a b:List Int): ∀n,aZ (Xx a b n)=aZ (a.take n) -aZ (b.take n)+pw n*FU a b n
 |0=>by simp[Xx,aZ,FU]
 |n+1=>by
  have h:=TL a b n;rw[Nc,vm,Ct,fX,fX,pC,h];have e:sbD a b n=a.getD n 0 -b.getD n 0 -FU a b n+1000000000*FU a b (n+1):=by grind[sbD,FU]
  grind
def adf {a b:List Int}(ha:Dg a)(hb:Dg b)(hl:b.length<=a.length)(h:aZ b<=aZ a):aZ (Xx a b a.length)=aZ a -aZ b:=by
 have h1:=TL a b a.length;rw[mA,pc hl]at h1;have h2:=vn (ZU ha hb a.length);rw[Ct]at h2;have h3:=At a b a.length;have h4:FU a b a.length=0\/FU a b a.length=1:=by omega
 grind
def gu {x y:Nat}(h:y<=x):(bh y).length <=(bh x).length :=by
 apply Pz;intro hh;have:=Qz (rQ x) (rQ y) K0
 grind[bu]
end Go.Plain
namespace Go.Proofs.Tryz
open Go.Fw Go.IntWalk Go.Plain
def pT (x y:Nat)(hx:(bh x).length <=1000000)(_hy:(bh y).length <=1000000):ac 394 [L (bh x),L (bh y)] (.one (I (wZ x y))):=by
 have cx':=rQ x;have cy':=rQ y;have vx:=bu x;have vy:=bu y;have l1:(bh x).length < (bh y).length ->x<y:=λh=>by have:=Qz cx' cy' h;omega
 have l2:(bh y).length < (bh x).length ->y<x:=λh=>by have:=Qz cy' cx' h;omega
 have t1: ∀i,(bh x).length =(bh y).length ->i< (bh x).length ->(bh x).drop (i+1)=(bh y).drop (i+1)->(bh x).getD i 0< (bh y).getD i 0->x<y:=λi a b c d=>by have:=ZR cx'.1 cy'.1 a b c d;omega
 have t2: ∀i,(bh x).length =(bh y).length ->i< (bh x).length ->(bh x).drop (i+1)=(bh y).drop (i+1)->(bh y).getD i 0< (bh x).getD i 0->y<x:=λi a b c d=>by have:=ZR cy'.1 cx'.1 a.symm K0 c.symm d;omega
 have t3:bh x=bh y->x=y:=λh=>by grind
 generalize bh x=a at*;generalize bh y=b at*;clear vx vy cx' cy';unfold wZ;refine sF f394 ?_
 (try(refine tX 0 ?_;try exact Zt))
 (refine bR ?_ ?_<;>intro h<;>(try conv=>whnf))
 ·(try(refine tX 0 ?_;try exact Zt))
  (refine bR ?_ ?_<;>intro h<;>(try conv=>whnf))
  ·exact K98
  ·exact K98
 ·have hl:a.length=b.length:=by omega
  (try(refine tX 0 ?_;try exact Zt))
  refine af (ι:=Nat) (λm=>m<=a.length/\a.drop m=b.drop m) (λm=>m) (λm=>⟨[(0,vL a),(1,vL b),(5,vI ((m:Int) -1))],[],0⟩) a.length Zc ⟨dE _,by grind⟩ ?_;rintro m ⟨hm,hd⟩
  cases m with
  |zero=>
   exact K98
  |succ m=>
   have e1:(((m+1:Nat):Int) -1).toNat =m:=by omega
   have e2:((m+1:Nat):Int) -1=(m:Int):=by omega
   rw[e2]
   (try(refine tX 0 ?_;try exact Zt))
   (refine bR ?_ ?_<;>intro h<;>(try conv=>whnf))
   ·exact K98
   ·(try(refine tX 0 ?_;try exact Zt))
    (refine bR ?_ ?_<;>intro h<;>(try conv=>whnf))
    ·exact K98
    ·(try(refine tX 0 ?_;try exact Zt))
     refine⟨m,⟨by omega,?_⟩,by omega,Zc⟩;rw[og (d:=0) (show m<a.length by omega),og (d:=0) (show m<b.length by omega),hd]
     grind
def H8 (l:List Int)(i:Nat):ac 397 [L l,I i] (.one (I (l.getD i 0))):=by
 refine sF f397 ?_
 (try(refine tX 0 ?_;try exact Zt))
 (refine bR ?_ ?_<;>intro h<;>(try conv=>whnf))
 ·(try(refine tX 0 ?_;try exact Zt))
 ·exact K98
def Gn {a b:List Int}(ha:Dg a)(hb:Dg b)(hl:a.length<=1000000/\b.length<=1000000)(eU:a≠[]):ac 398 [L a,L b] (.own 1 (.ints (B6 a b (rT a b)))):=by
 have fN:0<a.length:=Lu.2 eU;have hN:rT a b<=1000001:=by grind[rT]
 have hN1:1<=rT a b:=by grind[rT]
 have dig:=H8;refine sF f398 ?_
 (try(refine tX 0 ?_;try exact Zt))
 refine aA ?_;have d0:=dig a 0;have d0':=dig b 0;have d1:=ha.get 0;have d2:=hb.get 0
 (try(refine tX 0 ?_;try exact Zt))
 refine af (ι:=Nat) (λi=>1<=i/\i<=rT a b) (λi=>rT a b -i) (λi=>⟨[(0,vL a),(1,vL b),(5,pO 0),(6,vI (sT a b i)),(7,vI i)],[(0,some (.row true 1 (.ints (B6 a b i))))],1⟩) 1 Zc ⟨dE _,hN1⟩ ?_;clear d0 d0' d1 d2;rintro i ⟨zO,hi⟩;have hc:=H7 ha hb hi;have d0:=dig a i;have d0':=dig b i;have d1:=ha.get i;have d2:=hb.get i;have d3:=rR ha hb i;have d4:=Eg a b i;have d5:=H6 a b i;by_cases ak:i<rT a b
 ·have ID:=hc.2 ak;repeat' ((first|refine tX 0 ?_|exact Zt|refine bR ?_ ?_<;>intro h)<;>(try conv=>whnf))
  all_goals exact⟨i+1,⟨by omega,ak⟩,by omega,ai (by rw[d5];kernel_rfl)⟩
 ·have ID: ¬(i<a.length\/i<b.length\/sT a b i>0):=λh=>ak (hc.1 h);exact K98
def mn {a b:List Int}(ha:Dg a)(hb:Dg b)(hl:a.length<=1000000/\b.length<=a.length)(eC:aZ b<=aZ a):ac 395 [L a,L b] (.one (L (bh (aZ a -aZ b).toNat))):=by
 have hd:=ZU ha hb a.length;have he:=adf ha hb hl.2 eC;have dig:=H8;have ht:=pD (Xx a b a.length) (by grind[Ct]);rw[Cr hd,he]at ht;by_cases eU:a.length=0
 ·have e1:Xx a b a.length= []:=by rw[eU];rfl
  rw[e1]at ht;refine sF f395 ?_
  (try(refine tX 0 ?_;try exact Zt))
  refine aA ?_;exact IV
 ·refine sF f395 ?_
  (try(refine tX 0 ?_;try exact Zt))
  refine aA ?_;have d0':=dig b 0;have d1:=ha.get 0;have d2:=hb.get 0
  (try(refine tX 0 ?_;try exact Zt))
  have g5:Xx a b 1= [sbD a b 0]:=rfl
  (refine bR ?_ ?_<;>intro h<;>(try conv=>whnf))
  ·have e1:FU a b 1=1:=if_pos h;have e2:sbD a b 0=a.getD 0 0 -b.getD 0 0 -0+1000000000:=if_pos h;exact K17
  ·have e1:FU a b 1=0:=if_neg h;have e2:sbD a b 0=a.getD 0 0 -b.getD 0 0 -0:=if_neg h;exact K17
def Sz (k:Nat)(x:Int):Prop:=(bh x.natAbs).length <=k
theorem H9 {k:Nat}{x:Int}(h:(x.natAbs:Int)<pw k):Sz k x:=BA h
theorem TM {k:Nat}{x:Int}(h:Sz k x):(x.natAbs:Int)<pw k:=by
 have h1:=vn (dh x.natAbs);rw[bu]at h1;have h2:=Cs h;omega
def Sz.mono {k m:Nat}{x:Int}(h:Sz k x)(hm:k<=m):Sz m x:=pd h hm
def Sz.neg {k:Nat}{x:Int}(h:Sz k x):Sz k (-x):=by grind[Sz]
theorem Sz.add {k:Nat}{x y:Int}(hx:Sz k x)(hy:Sz k y):Sz (k+1) (x+y):=by grind[TM,H9]
def Sz.mul {k m:Nat}{x y:Int}(hx:Sz k x)(hy:Sz m y):Sz (k+m) (x*y):=by
 have h1:=TM hx;have h2:=TM hy;refine H9 ?_;rw[Yj,show pw (k+m)=pw k*pw m from Int.pow_add _ _ _];have h3:=Sg h1 (Qx m);have h4:(x.natAbs:Int)*y.natAbs<=x.natAbs*pw m:=XN K0 K0
 grind
def BC (x:Int):ac 386 [wd x] (.one (wd (-x))):=by
 have hs: -9223372036854775808<x.sign/\x.sign<=9223372036854775807:=by grind
 refine sF f386 ?_
 (try(refine tX 0 ?_;try exact Zt))
 unfold wd;rw[Int.sign_neg,Int.natAbs_neg];rfl
def iJ (x:Int):(x.sign=0↔x=0)/\(x.sign=1↔0<x)/\(x.sign= -1↔x<0)/\(x.sign=0\/x.sign=1\/x.sign= -1):=by grind
def w5 (x y:Nat):(wZ x y>0↔y<x)/\(wZ x y=0↔x=y):=by grind[wZ]
def Nd {x y:Int}(hx:Sz 100000 x)(hy:Sz 100000 y):ac 396 [wd x,wd y] (.one (wd (x+y))):=by
 have fx:=iJ x;have fy:=iJ y;have fc:=w5 x.natAbs y.natAbs;have wo: ∀ {s:Int} {l:List Int} {z:Int},Dg l->l.length<=4294967296->(s=1\/s= -1)->s*aZ l=z->ac 384 [I s,L l] (.one (wd z)):=λhd hl hs hz=>by rw[<- hz];exact oV hl hd hs
 have AW:(bh x.natAbs).length <=100000:=hx;have hy':(bh y.natAbs).length <=100000:=hy;have nx:0<x.natAbs->bh x.natAbs≠[]:=λh e=>by grind[y6]
 have a1:0<x.natAbs->ac 398 [L (bh x.natAbs),L (bh y.natAbs)] (.own 1 (.ints (B6 (bh x.natAbs) (bh y.natAbs) (rT (bh x.natAbs) (bh y.natAbs))))):=λh=>Gn (dh _) (dh _) ⟨by omega,by omega⟩ (nx h);have va:=ZT (dh x.natAbs) (dh y.natAbs);rw[bu,bu]at va;have la:(B6 (bh x.natAbs) (bh y.natAbs) (rT (bh x.natAbs) (bh y.natAbs))).length <=4294967296:=by rw[Eg];unfold rT;split<;>omega
 have da:=ade (a:=bh x.natAbs) (b:=bh y.natAbs) (rT (bh x.natAbs) (bh y.natAbs));have c1:=pT x.natAbs y.natAbs K0 K0
 have s1:y.natAbs<=x.natAbs->ac 395 [L (bh x.natAbs),L (bh y.natAbs)] (.one (L (bh (x.natAbs -y.natAbs)))):=λh=>by
  have:=mn (dh x.natAbs) (dh y.natAbs) ⟨by omega,gu h⟩ (by grind[bu]);rwa [bu,bu,show((x.natAbs:Int) -y.natAbs).toNat =x.natAbs -y.natAbs by omega]at this
 have s2:x.natAbs<=y.natAbs->ac 395 [L (bh y.natAbs),L (bh x.natAbs)] (.one (L (bh (y.natAbs -x.natAbs)))):=λh=>by
  have:=mn (dh y.natAbs) (dh x.natAbs) ⟨by omega,gu h⟩ (by grind[bu]);rwa [bu,bu,show((y.natAbs:Int) -x.natAbs).toNat =y.natAbs -x.natAbs by omega]at this
 have l1:(bh (x.natAbs -y.natAbs)).length <=100000:=pd (gu (Nat.sub_le _ _)) AW;have l2:(bh (y.natAbs -x.natAbs)).length <=100000:=pd (gu (Nat.sub_le _ _)) hy';rcases SM x 0 with h1|h1|h1
 ·have ex:x.sign= -1:=by omega
  rcases SM y 0 with h2|h2|h2
  ·have ey:y.sign= -1:=by omega
   have w1:=wo da la (.inr rfl) (show -1*aZ _=x+y by grind);have a1:=a1 K0;unfold wd;rw[ex,ey];refine sF f396 ?_;exact IV
  ·exact air
  ·have ey:y.sign=1:=by omega
   rcases SN x.natAbs y.natAbs with h3|h3|h3
   ·have cc:wZ x.natAbs y.natAbs= -1:=by unfold wZ;grind
    rw[cc]at c1;have s2:=s2 K0;have w1:=wo (dh (y.natAbs -x.natAbs)) K0 (.inl rfl) (show 1*aZ _=x+y by grind[bu]);unfold wd;rw[ex,ey];refine sF f396 ?_;exact IV
   ·have cc:wZ x.natAbs y.natAbs=0:=by grind
    rw[cc]at c1;have ez:x+y=0:=by omega
    unfold wd;rw[ex,ey,ez];simp only[CZ,CX,dj];refine sF f396 ?_;exact IV
   ·have cc:wZ x.natAbs y.natAbs=1:=by unfold wZ;grind
    rw[cc]at c1;have s1:=s1 K0;have w1:=wo (dh (x.natAbs -y.natAbs)) K0 (.inr rfl) (show -1*aZ _=x+y by grind[bu]);unfold wd;rw[ex,ey];refine sF f396 ?_;exact IV
 ·subst h1;simp only[Int.zero_add];unfold wd;simp only[CZ,CX,dj];refine sF f396 ?_;exact IV
 ·have ex:x.sign=1:=by omega
  rcases SM y 0 with h2|h2|h2
  ·have ey:y.sign= -1:=by omega
   rcases SN x.natAbs y.natAbs with h3|h3|h3
   ·have cc:wZ x.natAbs y.natAbs= -1:=by unfold wZ;grind
    rw[cc]at c1;have s2:=s2 K0;have w1:=wo (dh (y.natAbs -x.natAbs)) K0 (.inr rfl) (show -1*aZ _=x+y by grind[bu]);unfold wd;rw[ex,ey];refine sF f396 ?_;exact IV
   ·have cc:wZ x.natAbs y.natAbs=0:=by grind
    rw[cc]at c1;have ez:x+y=0:=by omega
    unfold wd;rw[ex,ey,ez];simp only[CZ,CX,dj];refine sF f396 ?_;exact IV
   ·have cc:wZ x.natAbs y.natAbs=1:=by unfold wZ;grind
    rw[cc]at c1;have s1:=s1 K0;have w1:=wo (dh (x.natAbs -y.natAbs)) K0 (.inl rfl) (show 1*aZ _=x+y by grind[bu]);unfold wd;rw[ex,ey];refine sF f396 ?_;exact IV
  ·exact air
  ·have ey:y.sign=1:=by omega
   have w1:=wo da la (.inl rfl) (show 1*aZ _=x+y by grind);have a1:=a1 K0;unfold wd;rw[ex,ey];refine sF f396 ?_;exact IV
end Go.Proofs.Tryz
namespace Go.Plain
def Eh {l:List Int}{j:Nat}(h:j<l.length)(v:Int):aZ (l.set j v)=aZ l+pw j*(v -l.getD j 0):=by
 induction l generalizing j with
 |nil=>grind
 |cons x l ih=>
  cases j with
  |zero=>simp[aZ,pw];omega
  |succ j=>
   have:=ih (j:=j) bv;simp only[X6,aZ,this,pC,SD]
   grind
theorem getD_set_ne {l:List Int}{i j:Nat}(h:i≠j)(v:Int):(l.set i v).getD j 0=l.getD j 0:=by grind
theorem QA {l:List Int}(h:Dg l)(j:Nat){v:Int}(hv:0<=v/\v<1000000000):Dg (l.set j v):=by
 intro x hx;rcases Sj hx with hx|rfl
 ·exact h x hx
 omega
def jc (out:List Int)(i:Nat)(x:Int)(b:List Int):Nat->List Int × Int
 |0=>(out,0)
 |k+1=>((jc out i x b k).1.set (i+k) (((jc out i x b k).1.getD (i+k) 0+x*b.getD k 0+(jc out i x b k).2)%1000000000),
   ((jc out i x b k).1.getD (i+k) 0+x*b.getD k 0+(jc out i x b k).2)/1000000000)
def Ej (out:List Int)(i:Nat)(x:Int)(b:List Int):List Int:=
 (jc out i x b b.length).1.set (i+b.length) ((jc out i x b b.length).1.getD (i+b.length) 0+(jc out i x b b.length).2)
def ia (a b:List Int):Nat->List Int
 |0=>List.replicate (a.length+b.length+1) 0
 |i+1=>Ej (ia a b i) i (a.getD i 0) b
def qF (out:List Int)(i:Nat)(x:Int)(b:List Int): ∀k,(jc out i x b k).1.length =out.length
 |0=>rfl
 |k+1=>by simp[jc,qF out i x b k]
def rU (a b:List Int): ∀i,(ia a b i).length =a.length+b.length+1
 |0=>by simp[ia]
 |i+1=>by simp[ia,Ej,qF,rU a b i]
def Ek {x y:Int}(hx:0<=x/\x<1000000000)(hy:0<=y/\y<1000000000):0<=x*y/\x*y<=999999998000000001:=
 ⟨CS hx.1 hy.1,by have:=CY (show x<=999999999 by omega) (show y<=999999999 by omega) hy.1 K0;omega⟩
def w6 {out b:List Int}{i:Nat}{x:Int}(ho:Dg out)(hb:Dg b)(hx:0<=x/\x<1000000000): ∀k,i+k<=out.length->
  Dg (jc out i x b k).1/\(0<=(jc out i x b k).2/\(jc out i x b k).2<1000000000)/\aZ (jc out i x b k).1+pw (i+k)*(jc out i x b k).2=aZ out+x*(pw i*aZ (b.take k))/\
  ∀j,i+k<=j->(jc out i x b k).1.getD j 0=out.getD j 0
 |0,_=>⟨ho,by simp[jc],by simp[jc,aZ],λj _=>rfl⟩
 |k+1,hk=>by
  obtain⟨h1,h2,h3,h4⟩:=w6 (i:=i) ho hb hx k K0;have hl:=qF out i x b k;have g1:=h1.get (i+k);have g2:=hb.get k;have g3:=Ek hx g2;refine⟨QA h1 _ K0,by grind[jc],?_,λj hj=>?_⟩
  ·simp only[jc];rw[Eh K0,fX,<- LP,pC]
   grind
  grind[jc]
def uv {a b:List Int}(ha:Dg a)(hb:Dg b): ∀i,i<=a.length->Dg (ia a b i)/\aZ (ia a b i)=aZ (a.take i)*aZ b/\∀j,i+b.length<=j->(ia a b i).getD j 0=0
 |0,_=>by
  refine⟨λx hx=>?_,?_,λj _=>?_⟩
  grind[ia]
  ·simp only[ia,LO,aZ,Int.zero_mul];generalize a.length+b.length+1=n;exact akf
  grind[ia]
 |i+1,hi=>by
  obtain⟨h1,h2,h3⟩:=uv ha hb i K0;have hl:=rU a b i;obtain⟨g1,g2,g3,g4⟩:=w6 (i:=i) (x:=a.getD i 0) h1 hb (ha.get i) b.length K0;have Xt:=qF (ia a b i) i (a.getD i 0) b b.length;have e0:(jc (ia a b i) i (a.getD i 0) b b.length).1.getD (i+b.length) 0=0:=by grind
  refine⟨?_,?_,λj hj=>?_⟩
  ·simp only[ia,Ej,e0,Int.zero_add]
   grind[QA]
  ·simp only[ia,Ej,e0,Int.zero_add];rw[Eh K0,e0,Int.sub_zero,g3,h2,fX,mA,Int.add_mul,<- LS,Int.mul_comm (pw i)]
  grind[ia,Ej,getD_set_ne]
end Go.Plain
namespace Go.Proofs.Tryz
open Go.Fw Go.IntWalk Go.Plain
def Nf {s:Int}{l:List Int}(hl:l.length<=4294967296)(hd:Dg l)(hz:aZ l=0):ac 384 [I s,L l] (.one (wd 0)):=by
 have h:=BB s l hl;rw[Cr hd,hz]at h;simp only[Int.toNat_zero,dj,if_true]at h;unfold wd;simp only[CZ,CX,dj];exact h
def JW (sx sy:Int)(a b:List Int)(ha:Dg a)(hb:Dg b)(R9:a.length<=100000)(O5:b.length<=100000)(_r:SV)(hs:(sx=0\/sx=1\/sx= -1)/\(sy=0\/sy=1\/sy= -1))
  (hw:ac 384 [I (sx*sy),L (ia a b a.length)] (.one (wd (sx*sy*(aZ a*aZ b))))):ac 374 [Wd sx a,Wd sy b] (.one (wd (sx*sy*(aZ a*aZ b)))):=by
 have O3: -1<=sx*sy/\sx*sy<=1:=by
  obtain⟨h1,h2⟩:=hs;rcases h1 with rfl|rfl|rfl<;>rcases h2 with rfl|rfl|rfl<;>decide
 refine sF f374 ?_
 (try(refine tX 0 ?_;try exact Zt))
 refine af (ι:=Nat) (λi=>i<=a.length) (λi=>a.length -i) (λi=>⟨[(2,pP 0),(3,pP 1),(4,pP 2),(5,pO 3),(6,vI i)],[(0,some (.box 423 [.st (J sx),.st (.ints a)])),(1,some (.box 423 [.st (J sy),.st (.ints b)])),(2,some (.box 423 [.st (J 0),.nil])),(3,some (.row true 1 (.ints (ia a b i))))],4⟩) 0 (ai (by rw[show((a.length:Int)+(b.length:Int)+1).toNat =a.length+b.length+1 by omega];kernel_rfl)) (dD _) ?_;intro i hi;have d1:=rU a b i
 (try(refine tX 0 ?_;try exact Zt))
 (refine bR ?_ ?_<;>intro h<;>(try conv=>whnf))
 ·have ak:i<a.length:=by omega
  obtain⟨m1,m2,m3⟩:=uv ha hb i hi;have g0:=ha.get i
  (try(refine tX 0 ?_;try exact Zt))
  refine af (ι:=Nat) (λk=>k<=b.length) (λk=>b.length -k) (λk=>⟨[(2,pP 0),(3,pP 1),(4,pP 2),(5,pO 3),(6,vI i),(7,vI (jc (ia a b i) i (a.getD i 0) b k).2),(8,vI k)],[(0,some (.box 423 [.st (J sx),.st (.ints a)])),(1,some (.box 423 [.st (J sy),.st (.ints b)])),(2,some (.box 423 [.st (J 0),.nil])),(3,some (.row true 1 (.ints (jc (ia a b i) i (a.getD i 0) b k).1)))],4⟩) 0 Zc (dD _) ?_;intro k hk;obtain⟨n1,n2,n3,n4⟩:=w6 (i:=i) (x:=a.getD i 0) m1 hb g0 k K0;have d2:=qF (ia a b i) i (a.getD i 0) b k;have g1:=n1.get (i+k);have g2:=hb.get k;have g3:=Ek g0 g2
  (try(refine tX 0 ?_;try exact Zt))
  (refine bR ?_ ?_<;>intro h<;>(try conv=>whnf))
  ·have hkt:k<b.length:=by omega
   (try(refine tX 0 ?_;try exact Zt))
   exact⟨k+1,hkt,by omega,Zc⟩
  ·obtain rfl:k=b.length:=by omega
   have g4:=n1.get (i+b.length)
   (try(refine tX 0 ?_;try exact Zt))
   exact⟨i+1,ak,by omega,Zc⟩
 ·obtain rfl:i=a.length:=by omega
  exact IV
def pE {x y:Int}(hx:Sz 100000 x)(hy:Sz 100000 y):ac 374 [wd x,wd y] (.one (wd (x*y))):=by
 have fx:=iJ x;have fy:=iJ y;obtain⟨m1,m2,_⟩:=uv (dh x.natAbs) (dh y.natAbs) _ (dE _);rw[mA]at m2;have ml:=rU (bh x.natAbs) (bh y.natAbs) (bh x.natAbs).length;have AW:(bh x.natAbs).length <=100000:=hx;have hy':(bh y.natAbs).length <=100000:=hy
 have ev:x.sign*y.sign*((x.natAbs:Int)*y.natAbs)=x*y:=by
  have e1:x.sign*(x.natAbs:Int)=x:=Int.sign_mul_natAbs x;have e2:y.sign*(y.natAbs:Int)=y:=Int.sign_mul_natAbs y
  calc x.sign*y.sign*((x.natAbs:Int)*y.natAbs)=(x.sign*x.natAbs)*(y.sign*y.natAbs):=by rw[LS,LS,Int.mul_left_comm y.sign]
   _=x*y:=by rw[e1,e2]
 have:=JW x.sign y.sign (bh x.natAbs) (bh y.natAbs) (dh _) (dh _) AW hy' (wd (x*y)) ⟨by omega,by omega⟩ ?_
 ·rw[bu,bu,ev]at this;exact this
 ·by_cases hz:x.sign*y.sign=0
  ·have hxy:aZ (bh x.natAbs)*aZ (bh y.natAbs)=0:=by
    rw[bu,bu];rcases Int.mul_eq_zero.1 hz with h|h
    ·have:=fx.1.1 h;subst this;simp
    ·have:=fy.1.1 h;subst this;simp
   rw[hxy,Int.mul_zero];exact Nf K0 m1 (by rw[m2,hxy])
  ·rw[<- m2]
   exact oV K0 m1 (by
    obtain⟨_,_,_,f1⟩:=fx;obtain⟨_,_,_,f2⟩:=fy
    rcases f1 with h|h|h<;>rcases f2 with h'|h'|h'<;>rw[h,h']at hz ⊢ <;>first|(exact absurd rfl hz)|decide)
end Go.Proofs.Tryz
namespace Go.Plain
def ol (a:List Int)(i:Nat):Int:=aZ (a.drop i)
def VU (a:List Int)(y:Int)(i:Nat):Int:=(a.getD i 0+1000000000*(ol a (i+1)%y))/y
def qS (a:List Int)(y:Int):Nat->List Int
 |0=>List.replicate a.length 0
 |t+1=>(qS a y t).set (a.length -1 -t) (VU a y (a.length -1 -t))
def El (a:List Int)(y:Int): ∀t,(qS a y t).length =a.length
 |0=>by simp[qS]
 |t+1=>by simp[qS,El a y t]
def Ng {a:List Int}{i:Nat}(h:i<a.length):ol a i=a.getD i 0+1000000000*ol a (i+1):=by unfold ol;rw[og (d:=0) h];rfl
def TN (a:List Int):ol a a.length=0:=by unfold ol;rw[Lx];rfl
def Nh (a:List Int):ol a 0=aZ a:=rfl
def Ni {p r y:Int}(hy:0<y):(r+1000000000*p)/y=1000000000*(p/y)+(r+1000000000*(p%y))/y/\(r+1000000000*p)%y=(r+1000000000*(p%y))%y:=by
 have e:r+1000000000*p=(r+1000000000*(p%y))+y*(1000000000*(p/y)):=by
  have:=Sr p y
  grind
 constructor
 ·rw[e,Int.add_mul_ediv_left _ _ K0];omega
 simp_all
def QB {a:List Int}{y:Int}(h:Dg a)(hy:0<y)(i:Nat):0<=VU a y i/\VU a y i<1000000000:=by
 have h1:=h.get i;have h2:=CR (ol a (i+1)) (show y≠0 by omega);have h3:=Lv (ol a (i+1)) hy;unfold VU;constructor
 ·exact LL K0 K0
 ·exact Int.ediv_lt_of_lt_mul hy K0
def TO {a:List Int}{y:Int}(h:Dg a)(hy:0<y): ∀t,t<=a.length->Dg (qS a y t)/\aZ (qS a y t)=pw (a.length -t)*(ol a (a.length -t)/y)/\∀j,j<a.length -t->(qS a y t).getD j 0=0
 |0,_=>by
  refine⟨λx hx=>?_,?_,λj _=>?_⟩
  grind[qS]
  ·simp only[qS,G8,TN,Int.zero_ediv,Int.mul_zero];generalize a.length=n;exact akf
  grind[qS]
 |t+1,ht=>by
  obtain⟨h1,h2,h3⟩:=TO h hy t K0;have hl:=El a y t;have e1:a.length -(t+1)=a.length -1 -t:=by omega
  have e2:a.length -t=a.length -1 -t+1:=by omega
  have hj:a.length -1 -t<a.length:=by omega
  refine⟨QA h1 _ (QB h hy _),?_,λj hjj=>?_⟩
  ·simp only[qS];rw[Eh K0,h3 _ K0,Int.sub_zero,h2,e1,e2,pC];have hs:=(Ni (p:=ol a (a.length -1 -t+1)) (r:=a.getD (a.length -1 -t) 0) hy).1;rw[Ng hj,hs,Int.mul_add,<- LS];rfl
  grind[qS,getD_set_ne]
theorem VV {a:List Int}{y:Int}(hy:0<y){i:Nat}(h:i<a.length):ol a i%y=(a.getD i 0+1000000000*(ol a (i+1)%y))%y:=by rw[Ng h,(Ni hy).2]
def VX {x y:Int}(hy:0<y):(-x)/y=if x%y=0 then -(x/y)else -(x/y) -1:=by
 have h1:=Sr x y;have h2:=CR x (show y≠0 by omega);have h3:=Lv x hy;split
 ·rename_i h;refine((LD (r:=0) (q:= -(x/y)) hy).2 ⟨?_,by omega,hy⟩).1
  grind
 ·rename_i h;refine((LD (r:=y -x%y) (q:= -(x/y) -1) hy).2 ⟨?_,by omega,by omega⟩).1
  grind
end Go.Plain
namespace Go.Proofs.Tryz
open Go.Fw Go.IntWalk Go.Plain
def y7 (x:Int):ac 385 [wd x] (.one (I x.sign)):=by
 refine sF f385 ?_;exact tL
def uw {x y:Int}(hx:Sz 100000 x)(hy:Sz 100000 y):ac 393 [wd x,wd y] (.one (wd (x -y))):=by
 have h1:=BC y;have h2:=Nd hx hy.neg;rw[<- Int.sub_eq_add_neg]at h2;refine sF f393 ?_;exact tL
def Nj {x y:Int}(hx:Sz 100000 x)(hy:Sz 100000 y):ac 388 [wd x,wd y] (.one (I (x -y).sign)):=by
 refine sF f388 ?_;repeat((first|(refine kO 7 rfl ?_;first|refine rG (λ_ z=>⟨_,uw hx hy,z⟩) ?_)|refine tX 0 ?_|exact Zt);(try conv=>whnf))
 rfl
def Au {n:Int}(h: -9223372036854775808<=n/\n<=9223372036854775807):Sz 3 n:=H9 (by
 grind)
def Em (s y:Int)(a:List Int)(ha:Dg a)(eU:a≠[])(R9:a.length<=50000)(hy:0<y)(hsy:Sz 50000 y)(hs:s=1\/s= -1):
  ac 389 [Wd s a,wd y] (.one (wd ((s*aZ a)/y))):=by
 have fN:0<a.length:=Lu.2 eU;have ly:(bh y.natAbs).length <=50000:=hsy;have ey:((y.natAbs:Int))=y:=by omega
 have sy:y.sign=1:=Int.sign_eq_one_of_pos hy
 have wy:ac 384 [I 1,L (bh y.natAbs)] (.one (wd y)):=by
  have:=oV (s:=1) (l:=bh y.natAbs) K0 (dh _) (.inl rfl);rwa [bu,C0,ey]at this
 have wm: ∀m:Int,0<=m->m<1000000000->ac 374 [wd y,wd m] (.one (wd (y*m))):=λm h1 h2=>pE (hsy.mono K0) ((Au K0).mono K0);have wo: ∀m:Int,0<=m->m<1000000000->ac 372 [I m] (.one (wd m)):=λm h1 h2=>ke m K0
 have lm: ∀m:Int,0<=m->m<1000000000->(bh (y*m).natAbs).length <=50001:=λm h1 h2=>by
  have:Sz 1 m:=H9 (by have:pw 1=1000000000:=K9;rw[this];omega);exact hsy.mul this
 have tr: ∀(x r:Int),0<=x->x<1000000000->0<=r->r<y->trim ([x]++bh r.toNat)=bh (x+1000000000*r).toNat :=λx r h1 h2 h3 h4=>by
  have hd:Dg ([x]++bh r.toNat):=by
   intro z hz;rcases iz.1 hz with hz|hz
   grind
   ·exact dh _ z hz
  rw[Cr hd];show bh (x+1000000000*aZ (bh r.toNat)).toNat =_;rw[bu,show((r.toNat:Nat):Int)=r by omega]
 have lr: ∀r:Int,0<=r->r<y->(bh r.toNat).length <=50000:=λr h1 h2=>pd (gu K0) ly
 have ll: ∀(x r:Int),0<=x->x<1000000000->0<=r->r<y->(bh (x+1000000000*r).toNat).length <=50001:=λx r h1 h2 h3 h4=>by
  refine BA ?_;have h5:=vn (dh r.toNat);rw[bu]at h5;have h6:=Cs (lr r h3 h4);rw[pC];omega
 have UD: ∀t,t<a.length->VU a y (a.length -1 -t)=(a.getD (a.length -1 -t) 0+1000000000*(ol a (a.length -t)%y))/y/\ol a (a.length -(t+1))%y=(a.getD (a.length -1 -t) 0+1000000000*(ol a (a.length -t)%y))%y:=λt ht=>by grind[VU,VV]
 have g1:=ha.get (a.length -1 -0);have hR:0<=ol a (a.length -0)%y/\ol a (a.length -0)%y<y:=⟨CR _ K0,Lv _ hy⟩;have afv:((a.length:Int) -1).toNat =a.length -1 -0:=by omega
 have amR:=tr _ _ g1.1 g1.2 hR.1 hR.2;have e0:bh (ol a (a.length -0)%y).toNat = []:=by rw[G8,TN,Int.zero_emod];exact dj
 rw[e0]at amR;refine sF f389 ?_
 (try(refine tX 0 ?_;try exact Zt))
 refine aA ?_;repeat((first|(refine kO 7 rfl ?_;first|refine rG (λ_ z=>⟨_,pD _ (by simp),z⟩) ?_)|refine tX 0 ?_|exact Zt);(try conv=>whnf))
 have hL0:0<=(a.getD (a.length -1 -0) 0+1000000000*(ol a (a.length -0)%y)):=by omega
 have amK:(a.getD (a.length -1 -0) 0+1000000000*(ol a (a.length -0)%y))<y*1000000000:=by omega
 have vV:(bh (a.getD (a.length -1 -0) 0+1000000000*(ol a (a.length -0)%y)).toNat).length <=50001:=ll _ _ g1.1 g1.2 hR.1 hR.2;have aer:=(UD 0 K0).1;have aev:=(UD 0 K0).2;refine af (ι:=Int × Int) (λp=>(0<=p.1/\p.1<=p.2/\p.2<=999999999)/\y*p.1<=(a.getD (a.length -1 -0) 0+1000000000*(ol a (a.length -0)%y))/\(a.getD (a.length -1 -0) 0+1000000000*(ol a (a.length -0)%y))<y*(p.2+1)) (λp=>(p.2 -p.1).toNat) (λp=>⟨[(2,pP 0),(3,pP 1),(4,pP 2),(5,pO 3),(6,vL (bh (a.getD (a.length -1 -0) 0+1000000000*(ol a (a.length -0)%y)).toNat)),(7,vI ((a.length:Int) -1)),(8,vI p.1),(9,vI p.2)],[(0,some (.box 423 [.st (J s),.st (.ints a)])),(1,some (.box 423 [.st (J y.sign),.st (.ints (bh y.natAbs))])),(2,some (.box 423 [.st (J 0),.nil])),(3,some (.row true 1 (.ints (qS a y 0))))],4⟩) (0,999999999) (ai (by rw[afv,amR];kernel_rfl)) ⟨by simp,by grind,by grind⟩ ?_;rintro⟨lo,hi⟩ ⟨⟨p1,p2,p3⟩,p4,p5⟩;simp only at p1 p2 p3 p4 p5
 (try(refine tX 0 ?_;try exact Zt))
 (refine bR ?_ ?_<;>intro h<;>(try conv=>whnf))
 ·have hm:0<=(lo+hi+1)/2/\(lo+hi+1)/2<=999999999/\lo< (lo+hi+1)/2/\(lo+hi+1)/2<=hi:=by omega
  have hyn:0<=y*((lo+hi+1)/2):=CS K0 K0;have cf:=w5 (y*((lo+hi+1)/2)).natAbs (a.getD (a.length -1 -0) 0+1000000000*(ol a (a.length -0)%y)).toNat;repeat((first|(refine kO 7 rfl ?_;first|refine rG (λ_ z=>⟨_,wo _ K0 K0,z⟩) ?_|refine rG (λ_ z=>⟨_,wm _ K0 K0,z⟩) ?_|refine rG (λ_ z=>⟨_,pT _ _ (pd (lm _ K0 K0) K9) (pd vV K9),z⟩) ?_)|refine tX 0 ?_|exact Zt);(try conv=>whnf))
  exact K51
 ·obtain rfl:lo=hi:=by omega
  have hq:(a.getD (a.length -1 -0) 0+1000000000*(ol a (a.length -0)%y))/y=lo/\(a.getD (a.length -1 -0) 0+1000000000*(ol a (a.length -0)%y))%y=(a.getD (a.length -1 -0) 0+1000000000*(ol a (a.length -0)%y)) -y*lo:=ajN;have hyn:0<=y*lo:=CS K0 K0;have sd:=mn (dh (a.getD (a.length -1 -0) 0+1000000000*(ol a (a.length -0)%y)).toNat) (dh (y*lo).natAbs) ⟨by omega,gu K0⟩ akm;rw[bu,bu,show(((a.getD (a.length -1 -0) 0+1000000000*(ol a (a.length -0)%y)).toNat :Int) -((y*lo).natAbs :Int)).toNat =((a.getD (a.length -1 -0) 0+1000000000*(ol a (a.length -0)%y)) -y*lo).toNat by omega]at sd;have hql:=El a y 0;have hqs:qS a y (0+1)=(qS a y 0).set (a.length -1 -0) lo:=by rw[<- hq.1,<- aer];rfl
  repeat((first|(refine kO 7 rfl ?_;first|refine rG (λ_ z=>⟨_,wo _ K0 K0,z⟩) ?_|refine rG (λ_ z=>⟨_,wm _ K0 K0,z⟩) ?_)|refine tX 0 ?_|exact Zt);(try conv=>whnf))
  refine af (ι:=Nat) (λt=>1<=t/\t<=a.length) (λt=>a.length -t) (λt=>⟨[(2,pP 0),(3,pP 1),(4,pP 2),(5,pO 3),(6,vL (bh (ol a (a.length -t)%y).toNat)),(7,vI ((a.length:Int) -1 -(t:Int)))],[(0,some (.box 423 [.st (J s),.st (.ints a)])),(1,some (.box 423 [.st (J y.sign),.st (.ints (bh y.natAbs))])),(2,some (.box 423 [.st (J 0),.nil])),(3,some (.row true 1 (.ints (qS a y t))))],4⟩) 1 (ai (by rw[show qS a y 1=(qS a y 0).set (a.length -1 -0) lo from hqs,aev,hq.2,afv];kernel_rfl)) ⟨dE _,by omega⟩ ?_;clear sd hqs hql hyn hq p4 p5 h vV amK hL0 aer aev;rintro t ⟨ht1,ht⟩;have amZ:((a.length:Int) -1 -(t:Int)).toNat =a.length -1 -t:=by omega
  have g1:=ha.get (a.length -1 -t);have hR:0<=ol a (a.length -t)%y/\ol a (a.length -t)%y<y:=⟨CR _ K0,Lv _ hy⟩;have hlr:=lr _ hR.1 hR.2;have htr:=tr _ _ g1.1 g1.2 hR.1 hR.2
  (try(refine tX 0 ?_;try exact Zt))
  (refine bR ?_ ?_<;>intro h<;>(try conv=>whnf))
  ·have ht3:t<a.length:=by omega
   repeat((first|(refine kO 7 rfl ?_;first|refine rG (λ_ z=>⟨_,pD _ wa,z⟩) ?_)|refine tX 0 ?_|exact Zt);(try conv=>whnf))
   have hL0:0<=(a.getD (a.length -1 -t) 0+1000000000*(ol a (a.length -t)%y)):=by omega
   have amK:(a.getD (a.length -1 -t) 0+1000000000*(ol a (a.length -t)%y))<y*1000000000:=by omega
   have vV:(bh (a.getD (a.length -1 -t) 0+1000000000*(ol a (a.length -t)%y)).toNat).length <=50001:=ll _ _ g1.1 g1.2 hR.1 hR.2;have aer:=(UD t K0).1;have aev:=(UD t K0).2;refine af (ι:=Int × Int) (λp=>(0<=p.1/\p.1<=p.2/\p.2<=999999999)/\y*p.1<=(a.getD (a.length -1 -t) 0+1000000000*(ol a (a.length -t)%y))/\(a.getD (a.length -1 -t) 0+1000000000*(ol a (a.length -t)%y))<y*(p.2+1)) (λp=>(p.2 -p.1).toNat) (λp=>⟨[(2,pP 0),(3,pP 1),(4,pP 2),(5,pO 3),(6,vL (bh (a.getD (a.length -1 -t) 0+1000000000*(ol a (a.length -t)%y)).toNat)),(7,vI ((a.length:Int) -1 -(t:Int))),(8,vI p.1),(9,vI p.2)],[(0,some (.box 423 [.st (J s),.st (.ints a)])),(1,some (.box 423 [.st (J y.sign),.st (.ints (bh y.natAbs))])),(2,some (.box 423 [.st (J 0),.nil])),(3,some (.row true 1 (.ints (qS a y t))))],4⟩) (0,999999999) (ai (by rw[amZ,htr];kernel_rfl)) ⟨by simp,by grind,by grind⟩ ?_;rintro⟨lo,hi⟩ ⟨⟨p1,p2,p3⟩,p4,p5⟩;simp only at p1 p2 p3 p4 p5
   (try(refine tX 0 ?_;try exact Zt))
   (refine bR ?_ ?_<;>intro h<;>(try conv=>whnf))
   ·have hm:0<=(lo+hi+1)/2/\(lo+hi+1)/2<=999999999/\lo< (lo+hi+1)/2/\(lo+hi+1)/2<=hi:=by omega
    have hyn:0<=y*((lo+hi+1)/2):=CS K0 K0;have cf:=w5 (y*((lo+hi+1)/2)).natAbs (a.getD (a.length -1 -t) 0+1000000000*(ol a (a.length -t)%y)).toNat;repeat((first|(refine kO 7 rfl ?_;first|refine rG (λ_ z=>⟨_,wo _ K0 K0,z⟩) ?_|refine rG (λ_ z=>⟨_,wm _ K0 K0,z⟩) ?_|refine rG (λ_ z=>⟨_,pT _ _ (pd (lm _ K0 K0) K9) (pd vV K9),z⟩) ?_)|refine tX 0 ?_|exact Zt);(try conv=>whnf))
    exact K51
   ·obtain rfl:lo=hi:=by omega
    have hq:(a.getD (a.length -1 -t) 0+1000000000*(ol a (a.length -t)%y))/y=lo/\(a.getD (a.length -1 -t) 0+1000000000*(ol a (a.length -t)%y))%y=(a.getD (a.length -1 -t) 0+1000000000*(ol a (a.length -t)%y)) -y*lo:=ajN;have hyn:0<=y*lo:=CS K0 K0;have sd:=mn (dh (a.getD (a.length -1 -t) 0+1000000000*(ol a (a.length -t)%y)).toNat) (dh (y*lo).natAbs) ⟨by omega,gu K0⟩ akm;rw[bu,bu,show(((a.getD (a.length -1 -t) 0+1000000000*(ol a (a.length -t)%y)).toNat :Int) -((y*lo).natAbs :Int)).toNat =((a.getD (a.length -1 -t) 0+1000000000*(ol a (a.length -t)%y)) -y*lo).toNat by omega]at sd;have hql:=El a y t;have hqs:qS a y (t+1)=(qS a y t).set (a.length -1 -t) lo:=by rw[<- hq.1,<- aer];rfl
    repeat((first|(refine kO 7 rfl ?_;first|refine rG (λ_ z=>⟨_,wo _ K0 K0,z⟩) ?_|refine rG (λ_ z=>⟨_,wm _ K0 K0,z⟩) ?_)|refine tX 0 ?_|exact Zt);(try conv=>whnf))
    exact⟨t+1,⟨by omega,by omega⟩,by omega,ai (by rw[hqs,aev,hq.2,amZ,show(a.length:Int) -1 -(t:Int) -1=(a.length:Int) -1 -((t+1:Nat):Int)by omega];kernel_rfl)⟩
  ·obtain rfl:t=a.length:=by omega
   obtain⟨q1,q2,_⟩:=TO ha hy a.length (dE _);rw[G9,Nh]at q2;rw[G9,Nh];have hql:=El a y a.length;have w1:=oV (s:=s) (l:=qS a y a.length) K0 q1 hs;rw[q2,adc,C0]at w1;have hX:=mL ha;have hnf:=VX (x:=aZ a) hy;rcases hs with rfl|rfl
   ·(try(refine tX 0 ?_;try exact Zt))
    rw[C0,C0];rfl
   ·rw[Int.neg_mul,C0,hnf];by_cases hr:aZ a%y=0
    ·have e0:bh (aZ a%y).toNat = []:=by rw[hr];exact dj
     rw[e0,if_pos hr];exact ajK
    ·have e0:0< (bh (aZ a%y).toNat).length :=by
      have hm:=CR (aZ a) (show y≠0 by omega);exact Lu.2 (λe=>by rw[y6]at e;omega)
     rw[if_neg hr];have o1:=ke 1 K0;have hq0:0<=aZ a/y/\aZ a/y<=aZ a:=⟨LL hX K0,Yb y hX⟩
     have szq:Sz 100000 (-1*(aZ a/y)):=H9 (by
      have h1:=vn ha;have h2:=Cs (show a.length<=100000 by omega)
      omega)
     have o2:=uw szq ((Au (n:=1) K0).mono K0);exact ajK
def pU {x y:Int}(hx:Sz 50000 x)(hsy:Sz 50000 y)(hy:0<y):ac 389 [wd x,wd y] (.one (wd (x/y))):=by
 have fx:=iJ x;by_cases h0:x=0
 ·subst h0;rw[Int.zero_ediv];simp only[wd,CZ,CX,dj];refine sF f389 ?_;exact tL
 ·have:=Em x.sign y (bh x.natAbs) (dh _) (λe=>by grind[y6]) hx hy hsy K0
  grind[bu]
end Go.Proofs.Tryz
namespace Go.Plain
end Go.Plain
namespace Go.Proofs.Tryz
open Go.Fw Go.IntWalk Go.Plain
def y8 (x:Int):ac 392 [wd x] (.one (wd (x.natAbs:Int))):=by
 have fx:=iJ x;have wn:=BC x;rcases SM x 0 with h|h|h
 ·have e:(x.natAbs:Int)= -x:=by omega
  rw[e];have es:x.sign= -1:=by omega
  have wn':ac 386 [Wd (-1) (bh x.natAbs)] (.one (wd (-x))):=by rw[<- es];exact wn
  show ac 392 [Wd x.sign (bh x.natAbs)] _;rw[es];refine sF f392 ?_;exact IV
 ·subst h;simp only[wd,CZ,CX,dj,Int.natCast_zero];refine sF f392 ?_;exact IV
 ·have e:(x.natAbs:Int)=x:=by omega
  rw[e];have es:x.sign=1:=by omega
  unfold wd;rw[es];refine sF f392 ?_;exact IV
def Sz.le {k:Nat}{x y:Int}(h:Sz k x)(hy:y.natAbs<=x.natAbs):Sz k y:=H9 (by have:=TM h;omega)
def Nk {x y:Int}(hx:Sz 50000 x)(hy:Sz 50000 y):ac 387 [wd x,wd y] (.one (wd (Int.gcd x y))):=by
 have a1:=y8 x;have a2:=y8 y;refine sF f387 ?_
 (try(refine tX 0 ?_;try exact Zt))
 refine af (ι:=Nat × Nat) (λp=>Nat.gcd p.1 p.2=Int.gcd x y/\Sz 50000 (p.1:Int)/\Sz 50000 (p.2:Int)) (λp=>p.2) (λp=>⟨[(2,pP 0),(3,pP 1),(4,pP 2)],[(0,some (.box 423 [.st (J (p.1:Int).sign),.st (.ints (bh (p.1:Int).natAbs))])),(1,some (.box 423 [.st (J (p.2:Int).sign),.st (.ints (bh (p.2:Int).natAbs))])),(2,some (.box 423 [.st (J 0),.nil]))],3⟩) (x.natAbs,y.natAbs) Zc ⟨rfl,hx.le (by simp),hy.le (by simp)⟩ ?_;rintro⟨u,v⟩ ⟨h1,h2,h3⟩;simp only at h1 h2 h3;have fv:=iJ (v:Int);have g0:=y7 (v:Int);by_cases hv:v=0
 ·have e:(v:Int).sign =0:=by omega
  rw[e]at g0;subst hv
  (try(refine tX 0 ?_;try exact Zt))
  rw[Nat.gcd_zero_right]at h1;rw[<- h1];rfl
 ·have hvp:(0:Int)<v:=by omega
  have q0:0<=(u:Int)/v/\(u:Int)/v<=u:=⟨LL K0 K0,Yb _ K0⟩
  have q1:(u:Int)/v*v=u -((u%v:Nat):Int):=by
   have:=Int.ediv_mul_add_emod (u:Int) v;rw[Int.natCast_emod];omega
  have q2:u%v<=u:=Nat.mod_le _ _;have g1:=pU (x:=u) (y:=v) h2 h3 hvp;have g2:=pE (x:=(u:Int)/v) (y:=v) ((h2.le K0).mono K0) (h3.mono K0);have g3:=uw (x:=u) (y:=(u:Int)/v*v) (h2.mono K0) ((h2.le (by rw[q1];omega)).mono K0);rw[show(u:Int) -(u:Int)/v*v=((u%v:Nat):Int)by omega]at g3;have e:(v:Int).sign =1:=by omega
  rw[e]at g0
  (try(refine tX 0 ?_;try exact Zt))
  refine⟨(v,u%v),⟨?_,h3,?_⟩,tq _ K0,Zc⟩
  ·show Nat.gcd v (u%v)=_;rw[<- h1,SU u v,Nat.gcd_rec v u,SU]
  ·exact h2.le agj
abbrev rt (n d:Int):SV:=(true,[J n.sign,.ints (bh n.natAbs),J d.sign,.ints (bh d.natAbs)])
def wA {n d:Int}(hn:Sz 50000 n)(hd:Sz 50000 d)(hp:0<d):ac 373 [wd n,wd d] (.one (rt (fu n d) (eG n d))):=by
 have fd:=iJ d;have g0:=y7 d;have es:d.sign=1:=by omega
 rw[es]at g0;have g1:=Nk hn hd;have hg:=MY (n:=n) hp;have hgd:Int.gcd n d<=d.natAbs:=Nat.le_of_dvd K0 (Int.gcd_dvd_natAbs_right n d);have szg:Sz 50000 (Int.gcd n d:Int):=hd.le (by simpa using hgd);have o1:=ke 1 K0;have g2:=Nj (x:=(Int.gcd n d:Int)) (y:=1) (szg.mono K0) ((Au (n:=1) K0).mono K0);have fg:=iJ ((Int.gcd n d:Int) -1);have f1:=pU hn szg hg;have f2:=pU hd szg hg;by_cases h1:(Int.gcd n d:Int)=1
 ·have e1:fu n d=n:=by unfold fu;rw[h1];simp
  have e2:eG n d=d:=by unfold eG;rw[h1];simp
  rw[e1,e2];have eg:((Int.gcd n d:Int) -1).sign =0:=by omega
  rw[eg]at g2;refine sF f373 ?_;exact IV
 ·have eg:((Int.gcd n d:Int) -1).sign =1:=by omega
  rw[eg]at g2;refine sF f373 ?_;exact IV
def JX (n:Int)(h: -9223372036854775807<=n/\n<=9223372036854775807):ac 353 [I n] (.one (rt n 1)):=by
 refine sF f353 ?_;repeat((first|(refine kO 7 rfl ?_;first|refine rG (λ_ z=>⟨_,ke n h,z⟩) ?_|refine rG (λ_ z=>⟨_,ke 1 K0,z⟩) ?_)|refine tX 0 ?_|exact Zt);(try conv=>whnf))
 rfl
def JY {n d:Int}(hn: -9223372036854775807<=n/\n<=9223372036854775807)(hd:0<d/\d<=9223372036854775807):ac 375 [I n,I d] (.one (rt (fu n d) (eG n d))):=by
 have g:=wA (n:=n) (d:=d) ((Au K0).mono K0) ((Au K0).mono K0) hd.1;refine sF f375 ?_;repeat((first|(refine kO 7 rfl ?_;first|refine rG (λ_ z=>⟨_,ke n hn,z⟩) ?_|refine rG (λ_ z=>⟨_,ke d K0,z⟩) ?_)|refine tX 0 ?_|exact Zt);(try conv=>whnf))
 rfl
def Gp {n d:Int}(hn: -9223372036854775807<=n/\n<=9223372036854775807)(hd:0<d/\d<=9223372036854775807):ac 355 [F2 n d] (.one (rt (fu n d) (eG n d))):=by
 refine sF f355 ?_;repeat((first|(refine kO 7 rfl ?_;first|refine rG (λ_ z=>⟨_,JY hn hd,z⟩) ?_)|refine tX 0 ?_|exact Zt);(try conv=>whnf))
 rfl
def y9 {n d m e:Int}(hn:Sz 20000 n)(hd:Sz 20000 d)(hm:Sz 20000 m)(he:Sz 20000 e)(hp:0<d*e):ac 354 [rt n d,rt m e] (.one (rt (fu (n*m) (d*e)) (eG (n*m) (d*e)))):=by
 have g1:=pE (x:=n) (y:=m) (hn.mono K0) (hm.mono K0);have g2:=pE (x:=d) (y:=e) (hd.mono K0) (he.mono K0);have g3:=wA (n:=n*m) (d:=d*e) ((hn.mul hm).mono K0) ((hd.mul he).mono K0) hp;refine sF f354 ?_;exact IV
theorem ZV (u:Int)(hu:0<=u/\u<1000000000):ac 376 [Wd 1 [u]] (.aI [I u,Bo true]):=by
 have hl:([u]:List Int).length =1:=rfl;have hg:([u]:List Int).getD ((([u]:List Int).length :Int) -1).toNat 0=u:=rfl;have hg2:([u]:List Int).getD 0 0=u:=rfl;refine sF f376 ?_
 (try(refine tX 0 ?_;try exact Zt))
 refine aA ?_
 (try(refine tX 0 ?_;try exact Zt))
 refine aA ?_
 (try(refine tX 0 ?_;try exact Zt))
 grind[i64_in]
theorem ZW (u v:Int)(hu:0<=u/\u<1000000000)(hv:0<=v/\v<1000000000):ac 376 [Wd 1 [u,v]] (.aI [I (v*1000000000+u),Bo true]):=by
 have hl:([u,v]:List Int).length =2:=rfl;have hg:([u,v]:List Int).getD ((([u,v]:List Int).length :Int) -1).toNat 0=v:=rfl;have hg2:([u,v]:List Int).getD 1 0=v:=rfl;have hg3:([u,v]:List Int).getD 0 0=u:=rfl;have Ux:([u,v]:List Int).getD ((([u,v]:List Int).length :Int) -1 -1).toNat 0=u:=rfl;refine sF f376 ?_
 (try(refine tX 0 ?_;try exact Zt))
 refine aA ?_
 (try(refine tX 0 ?_;try exact Zt))
 refine aA ?_
 (try(refine tX 0 ?_;try exact Zt))
 refine aA ?_
 (try(refine tX 0 ?_;try exact Zt))
 simp[i64_in u K0,i64_in v K0,i64_in (v*1000000000) K0,i64_in (v*1000000000+u) K0]
def BD {x:Int}(hx:0<x/\x<1000000000000000000):ac 376 [wd x] (.aI [I x,Bo true]):=by
 have fx:=VS x;have e:x.sign=1:=by omega
 unfold wd
 grind[qE,dj,ZV,ZW]
def wB {n d:Int}(hn:0<n/\n<1000000000000000000)(hd:0<d/\d<1000000000000000000):ac 356 [rt n d] (.aI (if n<=1000000000/\d<=1000000000 then [F2 n d,Bo true]else [F2 0 0,Bo false])):=by
 have g1:=BD hn;have g2:=BD hd;by_cases h:n<=1000000000/\d<=1000000000
 ·rw[if_pos h];refine sF f356 ?_;exact tL
 ·rw[if_neg h];refine sF f356 ?_;exact tL
def QC (s q:Sp):Sp:=(fu (s.1*q.1) (s.2.1*q.2.1),eG (s.1*q.1) (s.2.1*q.2.1),fu (s.2.2.1*q.2.2.1) (s.2.2.2*q.2.2.2),eG (s.2.2.1*q.2.2.1) (s.2.2.2*q.2.2.2))
def Ep (ch:List Sp)(k:Nat):Sp:=(ch.take k).foldl QC (1,1,1,1)
def Es {ch:List Sp}{k:Nat}(h:k<ch.length):Ep ch (k+1)=QC (Ep ch k) (ch.getD k (0,0,0,0)):=by grind[Ep,List.take_succ_eq_append_getElem]
def i7 (ch:List Sp):Sp:=Ep ch ch.length
abbrev scB (B:Int)(s:Sp):Prop:=(1<=s.1/\s.1<=B)/\(1<=s.2.1/\s.2.1<=B)/\(1<=s.2.2.1/\s.2.2.1<=B)/\1<=s.2.2.2/\s.2.2.2<=B
def mM {q:Sp}(h:dN q=0):scB 1000 q/\Int.gcd q.1 q.2.1=1/\Int.gcd q.2.2.1 q.2.2.2=1/\¬q.2.2.1*q.2.1<q.1*q.2.2.2:=by
 unfold dN at h
 grind
def Nl {n d B:Int}(hn:1<=n/\n<=B)(hd:1<=d/\d<=B):(1<=fu n d/\fu n d<=B)/\1<=eG n d/\eG n d<=B:=by
 have h1:=agM (show 0<=n by omega) (show 0<d by omega);have h2:=Gm (n:=n) (d:=d) K0;have h3:=wX (n:=n) (show 0<d by omega);have h4:=Qt n d
 grind
def Gq {a b A B:Int}(ha:1<=a/\a<=A)(hb:1<=b/\b<=B):1<=a*b/\a*b<=A*B:=by
 have h1:1*1<=a*b:=CY ha.1 hb.1 K0 K0;have h2:a*b<=A*B:=CY ha.2 hb.2 K0 K0;omega
def ZX {s q:Sp}{B:Int}(hs:scB B s)(hq:scB 1000 q):scB (B*1000) (QC s q):=by
 obtain⟨s1,s2,s3,s4⟩:=hs;obtain⟨q1,q2,q3,q4⟩:=hq;have a:=Nl (Gq s1 q1) (Gq s2 q2);have b:=Nl (Gq s3 q3) (Gq s4 q4);exact⟨a.1,a.2,b.1,b.2⟩
def alP {ch:List Sp}(hc: ∀q∈ch,dN q=0): ∀k,k<=ch.length->scB (1000^k) (Ep ch k):=by
 intro k
 induction k with
 |zero=>grind[Ep]
 |succ k ih=>
  intro hk;rw[Es hk,Int.pow_succ];exact ZX (ih K0) (mM (hc _ (Eb hk))).1
def anE {k:Nat}(h:k<=4):(1000:Int)^k<=1000000000000:=by rcases(show k=0\/k=1\/k=2\/k=3\/k=4 by omega)with rfl|rfl|rfl|rfl|rfl<;>decide
def Et {ch:List Sp}(hc: ∀q∈ch,dN q=0)(hl:ch.length<=4){k:Nat}(hk:k<=ch.length):scB 1000000000000 (Ep ch k):=by
 have h:=alP hc k hk;have:=anE (k:=k) K0;omega
def iZ {e:Int}{q:Sp}{ch:List Sp}(h:aY e q ch=0):(0<=e/\e<=100)/\dN q=0/\ch.length<=4/\∀s∈ch,dN s=0:=by
 unfold aY at h;split at h
 ·rename_i h1;split at h
  grind
  ·rename_i h2;split at h
   ·rename_i h3;refine⟨h1,by omega,h3,?_⟩;clear h2 h3
    induction ch with
    |nil=>grind
    |cons x ch ih=>
     simp only[jd,fs]at h
     grind
   ·omega
 ·omega
def zc {a b c d:Int}(ha:1<=a/\a<=1000000000000)(hb:1<=b/\b<=1000000000000)(hc:1<=c/\c<=1000)(hd:1<=d/\d<=1000):ac 324 [F2 a b,F2 c d] (.one (F2 (fu (a*c) (b*d)) (eG (a*c) (b*d)))):=by
 have m1:=Gq ha hc;have m2:=Gq hb hd;have g:=Bx (a*c) (b*d) ⟨by omega,by omega⟩ K0;refine sF f324 ?_;exact tL
abbrev k8 (s:Sp):Prop:=(s.1<=1000000000/\s.2.1<=1000000000)/\s.2.2.1<=1000000000/\s.2.2.2<=1000000000
def kz (e:Int)(q:Sp)(ch:List Sp):Int:=if aY e q ch≠0 then aY e q ch else if k8 (i7 ch)then 0 else 8
def Nn (e:Int)(q:Sp)(ch:List Sp)(hq:qC q)(vW: ∀s∈ch,qC s)(hl:ch.length<=4294967296):ac 292 [Ru e q ch] (.aI (if kz e q ch=0 then [(true,sp (i7 ch)),I 0]else [F4 0 0 0 0,I (kz e q ch)])):=by
 have g0:=k7 e q ch hq vW hl;by_cases h0:aY e q ch=0
 ·obtain⟨_,_,h4,hf⟩:=iZ h0;have hS:=Et hf h4 (dE _);rw[h0]at g0;have he:kz e q ch=if k8 (i7 ch)then 0 else 8:=by unfold kz;grind
  rw[he];clear he;refine sF f292 ?_
  (try(refine tX 0 ?_;try exact Zt))
  refine af (ι:=Nat) (λi=>i<=ch.length) (λi=>ch.length -i) (λi=>⟨[(2,pP 0),(6,pP 1),(20,some (.val (false,[.st (.view (ch.map sp))]))),(21,vI ch.length),(22,vI i)],[(0,some (.box 161 [.st (J 0),.st (J 0),.st (J 0),.st (J 0)])),(1,some (.box 161 [.st (J (Ep ch i).1),.st (J (Ep ch i).2.1),.st (J (Ep ch i).2.2.1),.st (J (Ep ch i).2.2.2)]))],2⟩) 0 (ai akl) (dD _) ?_;intro i hi;have hB:=Et hf h4 hi
  (try(refine tX 0 ?_;try exact Zt))
  (refine bR ?_ ?_<;>intro h<;>(try conv=>whnf))
  ·have ak:i<ch.length:=by omega
   have iV:=JU ak;have hs:=Es ak;have hQ:=(mM (hf _ (Eb ak))).1;generalize ch.getD i (0,0,0,0)=Q at*;have p1:=zc hB.1 hB.2.1 hQ.1 hQ.2.1;have p2:=zc hB.2.2.1 hB.2.2.2 hQ.2.2.1 hQ.2.2.2;exact K85
  ·obtain rfl:i=ch.length:=by omega
   change scB 1000000000000 (i7 ch)at hB;show m8 _ _ ⟨_,[_,(1,some (.box 161 [.st (J (i7 ch).1),.st (J (i7 ch).2.1),.st (J (i7 ch).2.2.1),.st (J (i7 ch).2.2.2)]))],_⟩ _ _ _;generalize i7 ch=S at*;by_cases k1:S.1<=1000000000/\S.2.1<=1000000000
   ·by_cases k2:S.2.2.1<=1000000000/\S.2.2.2<=1000000000
    ·rw[if_pos (show k8 S from⟨k1,k2⟩),if_pos rfl];repeat((first|(refine kO 7 rfl ?_;first|refine Rq (nN _ _) ?_)|refine tX 0 ?_|exact Zt);(try conv=>whnf))
     exact K7
    ·rw[if_neg (show ¬k8 S from λh=>k2 h.2),if_neg K0];repeat((first|(refine kO 7 rfl ?_;first|refine Rq (nN _ _) ?_)|refine tX 0 ?_|exact Zt);(try conv=>whnf))
     exact K7
   ·rw[if_neg (show ¬k8 S from λh=>k1 h.1),if_neg K0];repeat((first|(refine kO 7 rfl ?_;first|refine Rq (nN _ _) ?_)|refine tX 0 ?_|exact Zt);(try conv=>whnf))
    exact K7
 ·have he:kz e q ch=aY e q ch:=by unfold kz;grind
  rw[he,if_neg h0];generalize aY e q ch=z0 at*;refine sF f292 ?_;exact K1
def ux {n:Int}(h:1<=n/\n<=1000000000000):Sz 20000 n:=(Au K0).mono K0
def TP {n d:Int}(hn:1<=n/\n<=1000)(hd:1<=d/\d<=1000)(hg:Int.gcd n d=1):ac 355 [F2 n d] (.one (rt n d)):=by
 have g:=Gp (n:=n) (d:=d) K0 K0;have h1:fu n d=n:=by unfold fu;rw[hg];simp
 have h2:eG n d=d:=by unfold eG;rw[hg];simp
 rwa [h1,h2]at g
def JZ {e:Int}{q:Sp}{ch:List Sp}(h0:aY e q ch=0):ac 342 [Ru e q ch] (.aI (if k8 (i7 ch)then [(true,sp (i7 ch)),Bo true]else [F4 0 0 0 0,Bo false])):=by
 obtain⟨_,_,h4,hf⟩:=iZ h0;have hS:=Et hf h4 (dE _);have o1:=JX 1 K0;refine sF f342 ?_
 (try(refine tX 0 ?_;try exact Zt))
 refine af (ι:=Nat) (λi=>i<=ch.length) (λi=>ch.length -i) (λi=>⟨[(1,pP 0),(2,pP 1),(4,pP 2),(5,pP 3),(6,vI i)],[(0,some (.box 164 [.st (J e),.st (J q.1),.st (J q.2.1),.st (J q.2.2.1),.st (J q.2.2.2),.st (.view (ch.map sp))])),(1,some (.box 161 [.st (J 0),.st (J 0),.st (J 0),.st (J 0)])),
  (2,some (.box 425 [.st (J (Ep ch i).1.sign),.st (.ints (bh (Ep ch i).1.natAbs)),.st (J (Ep ch i).2.1.sign),.st (.ints (bh (Ep ch i).2.1.natAbs))])),(3,some (.box 425 [.st (J (Ep ch i).2.2.1.sign),.st (.ints (bh (Ep ch i).2.2.1.natAbs)),.st (J (Ep ch i).2.2.2.sign),.st (.ints (bh (Ep ch i).2.2.2.natAbs))]))],4⟩) 0 Zc (dD _) ?_
 intro i hi;have hB:=Et hf h4 hi
 (try(refine tX 0 ?_;try exact Zt))
 (refine bR ?_ ?_<;>intro h<;>(try conv=>whnf))
 ·have ak:i<ch.length:=by rw[jj]at h;omega
  have iV:=JU ak;have hs:=Es ak;have hQ:=mM (hf _ (Eb ak));generalize ch.getD i (0,0,0,0)=Q at*;obtain⟨hQ,hg1,hg2,_⟩:=hQ;have p1:=TP hQ.1 hQ.2.1 hg1;have p2:=TP hQ.2.2.1 hQ.2.2.2 hg2;have p3:=y9 (n:=(Ep ch i).1) (d:=(Ep ch i).2.1) (m:=Q.1) (e:=Q.2.1) (ux hB.1) (ux hB.2.1) (ux K0) (ux K0) (Int.mul_pos K0 K0);have p4:=y9 (n:=(Ep ch i).2.2.1) (d:=(Ep ch i).2.2.2) (m:=Q.2.2.1) (e:=Q.2.2.2) (ux hB.2.2.1) (ux hB.2.2.2) (ux K0) (ux K0) (Int.mul_pos K0 K0);exact K85
 ·obtain rfl:i=ch.length:=by rw[jj]at h;omega
  have f1:=wB (n:=(i7 ch).1) (d:=(i7 ch).2.1) abZ abZ;have f2:=wB (n:=(i7 ch).2.2.1) (d:=(i7 ch).2.2.2) abZ abZ;by_cases k1:(i7 ch).1<=1000000000/\(i7 ch).2.1<=1000000000
  ·rw[if_pos k1]at f1;by_cases k2:(i7 ch).2.2.1<=1000000000/\(i7 ch).2.2.2<=1000000000
   ·rw[if_pos k2]at f2;rw[if_pos (show k8 (i7 ch)from⟨k1,k2⟩)];exact K1
   ·rw[if_neg k2]at f2;rw[if_neg (show ¬k8 (i7 ch)from λh=>k2 h.2)];exact K1
  ·rw[if_neg k1]at f1;rw[if_neg (show ¬k8 (i7 ch)from λh=>k1 h.1)];by_cases k2:(i7 ch).2.2.1<=1000000000/\(i7 ch).2.2.2<=1000000000
   ·rw[if_pos k2]at f2;exact K1
   ·rw[if_neg k2]at f2;exact K1
def ni (e:Int)(q:Sp)(ch:List Sp)(hq:qC q)(vW: ∀s∈ch,qC s):ac 147 [Ru e q ch] (.one (I (aY e q ch))):=by
 have g:=qD q hq;unfold aY;by_cases h1:0<=e/\e<=100
 ·rw[if_pos h1];by_cases h2:dN q=0
  ·rw[if_neg K0];rw[h2]at g;by_cases h3:ch.length<=4
   ·rw[if_pos h3];have bG:(ch.map sp).length =ch.length:=jj ..;refine sF f147 ?_;repeat((first|(refine kO 7 rfl ?_;first|refine Rq (du _ _ _) ?_)|refine tX 0 ?_|exact Zt);(try conv=>whnf))
    refine af (ι:=Nat) (λi=>i<=ch.length/\fs (ch.map dN)=fs ((ch.drop i).map dN)) (λi=>ch.length -i) (λi=>⟨[(1,pP 0),(4,vI i)],[(0,some (.box 164 [.st (J e),.st (J q.1),.st (J q.2.1),.st (J q.2.2.1),.st (J q.2.2.2),.st (.view (ch.map sp))]))],1⟩) 0 Zc ⟨dD _,rfl⟩ ?_;rintro i ⟨hi,he⟩
    (try(refine tX 0 ?_;try exact Zt))
    (refine bR ?_ ?_<;>intro h<;>(try conv=>whnf))
    ·have ak:i<ch.length:=by omega
     have iV:=JU ak;have g:=qD _ (vW _ (Eb ak));rw[TJ ak]at he
     (try(refine tX 0 ?_;try exact Zt))
     (refine bR ?_ ?_<;>intro h<;>(try conv=>whnf))
     ·exact ajg
     ·rw[if_neg h]at he
      (try(refine tX 0 ?_;try exact Zt))
      exact⟨i+1,⟨ak,he⟩,by omega,Zc⟩
    ·exact aiH
   ·rw[if_neg h3];have bG:(ch.map sp).length =ch.length:=jj ..;exact K70
  ·rw[if_pos h2];generalize dN q=z at*;refine sF f147 ?_;repeat((first|(refine kO 7 rfl ?_;first|refine Rq (du _ _ _) ?_)|refine tX 0 ?_|exact Zt);(try conv=>whnf))
   exact K7
 ·rw[if_neg h1];exact K70
def alQ {x y A B:Int}(hx: -A<=x/\x<=A)(hy: -B<=y/\y<=B)(hA:0<=A): -(A*B)<=x*y/\x*y<=A*B:=by
 have h:(x*y).natAbs <=A.natAbs*B.natAbs:=by rw[Yj];exact Yg K0 K0
 rw[<- Yj]at h;have h2:0<=A*B:=CS hA K0;omega
end Go.Proofs.Tryz
namespace Go.Proofs.Tryz
open Go Go.RowKit Go.Shelf Go.Fw Go.Plain
attribute [local go_sem] Oper.semAt_some
set_option maxRecDepth 100000 in
set_option maxHeartbeats 4000000 in
def V3 (mr:Mem)(a:Option Addr)(n cap bc ob:Nat)(f:Nat->Array Value)(hn:n<=1000000)(w:World)(hbc:mr bc ob=some (.slice a n cap))
  (ma: ∀i,i<n->∃b o,a=some ⟨b,o,none⟩/\(f i).size =4/\∀k,k<4->mr b (o+i*4+k)=some ((f i).getD k undef)):
  akT prog 296 #[] #[.pointer (some ⟨bc,ob,none⟩)] ((List.range n).map λj=> #[.int .i64 ((n -1 -j:Nat):Int),.agg (f (n -1 -j))]) mr w:=by
 intro l J Jx W M0 hW hM0 hJ hJx hJm hY h0;refine callsIn_of_wp Tryz.func296 rfl trivial ?_ rfl;simp only[Tryz.ntmps296,List.size_toArray,jP,xT,Nat.reduceAdd,Nat.reduceSub,Array.replicate_succ,Array.replicate_zero,List.push_toArray,List.append_toArray,LM,qX];have c0:W.cell? ⟨bc,ob,none⟩=some (.slice a n cap):=hJm _ _ h0 _ _ _ hbc
 gi_wp2
 gi_loopw [3] (λv wr=>∃j:Nat,j<=n/\v= .int .i64 ((n:Int) -1 -j)/\∃M,J (j,M) wr)
  (λv _=>(intOf v+1).toNat)
 case atStart=>exact⟨0,dD _,by simp,M0,h0⟩
 case round=>
  clear c0 h0;obtain⟨j,hj,rfl,M1,hJj⟩:=hrel;have c1:wr.cell? ⟨bc,ob,none⟩=some (.slice a n cap):=hJm _ _ hJj _ _ _ hbc;by_cases hjn:j<n
  ·have e1:decide ((n:Int) -1 -j>=0)=true:=fL K0;obtain⟨b,o,rfl,hs4,hk4⟩:=ma (n -1 -j) K0;have hje:((n:Int) -1 -j).toNat =n -1 -j:=by omega
   have e2:(Instr.indexAt 41 (.slice (some ⟨b,o,none⟩) n cap) (.int .i64 ((n:Int) -1 -j))).run prog wr= .ok (.pointer (some ⟨b,o+(n -1 -j)*4,none⟩)) wr:=by
    have:=HO (C:=cx) (w:=wr) (b:=b) (o:=o) (n:=n) (cap:=cap) (k:=(n:Int) -1 -j) lJ (T:=41) rfl rfl rfl K0 K0;rw[hje]at this;exact this
   obtain⟨v0,v1,v2,v3,FD⟩: ∃v0 v1 v2 v3,f (n -1 -j)= #[v0,v1,v2,v3]:=by
    generalize f (n -1 -j)=g at hs4;obtain⟨l⟩:=g
    match l,hs4 with
    | [v0,v1,v2,v3],_=>exact⟨v0,v1,v2,v3,rfl⟩
   rw[FD]at hk4;have k0:wr.cell? ⟨b,o+(n -1 -j)*4,none⟩=some v0:=hJm _ _ hJj _ _ _ (hk4 0 K0);have k1:wr.cell? ⟨b,o+(n -1 -j)*4+1,none⟩=some v1:=hJm _ _ hJj _ _ _ (hk4 1 K0);have k2:wr.cell? ⟨b,o+(n -1 -j)*4+2,none⟩=some v2:=hJm _ _ hJj _ _ _ (hk4 2 K0);have k3:wr.cell? ⟨b,o+(n -1 -j)*4+3,none⟩=some v3:=hJm _ _ hJj _ _ _ (hk4 3 K0)
   have hx:((List.range n).map λj=> #[Value.int .i64 ((n -1 -j:Nat):Int),Value.agg (f (n -1 -j))])[j]? =some #[.int .i64 ((n:Int) -1 -j),.agg #[v0,v1,v2,v3]]:=by
    rw[gK,List.getElem?_range hjn];simp only[xR,lM];rw[show((n -1 -j:Nat):Int)=(n:Int) -1 -j by omega,FD]
   obtain⟨fn,tmps,assign,body,hy,hR⟩:=hY _ _ _ wr hx hJj
   gi_wp2
   refine⟨rfl,hR.mono ?_⟩;rintro e W3 (⟨rfl,M3,hJ3,hs3,hl3,hk3⟩|⟨rfl,hJx3⟩)
   ·gi_wp2
    refine⟨⟨j+1,by omega,by congr 1;omega,M3,hJ3⟩,by simp only[intOf];omega⟩
   ·gi_wp2
    refine bodyPost_ret (results_none rfl _ _ _) rfl ?_;exact⟨⟨_,rfl⟩,.inr hJx3⟩
  ·have e1:decide ((n:Int) -1 -j>=0)=false:=fj K0;obtain rfl:j=n:=by omega
   gi_wp2
   go_end0
   refine⟨⟨_,rfl⟩,.inl ⟨M1,?_⟩⟩;rw[jj,List.length_range];exact hJj
def adh (es:List (List SC))(hn:es.length<=1000000)(h4: ∀e∈es,e.length=4):
  Th cx.P cx.gl 296 [] [[.view es]] ((List.range es.length).map λj=>[(false,[.lit (.int .i64 ((es.length -1 -j:Nat):Int))]),(true,es.getD (es.length -1 -j) [])]):=by
 refine⟨by kernel_rfl,λmv mr w fb cv wJ hmr hgl hfb hcv=>?_⟩;have aoa:fb= #[]:=Array.eq_empty_of_size_eq_zero hfb.1;subst aoa;obtain⟨v,rfl,hv⟩:=yK hcv
 cases hv with
 |empty _ _ hv=>simp[SC.ao]at hv
 |view _ _ _ _ _ hv=>simp[SC.ao]at hv
 |ref bc ob g hc hr=>
  have hbc:mr bc ob=some (g 0):=hc 0 (by simp);have hg:=hr 0 _ rfl;generalize g 0=hv at hbc hg
  obtain⟨a,cap,rfl,ma⟩: ∃a cap,hv= .slice a es.length cap/\∃f:Nat->Array Value,∀i,i<es.length->∃b o,a=some ⟨b,o,none⟩/\(f i).size =4/\(∀k,k<4->mr b (o+i*4+k)=some ((f i).getD k undef))/\
    ∀(k:Nat) (x:SC),(es.getD i [])[k]? =some x->dy mv eX ((f i).getD k undef) x:=by
   cases hg with
   |empty a cap hv h0=>exact⟨a,cap,by rw[show es.length=0 from h0],λ_=> #[],λi hi=>by rw[show es.length=0 from h0]at hi;omega⟩
   |view b o cap z f hv fN hz fZ hl hc hr=>
    have fN:0<es.length:=fN;have hz4:z=4:=by rw[<- hl 0 es[0] (by simp[SC.elem,fN])];exact h4 _ (qd fN)
    subst hz4;refine⟨_,cap,rfl,λi=> #[f (i*4),f (i*4+1),f (i*4+2),f (i*4+3)],λi hi=>⟨b,o,rfl,rfl,λk hk=>?_,λk x hx=>?_⟩⟩
    ·have:=wJ _ _ _ (hc (i*4+k) (by show _<es.length*4;omega));rw[show o+i*4+k=o+(i*4+k)by omega,this]
     match k,hk with
     |0,_=>rfl
     |1,_=>rfl
     |2,_=>rfl
     |3,_=>rfl
    ·have he:(SC.view es).elem i=some (es.getD i []):=by simp[SC.elem,jN,hi]
     have hk:=(kJ.1 hx).1;rw[hl i _ he]at hk;have:=hr i _ k x he hx
     match k,hk with
     |0,_=>exact this
     |1,_=>exact this
     |2,_=>exact this
     |3,_=>exact this
  obtain⟨f,hf⟩:=ma;refine⟨(List.range es.length).map λj=> #[.int .i64 ((es.length -1 -j:Nat):Int),.agg (f (es.length -1 -j))],by simp,λi x r hx Ch=>?_,?_⟩
  ·rw[gK,mZ]at hx Ch;obtain⟨j,hj,rfl⟩:=hx;obtain⟨j',hj',rfl⟩:=Ch;rw[hj]at hj';cases hj'
   have hjl:j<es.length:=by
    have:=(kJ.1 hj);obtain⟨q1,q2⟩:=this;simp at q1 q2;omega
   obtain⟨b,o,_,q2,_,q4⟩:=hf (es.length -1 -j) K0;refine⟨rfl,λk x hk=>?_⟩
   match k,hk with
   |0,hk=>simp at hk;subst hk;exact⟨_,rfl,.lit rfl⟩
   |1,hk=>
    simp at hk;subst hk;refine⟨_,rfl,?_,q4⟩;rw[q2];have ak:es.length -1 -j<es.length:=by omega
    simp only[jN,pj ak,vK];exact(h4 _ (qd ak)).symm
   |k+2,hk=>simp at hk
  ·exact V3 mr a es.length cap bc ob f hn w hbc λi hi=>let⟨b,o,h1,h2,h3,_⟩:=hf i hi;⟨b,o,h1,h2,h3⟩
end Go.Proofs.Tryz
namespace Go.Fw
open Go.RowKit (Below)
open Classical
section
variable {C:bU}{F:gN}{β:Nat->Option Nat}{N:Nat->Prop}{H:HF}{fid:Nat}{w:World}
def Z4 (hR:ad F β N H w)(hf: ¬N fid){z id b cap:Nat}{c c':SC}{arr arr':Array Value}{T:TypeId}(hb:H id=some (.row true z c))(xC:β id=some b)(lF:w.heap[b]? =some (.cells arr T))(nC:arr.size=cap*z)(O3:arr'.size=arr.size)
  (hv:c'.ao=true)(eC:c'.len<=cap)(iL: ∀i e,c'.elem i=some e->e.length=z)(hc: ∀i e j x,c'.elem i=some e->e[j]? =some x->dy eX eX (arr'.getD (i*z+j) undef) x):
  ∃cQ,Tr F β N H w cQ (bk N fid) (Hp.on [(fid,some (.row true z c')),(id,none)] H) (w.setRow b arr')/\ad F cQ (bk N fid) (Hp.on [(fid,some (.row true z c')),(id,none)] H) (w.setRow b arr')/\
   co F cQ (bk N fid) (Hp.on [(fid,some (.row true z c')),(id,none)] H) (w.setRow b arr') (.slice (some ⟨b,0,none⟩) c'.len cap) (bm (.own fid)):=by
 obtain⟨hn,⟨hz,XB,sI⟩,gC⟩:=hR.rel id _ hb
 rcases gC with⟨q,_⟩|⟨b',jE,q1,q2,xq,T0,q3,q4,q5⟩
 ·grind
 rw[xC]at q1;cases q1;rw[lF]at q3;cases q3;have Xm:id≠fid:=λe=>hf (e▸hn);have qc:(w.setRow b arr').heap[b]? =some (.cells arr' T):=xV w b arr _ T (0,0) lF
 show ∃cQ,Tr F β N H w cQ (bk N fid) (bt (bt H id none) fid (some (.row true z c'))) (w.setRow b arr')/\ad F cQ (bk N fid) (bt (bt H id none) fid (some (.row true z c'))) (w.setRow b arr')/\
   co F cQ (bk N fid) (bt (bt H id none) fid (some (.row true z c'))) (w.setRow b arr') (.slice (some ⟨b,0,none⟩) c'.len cap) (bm (.own fid))
 have live: ∀ {k:Nat} {b0:cD},k≠fid->bt (bt H id none) fid (some (.row true z c')) k=some b0->k≠id/\H k=some b0:=by grind[aG,an]
 have hT:Tr F β N H w (cV β fid (some b)) (Fw.bk N fid) (bt (bt H id none) fid (some (.row true z c'))) (w.setRow b arr'):=by
  refine⟨jy.setRow (hR.fY hb xC).2 _,λb' o v _ hs e=>⟨λiW bC e' jW=>?_,?_⟩,λ_ h=>.inl h,λiW Lh=>iC _ _ _ λe=>hf (e▸Lh),λiW blk' Lh e=>?_,λ_ _ _ b' xq T0 _ _ _ _ _ e=>?_,mh ⟨_,_,lF⟩ _⟩
  ·by_cases hk:iW=fid
   ·subst hk;rw[jz]at jW;cases jW;have:=hs id _ hb xC
    grind[cD.tm]
   ·exact af1
  ·by_cases hk:b'=b
   ·subst hk;have:=hs id _ hb xC
    grind[cD.tm]
   exact ach
  ·exact afP
  grind[setRow_other]
 have hH:ad F (cV β fid (some b)) (Fw.bk N fid) (bt (bt H id none) fid (some (.row true z c'))) (w.setRow b arr'):=by
  refine hR.step hT (λi=>i=fid) (λi bC hi e=>?_) (λi bC hi e=>?_) (λi j x y y' hi hj bi bj=>?_)
  ·exact K73
  ·subst hi;rw[an]at e;cases e;exact⟨.inr rfl,⟨hz,hv,iL⟩,.inr ⟨b,cap,by simp[cV],q2,arr',T,qc,by omega,hz,hv,eC,iL,λi e' j x he hx=>(hc i e' j x he hx).mono (ee _) (Mem.le_refl _)⟩⟩
  ·exact K21
 refine⟨_,hT,hH,cK ⟨.inr rfl,rfl,λnV z' n' jW wI=>?_⟩⟩;have:bt (bt H id none) fid (some (.row true z c')) fid=some nV:=jW;exact afM
theorem Nu {f:FuncId}(fC:iN C.P f=true)(zs:List (List UInt8))(i j:Nat)(Pv:i<j)(hj:j<=zs.length)
  (bH: ∀(b cap:Nat) (arr:Array Value) (T:TypeId) (w:World),w.heap[b]? =some (.cells arr T)->arr.size=cap->zs.length<=cap->(∀k,k<zs.length->arr[k]? =some (.string (B (zs.getD k []))))->
   Calls C.P f #[.slice (some ⟨b,0,none⟩) zs.length cap,.int .i64 i,.int .i64 j] w λe w'=>e= .returned (.slice (some ⟨b,0,none⟩) (i+(zs.length -j)) cap)/\
    ∃arr',w'=w.drew.setRow b arr'/\arr'.size=arr.size/\∀k,k<i+(zs.length -j)->arr'[k]? =some (.string (B ((zs.take i++zs.drop j).getD k []))))
  {id:Nat}(hb:H id=some (.row true 1 (.view (ab zs)))):
  bX C fid f [(false,[.own id]),(false,[.st (.lit (.int .i64 i))]),(false,[.st (.lit (.int .i64 j))])] H (bm (.own fid)) [(fid,some (.row true 1 (.view (ab (zs.take i++zs.drop j))))),(id,none)] [id]:=by
 refine⟨fC,λF β N H' w vs hH hG hR hf nC hv=>?_⟩;have jW:H' id=some (.row true 1 (.view (ab zs))):=by grind
 obtain⟨hn,h1,h2⟩:cw F β N H' w (vs.getD 0 undef) (.own id):=(hv 0 _ rfl).am;have e1:vs.getD 1 undef= .int .i64 i:=(cw.bB ((hv 1 _ rfl).am)).1;have e2:vs.getD 2 undef= .int .i64 j:=(cw.bB ((hv 2 _ rfl).am)).1;have bG:(SC.view (ab zs)).len =zs.length:=by simp[SC.len]
 rcases h2 _ _ _ jW rfl with⟨_,h0,_⟩|⟨b,cap,arr,T,a1,a2,a3,a4⟩
 ·omega
 rw[bG]at a2
 have xy:vs= #[.slice (some ⟨b,0,none⟩) zs.length cap,.int .i64 i,.int .i64 j]:=by
  have h3:vs.size=3:=nC;apply A1;omega
  ·intro k hk _;rw[h3]at hk;have hg: ∀k (hk:k<vs.size),vs[k]=vs.getD k undef:=λk hk=>by simp[Array.getD,hk]
   grind
 obtain⟨_,⟨hz,XB,iL⟩,gC⟩:=hR.rel id _ jW
 rcases gC with⟨q,_⟩|⟨b',jE,q1,q2,arr',T',p1,p2,p3,p4,p5,p6,p7⟩
 ·omega
 rw[a1]at q1;cases q1;rw[a3]at p1;cases p1;have hcc:cap=jE:=by omega
 subst hcc;rw[bG]at p5
 have iV: ∀k,k<zs.length->arr[k]? =some (.string (B (zs.getD k []))):=λk hk=>by
  have:=p7 k [.lit (.string (B (zs.getD k [])))] 0 (.lit (.string (B (zs.getD k [])))) (by simp[SC.elem,ab,jN,hk]) rfl;simp only[A0,CU]at this;have ak:k<arr.size:=by omega
  have e:=(cw.bB (F:=F) (β:=β) (N:=N) (H:=H') (w:=w) (dy.mono (Mem.le_refl _) (ee _) this)).1;simp_all
 rw[xy];refine(bH b cap arr T w a3 K0 p5 iV).mono λe w1 he=>?_;obtain⟨rfl,aem,rfl,s1,s2⟩:=he;have hB:Below w.heap.size w w.drew:=(Below.refl _ _).drew;have Xr:=hR.grow hB;have t1:=Tr.grow hR hB;have Xt:(SC.view (ab (zs.take i++zs.drop j))).len =i+(zs.length -j):=by grind[SC.len]
 obtain⟨cQ,g1,g2,g3⟩:=Z4 (c':=.view (ab (zs.take i++zs.drop j))) Xr (λh=>hf _ h rfl) jW a1 (show w.drew.heap[b]? =some (.cells arr T)from a3) a4 s1 rfl K0 (λk e he=>by grind[od]) λk e m x he hx=>by
  obtain⟨s,hs,rfl⟩:=od he;have hk:k<i+(zs.length -j):=by grind
  cases m with
  |succ m=>grind
  |zero=>
   simp at hx;subst hx;have:=s2 k hk;rw[jN,hs,vK]at this;rw[A0,CU,sN,this];exact .lit rfl
 rw[Xt]at g3;exact⟨_,cQ,rfl,t1.trans g1,g2,g3⟩
end
end Go.Fw
namespace Go.Proofs.Tryz
open Go Go.RowKit Go.Fw Go.Lib
def zd {w:World}{b off:Nat}{arr:Array Value}{T:TypeId}{vs:List Value}(hb:w.heap[b]? =some (.cells arr T))(hf:off+vs.length<=arr.size)(h1: ∀v∈vs,v.oneCell'=true):w.setCells b off vs=w.setRow b (aP arr off vs):=by
 have e1:=Su (default:Program) b off T vs 0 arr w hb (by simpa using hf) h1;have e2:=run_storeCells_cells (P:=default) b off vs 0 w (λj hj=>by simp[World.cell?,hb];omega) (λj hj=>by simp[World.frozen?,hb]) h1;rw[e1]at e2;simp only[CU,Result.ok.injEq,C1]at e2;rw[<- e2];rfl
set_option maxHeartbeats 4000000 in
set_option maxRecDepth 1000000 in
def adj (zs:List (List UInt8))(i j:Nat)(Pv:i<j)(hj:j<=zs.length)(b cap:Nat)(arr:Array Value)(T:TypeId)(w:World)(hb:w.heap[b]? =some (.cells arr T))(nC:arr.size=cap)(fZ:zs.length<=cap)
  (iV: ∀k,k<zs.length->arr[k]? =some (.string (B (zs.getD k [])))):
  Calls prog 202 #[.slice (some ⟨b,0,none⟩) zs.length cap,.int .i64 i,.int .i64 j] w λe w'=>e= .returned (.slice (some ⟨b,0,none⟩) (i+(zs.length -j)) cap)/\
   ∃arr',w'=w.drew.setRow b arr'/\arr'.size=arr.size/\∀k,k<i+(zs.length -j)->arr'[k]? =some (.string (B ((zs.take i++zs.drop j).getD k []))):=by
 have hbd:w.drew.heap[b]? =some (.cells arr T):=hb;have mixed:=lJ.mixed;obtain⟨n,hn⟩: ∃n,n=zs.length:=⟨_,rfl⟩;obtain⟨news,O9⟩: ∃news,news=(zs.drop j).map λs=>Value.string (B s):=⟨_,rfl⟩;have bG:news.length=n -j:=by rw[O9,hn];simp
 have s8: ∀u∈news,u.oneCell'=true:=by intro u hu;rw[O9]at hu;obtain⟨x,_,rfl⟩:=dT.1 hu;rfl
 obtain⟨A,hA,anS⟩: ∃A:Addr,(if cap=j then(some ⟨b,0,none⟩:Option Addr)else some ⟨b,j,none⟩)=some A/\Hid (∀t u,news[t]? =some u->w.drew.cell? (A.add t)=some u):=by
  have hc: ∀t u,news[t]? =some u->w.drew.cell? ⟨b,j+t,none⟩=some u:=by
   intro t u hu;rw[O9,gK,G1,mZ]at hu;obtain⟨x,hx,rfl⟩:=hu;have ak:=(kJ.1 hx).1;have:=iV _ ak;rw[jN,hx]at this;simp[World.cell?,hbd,this]
  by_cases h:cap=j
  ·refine⟨⟨b,0,none⟩,by simp[h],λt u hu=>?_⟩;have:t<news.length:=(kJ.1 hu).1;omega
  ·refine⟨⟨b,j,none⟩,by simp[h],λt u hu=>?_⟩;rw[Fw.addr_add];exact hc t u hu
 have s1:Hid (news.length=(n -j)*1):=by show _=_;omega
 have s2:Hid (∀u∈news,u.oneCell'=true):=s8
 have s3:Hid (∀t,t<news.length->(w.drew.cell? ⟨b,0+i*1+t,none⟩).isSome =true/\w.drew.frozen? ⟨b,0+i*1+t,none⟩=false):=by
  intro t ht;constructor
  ·simp[World.cell?,hbd];omega
  ·simp[World.frozen?,hbd]
 obtain⟨tf,td,tz,hT⟩:=bU.Ok.get lJ (t:=9) (i:=(cx.ti 9).getD default) cT;have hu:prog.underlying 23=some (.slice 9):=by kernel_rfl
 obtain⟨W1,hW1⟩: ∃W1,W1=w.drew.setCells b (0+i*1) news:=⟨_,rfl⟩
 have ahu:Hid (W1=w.drew.setRow b (aP arr i news)):=by
  have:=zd (off:=i) hbd K0 s8;rw[<- this,hW1,j7,A0];exact rfl
 have hz: ∀w:World,(zeroValue 9).run prog w= .ok (.string ByteArray.empty) w:=λw=>by
  have:(prog.info? 9).bind (·.zero)=some (.string ByteArray.empty):=by kernel_rfl
  have h2:=hT.ow;rw[show cx.P=prog from rfl]at h2;rw[h2]at this;simp only[LI]at this;simp[zeroValue,typeInfo,h2,this]
 have xH:Hid (W1.heap[b]? =some (.cells (aP arr i news) T)):=by
  show _=_;rw[ahu.out];exact xV w.drew b arr _ T (0,0) hbd
 have hs1:(aP arr i news).size =arr.size:=fk K0
 have jg: ∀ty,(Builtin.clear_ #[23] ty #[.slice (some ⟨b,i+(n -j),none⟩) (n -(i+(n -j))) (cap -(i+(n -j)))]).run prog W1= .ok (.tuple #[]) (W1.setCells b (i+(n -j)) (List.replicate (n -(i+(n -j))) (.string ByteArray.empty))):=
  λty=>Lib.run_clear_slice W1 _ _ ty _ hu hz rfl rfl b _ _ _ K0 (λt ht=>by simp[World.cell?,xH.out,hs1];omega) (λt ht=>by simp[World.frozen?,xH.out])
 have hW:Hid (W1=w.drew.setCells b (0+i*1) news):=hW1;have Uu:i+(n -j)+(List.replicate (n -(i+(n -j))) (Value.string ByteArray.empty)).length <=(aP arr i news).size :=by rw[hs1];simp;omega
 have Sc:Hid (∃arr',W1.setCells b (i+(n -j)) (List.replicate (n -(i+(n -j))) (.string ByteArray.empty))=w.drew.setRow b arr'/\arr'.size=arr.size/\∀k,k<i+(n -j)->arr'[k]? =some (.string (B ((zs.take i++zs.drop j).getD k [])))):=by
  refine⟨aP (aP arr i news) (i+(n -j)) (List.replicate (n -(i+(n -j))) (.string ByteArray.empty)),?_,by rw[fk Uu,hs1],λk hk=>?_⟩
  ·rw[zd (arr:=aP arr i news) xH.out Uu (λv hv=>by rw[List.eq_of_mem_replicate hv];rfl),ahu.out,setRow_setRow]
  ·rw[gc Uu,if_pos hk,gc (arr:=arr) (off:=i) (vs:=news) K0];by_cases h1:k<i
   ·rw[if_pos h1,iV k K0];have e0:(zs.take i++zs.drop j).getD k []=zs.getD k []:=by rw[jN,UN wa,PE,if_pos h1,jN]
    rw[e0]
   ·rw[if_neg h1,if_pos K0,O9,gK,G1];have ak:j+(k -i)<zs.length:=by omega
    rw[pj ak,xR];congr 3;have e1: ¬k< (zs.take i).length :=by simp;omega
    simp only[jN,Ss,if_neg e1,LH,G1];have e2: ¬k<min i zs.length:=by omega
    rw[show j+(k -min i zs.length)=j+(k -i)by omega,pj ak,if_neg e2,vK]
 have hic:i<=cap:=by omega
 have hjc:j<=cap:=by omega
 have eU: ¬i=j:=by omega
 have eC:i<=j:=by omega
 subst hn;clear O9 s8 bG hW1 ahu Uu xH hs1 hz hb hbd iV
 go_enter Tryz.func202,Tryz.ntmps202
 go_wp2_with fail
 go_region_law_o (refine step_append_room rfl (.tmp 22) (.tmp 25) 23 rfl 9 tf 1 hu hT.ow hT.size b 0 i cap (by simp[Act.eval,Act.put]) A (zs.length -j) (cap -j) news (by simp[Act.eval,Act.put]) s1.out anS.out s2.out K0 s3.out ?_;rw[<- hW.out])
 go_wp2
 go_ret
 exact⟨rfl,Sc.out⟩
end Go.Proofs.Tryz
namespace Go.Proofs.Tryz
open Go.Fw Go.IntWalk Go.Plain
def adn (fn:Func)(r:DV)(T':Hp)(S:St):Prop:=∃m:List (Nat × Nat),cZ m S.hp.get T'.get/\eB cx S.hp.get S.env.get fn.results.toList λys=>∃zs,kT m ys=some zs/\pv zs=r
def gR {f:FuncId}{c:Code}{xs:List DX}{r:DV}{T':Hp}(fn:Func)(h:m8 cx c ⟨iF 0 xs,[],1⟩ (adn fn r T') (λ_ _=>False) (adn fn r T'))
  (h1:iN cx.P f=true:=by kernel_rfl)(h2:cx.P.funcs[f]? =some fn:=by kernel_rfl)(h3:fn.body=some c:=by rfl)(h4:bS fn.ntmps c=true:=by kernel_rfl)(h5:xs.length<=fn.ntmps:=by exact fO rfl)(h6:aN [] c=true:=by kernel_rfl):
  bx cx f 1 xs [] [] r T':=
 fA lJ h1 h2 h3 h4 h5 [] (λ_ h=>by cases h) h6 (λS hS=>by
  obtain⟨m,g1,g2⟩:=hS
  exact⟨m,g1,(λ_ h=>by cases h),g2⟩) h
def Ib (H:HF):cZ [] H (Hp.get []):=⟨by simp,by simp,λn b' e=>by simp[Hp.get]at e⟩
def V8 (es:List (List SC))(H:Hp)(fid:Nat):bX cx fid 270 [(false,[.st (.view es)])] H.get (bm (.st (.fn 296 [] [[.view es]]))) [] []:=by
 refine mw (nx:=1) (T':=[]) (r:=bm (.st (.fn 296 [] [[.view es]]))) ?_ ⟨by simp,(λk hk=>by cases hk),(λk b e=>by simp[Hp.get]at e)⟩ (λx hx=>?_) (λd hd=>?_)
 ·refine gR f270 ?_
  (try(refine tX 0 ?_;try exact Zt))
  exact⟨[],Ib _,_,rfl,rfl⟩
 ·rw[m6]at hx;subst hx;exact K92
 ·rw[m6]at hd;subst hd;trivial
def agQ {l:List Rs}{j:Nat}(h:j<l.length):(l.map kF).getD (l.length -1 -j) []=kF (l.reverse.getD j B5):=by
 have h1:l.length -1 -j<l.length:=by omega
 simp[jN,h,h1,List.getElem?_reverse]
def V9 {l:List Rs}{t:aj}(h: ∀j,j<l.length->sS t (l.reverse.getD j B5)=false):iT l t=none:=by
 unfold iT;rw[List.find?_eq_none];intro x hx;obtain⟨j,hj,rfl⟩:=X0 hx;have:=h j (by simpa using hj);rw[jN,pj hj,vK]at this;rw[this];decide
def Wa {l:List Rs}{t:aj}{i:Nat}(hi:i<l.length)(h: ∀j,j<i->sS t (l.reverse.getD j B5)=false)(hh:sS t (l.reverse.getD i B5)=true):iT l t=some (l.reverse.getD i B5):=by
 have lA:i<l.reverse.length:=by simpa using hi
 unfold iT;rw[List.find?_eq_some_iff_getElem];have e:l.reverse.getD i B5=l.reverse[i]:=by rw[jN,pj lA,vK]
 refine⟨hh,i,lA,e.symm,λj hj=>?_⟩;have:=h j hj;rw[jN,pj K0,vK]at this;rw[this];rfl
def Nx (c0 c1 c2 c3 c4 c5 c6 c7 c8 c9 c10:SC)(res:List Rs)(tl:List SC)(t:aj)(hl:res.length<=1000000):
  ac 225 [(false,[.ref (c0::c1::c2::c3::c4::c5::c6::c7::c8::c9::c10:: .view (res.map kF)::tl)]),SS t] (.aI [(true,kF ((iT res t).getD B5)),Bo (iT res t).isSome]):=by
 have hit:=adh (res.map kF) agn (λe he=>by obtain⟨r,_,rfl⟩:=dT.1 he;rfl);rw[jj]at hit;refine sF f225 ?_;refine aS ?_;(refine aR ?_;conv=>whnf);(try(refine tX 2 ?_;try exact Zt));refine aS ?_;refine aM ?_;(refine aR ?_;conv=>whnf);repeat((first|(refine kO 7 rfl ?_;first|refine Rh (V8 _ _ _) ?_)|refine tX 2 ?_|exact Zt);(try conv=>whnf))
 refine⟨⟨[(3,pP 0),(4,pP 1),(5,pP 2),(12,some (.val (false,[.st (.fn 296 [] [[.view (res.map kF)]])])))],
  [(0,some (.box 9 [.st (T t)])),(1,some (.box 121 [.st (T []),.st (J 0),.st (J 0),.st (K false)])),(2,some (.box 4 [.st (K false)]))],3⟩,Zc,?_⟩
 refine aB ?_
 refine aF rfl _ (λ_=>[(0,some (.box 9 [.st (T t)])),(1,some (.box 121 [.st (T []),.st (J 0),.st (J 0),.st (K false)])),(2,some (.box 4 [.st (K false)]))]) 3
  (λi=>∀j,j<i->sS t (res.reverse.getD j B5)=false) hit (λr hr=>by obtain⟨c,_,rfl⟩:=dT.1 hr;rfl) cT (λ_=>rfl) (bp.refl _) (λj hj=>by omega) ?_ ?_
 ·intro i r hr OY;have hi:i<res.length:=by have:=(kJ.1 hr).1;simpa using this
  rw[gK,List.getElem?_range hi,xR,lM,agQ hi]at hr;subst hr;have e1:sS t (res.reverse.getD i B5)=true->iT res t=some (res.reverse.getD i B5):=λh=>Wa hi OY h
  have e2:sS t (res.reverse.getD i B5)=false->∀j,j<i+1->sS t (res.reverse.getD j B5)=false:=λh j hj=>by
   rcases XR.1 hj with h'|rfl
   ·exact OY j h'
   ·exact h
  generalize res.reverse.getD i B5=r at e1 e2;show m8 cx _ ⟨(14,_)::(13,_)::_,_,_⟩ _ _ _
  (refine aR ?_;conv=>whnf)
  repeat' ((first|refine tX 0 ?_|exact Zt|refine bR ?_ ?_<;>intro h)<;>(try conv=>whnf))
  ·rename_i h1;have hh:sS t r=true:=by unfold sS;simp[h1,h]
   rw[e1 hh];exact⟨[(0,some (.box 9 [.st (T t)])),(1,some (.box 121 ((kF r).map .st))),(2,some (.box 4 [.st (K true)]))],3,by kernel_rfl,Zc,rfl⟩
  ·rename_i h1;have hh:sS t r=false:=by unfold sS;simp at h;simp[h1,h]
   exact⟨e2 hh,Zc⟩
  ·have hh:sS t r=false:=by unfold sS;simp[h]
   exact⟨e2 hh,Zc⟩
 ·intro OY;rw[jj,List.length_range]at OY;rw[V9 OY];conv=>whnf
  exact K1
end Go.Proofs.Tryz
namespace Go.Fw
open Go.RowKit (Below)
open Go.Shelf
variable {P:Program}{gl:tu}
def IN (n:Nat)(s:List UInt8)(c:UInt8):List (List UInt8):=Lib.splitK [c] 0 (min n (s.length+1) -1) s
theorem QH {ρ:Ren}(L:Proofs.Lays.n147 P ρ)(fC:iN P (ρ.f 147)=true)(hi9:(P.info? (ρ.t 9)).map (λi=>(i.zero,i.size,i.bytes))=some (some (.string ByteArray.empty),1,16))
  (hg:(ρ.g 1,[SC.num .i64])∈gl)(s:List UInt8)(c:UInt8)(n:Nat)(hl:s.length<=1000000)(h1:1<=n)(hn:n<=1000000):nY P gl (ρ.f 147) [SS s,SS [c],(false,[.lit (.int .i64 n)])] (.own 1 (.view (ab (IN n s c)))):=by
 refine .inl ⟨fC,λmv w vs _ hG xy=>?_⟩;obtain⟨nC,hx⟩:=xy
 have xy:vs= #[.string (B s),.string (B [c]),.int .i64 n]:=by
  obtain⟨c0,g0,r0⟩:=hx 0 _ rfl;cases g0;have a0:=ge r0;obtain⟨c1,g1,r1⟩:=hx 1 _ rfl;cases g1;have a1:=ge r1;obtain⟨c2,g2,r2⟩:=hx 2 _ rfl;cases g2;have a2:=ge r2;apply A1
  ·rw[nC];rfl
  ·intro i q1 q2;have q2:i<3:=q2;have hg:vs.getD i undef=vs[i]:=by simp[sN,q1]
   match i,q2 with
   |0,_=>rw[<- hg];exact a0
   |1,_=>rw[<- hg];exact a1
   |2,_=>rw[<- hg];exact a2
 rw[xy];obtain⟨ev,e1,h2⟩:=(hG _ _ hg).1 0 _ rfl;have o9: ∃m,ev= .int .i64 m:=aiR;obtain⟨m,rfl⟩:=o9;refine(Proofs.Any.strings_SplitN L hi9 (B s) (B [c]) n m w (by rw[lV];omega) e1 (by rw[lV];exact dE 1) h1 K0).mono λe w' he=>?_;obtain⟨rfl,rfl⟩:=he;rw[lV]
 have Xz:(Lib.splitB (B [c]) 0 (min n (s.length+1) -1) (B s))=(IN n s c).map B:=by
  have h:=Lib.splitB_data (B [c]) 0 (min n (s.length+1) -1) (B s);rw[jH,jH]at h;have:(IN n s c).map B=((Lib.splitB (B [c]) 0 (min n (s.length+1) -1) (B s)).map (·.data.toList)).map B:=by rw[h];rfl
  rw[this,z6];have e:(B ∘ λx:ByteArray=>x.data.toList)=id:=by funext x;exact acU x
  rw[e,LU]
 have eC:(IN n s c).length <=min n (s.length+1):=by
  have:=Lib.splitB_length_le (B [c]) 0 (min n (s.length+1) -1) (B s);rw[Xz,jj]at this;omega
 rw[Xz];generalize min n (s.length+1)=N at*;refine⟨_,rfl,Below.oy _ _,.inr ⟨w.heap.size,N,by simp[SC.len],dE _,_,_,gO w _,by rw[Lib.cellsOf_size (by simpa using eC)];simp,by decide,rfl,by simpa [SC.len]using eC,λi e he=>?_,λi e j x he hx=>?_⟩⟩
 ·obtain⟨u,_,rfl⟩:=od he;rfl
 ·obtain⟨u,hu,rfl⟩:=od he;have ak:=(kJ.1 hu).1
  cases j with
  |zero=>
   simp at hx;subst hx;rw[show i*1+0=i by omega,sN]
   have:(Lib.cellsOf ((IN n s c).map B) N)[i]? =some (.string (B u)):=by
    simp only[Lib.cellsOf,LA];rw[UN (by simpa using ak)];simp[hu]
   exact agm
  |succ j=>simp at hx
end Go.Fw
namespace Go.Plain
open Go.Lib
def EC: ∀(k:Nat) (s:ax),splitK [32] 0 k s=if(aJ 32 s).length <=k+1 then aJ 32 s else(aJ 32 s).take k++[cd k s]
 |0,s=>by
  rcases kv 32 s with⟨h1,h2⟩|⟨i,h1,h2,h3⟩
  ·have h2:aJ 32 s= [s]:=h2;rw[h2];rfl
  ·have h3:aJ 32 s=s.take i::aJ 32 (s.drop (i+1)):=h3
   rw[if_neg (by
    rw[h3,jP]
    grind[ng])]
   rfl
 |k+1,s=>by
  rcases kv 32 s with⟨h1,h2⟩|⟨i,h1,h2,h3⟩
  ·have h2:aJ 32 s= [s]:=h2;rw[<- index_one]at h1;rw[h2,if_pos (by simp)];exact aj1
  ·have h3:aJ 32 s=s.take i::aJ 32 (s.drop (i+1)):=h3;rw[<- index_one]at h2;have e:splitK [32] 0 (k+1) s=s.take i::splitK [32] 0 k (s.drop (i+1)):=aj1;have hd:cd (k+1) s=cd k (s.drop (i+1)):=by grind[cd]
   rw[e,EC k,h3,jP,hd]
   grind
def NC (n:Nat)(s:ax)(h1:1<=n):Go.Fw.IN n s 32=if(aJ 32 s).length <=n then aJ 32 s else(aJ 32 s).take (n -1)++[cd (n -1) s]:=by
 unfold Go.Fw.IN;have hl:=(cj 32 s).1;rw[EC]
 grind
theorem ND: ∀(k:Nat) (s:ax),(aJ 32 s).length =k+1->aJ 32 s=(aJ 32 s).take k++[cd k s]
 |0,s,h=>by
  rcases kv 32 s with⟨h1,h2⟩|⟨i,h1,h2,h3⟩
  ·have h2:aJ 32 s= [s]:=h2;rw[h2];rfl
  grind[ng]
 |k+1,s,h=>by
  rcases kv 32 s with⟨h1,h2⟩|⟨i,h1,h2,h3⟩
  grind
  ·have h3:aJ 32 s=s.take i::aJ 32 (s.drop (i+1)):=h3;have hd:cd (k+1) s=cd k (s.drop (i+1)):=by grind[cd]
   rw[hd,h3,X3,qX,<- ND k _ bv]
def J1 (n:Nat)(s:ax)(h1:1<=n)(h:n<=(aJ 32 s).length):Go.Fw.IN n s 32=(aJ 32 s).take (n -1)++[cd (n -1) s]:=by
 rw[NC n s h1];by_cases h2:(aJ 32 s).length <=n
 ·rw[if_pos h2]
  grind[ND]
 grind
def lK (c:Nat):Nat:=if c=121 then 0 else if c=100 then 1 else if c=122 then 2 else 3
structure Py where
 k:Int
 t:Int
 s:Int
 r:Bool
def wdE (w:Py):Int:=if 0<=w.k/\w.k<=2 then(if(1<=w.t/\w.t<=2000)/\0<=w.s/\w.s<=2 then 0 else 2)else 15
def BF (s:aj):Prop:=s.length<2\/((s.getD 1 0).toNat ≠43/\(s.getD 1 0).toNat ≠45)\/lK (s.getD 0 0).toNat =3
instance (s:aj):Decidable (BF s):=by unfold BF;infer_instance
def Ax (s:aj):Option Py:=if BF s then none else(u9 (s.drop 2)).map λp=>⟨(lK (s.getD 0 0).toNat :Nat),p.2,p.1,decide ((s.getD 1 0).toNat =45)⟩
def stE (n:Int):Int:=if 0<=n/\n<=100 then 0 else 2
def NE (a b:Py)(c:Int):Int:=ju (wdE a) (ju (wdE b) (stE c))
def puE (a b:Py)(c:Int):Win × Int:=if NE a b c=0 then(⟨a.k,a.t,a.s,a.r,b.k,b.t,b.s,b.r,c⟩,0)else(wi0,NE a b c)
def puO:Option Py->Option Py->Option Int->Win × Int
 |some a,some b,some c=>puE a b c
 |_,_,_=>(wi0,7)
def NF (s:aj):Win × Int:=if(aJ 32 s).length =3 then puO (Ax ((aJ 32 s).getD 0 [])) (Ax ((aJ 32 s).getD 1 [])) (wN false 4 ((aJ 32 s).getD 2 []))else(wi0,7)
abbrev Pu:Type:=Int × Int × Int
def Lc (s:aj):Option Pu:=if(aJ 32 s).length =3 then(wN false 13 ((aJ 32 s).getD 0 [])).bind λa=>(wN true 13 ((aJ 32 s).getD 1 [])).bind λb=>(wN false 13 ((aJ 32 s).getD 2 [])).map λc=>(a,b,c)else none
def pW (s:aj):Option (Int × Int):=DZ 47 (wN false 13) (wN false 13) s
structure Gt where
 name:aj
 per:Int
 least:Int
 lo:Int × Int
 hi:Int × Int
 ps:List Pu
def Gu:Gt:=⟨[],0,0,(0,0),(0,0),[]⟩
def sB (w:List aj):Option (Int × Int × (Int × Int) × (Int × Int)):=(wN false 13 (w.getD 1 [])).bind λa=>(wN false 13 (w.getD 2 [])).bind λb=>(pW (w.getD 3 [])).bind λc=>(pW (w.getD 4 [])).map λd=>(a,b,c,d)
def ado (nm:aj):Option (Int × Int × (Int × Int) × (Int × Int))->Option (List Pu)->Option Gt
 |some (a,b,c,d),some l=>some ⟨nm,a,b,c,d,l⟩
 |_,_=>none
def ED (s:aj):Option Gt:=let w:=aJ 32 ((aJ 59 s).getD 0 [])
 if w.length=5 then ado (w.getD 0 []) (sB w) (fQ Lc ((aJ 59 s).drop 1))else none
def NG (c d:Int × Int):Int:=if(0<c.2/\Int.gcd c.1 c.2=1)/\0<d.2/\Int.gcd d.1 d.2=1 then
 (if((1<=c.1/\c.1<=1000000000)/\1<=c.2/\c.2<=1000000000)/\(1<=d.1/\d.1<=1000000000)/\1<=d.2/\d.2<=1000000000 then(if c.1*d.2<=d.1*c.2 then 0 else 9)else 2)else 3
def zg (l:List Pu)(i:Nat):Int:=if(0<=(l.getD i (0,0,0)).1/\(l.getD i (0,0,0)).1<=1000000000000)/\(-4096<=(l.getD i (0,0,0)).2.1/\(l.getD i (0,0,0)).2.1<=4096)/\1<=(l.getD i (0,0,0)).2.2/\(l.getD i (0,0,0)).2.2<=100 then
 (if(l.getD i (0,0,0)).2.1=0 then 11 else if i=0\/(l.getD (i -1) (0,0,0)).1< (l.getD i (0,0,0)).1 then 0 else 9)else 2
noncomputable def Ie (x:Gt):Int:=ju (jG x.name) (ju (if(1<=x.per/\x.per<=1000000)/\1<=x.least/\x.least<=60 then 0 else 2) (ju (NG x.lo x.hi) (if x.ps.length<=60 then 0 else 8)))
noncomputable def mP (x:Gt):Int × Int:=o8 (0,Ie x) (cR (zg x.ps) x.ps.length)
noncomputable def Cu (s:aj):Gt × Int:=match ED s with
 |none=>(Gu,7)
 |some x=>if(mP x).2=0 then(x,0)else(Gu,(mP x).2)
def rV (l:List Pu)(q:Nat):Nat:=(l.filter λp=>decide ((q:Int)<=p.2.1.natAbs)).length
def qI (l:List Pu)(n:Int):Nat->Nat
 |0=>0
 |q+1=>if n<=rV l (q+1)then q+1 else qI l n q
noncomputable def TT (x:Gt):(Int × Int) × Int:=if(mP x).2=0 then(if x.least<=x.ps.length then(((qI x.ps x.least 4096:Nat)*x.lo.1/x.lo.2,-(-((qI x.ps x.least 4096:Nat)*x.hi.1)/x.hi.2)),0)else((0,0),12))else((0,0),(mP x).2)
end Go.Plain
