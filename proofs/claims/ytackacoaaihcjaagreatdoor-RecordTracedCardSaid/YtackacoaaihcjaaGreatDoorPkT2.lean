import Derived.Test.YtackacoaaihcjaaGreatDoorPkT1
import Derived.Shelf.Strconv.Itoa3
import Derived.Shelf.Strconv.AtoiAll
import Derived.Shelf.Strings.Split
import Derived.Shelf.Strings.OnBuilder
import Derived.Shelf.Strings.Prefix
import Derived.Lib.AppendIntMem
import Derived.Lib.SmallJoins
import Derived.Shelf.LaysM
import Derived.Shelf.LaysC
import Derived.Shelf.Strings.Cut
import Derived.Ground.NamesProg
import Derived.Ground.Names2Prog
import Derived.Ground.Names7Prog
import Derived.Test.YtackacoaaihcjaaGreatDoorProg
import Derived.Lib.AtoiAll
import Derived.Lib.ItoaNum
import Derived.Lib.Strings
import Derived.Lib.Split
import Derived.Lib.Join
import Derived.Lib.AtoiAllCases
import Derived.KernelRfl
import Derived.IntWalk
import Derived.RangeFuncCalls
import Derived.RangeFuncLeaves
import Derived.WalkKit
import Derived.OwnWalkIn
import Derived.TacticsInMore
import Derived.LoopNIn
import Derived.LoopIn
import Derived.Lib.Walk
import Derived.Deep.RegionLaw
import Derived.Lib.SliceRun
import Derived.Laws.IdiomCopy
import Derived.Shelf.Sort.Plain
import Derived.JoinedOf
import GoSem.ClaimGoes
import Derived.Test.YtackacoaaihcjaaGreatDoorRows
import Derived.LaidMore
import Derived.LaidSub
import Derived.LaidLaws
import Derived.Stop.Joined
import Derived.Lay
import Derived.Shelf.Vars
set_option linter.all false
set_option maxRecDepth 100000
set_option maxHeartbeats 8000000
namespace Go.Fw
open Go.RowKit (Below)
open Go.Shelf
variable {P:Program}{gl:s6}
abbrev SS (l:List UInt8):SV:=(false,[.lit (.string (B l))])
def DM {mv mr:Mem}{vs:Array Value}{c d:SC}(h:o4 mv mr vs [(false,[c]),(false,[d])]): ∃v u,vs= #[v,u]/\dq mv mr v c/\dq mv mr u d:=by
 obtain⟨h1,h2⟩:=h;obtain⟨c',e,hr⟩:=h2 0 _ rfl;obtain⟨d',e',B9⟩:=h2 1 _ rfl;simp at e e';subst e e';refine⟨vs.getD 0 undef,vs.getD 1 undef,?_,hr,B9⟩;have h1:vs.size=2:=h1;apply AS;omega
 ·intro i hi _;rcases(show i=0\/i=1 by omega)with rfl|rfl<;>simp[sw,h1]
def acH {w:World}{b o:Nat}{v:Value}(h:rd w b o=some v): ∃arr T fr,w.heap[b]? =some (.cells arr T fr)/\arr[o]? =some v:=by grind[rd,World.cell?]
def agp {w:World}{name:String}{g:Nat}{k:IntKind}{zs:List Int}(hn:P.globalNamed name=some g)(hg:(g,zs.map λz=>.lit (.int k z))∈gl)(hG:eP gl (rd w))(h0:0<zs.length):Lib.TabIs P w name k zs:=by
 obtain⟨h1,h2⟩:=hG _ _ hg;have h2:=h2 br;rw[ja]at h2;obtain⟨v0,hv0,_⟩:=h1 0 (.lit (.int k zs[0])) br;obtain⟨arr,T,fr,hb,_⟩:=acH hv0;unfold Lib.TabIs World.var?;rw[hn];simp only[LB,hb];congr 1;have iP: ∀o,rd w g o=arr[o]? :=λo=>by grind[rd,World.cell?]
 apply G4;rw[List.toList_toArray];apply Ly;intro i;rw[Uz,gr];by_cases hi:i<zs.length
 ·obtain⟨v,hv,hr⟩:=h1 i (.lit (.int k zs[i])) br
  grind[gh]
 grind
def YV {ρ:Ren}(L:Proofs.LaysM.n171 P ρ)(fB:iG P (ρ.f 171)=true){g:Nat}(hn:P.globalNamed "internal/strconv.uint64pow10" =some g)(hg:(g,Lib.pow10Tab.map λz=>.lit (.int .u64 z))∈gl)
  (n:Int)(h: -9223372036854775808<=n/\n<=9223372036854775807):nN P gl (ρ.f 171) [(false,[.lit (.int .i64 n)])] (.one (SS (Lib.itoa n))):=by
 refine .inl ⟨fB,λmv w vs _ hG xw=>?_⟩;obtain⟨v,rfl,hr⟩:=yx xw;rw[gh hr];refine(Proofs.Any.strconv_Itoa L n h.1 h.2 w (agp hn hg hG (by grind[Lib.pow10Tab_length]))).mono λe w' he=>?_;obtain⟨rfl,k,os,rfl⟩:=he;exact⟨_,rfl,Lib.below_grow _ w (dw _) k os,⟨_,rfl,.lit rfl⟩⟩
theorem acI {ρ:Ren}(L:Proofs.LaysC.n172 P ρ)(fB:iG P (ρ.f 172)=true)(s:List UInt8)(hl:s.length<=1000000){v:Int}(h:Lib.atoiAll s= .ok v):nN P gl (ρ.f 172) [SS s] (.aJ [(false,[.lit (.int .i64 v)]),(false,[.lit .nilIface])]):=by
 refine .inl ⟨fB,λmv w vs _ hG xw=>?_⟩;obtain⟨x,rfl,hr⟩:=yx xw;rw[gh hr];refine(Proofs.Any.strconv_Atoi_ok L (B s) af0 v akn w).mono λe w' he=>?_;obtain⟨rfl,hw⟩:=he;refine⟨_,rfl,?_,#[.int .i64 v,.nilIface],rfl,rfl,λk x hk=>?_⟩
 grind[Below.refl,Lib.bytesWorld_below]
 ·match k,hk with
  |0,hk=>simp at hk;subst hk;exact⟨_,rfl,.lit rfl⟩
  |1,hk=>simp at hk;subst hk;exact⟨_,rfl,.lit rfl⟩
  |k+2,hk=>grind
theorem YW {ρ:Ren}(L:Proofs.LaysC.n172 P ρ)(fB:iG P (ρ.f 172)=true)(h15:(ρ.g 15,[SC.err])∈gl)(h16:(ρ.g 16,[SC.err])∈gl)(s:List UInt8)(hl:s.length<=1000000)(h: ∀v,Lib.atoiAll s≠ .ok v):
  ∃v,nN P gl (ρ.f 172) [SS s] (.aJ [(false,[.lit (.int .i64 v)]),(false,[.err])]):=by
 have key: ∀(v:Int) (g:Nat),(g,[SC.err])∈gl->(∀(ev:Value) (w:World),w.cell? ⟨g,0,none⟩=some ev->(ev= .nilIface \/∃te pe,ev= .iface te pe)->Calls P (ρ.f 172) #[.string (B s)] w λe w'=>∃N,e= .returned (.tuple #[.int .i64 v,.iface (ρ.t 168) (.pointer (some ⟨N,0,none⟩))])/\w.heap.size<=N/\w'.heap[N]? =some (.cells #[.string ⟨#[65,116,111,105]⟩,.string (B s),ev] (ρ.t 210) (0,0))/\Below w.heap.size w w')->
   nN P gl (ρ.f 172) [SS s] (.aJ [(false,[.lit (.int .i64 v)]),(false,[.err])]):=by
  intro v g hg hc;refine .inl ⟨fB,λmv w vs _ hG xw=>?_⟩;obtain⟨x,rfl,hr⟩:=yx xw;rw[gh hr];obtain⟨ev,h1,h2⟩:=(hG _ _ hg).1 0 _ rfl
  have oX: ∃T x,ev= .iface T x:=by
   cases h2 with
   |err h=>exact h
   |empty a cap hv=>grind[SC.ao]
   |view _ _ _ _ _ hv=>grind[SC.ao]
  refine(hc ev w h1 (.inr oX)).mono λe w' he=>?_;obtain⟨N,rfl,_,_,hb⟩:=he;refine⟨_,rfl,hb,_,rfl,rfl,λk x hk=>?_⟩
  match k,hk with
  |0,hk=>simp at hk;subst hk;exact⟨_,rfl,.lit rfl⟩
  |1,hk=>simp at hk;subst hk;exact⟨_,rfl,.err ⟨_,_,rfl⟩⟩
  |k+2,hk=>grind
 rcases hs:Lib.atoiAll s with v|_|_
 grind
 ·exact⟨0,key 0 _ h15 λev w h1 h2=>Proofs.Any.strconv_Atoi_syntax L (B s) af0 akn ev w h1 h2⟩
 ·refine⟨Lib.atoiSat s,key _ _ h16 λev w h1 h2=>?_⟩
  grind[Proofs.Any.strconv_Atoi_range,lR,jI]
def DN {ρ:Ren}(L:Proofs.Lays.n101 P ρ)(fB:iG P (ρ.f 101)=true)(s p:List UInt8):nN P gl (ρ.f 101) [SS s,SS p] (.one (SS (Lib.trimPrefix s p))):=by
 refine .inl ⟨fB,λmv w vs _ hG xw=>?_⟩;obtain⟨x,y,rfl,hr,B9⟩:=DM xw;rw[gh hr,gh B9];refine(Proofs.Any.strings_TrimPrefix L (B s) (B p) w).mono λe w' he=>?_;obtain⟨rfl,rfl⟩:=he;rw[jI,jI];exact anc
def CF (s:List UInt8)(c:UInt8):List (List UInt8):=Lib.splitK [c] 0 (Lib.countB (B s) (B [c])) s
abbrev ab (l:List (List UInt8)):List (List SC):=l.map λw=>[.lit (.string (B w))]
theorem nR {l:List (List UInt8)}{i:Nat}{e:List SC}(h:(SC.view (ab l)).elem i=some e): ∃w,l[i]? =some w/\e= [.lit (.string (B w))]:=by grind[SC.elem]
theorem HH {ρ:Ren}(L:Proofs.Lays.n146 P ρ)(fB:iG P (ρ.f 146)=true)(hi9:(P.info? (ρ.t 9)).map (λi=>(i.zero,i.size,i.bytes))=some (some (.string ByteArray.empty),1,16))
  (hg:(ρ.g 1,[SC.num .i64])∈gl)(s:List UInt8)(c:UInt8)(hl:s.length<=1000000)(bB:(CF s c).length =Lib.countB (B s) (B [c])+1):nN P gl (ρ.f 146) [SS s,SS [c]] (.own 1 (.view (ab (CF s c)))):=by
 refine .inl ⟨fB,λmv w vs _ hG xw=>?_⟩;obtain⟨x,y,rfl,hr,B9⟩:=DM xw;rw[gh hr,gh B9];obtain⟨ev,h1,h2⟩:=(hG _ _ hg).1 0 _ rfl;have oX: ∃m,ev= .int .i64 m:=am6;obtain⟨m,rfl⟩:=oX;refine(Proofs.Any.strings_Split L hi9 (B s) (B [c]) m w af0 h1 (by rw[lR];grind)).mono λe w' he=>?_;obtain⟨rfl,rfl⟩:=he
 have Ul:(Lib.splitB (B [c]) 0 (Lib.countB (B s) (B [c])) (B s))=(CF s c).map B:=by
  have h:=Lib.splitB_data (B [c]) 0 (Lib.countB (B s) (B [c])) (B s);rw[jI,jI]at h;have:(CF s c).map B=((Lib.splitB (B [c]) 0 (Lib.countB (B s) (B [c])) (B s)).map (·.data.toList)).map B:=by rw[h];rfl
  exact am4
 rw[Ul];refine⟨_,rfl,Below.og _ _,.inr ⟨w.heap.size,_,by rw[show(SC.view (ab (CF s c))).len =Lib.countB (B s) (B [c])+1 by grind[SC.len]],dw _,_,_,gO w _,by grind,by decide,rfl,by grind[SC.len],λi e he=>?_,λi e j x he hx=>?_⟩⟩
 grind[nR]
 ·obtain⟨u,hu,rfl⟩:=nR he
  cases j with
  |zero=>
   simp at hx;subst hx;rw[show i*1+0=i by omega,sw];have:(((CF s c).map B).map Value.string).toArray[i]? =some (.string (B u)):=by grind
   exact af7
  |succ j=>grind
end Go.Fw
namespace Go.Fw
open Go.IntWalk Go.RowKit
variable {C:bQ}{fid:Nat}{o:Oper}{E:dP}{H:Hp}{t:bk}{k:dP->Hp->bk->Prop}{T:TypeId}{x y:Operand}
def qh (l:List (List UInt8)):(SC.view (ab l)).zK 1:=by
 intro e he
 grind
def ak8 {i:TI}{e:TypeId}{ie:TI}{l:List (List UInt8)}{zz:Int}{n:Nat}{k':IntKind} [nz:dK zz n](ho:o.op= .slice T x none (some y) none)(hx:C.ev E.get x=some (.val (false,[.st (.view (ab l))])))(hy:C.ev E.get y=some (.val (false,[.st (.lit (.int k' zz))])))
  (hi:C.ti T=some i)(hc:i.bY= .slice e)(he:C.ti e=some ie)(hs:ie.size=1)(hb:n<=l.length)
  (h2:ep o.dst (bm (.st (.view (ab (l.take n))))) E λE'=>k E' H (([],[])::t)):cS C fid o E H t k:=by
 refine rG (r:=bm (.st (.view (ab (l.take n))))) (u:=[]) (R:=[]) (λK hK=>?_) h2;have e0:zz.toNat=n:=by rw[nz.eq];simp
 have u:=qh l;unfold fu;rw[ho];simp only[hx,Option.map];unfold gL;simp only[hi,hc,he,bS,bv,hy,SC.ao,FX,SC.len,SC.sub,xL];exact ajg
def ak9 {i:TI}{e:TypeId}{ie:TI}{l:List (List UInt8)}{zz:Int}{n:Nat}{k':IntKind} [nz:dK zz n](ho:o.op= .slice T x (some y) none none)(hx:C.ev E.get x=some (.val (false,[.st (.view (ab l))])))(hy:C.ev E.get y=some (.val (false,[.st (.lit (.int k' zz))])))
  (hi:C.ti T=some i)(hc:i.bY= .slice e)(he:C.ti e=some ie)(hs:ie.size=1)(hb:n<=l.length)
  (h2:ep o.dst (bm (.st (.view (ab (l.drop n))))) E λE'=>k E' H (([],[])::t)):cS C fid o E H t k:=by
 refine rG (r:=bm (.st (.view (ab (l.drop n))))) (u:=[]) (R:=[]) (λK hK=>?_) h2;have e0:zz.toNat=n:=by rw[nz.eq];simp
 have u:=qh l;unfold fu;rw[ho];simp only[hx,Option.map];unfold gL;simp only[hi,hc,he,bS,bv,hy,SC.ao,FX,SC.len,SC.sub,lu];exact ajh
def ala {i:TI}{e:TypeId}{ie:TI}{l:List (List UInt8)}{id:Nat}{zz:Int}{n:Nat}{k':IntKind} [nz:dK zz n](ho:o.op= .slice T x none (some y) none)(hx:C.ev E.get x=some (.val (false,[.own id])))(hy:C.ev E.get y=some (.val (false,[.st (.lit (.int k' zz))])))
  (hi:C.ti T=some i)(hc:i.bY= .slice e)(he:C.ti e=some ie)(hs:ie.size=1)(hH:H.get id=some (.row false 1 (.view (ab l))))(hb:n<=l.length)
  (h2:ep o.dst (bm (.st (.view (ab (l.take n))))) E λE'=>k E' H (([id],[])::t)):cS C fid o E H t k:=by
 refine rG (r:=bm (.st (.view (ab (l.take n))))) (u:=[]) (R:=[id]) (λK hK=>?_) h2;have e0:zz.toNat=n:=by rw[nz.eq];simp
 have u:=qh l;unfold fu;rw[ho];simp only[hx,Option.map];unfold gL;simp only[hi,hc,he,bS,bv,hH,hy,SC.ao,FX,SC.len,SC.sub,xL,zP];exact ajg
def alb {i:TI}{e:TypeId}{ie:TI}{l:List (List UInt8)}{id:Nat}{zz:Int}{n:Nat}{k':IntKind} [nz:dK zz n](ho:o.op= .slice T x (some y) none none)(hx:C.ev E.get x=some (.val (false,[.own id])))(hy:C.ev E.get y=some (.val (false,[.st (.lit (.int k' zz))])))
  (hi:C.ti T=some i)(hc:i.bY= .slice e)(he:C.ti e=some ie)(hs:ie.size=1)(hH:H.get id=some (.row false 1 (.view (ab l))))(hb:n<=l.length)
  (h2:ep o.dst (bm (.st (.view (ab (l.drop n))))) E λE'=>k E' H (([id],[])::t)):cS C fid o E H t k:=by
 refine rG (r:=bm (.st (.view (ab (l.drop n))))) (u:=[]) (R:=[id]) (λK hK=>?_) h2;have e0:zz.toNat=n:=by rw[nz.eq];simp
 have u:=qh l;unfold fu;rw[ho];simp only[hx,Option.map];unfold gL;simp only[hi,hc,he,bS,bv,hH,hy,SC.ao,FX,SC.len,SC.sub,lu,zP];exact ajh
def ann {i:TI}{id n:Nat}{m:Bool}{l:List (List SC)}{v:Value}(ho:o.op= .load T x)(hx:C.ev E.get x=some (.val (false,[.cF id 1 n 0])))(hi:C.ti T=some i)(hg:cH i.bY=false)(hs:i.size=1)
  (hH:H.get id=some (.row m 1 (.view l)))(hb:l[n]? =some [.lit v])
  (h2:ep o.dst (lit v) E λE'=>k E' H (([id],[])::t)):cS C fid o E H t k:=by
 refine rG (r:=lit v) (u:=[]) (R:=[id]) (λK hK=>?_) h2;unfold fu;rw[ho];simp only[hx];unfold ot;simp only[hi,hH,hs,hg];refine⟨[.lit v],?_,hK⟩
 grind[SC.elem]
def iJ {E:dP}{Hh:Hp}{nx:Nat}(id k z:Nat)(c:SC){T:TypeId}{cs:List DC}(hz:0<z)(hv:c.ao=true)(h0:c.len=0)(hB:Hh.get id=some (.box T cs))(hk:cs[k]? =some .nil):
  bs ⟨E,Hh,nx⟩ ⟨E,(id,some (.box T (cs.set k (.own (2*nx)))))::((2*nx),some (.row true z c))::Hh,nx+1⟩:=by
 rintro F nt a w ⟨N,⟨q1,q2,q0,β,q3,q4⟩,q5⟩;have hf: ¬N (2*nx):=λh=>by have:=q5 _ h;rw[jM]at this;grind
 have hu: ∀i e,c.elem i=some e->e.length=z:=λi e he=>by exact abV
 have t2:=Tr.new q4 (Below.refl _ w) hf none (by simp) (.row true z c);have hN:=ac.new q4 (Below.refl _ w) hf none (by simp) (.row true z c) ⟨⟨hz,hv,hu⟩,.inl ⟨by simp[cR],h0⟩⟩;rw[<- Hp.ar]at t2 hN;have hid:N id:=(q4.rel id _ hB).1;have e8:id≠(2*nx):=λe=>hf (e▸hid);have KQ:Hp.get (((2*nx),some (.row true z c))::Hh) id=some (.box T cs):=by rw[Hp.ar,aH _ _ _ e8];exact hB
 generalize xA:Hp.get (((2*nx),some (.row true z c))::Hh)=H1 at*;have iT:H1 (2*nx)=some (.row true z c):=by rw[<- xA,Hp.ar,an]
 have t3:Tr F (cR β (2*nx) none) (Fw.bf N (2*nx)) H1 w (cR β (2*nx) none) (Fw.bf N (2*nx)) (bn H1 id (some (.box T (cs.set k (.own (2*nx)))))) w:={
  below:=jv.refl _ _
  ax:=λ_ _ h=>h
  mem:=λb o v _ hs e=>⟨λiO bz e' hb=>by
   by_cases h:iO=id
   ·subst h;exact(hs iO _ KQ hb).elim
   ·rw[aH _ _ _ h]at e'
    exact hs iO bz e' hb,e⟩
  used:=λ_ h=>h
  kH:=λ_ _=>rfl
  keep:=λiO blk' _ e=>by
   by_cases h:iO=id
   ·subst h;rw[an]at e;cases e;exact⟨_,KQ,trivial⟩
   ·exact ajQ
  size:=λ_ _ _ _ arr _ _ _ _ _ _ h=>⟨arr,h,rfl⟩}
 have h3:ac F (cR β (2*nx) none) (Fw.bf N (2*nx)) (bn H1 id (some (.box T (cs.set k (.own (2*nx)))))) w:=by
  refine hN.step t3 (λi=>i=id) (λi b0 hi e=>?_) (λi b0 hi e=>?_) (λi j b x y hi hj bi bj=>?_)
  ·exact ajs
  ·subst hi;rw[an]at e;cases e;obtain⟨hn,b,arr,T',h1,h2,h3,h4,h5⟩:=hN.rel i _ KQ;refine⟨hn,b,arr,T',h1,h2,h3,by grind,λj x hx=>?_⟩;by_cases hj:j=k
   ·subst hj;have ak:j<cs.length:=(kl.1 hk).1;have:x= .own (2*nx):=by grind
    subst this;have B8:arr.getD j undef= .slice none 0 0:=h5 j _ hk;exact ah8
   ·rw[Pq (ol hj)]at hx;exact t3.jr hN (h5 j x hx)
  ·have live: ∀ {k':Nat} {b0:co},bn H1 id (some (.box T (cs.set k (.own (2*nx))))) k'=some b0->∃b1,H1 k'=some b1:=by
    grind[aH]
   obtain⟨b1,h1⟩:=live hi;obtain⟨b2,h2⟩:=live hj;exact hN.inj i j b b1 b2 h1 h2 bi bj
 refine⟨Fw.bf N (2*nx),⟨q1,q2,q0,cR β (2*nx) none,?_,?_⟩,λiO h=>?_⟩
 ·exact akh
 grind[Hp.ar]
 ·exact akg
end Go.Fw
namespace Go.Fw
section
variable {C:bQ}{fid:Nat}{o:Oper}{E:dP}{H:Hp}{t:bk}{k:dP->Hp->bk->Prop}{T:TypeId}{x y:Operand}
def alc {i:TI}{e:TypeId}{ie:TI}{l:List (List UInt8)}{id:Nat}{zz:Int}{n:Nat}{k':IntKind} [nz:dK zz n](ho:o.op= .slice T x (some y) none none)(hx:C.ev E.get x=some (.val (false,[.own id])))(hy:C.ev E.get y=some (.val (false,[.st (.lit (.int k' zz))])))
  (hi:C.ti T=some i)(hc:i.bY= .slice e)(he:C.ti e=some ie)(hs:ie.size=1)(hH:H.get id=some (.row true 1 (.view (ab l))))(hb:n<=l.length)
  (h2:Ga [(id,some (.row false 1 (.view (ab l))))] H λH'=>ep o.dst (bm (.st (.view (ab (l.drop n))))) E λE'=>k E' H' (([id],[id])::t)):cS C fid o E H t k:=by
 refine rG (r:=bm (.st (.view (ab (l.drop n))))) (u:=[(id,some (.row false 1 (.view (ab l))))]) (R:=[id]) (λK hK=>?_) h2;have e0:zz.toNat=n:=by rw[nz.eq];simp
 have u:=qh l;unfold fu;rw[ho];simp only[hx,Option.map];unfold gL;simp only[hi,hc,he,bS,bv,hH,hy,SC.ao,FX,SC.len,SC.sub,lu,zP];rw[hs];refine⟨by rw[nz.eq];omega,⟨by rw[e0];simpa using hb,by omega⟩,u,?_⟩;rw[e0,<- List.map_drop];exact hK
end
def jO {l:List (List DC)}{i:Nat}{X:List DC}(h:i<l.length):(l.set i X)[i]? =some X:=by simp[h]
def se {C:bQ}{fid:Nat}{o:Oper}{E:dP}{H:Hp}{t:bk}{k:dP->Hp->bk->Prop}{r:DV}{u:Hp}{R:List Nat}(h1: ∀K:j0,K r u R->hcA C fid o (C.ev E.get) H.get K)
  (h2:ep o.dst r E λE'=>k E' (u++H) ((R,u.map Prod.fst)::t)):cS C fid o E H t k:=ij h1 (Dl.2 h2)
open Go.RowKit (Below)
variable {P:Program}{gl:s6}
def nN.call {f:FuncId}{args:List SV}{x:SV}(h:nN P gl f args (.one x)){mv:Mem}{w:World}{vs:Array Value}(hm:mv.le (rd w))(hG:eP gl (rd w))(ha:o4 mv (rd w) vs args):
  Calls P f vs w λe w'=>∃v,e= .returned v/\Below w.heap.size w w'/\eo (dT mv w.heap.size w') eU v x:=by
 exact ana
end Go.Fw
namespace Go.Fw
abbrev CL:=FuncId->List SV->Sum (List Nat) mb
def je (i:TI)(cs:List DC)(off:Nat):Option F8:=
 match Nat.ble (off+i.size) cs.length&&(ace i || Nat.beq i.size 1)with
 |true=>some (.val (ace i,(cs.drop off).take i.size),[],[])
 |false=>none
abbrev CH:=Nat->FuncId->List DX->Hp->Sum (List Nat) F8
structure Tj where
 cl:CL
 ch:CH
structure Tj.Ok (C:bQ) (q:Tj):Prop where
 cl: ∀f a r,q.cl f a= .inr r->nN C.P C.gl f a r
 ch: ∀fid f xs (H:Hp) e,q.ch fid f xs H= .inr e->bN C fid f xs H.get e.1 e.2.1 e.2.2
def Cg (C:bQ)(S:St)(x:Operand):St:=match S with
 |⟨E,H,nx⟩=>match C.ev E.get x with
  |some (.val (false,[.ptr id 0]))=>match H.get id with
   |some (.box t cs)=>match bS H.get (C.kinds t) cs with
    |some (l,u,_)=>⟨E,((id,some (.dV l))::u)++H,nx⟩
    |none=>⟨E,H,nx⟩
   |_=>⟨E,H,nx⟩
  |_=>⟨E,H,nx⟩
def Be (C:bQ)(S:St)(x:Operand):bs S (Cg C S x):=by
 unfold Cg;repeat' split
 all_goals first|exact bs.refl _|(exact YN C _ FW FW)
def JI (C:bQ):List Operand->St->St
 | [],S=>S
 |x::l,S=>JI C l (Cg C S x)
def MA (C:bQ)(l:List Operand): ∀S,bs S (JI C l S):=by
 induction l with
 |nil=>exact λS=>bs.refl S
 |cons x l ih=>exact λS=>(Be C S x).trans (ih _)
def YX (C:bQ)(S:St)(o:Oper):St:=match o.op with
 | .slice T x none none none=>match C.ti T with
  |some i=>match i.bY with
   | .array _ _=>Cg C S x
   |_=>S
  |none=>S
 | .makeFunc _ _ bI=>JI C bI.toList S
 |_=>S
def Vm (C:bQ)(S:St)(o:Oper):bs S (YX C S o):=by
 unfold YX;repeat' split
 all_goals first|exact bs.refl _|exact Be C _ _|exact MA C _ _
def MB {E:dP}{Hh:Hp}{nx:Nat}(id:Nat){m:Bool}{z:Nat}{c:SC}(hb:Hh.get id=some (.row m z c)):bs ⟨E,Hh,nx⟩ ⟨E,(id,some (.row false z c))::Hh,nx⟩:=K44
def aeW (all:List Oper):Nat->Tmp->Tmp
 |0,s=>s
 |n+1,s=>match all.find? λo=>match o.dst with|some d=>Nat.beq d s|none=>false with
  |some o=>match o.op with
   | .move (.tmp s')=>aeW all n s'
   |_=>s
  |none=>s
def JJ (_C:bQ)(all:List Oper)(S:St)(o:Oper):St:=match S with
 |⟨E,H,nx⟩=>match o.op with
  | .slice _ (.tmp s) _ _ none=>match E.get (aeW all 4 s)with
   |some (.val (false,[.own id]))=>match H.get id with
    |some (.row true z c)=>⟨E,(id,some (.row false z c))::H,nx⟩
    |_=>⟨E,H,nx⟩
   |_=>⟨E,H,nx⟩
  |_=>⟨E,H,nx⟩
def MC (C:bQ)(all:List Oper)(S:St)(o:Oper):bs S (JJ C all S o):=by
 unfold JJ;repeat' split
 all_goals first|exact bs.refl _|exact MB _ FW
def DO (C:bQ)(all:List Oper):List Oper->St->St
 | [],S=>S
 |o::l,S=>DO C all l (JJ C all S o)
def JK (C:bQ)(all l:List Oper): ∀S,bs S (DO C all l S):=by
 induction l with
 |nil=>exact λS=>bs.refl S
 |cons o l ih=>exact λS=>(MC C all S o).trans (ih _)
def P3 (C:bQ):List Oper->St->St
 | [],S=>S
 |o::l,S=>P3 C l (YX C S o)
def P4 (C:bQ)(l:List Oper): ∀S,bs S (P3 C l S):=by
 induction l with
 |nil=>exact λS=>bs.refl S
 |cons o l ih=>exact λS=>(Vm C S o).trans (ih _)
def aeX (C:bQ)(l:List Oper)(S:St):St:=DO C l l (P3 C l S)
def Vn (C:bQ)(l:List Oper)(S:St):bs S (aeX C l S):=(P4 C l S).trans (JK C l l _)
def yz:Code->List Oper
 | .region _ ci _=>ci.toList
 | .seq x _=>yz x
 | .scope c=>yz c
 | .block _ c=>yz c
 |_=>[]
def aSs {C:bQ}{S:St}{kn:St->Prop}{kx:Nat->St->Prop}{kr:St->Prop}{x y:Code}(h:m6 C x S (λS=>m6 C y (aeX C (yz y) S) kn kx kr) kx kr):m6 C (.seq x y) S kn kx kr:=
 aQ ⟨mF h.out (λS' h=>⟨_,Vn C _ S',h⟩) (λ_ _ h=>h) λ_ h=>h⟩
inductive EO where
 |norm (S:St)
 |exit (id:Nat) (S:St)
 |ret (S:St)
 |bad (p:List Nat)
def EO.loops (C:bQ)(c:Code)(S:St):EO->Prop
 | .norm _=>True
 | .exit id S'=>∀ {kx:Nat->St->Prop} {kr:St->Prop},kx id S'->S8 (λZ S=>ri C c S Z kx kr) S
 | .ret S'=>∀ {kx:Nat->St->Prop} {kr:St->Prop},kr S'->S8 (λZ S=>ri C c S Z kx kr) S
 | .bad _=>True
open Go.RowKit (Below)
def aF {C:bQ}{g:Operand}{ps:Array Tmp}{x y:Code}{E:dP}{H:Hp}{n0:Nat}{kn:St->Prop}{kx:Nat->St->Prop}{kr:St->Prop}{gf:FuncId}{first:List SV}{bI:List (List SC)}
  (hg:C.ev E.get g=some (.val (false,[.st (.fn gf first bI)])))(xs:List (List SV))(Hs:Nat->Hp)(nx:Nat)(Inv:Nat->Prop)(hit:S7 C.P C.gl gf first bI xs)(bB: ∀r∈xs,r.length=ps.size)
  (oe:(mE x&&(mE y&&(aM (j7 E) x&&(aM (j7 E) y&&qe (j7 E) ps.toList))))=true)(hm: ∀i,rh (Hs i)=true)(h0:bs ⟨E,H,n0⟩ ⟨E,Hs 0,nx⟩)(hi:Inv 0)
  (hb: ∀i r,xs[i]? =some r->Inv i->m6 C x ⟨params ps.toList r E,Hs i,nx⟩ (λS1=>m6 C y S1 (λS2=>Inv (i+1)/\bs S2 ⟨E,Hs (i+1),nx⟩) (λ_ _=>False) (λS2=>∃Hr nr,rh Hr=true/\bs S2 ⟨E,Hr,nr⟩/\kr ⟨E,Hr,nr⟩)) (λ_ _=>False) (λ_=>False))
  (hd:Inv xs.length->kn ⟨E,Hs xs.length,nx⟩):m6 C (.rangeFunc g ps x y) ⟨E,H,n0⟩ kn kx kr:=by
 refine⟨?_⟩;unfold ri;simp only[hg];obtain⟨f1,oe⟩:=aG oe;obtain⟨f2,oe⟩:=aG oe;obtain⟨f3,oe⟩:=aG oe;obtain⟨f4,f5⟩:=aG oe;exact⟨xs,Hs,nx,Inv,hit,bB,⟨f1,f2,f3,f4,f5⟩,hm,h0,hi,λi r hr hv=>mF (hb i r hr hv).out (λS1 h=>⟨S1,bs.refl _,h.out⟩) (λ_ _ h=>h) λ_ h=>h,hd⟩
end Go.Fw
namespace Go.Fw
def HI {C:bQ}(hC:C.Ok){T e:TypeId}{i ie:TI}{w:World}{b o n cap:Nat}{k:Int}(hi:C.ti T=some i)(jd:i.bY= .slice e)(he:C.ti e=some ie)(h0:0<=k)(h1:k< (n:Int)):
  (Instr.indexAt T (.slice (some ⟨b,o,none⟩) n cap) (.int .i64 k)).run C.P w= .ok (.pointer (some ⟨b,o+k.toNat*ie.size,none⟩)) w:=by
 obtain⟨tf,d,z,hT⟩:=hC.get hi;obtain⟨ef,ed,ez,hE⟩:=hC.get he;have hd:=di (hT.bY.trans jd);have h2:0<=k/\k< (n:Int):=⟨h0,h1⟩;exact ajw
structure Hdn (m:Nat) (p:Prop):Prop where
 out:p
inductive Dum (p:Prop):Prop where
 |mk
def ald {n:Nat}{p q:Prop}(_:Hdn n q)(m:p)(_:Dum q):p:=m
def Zm0 {p q:Prop}(_:Hdn 0 q)(m:p):p:=m
def Zm1 {p q:Prop}(_:Hdn 1 q)(m:p):p:=m
def Zm3 {p q:Prop}(_:Hdn 3 q)(m:p):p:=m
def Zd {p:Prop}(h:p:=by(first|omega|decide|rfl|exact lnS (by omega)|exact lnN (by decide)|exact lnN (by omega)|exact lnC (by omega)|exact lvS (by omega)|exact lvN (by decide)|exact lvC (by omega)|exact uvS rfl|exact uvN rfl|((try unfold SC.len);(try unfold SC.zK);(try unfold xy);(try simp);(try omega);done)|omega)):p:=h
def Zq {p:Prop}(h:p:=by first|omega|decide|exact fP rfl|(dsimp only[SC.len];omega)|(simp;done)|(simp;omega)|omega):p:=h
def Zb {p:Prop}(h:p:=by first|omega|(simp;omega)|(simp only[xI,kD,zQ];omega)|decide):p:=h
def Zc {S S':St}(h:Td (YM S'.env) (aeM S S') S'.nx S=some S':=by kernel_rfl):bs S S':=fA h
def Rq {q p g:Prop}(c:q)(z:g)(h:q->g->p:=by(intro a b;refine rG (λ_ z=>⟨_,a,z⟩) ?_;exact b)):p:=h c z
def Rh {q p g:Prop}(c:q)(z:g)(h:q->g->p:=by(intro a b;refine ij (λ_ z=>⟨_,_,_,a,z⟩) ?_;exact b)):p:=h c z
def Rw {q p g:Prop}(c:q)(z:g)(h:q->g->p:=by(intro a b;refine se (λ_ z=>⟨_,_,_,a,z⟩) ?_;exact b)):p:=h c z
def ano:Op->Bool
 | .convert .. =>true
 |_=>false
section
variable {C:bQ}{all:List Oper}{n0 i fid:Nat}{o:Oper}{l:List Oper}{E:dP}{H:Hp}{t:bk}{K:dP->Hp->Nat->bk->Prop}{k:dP->Hp->bk->Prop}
def rS {f:FuncId}{args:List SV}{r':mb}{u0 u:Hp}{rs R:List Nat}{r:DV}(h0: ∀K,fu C fid o (C.ev E.get) H.get K=aey C f args (jb fid u0 rs K))(hs:nN C.P C.gl f args r')(h3: ∀K:j0,K r u R->jb fid u0 rs K r')
  (h2:Ga u H λH'=>ep o.dst r E λE'=>k E' H' ((R,u.map Prod.fst)::t)):cS C fid o E H t k:=rG (λK z=>by rw[h0];exact⟨r',hs,h3 K z⟩) h2
def cvO (_:ano o.op=true)(g:cS C fid o E H t k):cS C fid o E H t k:=g
def dR (g:cS C fid o E H t k):cS C fid o E H t k:=g
def dO (g:jx C all n0 l i E H t K):jx C all n0 l i E H t K:=g
def dA {c:Code}{S:St}{kn:St->Prop}{kx:Nat->St->Prop}{kr:St->Prop}(g:m6 C c S kn kx kr):m6 C c S kn kx kr:=g
def dB {b:Bool}{X Y:Prop}(g:Brn b X Y):Brn b X Y:=g
end
def tX (m:Nat){p q:Prop}(z:q)(h:Hdn m q->p:=by(intro zz;refine ald (q:=_) zz ?_ ?_;(try conv=>whnf);(repeat1' ((first|(refine dR ?_;first|(refine kO 0 rfl ?_;first|(refine cvO rfl ?_;first|refine Th rfl rfl rfl rfl rfl rfl (cvI (by omega)) ?_|refine Th rfl rfl rfl rfl rfl rfl (cv8 (by omega)) ?_)|(refine Zm3 zz ?_;refine anm rfl rfl rfl ?_)|refine rP rfl (λ_ z=>z) ?_|refine rGX rfl trivial ?_|refine rGX rfl Zd ?_|refine rG (λ_ z=>⟨Zd,z⟩) ?_|refine rG (λ_ z=>⟨Zd,Zd,z⟩) ?_)|(refine kO 3 rfl ?_;first|refine ann rfl rfl rfl rfl rfl rfl (by assumption) ?_|refine akW rfl rfl rfl rfl rfl ?_|refine akX rfl rfl rfl rfl rfl rfl rfl ?_|refine akT rfl rfl rfl rfl rfl rfl Zq ?_|refine rG (λ_ z=>z) ?_|refine rG (λ_ z=>⟨_,rfl,z⟩) ?_|refine rG (λ_ z=>⟨_,(by assumption),z⟩) ?_|refine rG (λ_ z=>⟨_,jO (by first|assumption|(simp only[CJ];assumption)),z⟩) ?_)|(refine kO 1 rfl ?_;first|refine aeN rfl rfl rfl Zb ?_|refine ak4 rfl rfl rfl ?_|refine ak5 rfl rfl rfl ?_|refine aeT rfl rfl rfl (by omega) ?_|refine akN rfl rfl rfl (by omega) ?_|refine akO rfl rfl rfl (by omega) ?_|refine akP rfl rfl rfl (by omega) ?_|refine akQ rfl rfl rfl (by omega) ?_|refine akR rfl rfl rfl (by omega) ?_|refine aeF rfl rfl rfl (by omega) ?_|refine aeG rfl rfl rfl (by omega) ?_|refine rG (λ_ z=>z) ?_)|(refine kO 4 rfl ?_;first|refine akU rfl rfl rfl rfl rfl rfl Zq ?_|refine rG (λ_ z=>z) ?_|refine rG (λ_ z=>⟨_,(by assumption),z⟩) ?_|refine rG (λ_ z=>⟨_,jO (by first|assumption|(simp only[CJ];assumption)),z⟩) ?_)|(refine kO 5 rfl ?_;first|refine akV rfl rfl rfl rfl rfl rfl rfl Zq ?_|refine agm rfl rfl rfl rfl rfl rfl rfl Zq ?_|refine aeH rfl rfl rfl rfl rfl rfl rfl rfl Zq ?_|refine agn rfl rfl rfl rfl rfl rfl rfl rfl Zq ?_|refine aeI rfl rfl rfl rfl rfl rfl (by first|assumption|rfl) rfl ?_)|(refine kO 8 rfl ?_;first|refine aeP rfl rfl rfl rfl rfl Zb ?_|refine aeS rfl rfl rfl rfl rfl rfl Zb ?_|refine aeQ rfl rfl rfl rfl rfl Zb ?_|refine aeR rfl rfl rfl rfl rfl Zb ?_|refine ak8 rfl rfl rfl rfl rfl rfl rfl Zb ?_|refine ak9 rfl rfl rfl rfl rfl rfl rfl Zb ?_|refine ala rfl rfl rfl rfl rfl rfl rfl rfl Zb ?_|refine alb rfl rfl rfl rfl rfl rfl rfl rfl Zb ?_|refine alc rfl rfl rfl rfl rfl rfl rfl rfl Zb ?_|refine akZ rfl rfl rfl rfl rfl rfl rfl (by omega) ?_|refine ak0 rfl rfl rfl rfl rfl rfl rfl (by omega) ?_|refine rG (λ_ z=>z) ?_)|(refine kO 6 rfl ?_;first|refine aeO rfl rfl rfl rfl rfl rfl ?_|refine akY rfl rfl rfl rfl rfl rfl ?_|refine aeJ rfl rfl rfl rfl rfl rfl ?_|refine aeK rfl rfl rfl rfl rfl rfl rfl ?_|refine YJ rfl rfl rfl rfl rfl rfl rfl ?_|refine aeU rfl rfl rfl (by omega) ?_|refine rG (λ_ z=>z) ?_)|(refine kO 2 rfl ?_;first|refine akS rfl rfl (by omega) ?_|refine rG (λ_ z=>z) ?_)|(refine kO 7 rfl ?_;first|(apply rS (λ_=>rfl);assumption;exact λ_ z=>z)|refine Rq (aeZ _) ?_|refine Rq (aeY _) ?_|refine Rq (alz _) ?_|refine Rq (MK _ _ _) ?_)|refine rGX rfl trivial ?_|refine rGX rfl Zd ?_|refine rG (λ_ z=>⟨Zd,z⟩) ?_|refine rG (λ_ z=>⟨Zd,Zd,z⟩) ?_)|(refine dO ?_;first|refine oP rfl ?_|refine oN ?_|refine oY rfl rfl rfl ?_|refine oZ rfl rfl rfl ?_|refine oO rfl rfl rfl ?_|refine oIt rfl rfl rfl (by omega) ?_|refine oIf rfl rfl rfl (by omega) ?_|refine oUt rfl rfl rfl (by omega) ?_|refine oUf rfl rfl rfl (by omega) ?_)|((first|refine Zm0 zz ?_|refine Zm3 zz ?_);(refine dA ?_;first|refine aS ?_|refine aR ?_|refine aC rfl ?_|refine aK ?_|refine aT ?_|refine aB ?_|refine aX ?_|refine aL ?_|refine aE ?_))|(refine Zm1 zz ?_;(refine dA ?_;first|refine aSs ?_|refine aR ?_|refine aC rfl ?_|refine aK ?_|refine aT ?_|refine aB ?_|refine aX ?_|refine aL ?_|refine aE ?_))|(refine dB ?_;first|refine bT ?_|refine bF ?_|refine bPt (by omega) ?_|refine bPf (by omega) ?_)|refine dI (by kernel_rfl) ?_);(try conv=>whnf)));(try exact zz.out);first|exact(Dum.mk:Dum True)|exact Dum.mk)):p:=h ⟨z⟩
def tB (m:Nat){p q:Prop}(z:q)(h:Hdn m q->p:=by(intro zz;refine ald (q:=_) zz ?_ ?_;(try conv=>whnf);(repeat1' ((first|(refine dA ?_;first|refine aC rfl ?_|refine aK ?_|refine aT ?_|refine aB ?_|refine aX ?_|refine aL ?_|refine aE ?_)|(refine dB ?_;first|refine bT ?_|refine bF ?_|refine bPt (by omega) ?_|refine bPf (by omega) ?_));(try conv=>whnf)));(try exact zz.out);first|exact(Dum.mk:Dum True)|exact Dum.mk)):p:=h ⟨z⟩
def bR {p q r:Prop}(z1:q)(z2:r)(h:Hdn 0 q->Hdn 0 r->p:=by(intro x y;(first|refine brp ?_ ?_|refine yr rfl rfl rfl ?_ ?_|refine nB rfl rfl rfl ?_ ?_);exact x.out;exact y.out)):p:=h ⟨z1⟩ ⟨z2⟩
def Zt:True:=True.intro
def Zo {p:Prop}(h:p:=by(exfalso;omega)):p:=h
def Ze {p:Prop}(h:p:=by first|(exfalso;omega)|contradiction):p:=h
def Zs {p:Prop}(h:p:=by first|(exfalso;omega)|contradiction|(exfalso;simp_all;done)|omega):p:=h
def Z0 {p:Prop}(h:p:=by first|(exfalso;omega)|rfl):p:=h
def Zf {p:Prop}(h:p:=by first|(exfalso;omega)|contradiction|rfl):p:=h
def Zg {p:Prop}(h:p:=by first|(exfalso;omega)|(exfalso;simp_all;done)|omega):p:=h
def tA {p:Prop}(h:p:=by(repeat' ((first|refine tX 0 ?_|exact Zt|refine bR ?_ ?_<;>intro h)<;>(try conv=>whnf)));(all_goals exact Z0)):p:=h
def tB0 {p:Prop}(h:p:=by(repeat' ((first|refine tX 0 ?_|exact Zt|refine bR ?_ ?_<;>intro h)<;>(try conv=>whnf)));(all_goals exact Zf)):p:=h
def tL {p:Prop}(h:p:=by((repeat' ((first|refine tX 0 ?_|(refine kO 7 rfl ?_;first|refine rG (λ_ z=>⟨_,dm _ _ _,z⟩) ?_|refine rG (λ_ z=>⟨_,ec _ _ _,z⟩) ?_|refine rG (λ_ z=>⟨_,wF rfl,z⟩) ?_|refine rG (λ_ z=>⟨_,wF (E:=0) rfl,z⟩) ?_|refine rG (λ_ z=>⟨_,bX _ _,z⟩) ?_|refine rG (λ_ z=>⟨_,iR _,z⟩) ?_|refine rG (λ_ z=>⟨_,nX _,z⟩) ?_|refine rG (λ_ z=>⟨_,jB _,z⟩) ?_|refine rG (λ_ z=>⟨_,Ar _,z⟩) ?_|refine rG (λ_ z=>⟨_,unless_p _,z⟩) ?_|refine rG (λ_ z=>⟨_,g9 _ (fP rfl),z⟩) ?_|refine rG (λ_ z=>⟨_,first_fs _ (fP rfl),z⟩) ?_|refine rG (λ_ z=>⟨_,MM (by decide),z⟩) ?_|refine rG (λ_ z=>⟨_,eF _ _ _,z⟩) ?_|refine rG (λ_ z=>⟨_,mS _ _ _,z⟩) ?_|refine rG (λ_ z=>⟨_,py _ _ _,z⟩) ?_|refine rG (λ_ z=>⟨_,eO _ _ _,z⟩) ?_|refine rG (λ_ z=>⟨_,gm _,z⟩) ?_|refine rG (λ_ z=>⟨_,oR _ _ (by decide),z⟩) ?_|refine rG (λ_ z=>⟨_,kV _ _ (by omega),z⟩) ?_|refine rG (λ_ z=>⟨_,nE _ _,z⟩) ?_|refine rG (λ_ z=>⟨_,MS _ _,z⟩) ?_|refine rG (λ_ z=>⟨_,aax _ _,z⟩) ?_|refine rG (λ_ z=>⟨_,Nh _ _ _,z⟩) ?_|refine rG (λ_ z=>⟨_,EW _,z⟩) ?_|refine rG (λ_ z=>⟨_,NW _,z⟩) ?_|refine rG (λ_ z=>⟨_,Bn _,z⟩) ?_|refine rG (λ_ z=>⟨_,within52_sat _ _ _,z⟩) ?_|refine rG (λ_ z=>⟨_,wF CC,z⟩) ?_|refine rG (λ_ z=>⟨_,mJ _ _,z⟩) ?_|refine rG (λ_ z=>⟨_,both_sat _ _,z⟩) ?_|refine rG (λ_ z=>⟨_,aN (by assumption) _,z⟩) ?_|refine rG (λ_ z=>⟨_,bG (by assumption) _,z⟩) ?_|refine rG (λ_ z=>⟨_,aN (by(simp[ab]<;>fail "")) _,z⟩) ?_|refine rG (λ_ z=>⟨_,bG (by(simp[ab]<;>fail "")) _,z⟩) ?_|refine rG (λ_ z=>⟨_,aN (by simp only[ab,ju,CO,kD,zQ,ja];omega) _,z⟩) ?_|refine rG (λ_ z=>⟨_,bG (by simp only[ab,ju,CO,kD,zQ,ja];omega) _,z⟩) ?_|refine ij (λ_ z=>⟨_,_,_,c0 _ _ ⟨_,_,rfl,rfl⟩ rfl,z⟩) ?_|refine ij (λ_ z=>⟨_,_,_,c3 _ _ ⟨_,_,rfl,rfl⟩ rfl,z⟩) ?_|refine ij (λ_ z=>⟨_,_,_,c2 _ _,z⟩) ?_|refine ij (λ_ z=>⟨_,_,_,ke _ _,z⟩) ?_|refine ij (λ_ z=>⟨_,_,_,cv _ _ _ _ _ _ _ rfl (jO (by assumption)) rfl rfl rfl,z⟩) ?_|refine ij (λ_ z=>⟨_,_,_,cr _ _ _ _ _ _ _ rfl (jO (by assumption)) rfl rfl rfl,z⟩) ?_|refine ij (λ_ z=>⟨_,_,_,cv _ _ _ _ _ rfl rfl rfl,z⟩) ?_|refine ij (λ_ z=>⟨_,_,_,cr _ _ _ _ _ rfl rfl rfl,z⟩) ?_|refine ij (λ_ z=>⟨_,_,_,cu _ _ rfl rfl rfl,z⟩) ?_|refine ij (λ_ z=>⟨_,_,_,cu _ _ rfl rfl rfl rfl,z⟩) ?_|refine ij (λ_ z=>⟨_,_,_,cm _ _ _ _ _ rfl rfl rfl,z⟩) ?_|refine ij (λ_ z=>⟨_,_,_,vc hM hp hr rfl rfl rfl (jO (by assumption)) rfl rfl rfl,z⟩) ?_)|exact Zt|refine bR ?_ ?_<;>intro h)<;>(try conv=>whnf)));(all_goals first|exact Zf|exact Ei|exact Ew|exact rfl|exact⟨m0,dU rfl rfl,_,rfl,rfl⟩|exact⟨m3,dU rfl rfl,_,rfl,rfl⟩|exact⟨[],H5 _,_,rfl,rfl⟩|exact⟨rfl,rfl,_,rfl,rfl⟩|exact⟨i+1,ak,by omega,Zc⟩|exact⟨i+1,⟨ak,by assumption⟩,by omega,Zc⟩|exact⟨i+1,⟨ak,iT (by omega)⟩,by omega,Zc⟩|exact⟨i+1,⟨ak,ma (by omega)⟩,by omega,Zc⟩|exact⟨i+1,⟨ak,λhm=>(FF.1 hm).elim dx λe=>hx e.symm⟩,by omega,Zc⟩|exact⟨i+1,ak,by omega,ai (by rw[xB,lV];kernel_rfl)⟩|exact⟨i+1,ak,by omega,ai (by rw[xB];kernel_rfl)⟩|exact⟨k+1,⟨ak,iT⟩,by omega,Zc⟩|exact gX (by simp;omega)|exact gX (by simp)|exact gX (eT (dx (by omega))).symm |exact gX (fH ⟨by assumption,by assumption⟩).symm |exact gX (eT λh=>h0 h.1).symm |exact pT _ _ 7 (by decide)|exact pT _ _ 18 (by decide)|exact absurd (by assumption) hx|exact absurd hx (by assumption)|exact absurd KT (dx (by omega))|exact oH (by simp)|exact Zg))):p:=h
end Go.Fw
namespace Go.Proofs
open Go.Shelf
def Tryz.IQ:Go.Shelf.Ren:=⟨λ|171=>99|243=>194|246=>240|283=>275|284=>276|285=>277|286=>278|129=>300|317=>299|318=>301|319=>302|320=>303|337=>329|338=>330|n=>n,λ|3=>3|9=>9|2=>2|4=>4|171=>336|0=>0|53=>330|37=>239|5=>5|173=>339|212=>375|51=>345|20=>20|213=>376|46=>306|232=>418|233=>419|n=>n,λ|17=>6|18=>7|19=>8|n=>n⟩
def Tryz.Xr:Go.Proofs.LaysM.n171 Tryz.prog Tryz.IQ:={
 mixed:=by kernel_rfl
 f129:=Tryz.func300.trans (aP some (by kernel_rfl))
 f171:=Tryz.func99.trans (aP some (by kernel_rfl))
 f243:=Tryz.func194.trans (aP some (by kernel_rfl))
 f246:=Tryz.func240.trans (aP some (by kernel_rfl))
 f283:=Tryz.func275.trans (aP some (by kernel_rfl))
 f284:=Tryz.func276.trans (aP some (by kernel_rfl))
 f285:=Tryz.func277.trans (aP some (by kernel_rfl))
 f286:=Tryz.func278.trans (aP some (by kernel_rfl))
 f317:=Tryz.func299.trans (aP some (by kernel_rfl))
 f318:=Tryz.func301.trans (aP some (by kernel_rfl))
 f319:=Tryz.func302.trans (aP some (by kernel_rfl))
 f320:=Tryz.func303.trans (aP some (by kernel_rfl))
 f337:=Tryz.func329.trans (aP some (by kernel_rfl))
 f338:=Tryz.func330.trans (aP some (by kernel_rfl))
 t0:=Tryz.underlying0
 a0:=Tryz.isAgg0
 z0:=Tryz.sizeOf0
 v0:=Tryz.zeroValue0
 t2:=Tryz.underlying2
 a2:=Tryz.isAgg2
 z2:=Tryz.sizeOf2
 v2:=Tryz.zeroValue2
 t3:=Tryz.underlying3
 a3:=Tryz.isAgg3
 z3:=Tryz.sizeOf3
 v3:=Tryz.zeroValue3
 t4:=Tryz.underlying4
 a4:=Tryz.isAgg4
 z4:=Tryz.sizeOf4
 v4:=Tryz.zeroValue4
 t5:=Tryz.underlying5
 a5:=Tryz.isAgg5
 z5:=Tryz.sizeOf5
 v5:=Tryz.zeroValue5
 t9:=Tryz.underlying9
 a9:=Tryz.isAgg9
 z9:=Tryz.sizeOf9
 v9:=Tryz.zeroValue9
 t20:=Tryz.underlying20
 a20:=Tryz.isAgg20
 z20:=Tryz.sizeOf20
 v20:=Tryz.zeroValue20
 t37:=Tryz.underlying239
 a37:=Tryz.isAgg239
 z37:=Tryz.sizeOf239
 v37:=Tryz.zeroValue239
 t46:=Tryz.underlying306
 a46:=Tryz.isAgg306
 z46:=Tryz.sizeOf306
 v46:=Tryz.zeroValue306
 t51:=Tryz.underlying345
 a51:=Tryz.isAgg345
 z51:=Tryz.sizeOf345
 v51:=Tryz.zeroValue345
 t53:=Tryz.underlying330
 a53:=Tryz.isAgg330
 z53:=Tryz.sizeOf330
 v53:=Tryz.zeroValue330
 t171:=Tryz.underlying336
 a171:=Tryz.isAgg336
 z171:=Tryz.sizeOf336
 v171:=Tryz.zeroValue336
 t173:=Tryz.underlying339
 a173:=Tryz.isAgg339
 z173:=Tryz.sizeOf339
 v173:=Tryz.zeroValue339
 t212:=Tryz.underlying375
 a212:=Tryz.isAgg375
 z212:=Tryz.sizeOf375
 v212:=Tryz.zeroValue375
 t213:=Tryz.underlying376
 a213:=Tryz.isAgg376
 z213:=Tryz.sizeOf376
 t232:=Tryz.underlying418
 a232:=Tryz.isAgg418
 z232:=Tryz.sizeOf418
 v232:=Tryz.zeroValue418
 t233:=Tryz.underlying419
 a233:=Tryz.isAgg419
 z233:=Tryz.sizeOf419
 v233:=Tryz.zeroValue419
 g17:=by kernel_rfl
 g18:=by kernel_rfl
 g19:=by kernel_rfl
 i0:=by kernel_rfl
 i2:=by kernel_rfl
 i3:=by kernel_rfl
 i4:=by kernel_rfl
 i5:=by kernel_rfl
 i9:=by kernel_rfl
 i20:=by kernel_rfl
 i37:=by kernel_rfl
 i46:=by kernel_rfl
 i51:=by kernel_rfl
 i53:=by kernel_rfl
 i171:=by kernel_rfl
 i173:=by kernel_rfl
 i212:=by kernel_rfl
 i232:=by kernel_rfl
 i233:=by kernel_rfl
 m17:=by kernel_rfl
 m18:=by kernel_rfl
 m19:=by kernel_rfl}
def Tryz.IP:Go.Shelf.Ren:=⟨λ|172=>98|244=>192|245=>193|247=>235|279=>236|280=>237|281=>238|282=>239|287=>272|316=>273|171=>99|205=>274|321=>297|322=>298|243=>194|246=>240|283=>275|284=>276|285=>277|286=>278|129=>300|317=>299|318=>301|319=>302|320=>303|337=>329|338=>330|n=>n,λ|9=>9|3=>3|75=>201|76=>202|4=>4|5=>5|167=>297|37=>239|0=>0|85=>298|2=>2|168=>300|53=>330|175=>331|46=>306|210=>334|127=>370|145=>373|143=>371|21=>21|171=>336|173=>339|212=>375|51=>345|20=>20|213=>376|232=>418|233=>419|80=>341|n=>n,λ|15=>2|16=>3|17=>6|18=>7|19=>8|n=>n⟩
def Tryz.Ln:Go.Proofs.LaysC.n172 Tryz.prog Tryz.IP:={
 mixed:=by kernel_rfl
 f129:=Tryz.func300.trans (aP some (by kernel_rfl))
 f171:=Tryz.func99.trans (aP some (by kernel_rfl))
 f172:=Tryz.func98.trans (aP some (by kernel_rfl))
 f205:=Tryz.func274.trans (aP some (by kernel_rfl))
 f243:=Tryz.func194.trans (aP some (by kernel_rfl))
 f244:=Tryz.func192.trans (aP some (by kernel_rfl))
 f245:=Tryz.func193.trans (aP some (by kernel_rfl))
 f246:=Tryz.func240.trans (aP some (by kernel_rfl))
 f247:=Tryz.func235.trans (aP some (by kernel_rfl))
 f279:=Tryz.func236.trans (aP some (by kernel_rfl))
 f280:=Tryz.func237.trans (aP some (by kernel_rfl))
 f281:=Tryz.func238.trans (aP some (by kernel_rfl))
 f282:=Tryz.func239.trans (aP some (by kernel_rfl))
 f283:=Tryz.func275.trans (aP some (by kernel_rfl))
 f284:=Tryz.func276.trans (aP some (by kernel_rfl))
 f285:=Tryz.func277.trans (aP some (by kernel_rfl))
 f286:=Tryz.func278.trans (aP some (by kernel_rfl))
 f287:=Tryz.func272.trans (aP some (by kernel_rfl))
 f316:=Tryz.func273.trans (aP some (by kernel_rfl))
 f317:=Tryz.func299.trans (aP some (by kernel_rfl))
 f318:=Tryz.func301.trans (aP some (by kernel_rfl))
 f319:=Tryz.func302.trans (aP some (by kernel_rfl))
 f320:=Tryz.func303.trans (aP some (by kernel_rfl))
 f321:=Tryz.func297.trans (aP some (by kernel_rfl))
 f322:=Tryz.func298.trans (aP some (by kernel_rfl))
 f337:=Tryz.func329.trans (aP some (by kernel_rfl))
 f338:=Tryz.func330.trans (aP some (by kernel_rfl))
 t0:=Tryz.underlying0
 a0:=Tryz.isAgg0
 z0:=Tryz.sizeOf0
 v0:=Tryz.zeroValue0
 t2:=Tryz.underlying2
 a2:=Tryz.isAgg2
 z2:=Tryz.sizeOf2
 v2:=Tryz.zeroValue2
 t3:=Tryz.underlying3
 a3:=Tryz.isAgg3
 z3:=Tryz.sizeOf3
 v3:=Tryz.zeroValue3
 t4:=Tryz.underlying4
 a4:=Tryz.isAgg4
 z4:=Tryz.sizeOf4
 v4:=Tryz.zeroValue4
 t5:=Tryz.underlying5
 a5:=Tryz.isAgg5
 z5:=Tryz.sizeOf5
 v5:=Tryz.zeroValue5
 t9:=Tryz.underlying9
 a9:=Tryz.isAgg9
 z9:=Tryz.sizeOf9
 v9:=Tryz.zeroValue9
 t20:=Tryz.underlying20
 a20:=Tryz.isAgg20
 z20:=Tryz.sizeOf20
 v20:=Tryz.zeroValue20
 t21:=Tryz.underlying21
 a21:=Tryz.isAgg21
 z21:=Tryz.sizeOf21
 v21:=Tryz.zeroValue21
 t37:=Tryz.underlying239
 a37:=Tryz.isAgg239
 z37:=Tryz.sizeOf239
 v37:=Tryz.zeroValue239
 t46:=Tryz.underlying306
 a46:=Tryz.isAgg306
 z46:=Tryz.sizeOf306
 v46:=Tryz.zeroValue306
 t51:=Tryz.underlying345
 a51:=Tryz.isAgg345
 z51:=Tryz.sizeOf345
 v51:=Tryz.zeroValue345
 t53:=Tryz.underlying330
 a53:=Tryz.isAgg330
 z53:=Tryz.sizeOf330
 v53:=Tryz.zeroValue330
 t75:=Tryz.underlying201
 a75:=Tryz.isAgg201
 z75:=Tryz.sizeOf201
 v75:=Tryz.zeroValue201
 t76:=Tryz.underlying202
 a76:=Tryz.isAgg202
 z76:=Tryz.sizeOf202
 v76:=Tryz.zeroValue202
 t85:=Tryz.underlying298
 a85:=Tryz.isAgg298
 z85:=Tryz.sizeOf298
 v85:=Tryz.zeroValue298
 t127:=Tryz.underlying370
 a127:=Tryz.isAgg370
 z127:=Tryz.sizeOf370
 v127:=Tryz.zeroValue370
 t143:=Tryz.underlying371
 a143:=Tryz.isAgg371
 z143:=Tryz.sizeOf371
 v143:=Tryz.zeroValue371
 t145:=Tryz.underlying373
 a145:=Tryz.isAgg373
 z145:=Tryz.sizeOf373
 v145:=Tryz.zeroValue373
 t167:=Tryz.underlying297
 a167:=Tryz.isAgg297
 z167:=Tryz.sizeOf297
 v167:=Tryz.zeroValue297
 t168:=Tryz.underlying300
 a168:=Tryz.isAgg300
 z168:=Tryz.sizeOf300
 v168:=Tryz.zeroValue300
 t171:=Tryz.underlying336
 a171:=Tryz.isAgg336
 z171:=Tryz.sizeOf336
 v171:=Tryz.zeroValue336
 t173:=Tryz.underlying339
 a173:=Tryz.isAgg339
 z173:=Tryz.sizeOf339
 v173:=Tryz.zeroValue339
 t175:=Tryz.underlying331
 a175:=Tryz.isAgg331
 z175:=Tryz.sizeOf331
 v175:=Tryz.zeroValue331
 t210:=Tryz.underlying334
 a210:=Tryz.isAgg334
 z210:=Tryz.sizeOf334
 v210:=Tryz.zeroValue334
 t212:=Tryz.underlying375
 a212:=Tryz.isAgg375
 z212:=Tryz.sizeOf375
 v212:=Tryz.zeroValue375
 t213:=Tryz.underlying376
 a213:=Tryz.isAgg376
 z213:=Tryz.sizeOf376
 t232:=Tryz.underlying418
 a232:=Tryz.isAgg418
 z232:=Tryz.sizeOf418
 v232:=Tryz.zeroValue418
 t233:=Tryz.underlying419
 a233:=Tryz.isAgg419
 z233:=Tryz.sizeOf419
 v233:=Tryz.zeroValue419
 g15:=by kernel_rfl
 g16:=by kernel_rfl
 g17:=by kernel_rfl
 g18:=by kernel_rfl
 g19:=by kernel_rfl
 t80:=Tryz.underlying341
 a80:=Tryz.isAgg341
 z80:=Tryz.sizeOf341
 v80:=Tryz.zeroValue341
 i0:=by kernel_rfl
 i2:=by kernel_rfl
 i3:=by kernel_rfl
 i4:=by kernel_rfl
 i5:=by kernel_rfl
 i9:=by kernel_rfl
 i20:=by kernel_rfl
 i21:=by kernel_rfl
 i37:=by kernel_rfl
 i46:=by kernel_rfl
 i51:=by kernel_rfl
 i53:=by kernel_rfl
 i75:=by kernel_rfl
 i76:=by kernel_rfl
 i80:=by kernel_rfl
 i85:=by kernel_rfl
 i127:=by kernel_rfl
 i143:=by kernel_rfl
 i145:=by kernel_rfl
 i167:=by kernel_rfl
 i168:=by kernel_rfl
 i171:=by kernel_rfl
 i173:=by kernel_rfl
 i175:=by kernel_rfl
 i210:=by kernel_rfl
 i212:=by kernel_rfl
 i232:=by kernel_rfl
 i233:=by kernel_rfl
 m15:=by kernel_rfl
 m16:=by kernel_rfl
 m17:=by kernel_rfl
 m18:=by kernel_rfl
 m19:=by kernel_rfl
 c0:=by kernel_rfl
 c2:=by kernel_rfl
 c3:=by kernel_rfl
 c4:=by kernel_rfl
 c5:=by kernel_rfl
 c9:=by kernel_rfl
 c20:=by kernel_rfl
 c21:=by kernel_rfl
 c37:=by kernel_rfl
 c46:=by kernel_rfl
 c51:=by kernel_rfl
 c53:=by kernel_rfl
 c75:=by kernel_rfl
 c76:=by kernel_rfl
 c80:=by kernel_rfl
 c85:=by kernel_rfl
 c127:=by kernel_rfl
 c143:=by kernel_rfl
 c145:=by kernel_rfl
 c167:=by kernel_rfl
 c168:=by kernel_rfl
 c171:=by kernel_rfl
 c173:=by kernel_rfl
 c175:=by kernel_rfl
 c210:=by kernel_rfl
 c212:=by kernel_rfl
 c213:=by kernel_rfl
 c232:=by kernel_rfl
 c233:=by kernel_rfl}
def Tryz.Lj:Go.Shelf.Ren:=⟨λ|145=>67|220=>113|219=>201|217=>245|225=>246|224=>247|267=>248|266=>283|314=>284|n=>n,λ|9=>9|4=>4|59=>144|3=>3|5=>5|46=>306|146=>346|51=>345|n=>n,λ|1=>1|n=>n⟩
def Tryz.abz:Go.Proofs.Lays.n145 Tryz.prog Tryz.Lj:={
 mixed:=by kernel_rfl
 f145:=Tryz.func67.trans (aP some (by kernel_rfl))
 f217:=Tryz.func245.trans (aP some (by kernel_rfl))
 f219:=Tryz.func201.trans (aP some (by kernel_rfl))
 f220:=Tryz.func113.trans (aP some (by kernel_rfl))
 f224:=Tryz.func247.trans (aP some (by kernel_rfl))
 f225:=Tryz.func246.trans (aP some (by kernel_rfl))
 f266:=Tryz.func283.trans (aP some (by kernel_rfl))
 f267:=Tryz.func248.trans (aP some (by kernel_rfl))
 f314:=Tryz.func284.trans (aP some (by kernel_rfl))
 t3:=Tryz.underlying3
 a3:=Tryz.isAgg3
 z3:=Tryz.sizeOf3
 v3:=Tryz.zeroValue3
 t4:=Tryz.underlying4
 a4:=Tryz.isAgg4
 z4:=Tryz.sizeOf4
 v4:=Tryz.zeroValue4
 t5:=Tryz.underlying5
 a5:=Tryz.isAgg5
 z5:=Tryz.sizeOf5
 v5:=Tryz.zeroValue5
 t9:=Tryz.underlying9
 a9:=Tryz.isAgg9
 z9:=Tryz.sizeOf9
 v9:=Tryz.zeroValue9
 t46:=Tryz.underlying306
 a46:=Tryz.isAgg306
 z46:=Tryz.sizeOf306
 v46:=Tryz.zeroValue306
 t51:=Tryz.underlying345
 a51:=Tryz.isAgg345
 z51:=Tryz.sizeOf345
 v51:=Tryz.zeroValue345
 t59:=Tryz.underlying144
 a59:=Tryz.isAgg144
 z59:=Tryz.sizeOf144
 v59:=Tryz.zeroValue144
 t146:=Tryz.underlying346
 a146:=Tryz.isAgg346
 z146:=Tryz.sizeOf346
 v146:=Tryz.zeroValue346
 g1:=by kernel_rfl}
def Tryz.Lm:Go.Shelf.Ren:=⟨λ|101=>207|208=>257|206=>191|n=>n,λ|9=>9|4=>4|3=>3|n=>n,λ|n=>n⟩
def Tryz.abA:Go.Proofs.Lays.n101 Tryz.prog Tryz.Lm:={
 mixed:=by kernel_rfl
 f101:=Tryz.func207.trans (aP some (by kernel_rfl))
 f206:=Tryz.func191.trans (aP some (by kernel_rfl))
 f208:=Tryz.func257.trans (aP some (by kernel_rfl))
 t3:=Tryz.underlying3
 a3:=Tryz.isAgg3
 z3:=Tryz.sizeOf3
 v3:=Tryz.zeroValue3
 t4:=Tryz.underlying4
 a4:=Tryz.isAgg4
 z4:=Tryz.sizeOf4
 v4:=Tryz.zeroValue4
 t9:=Tryz.underlying9
 a9:=Tryz.isAgg9
 z9:=Tryz.sizeOf9
 v9:=Tryz.zeroValue9}
def Tryz.Lk:Go.Shelf.Ren:=⟨λ|146=>57|221=>94|268=>188|138=>189|143=>190|195=>232|197=>233|218=>234|219=>201|260=>271|217=>245|225=>246|224=>247|267=>248|266=>283|314=>284|n=>n,λ|9=>9|31=>23|3=>3|4=>4|0=>0|105=>294|21=>21|5=>5|46=>306|119=>365|139=>368|138=>367|146=>346|51=>345|n=>n,λ|1=>1|3=>4|4=>5|n=>n⟩
def Tryz.R1:Go.Proofs.Lays.n146 Tryz.prog Tryz.Lk:={
 mixed:=by kernel_rfl
 f138:=Tryz.func189.trans (aP some (by kernel_rfl))
 f143:=Tryz.func190.trans (aP some (by kernel_rfl))
 f146:=Tryz.func57.trans (aP some (by kernel_rfl))
 f195:=Tryz.func232.trans (aP some (by kernel_rfl))
 f197:=Tryz.func233.trans (aP some (by kernel_rfl))
 f217:=Tryz.func245.trans (aP some (by kernel_rfl))
 f218:=Tryz.func234.trans (aP some (by kernel_rfl))
 f219:=Tryz.func201.trans (aP some (by kernel_rfl))
 f221:=Tryz.func94.trans (aP some (by kernel_rfl))
 f224:=Tryz.func247.trans (aP some (by kernel_rfl))
 f225:=Tryz.func246.trans (aP some (by kernel_rfl))
 f260:=Tryz.func271.trans (aP some (by kernel_rfl))
 f266:=Tryz.func283.trans (aP some (by kernel_rfl))
 f267:=Tryz.func248.trans (aP some (by kernel_rfl))
 f268:=Tryz.func188.trans (aP some (by kernel_rfl))
 f314:=Tryz.func284.trans (aP some (by kernel_rfl))
 t0:=Tryz.underlying0
 a0:=Tryz.isAgg0
 z0:=Tryz.sizeOf0
 v0:=Tryz.zeroValue0
 t3:=Tryz.underlying3
 a3:=Tryz.isAgg3
 z3:=Tryz.sizeOf3
 v3:=Tryz.zeroValue3
 t4:=Tryz.underlying4
 a4:=Tryz.isAgg4
 z4:=Tryz.sizeOf4
 v4:=Tryz.zeroValue4
 t5:=Tryz.underlying5
 a5:=Tryz.isAgg5
 z5:=Tryz.sizeOf5
 v5:=Tryz.zeroValue5
 t9:=Tryz.underlying9
 a9:=Tryz.isAgg9
 z9:=Tryz.sizeOf9
 v9:=Tryz.zeroValue9
 t21:=Tryz.underlying21
 a21:=Tryz.isAgg21
 z21:=Tryz.sizeOf21
 v21:=Tryz.zeroValue21
 t31:=Tryz.underlying23
 a31:=Tryz.isAgg23
 z31:=Tryz.sizeOf23
 v31:=Tryz.zeroValue23
 t46:=Tryz.underlying306
 a46:=Tryz.isAgg306
 z46:=Tryz.sizeOf306
 v46:=Tryz.zeroValue306
 t51:=Tryz.underlying345
 a51:=Tryz.isAgg345
 z51:=Tryz.sizeOf345
 v51:=Tryz.zeroValue345
 t105:=Tryz.underlying294
 a105:=Tryz.isAgg294
 z105:=Tryz.sizeOf294
 v105:=Tryz.zeroValue294
 t119:=Tryz.underlying365
 a119:=Tryz.isAgg365
 z119:=Tryz.sizeOf365
 t138:=Tryz.underlying367
 a138:=Tryz.isAgg367
 z138:=Tryz.sizeOf367
 v138:=Tryz.zeroValue367
 t139:=Tryz.underlying368
 a139:=Tryz.isAgg368
 z139:=Tryz.sizeOf368
 v139:=Tryz.zeroValue368
 t146:=Tryz.underlying346
 a146:=Tryz.isAgg346
 z146:=Tryz.sizeOf346
 v146:=Tryz.zeroValue346
 g1:=by kernel_rfl
 g3:=by kernel_rfl
 g4:=by kernel_rfl}
def Tryz.Lh:Go.Shelf.Ren:=⟨λ|147=>133|221=>94|268=>188|138=>189|143=>190|195=>232|197=>233|218=>234|219=>201|260=>271|217=>245|225=>246|224=>247|267=>248|266=>283|314=>284|n=>n,λ|9=>9|3=>3|31=>23|4=>4|0=>0|105=>294|21=>21|5=>5|46=>306|119=>365|139=>368|138=>367|146=>346|51=>345|n=>n,λ|1=>1|3=>4|4=>5|n=>n⟩
def Tryz.abx:Go.Proofs.Lays.n147 Tryz.prog Tryz.Lh:={
 mixed:=by kernel_rfl
 f138:=Tryz.func189.trans (aP some (by kernel_rfl))
 f143:=Tryz.func190.trans (aP some (by kernel_rfl))
 f147:=Tryz.func133.trans (aP some (by kernel_rfl))
 f195:=Tryz.func232.trans (aP some (by kernel_rfl))
 f197:=Tryz.func233.trans (aP some (by kernel_rfl))
 f217:=Tryz.func245.trans (aP some (by kernel_rfl))
 f218:=Tryz.func234.trans (aP some (by kernel_rfl))
 f219:=Tryz.func201.trans (aP some (by kernel_rfl))
 f221:=Tryz.func94.trans (aP some (by kernel_rfl))
 f224:=Tryz.func247.trans (aP some (by kernel_rfl))
 f225:=Tryz.func246.trans (aP some (by kernel_rfl))
 f260:=Tryz.func271.trans (aP some (by kernel_rfl))
 f266:=Tryz.func283.trans (aP some (by kernel_rfl))
 f267:=Tryz.func248.trans (aP some (by kernel_rfl))
 f268:=Tryz.func188.trans (aP some (by kernel_rfl))
 f314:=Tryz.func284.trans (aP some (by kernel_rfl))
 t0:=Tryz.underlying0
 a0:=Tryz.isAgg0
 z0:=Tryz.sizeOf0
 v0:=Tryz.zeroValue0
 t3:=Tryz.underlying3
 a3:=Tryz.isAgg3
 z3:=Tryz.sizeOf3
 v3:=Tryz.zeroValue3
 t4:=Tryz.underlying4
 a4:=Tryz.isAgg4
 z4:=Tryz.sizeOf4
 v4:=Tryz.zeroValue4
 t5:=Tryz.underlying5
 a5:=Tryz.isAgg5
 z5:=Tryz.sizeOf5
 v5:=Tryz.zeroValue5
 t9:=Tryz.underlying9
 a9:=Tryz.isAgg9
 z9:=Tryz.sizeOf9
 v9:=Tryz.zeroValue9
 t21:=Tryz.underlying21
 a21:=Tryz.isAgg21
 z21:=Tryz.sizeOf21
 v21:=Tryz.zeroValue21
 t31:=Tryz.underlying23
 a31:=Tryz.isAgg23
 z31:=Tryz.sizeOf23
 v31:=Tryz.zeroValue23
 t46:=Tryz.underlying306
 a46:=Tryz.isAgg306
 z46:=Tryz.sizeOf306
 v46:=Tryz.zeroValue306
 t51:=Tryz.underlying345
 a51:=Tryz.isAgg345
 z51:=Tryz.sizeOf345
 v51:=Tryz.zeroValue345
 t105:=Tryz.underlying294
 a105:=Tryz.isAgg294
 z105:=Tryz.sizeOf294
 v105:=Tryz.zeroValue294
 t119:=Tryz.underlying365
 a119:=Tryz.isAgg365
 z119:=Tryz.sizeOf365
 t138:=Tryz.underlying367
 a138:=Tryz.isAgg367
 z138:=Tryz.sizeOf367
 v138:=Tryz.zeroValue367
 t139:=Tryz.underlying368
 a139:=Tryz.isAgg368
 z139:=Tryz.sizeOf368
 v139:=Tryz.zeroValue368
 t146:=Tryz.underlying346
 a146:=Tryz.isAgg346
 z146:=Tryz.sizeOf346
 v146:=Tryz.zeroValue346
 g1:=by kernel_rfl
 g3:=by kernel_rfl
 g4:=by kernel_rfl}
end Go.Proofs
namespace Go.Fw
open Go.RowKit (Below)
open Go.Shelf
variable {P:Program}{gl:s6}
theorem acJ {ρ:Ren}(L:Proofs.Lays.n145 P ρ)(fB:iG P (ρ.f 145)=true)(hg:(ρ.g 1,[SC.num .i64])∈gl)(s:List UInt8)(c:UInt8)(hl:s.length<=1000000):
  nN P gl (ρ.f 145) [SS s,SS [c]] (.aJ [SS (Lib.cut s [c]).1,SS (Lib.cut s [c]).2.1,(false,[.lit (.bool (Lib.cut s [c]).2.2)])]):=by
 refine .inl ⟨fB,λmv w vs _ hG xw=>?_⟩;obtain⟨x,y,rfl,hr,B9⟩:=DM xw;rw[gh hr,gh B9];obtain⟨ev,h1,h2⟩:=(hG _ _ hg).1 0 _ rfl;have oX: ∃m,ev= .int .i64 m:=aiF;obtain⟨m,rfl⟩:=oX;refine(Proofs.Any.strings_Cut L (B s) (B [c]) m w (by rw[lR];omega) h1).mono λe w' he=>?_;obtain⟨rfl,n,rfl⟩:=he;rw[jI,jI];refine⟨_,rfl,(Below.refl w.heap.size w).trans ⟨rfl,rfl,rfl,dw _,λ_ _=>rfl⟩,_,rfl,rfl,λk x hk=>?_⟩
 match k,hk with
 |0,hk=>simp at hk;subst hk;exact⟨_,rfl,.lit rfl⟩
 |1,hk=>simp at hk;subst hk;exact⟨_,rfl,.lit rfl⟩
 |2,hk=>simp at hk;subst hk;exact⟨_,rfl,.lit rfl⟩
 |k+3,hk=>simp at hk
end Go.Fw
namespace Go.Plain
open Go.Lib
abbrev au:=List UInt8
def dk (b:UInt8):Prop:=48<=b.toNat/\b.toNat<=57
instance (b:UInt8):Decidable (dk b):=inferInstanceAs (Decidable (_/\_))
def fJ (acc:Nat):au->Nat
 | []=>acc
 |b::r=>fJ (10*acc+(b.toNat -48)) r
def DP (acc:Nat)(a b:au):fJ acc (a++b)=fJ (fJ acc a) b:=by
 induction a generalizing acc with
 |nil=>rfl
 |cons x a ih=>exact ih _
def Ad {acc:Nat}{l:au}:acc<=fJ acc l:=by
 induction l generalizing acc with
 |nil=>exact dw _
 |cons x l ih=>exact o3 K0 (ih (acc:=10*acc+(x.toNat -48)))
def JL: ∀(l:au) (acc:Nat),(∀b∈l,dk b)->fJ acc l< (acc+1)*10^l.length
 | [],acc,_=>by
  show acc< (acc+1)*1;omega
 |b::l,acc,h=>by
  have h1:=h b (i8 ..);have:=JL l (10*acc+(b.toNat -48)) λx hx=>h x (i7 _ hx);have h0:10*acc+(b.toNat -48)+1<=(acc+1)*10:=by grind[dk]
  have h2:(10*acc+(b.toNat -48)+1)*10^l.length<=(acc+1)*10*10^l.length:=kC _ h0;rw[kD,Nat.pow_succ];have e:(acc+1)*(10^l.length*10)=(acc+1)*10*10^l.length:=by ac_rfl
  rw[e];exact XI this h2
theorem yA {d:Nat}(h:d<10):(UInt8.ofNat (48+d)).toNat =48+d:=by simp[UInt8.toNat_ofNat];omega
def MD {b:UInt8}(h:dk b):UInt8.ofNat (48+(b.toNat -48))=b:=by
 unfold dk at h;simp_all
def Tk: ∀(u:Nat),∀b∈decDigits u,dk b:=by
 intro u
 induction u using Nat.strongRecOn with
 |_ u ih=>
  grind[decDigits,dk,yA]
def Tl: ∀(u:Nat),fJ 0 (decDigits u)=u:=by
 intro u
 induction u using Nat.strongRecOn with
 |_ u ih=>
  rw[decDigits];split
  ·rename_i h;show 10*0+((UInt8.ofNat (48+u)).toNat -48)=u
   grind[yA]
  ·rename_i h;rw[DP,ih _ K0];show 10*(u/10)+((UInt8.ofNat (48+u%10)).toNat -48)=u
   grind[yA]
def agq (u:Nat):decDigits u≠[]:=by rw[decDigits];split<;>simp
theorem ME: ∀ {u:Nat},0<u->∃b r,decDigits u=b::r/\b.toNat≠48:=by
 intro u
 induction u using Nat.strongRecOn with
 |_ u ih=>
  intro h0;rw[decDigits];split
  grind[yA]
  ·rename_i h;obtain⟨b,r,e,hb⟩:=ih (u/10) K0 K0
   grind
theorem YY: ∀(l:au) (b:UInt8) (r:au),l=b::r->(∀x∈l,dk x)->(b.toNat≠48\/r= [])->decDigits (fJ 0 l)=l:=by
 intro l
 induction h:l.length using Nat.strongRecOn generalizing l with
 |_ n ih=>
  intro b r e hd hb;subst e;rcases List.eq_nil_or_concat r with rfl|⟨m,x,hr⟩
  ·have jS:=hd b (i8 ..);have e:fJ 0 [b]=b.toNat -48:=by show 10*0+(b.toNat -48)=_;omega
   rw[e,decDigits,dif_pos (by grind[dk]),MD jS]
  ·rw[List.concat_eq_append]at hr;subst hr;have hx:dk x:=hd x (by simp)
   have hm: ∀y∈b::m,dk y:=λy hy=>hd y (by
    grind)
   have xz:b.toNat≠48:=by grind
   have i1:=ih (b::m).length br (b::m) rfl b m rfl hm (.inl xz);have hv:fJ 0 (b::(m++[x]))=10*fJ 0 (b::m)+(x.toNat -48):=by rw[show b::(m++[x])=(b::m)++[x]from rfl,DP];rfl
   have fO:0<fJ 0 (b::m):=by
    have h1:=hm b (i8 ..);have:10*0+(b.toNat -48)<=fJ 0 (b::m):=Ad (acc:=10*0+(b.toNat -48)) (l:=m)
    grind[dk]
   unfold dk at hx;show decDigits (fJ 0 (b::(m++[x])))=_;rw[hv,decDigits,dif_neg K0,show(10*fJ 0 (b::m)+(x.toNat -48))/10=fJ 0 (b::m)by omega,show(10*fJ 0 (b::m)+(x.toNat -48))%10=x.toNat -48 by omega,i1,MD hx];rfl
def BR (s:au):Nat:=if(s.getD 0 0).toNat =45 then 1 else 0
def BS (d:Nat)(s:au):Prop:=s.length=BR s\/d<s.length -BR s\/((s.getD (BR s) 0).toNat =48/\1<s.length)
instance (d:Nat)(s:au):Decidable (BS d s):=inferInstanceAs (Decidable (_\/_\/_))
def fQ (d:Nat)(s:au):Option Int:=
 if BS d s then none else if ∀b∈s.drop (BR s),dk b then some (if BR s=1 then -(fJ 0 (s.drop (BR s)):Int)else(fJ 0 (s.drop (BR s)):Int))else none
def agr (s:au):BR s<=s.length:=by
 unfold BR
 cases s with
 |nil=>simp
 |cons b s=>grind
def DQ {s:au}{a i:Nat}(h1:a<=i)(h2:i<s.length):(s.take (i+1)).drop a=(s.take i).drop a++[s.getD i 0]:=by grind[List.take_succ_eq_append_getElem]
def MF {s:au}{a i:Nat}(h1:a<=i)(h2:i<s.length)(h3:dk (s.getD i 0)):((fJ 0 ((s.take (i+1)).drop a):Nat):Int)=10*((fJ 0 ((s.take i).drop a):Nat):Int)+(((s.getD i 0).toNat :Nat) -48:Int):=by
 rw[DQ h1 h2,DP];unfold dk at h3;show((10*fJ 0 _+((s.getD i 0).toNat -48):Nat):Int)=_;omega
def oE {l:au}(h: ∀b∈l,dk b)(hl:l.length<=18):(fJ 0 l:Int)<1000000000000000000:=by
 have h1:=JL l 0 h
 have h2:(0+1)*10^l.length<=10^18:=by
  rw[jZ,Nat.one_mul];exact XD K9 hl
 omega
def Bf {l:au}(h: ∀b∈l,dk b)(hl:l.length<=17):(fJ 0 l:Int)<100000000000000000:=by
 have h1:=JL l 0 h
 have h2:(0+1)*10^l.length<=10^17:=by
  rw[jZ,Nat.one_mul];exact XD K9 hl
 omega
def jc (s:au)(c:Nat):Nat->List au × Nat
 |0=>([],0)
 |i+1=>if(s.getD i 0).toNat =c then((jc s c i).1++[(s.take i).drop (jc s c i).2],i+1)else jc s c i
def ags (s:au)(c:Nat):List au:=(jc s c s.length).1++[s.drop (jc s c s.length).2]
def JM (s:au)(c:Nat): ∀i,(jc s c i).2<=i/\(jc s c i).1.length <=i
 |0=>⟨dw _,dw _⟩
 |i+1=>by
  obtain⟨h1,h2⟩:=JM s c i;unfold jc
  grind
def aZ (l:List au)(x:au):Int:=if x∈l then(l.idxOf x:Int)else -1
theorem fp {l:List au}{x:au}(h:x∉l):aZ l x= -1:=by unfold aZ;rw[if_neg h]
def Tm {l:List au}{x:au}{i:Nat}(h:i<l.length)(e:l[i]=x)(dx:x∉l.take i):aZ l x=i:=by
 have hm:x∈l:=by rw[<- e];exact oh h
 unfold aZ;rw[if_pos hm]
 have:l.idxOf x=i:=by
  have hs:l=l.take i++x::l.drop (i+1):=by rw[<- e,List.getElem_cons_drop h,Lu]
  rw[hs,List.idxOf_append,if_neg dx,List.idxOf_cons_self];simp;omega
 rw[this]
def YZ: ∀(l:au) (acc:Nat),(∀b∈l,dk b)->fJ acc l<1000000000000000000->parseUint10 acc l= .ok (fJ acc l)
 | [],_,_,_=>rfl
 |c::r,acc,h,hl=>by
  have hc:=h c (i8 ..);have h1:10*acc+(c.toNat -48)<=fJ (10*acc+(c.toNat -48)) r:=Ad;have h2:fJ (10*acc+(c.toNat -48)) r<1000000000000000000:=hl;have ih:=YZ r (10*acc+(c.toNat -48)) (λb hb=>h b (i7 _ hb)) h2;unfold dk at hc;show(if 48<=c.toNat/\c.toNat<=57 then if 1844674407370955162<=acc then _ else if 18446744073709551616<=acc*10+(c.toNat -48)then _ else parseUint10 (acc*10+(c.toNat -48)) r else _)=_;rw[if_pos hc,if_neg K0,if_neg K0,Nat.mul_comm acc 10,ih];rfl
def Y0 {l:au}(h0:l≠[])(h: ∀b∈l,dk b)(hl:l.length<=18):parseMag l= .ok (fJ 0 l):=by
 unfold parseMag;rw[if_neg h0];exact YZ l 0 h (by have:=oE h hl;omega)
def b45 {c:UInt8}(h:c.toNat=45):c=45:=CU.1 h
theorem MG (r:au):trimPrefix (45::r) [45]=r:=by simp[trimPrefix,hasPrefix]
theorem DR {c:UInt8}(h:c.toNat≠45)(r:au):trimPrefix (c::r) [45]=c::r:=by
 have: ¬(45:UInt8)=c:=λe=>h (by rw[<- e];rfl)
 grind[trimPrefix,hasPrefix]
def fW {d:Nat}{s:au}{n:Int}(hd:d<=18)(h:fQ d s=some n):atoiAll s= .ok n/\itoa n=s/\(trimPrefix s [45]).length <=d/\ -9223372036854775808<=n/\n<=9223372036854775807:=by
 unfold fQ at h;split at h
 ·cases h
 rename_i hb;split at h
 ·rename_i xj
  cases s with
  |nil=>exact absurd (.inl rfl) hb
  |cons c r=>
   by_cases KL:c.toNat=45
   ·have hc:=b45 KL;subst hc;have ea:BR (45::r)=1:=rfl;unfold BS at hb;rw[ea]at h hb xj;simp only[kD,XE,xL]at hb xj h;simp only[if_true]at h;have hn:n= -(fJ 0 r:Int):=by grind
    cases r with
    |nil=>grind
    |cons b r'=>
     have anP:b.toNat≠48:=by grind
     have bB:(b::r').length <=d:=by omega
     have xz:=xj b (i8 ..);have fO:0<fJ 0 (b::r'):=aiH;have hsm:=oE xj K0;refine⟨?_,?_,?_,?_⟩
     ·rw[atoiAll_minus,Y0 (by simp) xj K0,hn];unfold signed
      grind
     ·unfold itoa;rw[if_pos K0,hn];have:(-(fJ 0 (b::r'):Int)).natAbs =fJ 0 (b::r'):=by omega
      grind[YY]
     grind[MG]
     ·omega
   ·have ea:BR (c::r)=0:=by unfold BR;grind
    unfold BS at hb;rw[ea]at h hb xj;simp only[kD,xL]at hb xj h;simp only[Nat.zero_ne_one,kJ]at h;have hn:n=(fJ 0 (c::r):Int):=by grind
    have hc1:=xj c (i8 ..);have aoz:c.toNat≠48\/r= []:=by grind
    have bB:(c::r).length <=d:=by grind
    have hsm:=oE xj K0;refine⟨?_,?_,?_,?_⟩
    ·rw[atoiAll_plain c r (by grind[dk]) KL,Y0 (by simp) xj K0,hn];unfold signless
     grind
    ·unfold itoa;rw[if_neg K0,hn];have:((fJ 0 (c::r):Nat):Int).toNat =fJ 0 (c::r):=by omega
     grind[YY]
    grind[DR]
    ·omega
 grind
def uQ {d:Nat}{n:Int}(h2:(trimPrefix (itoa n) [45]).length <=d):fQ d (itoa n)=some n:=by
 unfold itoa at*;split at h2
 ·rename_i h;rw[MG]at h2;obtain⟨b,r,e,hb⟩:=ME (u:=n.natAbs) K0;have xj:=Tk n.natAbs;have hv:=Tl n.natAbs;rw[if_pos h];have ea:BR (45::decDigits n.natAbs)=1:=rfl;have l6: ¬BS d (45::decDigits n.natAbs):=by grind[BS]
  unfold fQ
  grind
 ·rename_i h;have xj:=Tk n.toNat;have hv:=Tl n.toNat;rw[if_neg h];have e8:=agq n.toNat
  obtain⟨b,r,e⟩: ∃b r,decDigits n.toNat=b::r:=by
   cases hh:decDigits n.toNat with
   |nil=>grind
   |cons b r=>grind
  have xz:=xj b br;have KL:b.toNat≠45:=by grind[dk]
  rw[e,DR KL,<- e]at h2;have ea:BR (decDigits n.toNat)=0:=by rw[e];unfold BR;grind
  have l6: ¬BS d (decDigits n.toNat):=by
   unfold BS;rw[ea];rintro(h1|h1|⟨h1,h3⟩)
   grind
   ·omega
   ·rw[e]at h1 h3;by_cases h0:0<n.toNat
    grind[ME]
    grind[decDigits]
  unfold fQ
  grind
def DS (n:Int):Prop:= -9223372036854775808<=n/\n<=9223372036854775807
theorem wP {α:Type}{l:List α}{i:Nat}(h:i<l.length)(d:α):l.take (i+1)=l.take i++[l.getD i d]:=by
 rw[BH,nM h];exact aja
def jA {l:List Int}{P:Int->Prop}(hl: ∀n∈l,P n){i:Nat}(h:i<l.length):P (l.getD i 0):=by
 rw[show l.getD i 0=l[i]by simp[jE,h]];exact hl _ (oh h)
def av (c:Nat):au->List au
 | []=>[[]]
 |b::r=>if b.toNat=c then []::av c r else match av c r with
  |w::ws=>(b::w)::ws
  | []=>[[b]]
theorem lT (c:Nat): ∀s,av c s≠[]
 | []=>by simp[av]
 |b::r=>by grind[av]
def kp (c:UInt8): ∀s:au,(indexByte s c= -1/\av c.toNat s= [s])\/∃i:Nat,i<s.length/\indexByte s c=i/\av c.toNat s=s.take i::av c.toNat (s.drop (i+1))
 | []=>.inl ⟨rfl,rfl⟩
 |b::r=>by
  by_cases hb:b=c
  ·subst hb;refine .inr ⟨0,by simp,?_,?_⟩
   ·unfold indexByte;grind
   ·show(if b.toNat=b.toNat then _ else _)=_
    grind
  ·have jS: ¬b.toNat=c.toNat:=λe=>hb (CU.1 e)
   rcases kp c r with⟨h1,h2⟩|⟨i,h1,h2,h3⟩
   ·refine .inl ⟨?_,?_⟩
    ·unfold indexByte;grind
    ·unfold av;grind
   ·refine .inr ⟨i+1,by grind,?_,?_⟩
    ·unfold indexByte;grind
    ·show(if b.toNat=c.toNat then _ else match av c.toNat r with|w::ws=>(b::w)::ws| []=>[[b]])=_
     grind
def DT (c:UInt8): ∀(n:Nat) (s:au),s.length<=n->splitK [c] 0 (count s [c]) s=av c.toNat s/\(av c.toNat s).length =count s [c]+1
 |n,s,hn=>by
  rcases kp c s with⟨h1,h2⟩|⟨i,h1,h2,h3⟩
  ·rw[<- index_one]at h1;rw[count_miss h1,h2];exact⟨rfl,rfl⟩
  ·rw[<- index_one]at h2;rw[count_hit (by simp) h2,h3,Nat.add_comm 1];have hl:(s.drop (i+1)).length <s.length:=by grind
   cases n with
   |zero=>omega
   |succ n=>
    have ih:=DT c n (s.drop (i+1)) K0;simp only[kD,zQ,jZ];refine⟨?_,by omega⟩;show(if(index s [c]== -1)=true then _ else _)=_
    grind
def tJ (s:au)(c:UInt8):Go.Fw.CF s c=av c.toNat s/\(Go.Fw.CF s c).length =countB (Go.Fw.B s) (Go.Fw.B [c])+1:=by
 have e:countB (Go.Fw.B s) (Go.Fw.B [c])=count s [c]:=by grind[Go.Fw.jI]
 have h:=DT c s.length s (dw _)
 grind[Go.Fw.CF]
def yB (c:Nat)(b:UInt8): ∀(t:au) (ps:List au) (w:au),av c t=ps++[w]->av c (t++[b])=if b.toNat=c then ps++[w]++[[]]else ps++[w++[b]]
 | [],ps,w,h=>by
  have h': [[]]=ps++[w]:=h
  have:ps= []/\w= []:=by
   cases ps with
   |nil=>grind
   |cons p ps=>simp at h'
  obtain⟨rfl,rfl⟩:=this;show(if b.toNat=c then []::[[]]else _)=_
  grind
 |x::t,ps,w,h=>by
  by_cases hx:x.toNat=c
  ·have h1: []::av c t=ps++[w]:=by rw[<- h];exact(if_pos hx).symm
   cases ps with
   |nil=>
    grind[lT]
   |cons p ps=>
    have h2:p= []/\av c t=ps++[w]:=by grind
    have ih:=yB c b t ps w h2.2;show(if x.toNat=c then []::av c (t++[b])else _)=_
    grind
  ·have e8:=lT c t
   cases hs:av c t with
   |nil=>grind
   |cons w0 ws=>
    have h1:(x::w0)::ws=ps++[w]:=by
     rw[<- h];show _=(if x.toNat=c then _ else match av c t with|w::ws=>(x::w)::ws| []=>[[x]])
     grind
    have go: ∀u us,av c (t++[b])=u::us->av c (x::t++[b])=(x::u)::us:=by
     intro u us e;show(if x.toNat=c then _ else match av c (t++[b])with|w::ws=>(x::w)::ws| []=>[[x]])=_
     grind
    cases ps with
    |nil=>
     have h2:x::w0=w/\ws= []:=by grind
     obtain⟨rfl,rfl⟩:=h2;have ih:=yB c b t [] w0 br
     grind
    |cons p ps=>
     have h2:x::w0=p/\ws=ps++[w]:=by grind
     obtain⟨rfl,rfl⟩:=h2;have ih:=yB c b t (w0::ps) w br
     grind
def MH (s:au)(c:Nat): ∀i,i<=s.length->av c (s.take i)=(jc s c i).1++[(s.take i).drop (jc s c i).2]
 |0,_=>by simp[av,jc]
 |i+1,h=>by
  have ih:=MH s c i K0;have h2:=(JM s c i).1
  have e:s.take (i+1)=s.take i++[s.getD i 0]:=by
   have:=DQ (s:=s) (a:=0) (i:=i) (dC _) K0
   grind
  have hs:=yB c (s.getD i 0) (s.take i) _ _ ih;rw[e,hs];show _=(if(s.getD i 0).toNat =c then((jc s c i).1++[(s.take i).drop (jc s c i).2],i+1)else jc s c i).1++[(s.take i++[s.getD i 0]).drop (if(s.getD i 0).toNat =c then((jc s c i).1++[(s.take i).drop (jc s c i).2],i+1)else jc s c i).2]
  grind
theorem iK (s:au)(c:Nat):ags s c=av c s:=by
 have:=MH s c s.length (dw _);rw[lu]at this;exact this.symm
theorem Ae {c:Nat}: ∀ {w:au},(∀b∈w,b.toNat≠c)->av c w= [w]/\∀d r,d.toNat=c->av c (w++d::r)=w::av c r
 | [],_=>⟨rfl,λd r hd=>by show(if d.toNat=c then _ else _)=_;grind⟩
 |b::w,h=>by
  have ih:=Ae (c:=c) (w:=w) λx hx=>h x (i7 _ hx);have hb:=h b (i8 ..);refine⟨?_,λd r hd=>?_⟩
  ·unfold av;grind
  ·show(if b.toNat=c then _ else match av c (w++d::r)with|w::ws=>(b::w)::ws| []=>[[b]])=_
   grind
def MI: ∀(x:au) (l:List au),(∀w∈x::l,∀b∈w,b.toNat≠32)->av 32 (join (x::l) [32])=x::l
 |x,[],h=>by grind[join_one,Ae]
 |x,y::l,h=>by
  have ih:=MI y l λw hw=>h w (i7 _ hw);have e:join (x::y::l) [32]=x++32::join (y::l) [32]:=by grind[join_cons,joinTail]
  rw[e,(Ae (h x (i8 ..))).2 32 _ rfl,ih]
theorem bZ (c:Nat): ∀s:au,(av c s).length <=s.length+1/\∀w∈av c s,w.length<=s.length
 | []=>by simp[av]
 |b::r=>by
  have ih:=bZ c r
  grind[av]
end Go.Plain
namespace Go.Fw
open Go.RowKit (Below)
open Go.Shelf Go.Plain
structure anp where
 split:Nat
 splitN:Nat
 cut:Nat
 atoi:Nat
 itoa:Nat
 trim:Nat
def anq (l:List (List UInt8)):mb:=.own 1 (.view (ab l))
end Go.Fw
namespace Go.Proofs.Tryz
open Go.Fw
namespace Ty
abbrev i0:ZC:=.lit (.int .i64 0)
abbrev b0:ZC:=.lit (.bool false)
abbrev s0:ZC:=.lit (.string (ByteArray.mk #[]))
abbrev w0:ZC:=.lit (.int .u64 0)
abbrev y0:ZC:=.lit (.int .u8 0)
abbrev v0:ZC:=.lit (.int .u32 0)
abbrev z0:ZC:=.lit .nilFunc
abbrev p0:ZC:=.lit (.pointer none)
abbrev n0:ZC:=.lit .nilIface
abbrev F:=false
abbrev eI:AT:=.int .i64
abbrev eY:AT:=.int .u8
abbrev eW:AT:=.int .u64
abbrev tF:TI:=⟨.func,1,8,[z0],[F],none⟩
abbrev tI:TI:=⟨eI,1,8,[i0],[F],some [eI]⟩
abbrev tB:TI:=⟨.bool,1,1,[b0],[F],some [.bool]⟩
abbrev tS:TI:=⟨.str,1,16,[s0],[F],some [.str]⟩
abbrev tY:TI:=⟨eY,1,1,[y0],[F],some [eY]⟩
abbrev tW:TI:=⟨eW,1,8,[w0],[F],some [eW]⟩
abbrev tL(n:TypeId)(k:=false):TI:=⟨.slice n,1,24,[.nil],[k],none⟩
abbrev tP(n:TypeId):TI:=⟨.ptr n,1,8,[p0],[F],none⟩
abbrev tN:TI:=⟨.iface,1,16,[n0],[F],none⟩
abbrev u7:TI:=⟨.struct [(0,2),(1,3),(2,4),(3,6)],4,24,[i0,i0,b0,y0],[F,F,F,F],some [eI,eI,.bool,eY]⟩
abbrev u13:TI:=⟨.struct [(0,9),(1,12)],2,24,[s0,w0],[F,F],none⟩
abbrev u18:TI:=⟨.struct [(0,17)],1,8,[p0],[F],none⟩
abbrev u21:TI:=⟨.int .i32,1,4,[.lit (.int .i32 0)],[F],some [.int .i32]⟩
abbrev u26:TI:=⟨.struct [(0,22),(1,23),(2,24),(3,25),(4,3),(5,3)],6,112,[.nil,.nil,.nil,.nil,i0,i0],[F,F,F,F,F,F],none⟩
abbrev u35:TI:=⟨.struct [(0,3),(1,9),(2,9)],3,40,[i0,s0,s0],[F,F,F],some [eI,.str,.str]⟩
abbrev u37:TI:=⟨.struct [(0,3),(1,3),(2,3),(3,4)],4,32,[i0,i0,i0,b0],[F,F,F,F],some [eI,eI,eI,.bool]⟩
abbrev u39:TI:=⟨.struct [(0,38),(4,38),(8,3)],9,72,[i0,i0,i0,b0,i0,i0,i0,b0,i0],[F,F,F,F,F,F,F,F,F],some [eI,eI,eI,.bool,eI,eI,eI,.bool,eI]⟩
abbrev u43:TI:=⟨.struct [(0,9),(1,40),(10,23),(11,41),(12,4),(13,4),(14,4),(15,3),(16,42)],17,176,[s0,i0,i0,i0,b0,i0,i0,i0,b0,i0,.nil,.nil,b0,b0,b0,i0,.nil],(List.replicate 17 false),none⟩
abbrev u51:TI:=⟨.struct [(0,3),(1,3)],2,16,[i0,i0],[F,F],some [eI,eI]⟩
abbrev u53:TI:=⟨.struct [(0,9),(1,3),(2,23),(3,9),(4,52)],6,80,[s0,i0,.nil,s0,i0,i0],[F,F,F,F,F,F],none⟩
abbrev u57:TI:=⟨.struct [(0,4),(1,4),(2,23),(3,9),(4,23),(5,56)],6,96,[b0,b0,.nil,s0,.nil,.nil],[F,F,F,F,F,F],none⟩
abbrev u77:TI:=⟨.struct [(0,3),(1,52),(3,52),(5,52),(7,52)],9,72,[i0,i0,i0,i0,i0,i0,i0,i0,i0],[F,F,F,F,F,F,F,F,F],some [eI,eI,eI,eI,eI,eI,eI,eI,eI]⟩
abbrev u99:TI:=⟨.struct [(0,3),(1,3),(2,3),(3,3),(4,3)],5,40,[i0,i0,i0,i0,i0],[F,F,F,F,F],some [eI,eI,eI,eI,eI]⟩
abbrev ale:TI:=⟨.struct [(0,9),(1,3)],2,24,[s0,i0],[F,F],some [.str,eI]⟩
abbrev alf:TI:=⟨.struct [(0,9),(1,23)],2,40,[s0,.nil],[F,F],none⟩
abbrev acK:TI:=⟨.struct [(0,9),(1,3),(2,3),(3,4)],4,40,[s0,i0,i0,b0],[F,F,F,F],some [.str,eI,eI,.bool]⟩
abbrev alg:TI:=⟨.struct [(0,27),(6,28),(7,58)],13,232,[.nil,.nil,.nil,.nil,i0,i0,.nil,b0,b0,.nil,s0,.nil,.nil],(List.replicate 13 false),none⟩
abbrev alh:TI:=⟨.struct [(0,23),(1,67),(2,9)],3,64,[.nil,.nil,s0],[F,true,F],none⟩
abbrev ali:TI:=⟨.struct [(0,3),(1,3),(2,3),(3,4),(4,149)],5,40,[i0,i0,i0,b0,z0],[F,F,F,F,F],none⟩
abbrev agt:TI:=⟨.struct [(0,159),(2,159)],4,32,[i0,i0,i0,i0],[F,F,F,F],some [eI,eI,eI,eI]⟩
abbrev alj:TI:=⟨.struct [(0,3),(1,161),(5,162)],6,64,[i0,i0,i0,i0,i0,.nil],[F,F,F,F,F,F],none⟩
abbrev acL:TI:=⟨.struct [(0,3),(1,67)],2,32,[i0,.nil],[F,true],none⟩
abbrev alk:TI:=⟨.struct [(0,9),(1,96)],4,40,[s0,i0,i0,i0],[F,F,F,F],some [.str,eI,eI,eI]⟩
abbrev alm:TI:=⟨.struct [(0,67),(1,3)],2,32,[.nil,i0],[true,F],none⟩
abbrev aln:TI:=⟨.struct [(0,9),(1,3),(2,3),(3,161),(7,308)],8,88,[s0,i0,i0,i0,i0,i0,i0,.nil],[F,F,F,F,F,F,F,F],none⟩
abbrev alo:TI:=⟨.struct [(0,9),(1,9),(2,201)],3,48,[s0,s0,n0],[F,F,F],none⟩
abbrev alp:TI:=⟨.struct [(0,4)],1,1,[b0],[F],some [.bool]⟩
abbrev acM:TI:=⟨.struct [(0,3),(1,3),(2,3)],3,24,[i0,i0,i0],[F,F,F],some [eI,eI,eI]⟩
abbrev alq:TI:=⟨.struct [(0,5),(1,5)],2,2,[y0,y0],[F,F],some [eY,eY]⟩
abbrev alr:TI:=⟨.struct [(0,9)],1,16,[s0],[F],some [.str]⟩
abbrev als:TI:=⟨.struct [(0,310)],8,88,[s0,i0,i0,i0,i0,i0,i0,.nil],[F,F,F,F,F,F,F,F],none⟩
abbrev alt:TI:=⟨.struct [(0,394),(4,3),(5,67),(6,67)],7,88,[i0,i0,i0,i0,i0,.nil,.nil],[F,F,F,F,F,true,true],none⟩
abbrev alu:TI:=⟨.struct [(0,423),(2,423)],4,64,[i0,.nil,i0,.nil],[F,true,F,true],none⟩
abbrev alv:TI:=⟨.struct [(0,17),(1,17),(2,17),(3,9)],4,40,[p0,p0,p0,s0],[F,F,F,F],none⟩
abbrev alw:TI:=⟨.struct [(0,461)],0,0,[],[],none⟩
abbrev alx:TI:=⟨.struct [(0,12),(1,12),(2,345),(3,464),(4,5),(5,5),(6,465),(7,466),(8,370),(9,467),(10,468)],11,48,[w0,w0,v0,y0,y0,y0,y0,z0,p0,.lit (.int .i32 0),.lit (.int .i32 0)],[F,F,F,F,F,F,F,F,F,F,F],none⟩
end Ty
open Ty in
noncomputable def cx:bQ:={P:=prog,gl:=[(0,[.lit (.string ⟨#[121]⟩),.lit (.int .i64 1),.lit (.int .i64 (-1)),.lit (.int .i64 0),.lit (.string ⟨#[100]⟩),.lit (.int .i64 1),.lit (.int .i64 0),.lit (.int .i64 0),.lit (.string ⟨#[122]⟩),.lit (.int .i64 1),.lit (.int .i64 (-2)),.lit (.int .i64 1)]),(1,[.num .i64]),(2,[.err]),(3,[.err]),(6,Lib.pow10Tab.map λz=>.lit (.int .u64 z)),(9,[.lit (.int .i64 1),.lit (.int .i64 1),.lit (.int .i64 0),.lit (.int .i64 1)])],deep:=[44],fx:=[227,162,225,154,79,56,157,80,203,252],sx:=[(89,"record.go:493")],mz:=[(151,true),(4,false)],hx:=[51,47,91,68,114,62,89,56,206,87,115,116,117,118,119,120,121,122,123,124,125,126,127,128,129,130,131,132,202,155],ty:=[
(1,tF),
(2,tI),
(3,tI),
(4,tB),
(5,tY),
(6,tY),
(7,u7),
(8,u7),
(9,tS),
(10,tS),
(11,tS),
(12,tW),
(13,u13),
(14,u13),
(15,tP 460),
(16,tP 463),
(17,tP 470),
(18,u18),
(19,u18),
(20,tN),
(21,u21),
(22,tL 103),
(23,tL 9),
(24,tL 54),
(25,tL 106),
(26,u26),
(27,u26),
(28,tL 36),
(29,tF),
(30,tF),
(31,tF),
(32,tF),
(34,tF),
(35,u35),
(36,u35),
(37,u37),
(38,u37),
(39,u39),
(40,u39),
(41,tL 121),
(42,tL 100),
(43,u43),
(44,u43),
(45,tI),
(47,tF),
(48,tF),
(49,tF),
(50,tF),
(51,u51),
(52,u51),
(53,u53),
(54,u53),
(55,tF),
(56,tL 44),
(57,u57),
(58,u57),
(60,tF),
(62,tF),
(63,tF),
(65,tF),
(66,tF),
(67,tL 3 true),
(69,tF),
(71,tF),
(73,tF),
(74,tF),
(75,tF),
(76,tF),
(77,u77),
(78,u77),
(80,tF),
(82,tF),
(83,tF),
(84,tF),
(86,tF),
(87,tF),
(89,tF),
(90,tF),
(91,tF),
(92,tF),
(93,tF),
(95,tF),
(96,⟨.array 3 3,3,24,[i0,i0,i0],[F,F,F],some [eI,eI,eI]⟩),
(98,tF),
(99,u99),
(100,u99),
(101,tF),
(102,ale),
(103,ale),
(104,tF),
(105,alf),
(106,alf),
(107,tF),
(108,tF),
(109,tL 112),
(110,tF),
(111,acK),
(112,acK),
(113,tF),
(114,tP 126),
(115,tP 44),
(117,tF),
(118,tF),
(119,tF),
(120,acK),
(121,acK),
(122,tF),
(124,tF),
(125,alg),
(126,alg),
(127,tF),
(128,tF),
(129,tF),
(130,tF),
(131,tF),
(133,tF),
(135,tF),
(136,tF),
(137,tF),
(138,tF),
(140,tF),
(141,tF),
(143,tF),
(145,tF),
(146,alh),
(147,alh),
(149,tF),
(150,ali),
(151,ali),
(152,⟨.map 9 151,1,8,[.lit (.map none)],[F],none⟩),
(153,tF),
(154,tF),
(156,tF),
(157,tF),
(158,u51),
(159,u51),
(160,agt),
(161,agt),
(162,tL 161),
(163,alj),
(164,alj),
(166,tF),
(167,acL),
(168,acL),
(170,tF),
(171,tF),
(173,tF),
(175,tF),
(176,tF),
(177,tF),
(178,tF),
(179,tF),
(180,tF),
(181,tF),
(182,tF),
(183,tF),
(184,tI),
(185,tF),
(186,tF),
(187,tF),
(188,tF),
(189,tF),
(190,tL 45 true),
(191,tF),
(192,tF),
(193,tF),
(194,tL 196),
(195,alk),
(196,alk),
(197,⟨.array 3 196,12,120,[s0,i0,i0,i0,s0,i0,i0,i0,s0,i0,i0,i0],[F,F,F,F,F,F,F,F,F,F,F,F],some [.str,eI,eI,eI,.str,eI,eI,eI,.str,eI,eI,eI]⟩),
(198,tF),
(199,tF),
(200,tN),
(201,tN),
(203,tF),
(204,tF),
(205,tF),
(206,tF),
(207,tF),
(209,tF),
(210,tF),
(211,tF),
(212,tF),
(213,tF),
(214,tF),
(215,tF),
(216,tF),
(218,tF),
(219,tF),
(220,tF),
(221,alm),
(222,alm),
(224,tF),
(226,tF),
(227,tF),
(228,tF),
(229,tF),
(230,tF),
(231,tF),
(232,tF),
(233,tF),
(234,tF),
(235,tF),
(236,tF),
(237,⟨.array 5 3,5,40,[i0,i0,i0,i0,i0],[F,F,F,F,F],some [eI,eI,eI,eI,eI]⟩),
(238,tP 184),
(239,tL 5),
(240,tF),
(241,tF),
(242,tF),
(243,tF),
(244,tF),
(245,tF),
(246,tF),
(247,tF),
(248,tF),
(249,tF),
(250,tF),
(251,tF),
(252,tF),
(253,tF),
(254,tF),
(255,⟨.array 9 242,9,72,[z0,z0,z0,z0,z0,z0,z0,z0,z0],[F,F,F,F,F,F,F,F,F],none⟩),
(256,tF),
(257,tF),
(258,tF),
(260,tF),
(262,tF),
(263,tF),
(264,tF),
(265,tF),
(266,tP 58),
(267,tF),
(268,tF),
(270,tF),
(271,tF),
(273,tF),
(274,tF),
(276,tF),
(277,tF),
(278,tF),
(279,tF),
(280,tF),
(281,tF),
(282,tF),
(284,tF),
(286,tF),
(287,tF),
(288,tF),
(289,tF),
(290,tF),
(291,⟨.map 9 4,1,8,[.lit (.map none)],[F],none⟩),
(292,tF),
(293,tF),
(295,tF),
(296,tF),
(297,tI),
(299,tF),
(300,tP 334),
(301,tF),
(302,tF),
(303,tF),
(304,tF),
(305,tF),
(306,tW),
(307,tF),
(308,tL 355),
(309,aln),
(310,aln),
(312,tF),
(314,tF),
(315,tF),
(316,tF),
(317,tF),
(318,tF),
(320,tF),
(321,tF),
(322,tF),
(323,tF),
(324,tF),
(325,tF),
(326,tF),
(327,tF),
(328,tF),
(329,tF),
(330,tW),
(332,tF),
(333,alo),
(334,alo),
(335,tF),
(336,⟨.array 24 5,24,24,(List.replicate 24 y0),(List.replicate 24 false),some (List.replicate 24 eY)⟩),
(337,tF),
(338,tF),
(340,tF),
(341,tF),
(342,tF),
(343,tF),
(344,tF),
(345,⟨.int .u32,1,4,[v0],[F],some [.int .u32]⟩),
(347,tF),
(348,tF),
(349,tP 351),
(350,alp),
(351,alp),
(352,tF),
(353,tF),
(354,acM),
(355,acM),
(356,tF),
(357,tF),
(359,tF),
(360,tF),
(361,tF),
(362,u51),
(363,u51),
(364,tF),
(365,⟨.array 256 5,256,256,(List.replicate 256 y0),(List.replicate 256 false),some (List.replicate 256 eY)⟩),
(366,alq),
(367,alq),
(368,⟨.array 16 367,32,32,(List.replicate 32 y0),(List.replicate 32 false),some (List.replicate 32 eY)⟩),
(369,tF),
(370,tP 5),
(371,tP 373),
(372,alr),
(373,alr),
(374,tF),
(375,⟨.array 20 330,20,160,(List.replicate 20 w0),(List.replicate 20 false),some (List.replicate 20 eW)⟩),
(376,⟨.array 65 5,65,65,(List.replicate 65 y0),(List.replicate 65 false),some (List.replicate 65 eY)⟩),
(377,tF),
(379,tF),
(380,tF),
(382,tF),
(384,tF),
(385,tF),
(386,tF),
(387,tF),
(388,tF),
(389,als),
(390,als),
(392,tF),
(393,tF),
(394,agt),
(395,alt),
(396,alt),
(398,tF),
(399,tF),
(400,tF),
(401,⟨.array 3 52,6,48,[i0,i0,i0,i0,i0,i0],[F,F,F,F,F,F],some [eI,eI,eI,eI,eI,eI]⟩),
(402,tF),
(403,tF),
(404,tF),
(405,tF),
(406,tF),
(407,tF),
(408,tF),
(409,tF),
(410,tF),
(411,tF),
(412,tF),
(413,tF),
(414,tF),
(415,tF),
(416,tF),
(417,tF),
(418,⟨.array 32 5,32,32,(List.replicate 32 y0),(List.replicate 32 false),some (List.replicate 32 eY)⟩),
(419,⟨.array 64 5,64,64,(List.replicate 64 y0),(List.replicate 64 false),some (List.replicate 64 eY)⟩),
(420,tF),
(421,tF),
(422,acL),
(423,acL),
(424,alu),
(425,alu),
(426,tF),
(427,tF),
(428,tF),
(429,tF),
(430,tL 52),
(431,tF),
(432,tI),
(434,tF),
(435,tF),
(436,tF),
(437,tF),
(438,tF),
(439,tF),
(440,tF),
(441,tF),
(442,tF),
(443,tF),
(444,tW),
(445,tF),
(446,tF),
(447,tF),
(448,tP 3),
(449,tF),
(450,tF),
(451,tF),
(452,tF),
(453,tF),
(454,tP 444),
(455,tF),
(456,tF),
(457,tF),
(458,tF),
(459,alv),
(460,alv),
(461,⟨.array 0 16,0,0,[],[],none⟩),
(462,alw),
(463,alw),
(464,tY),
(465,tY),
(466,tF),
(467,u21),
(468,u21),
(469,alx),
(470,alx),
(471,tF),
(473,acM),
(474,acM)]}
def lG:cx.Ok:=⟨by kernel_rfl,by kernel_rfl,by kernel_rfl⟩
def sF {f:FuncId}{c:Code}{args:List SV}{r:mb}(fn:Func)(h:m6 cx c (entry args) (λS=>acq cx fn S λr'=>r'=r) (λ_ _=>False) (λS=>acq cx fn S λr'=>r'=r))
  (h1:iG cx.P f=true:=by kernel_rfl)(h2:cx.P.funcs[f]? =some fn:=by kernel_rfl)(h3:fn.body=some c:=by rfl)(h4:bM fn.ntmps c=true:=by kernel_rfl)(h5:args.length<=fn.ntmps:=by exact fP rfl):nN cx.P cx.gl f args r:=
 PV lG h1 h2 h3 h4 h5 h
abbrev ad:=nN cx.P cx.gl
open Go.IntWalk Go.Plain
def acN:(1,[SC.num .i64])∈cx.gl:=jt (i:=1) dp
def rp (s:List UInt8)(c:UInt8)(hl:s.length<=1000000):ad 57 [SS s,SS [c]] (anq (av c.toNat s)):=by
 have h:=tJ s c;rw[<- h.1];exact HH R1 dp dp acN s c hl h.2
end Go.Proofs.Tryz
namespace Go.Plain
open Go.Lib
def wN (sg:Bool)(d:Nat)(s:au):Option Int:=match fQ d s with
 |some n=>if sg=true\/0<=n then some n else none
 |none=>none
def yC {d:Nat}{s:au}{n:Int}(h:fQ d s=some n):0<s.length:=by
 unfold fQ at h;split at h
 grind
 ·rename_i hb
  cases s with
  |nil=>exact absurd (.inl rfl) hb
  |cons c r=>simp
def qi {d:Nat}{s:au}{n:Int}(h:fQ d s=some n):(s.getD 0 0).toNat =45↔¬0<=n:=by
 unfold fQ at h;split at h
 ·cases h
 rename_i hb;split at h
 ·rename_i xj;by_cases KL:(s.getD 0 0).toNat =45
  ·have ea:BR s=1:=by unfold BR;grind
   rw[ea]at h xj;unfold BS at hb;rw[ea]at hb;rw[if_pos rfl]at h;have hn:n= -(fJ 0 (s.drop 1):Int):=by grind
   refine⟨λ_=>?_,λ_=>KL⟩
   match s,hb,xj,KL,hn with
   | [],hb,_,KL,_=>simp_all
   | [c],hb,_,_,_=>grind
   |c::b::r',hb,xj,_,hn=>
    have anP:b.toNat≠48:=λe=>hb (.inr (.inr ⟨e,by simp⟩));have xz:=xj b (by simp);have fO:0<fJ 0 (b::r'):=aiH
    grind
  ·exact akp
 grind
def P5 {d:Nat}{s:au}{n:Int}(h:fQ d s=some n): ∀b∈s,b.toNat=45\/dk b:=by
 unfold fQ at h;split at h
 grind
 split at h
 ·rename_i xj;intro b hb;by_cases KL:(s.getD 0 0).toNat =45
  ·have ea:BR s=1:=by unfold BR;grind
   rw[ea]at xj
   cases s with
   |nil=>grind
   |cons c r=>
    grind
  ·exact akp
 grind
def iA {sg:Bool}{d:Nat}{s:au}{n:Int}(h:wN sg d s=some n):fQ d s=some n/\(sg=true\/0<=n):=by grind[wN]
def P6 {d:Nat}{s:au}{n:Int}(h:fQ d s=some n):wN false d s=if(s.getD 0 0).toNat =45 then none else some n:=by
 unfold wN;rw[h];have:=qi h
 grind
def Tn {sg:Bool}{d:Nat}{s:au}(h:fQ d s=none):wN sg d s=none:=by grind[wN]
def Ch (d:Nat)(s:au):wN true d s=fQ d s:=by grind[wN]
def DU {sg:Bool}{d:Nat}{s:au}{n:Int}(h:wN sg d s=some n): ∀b∈s,b.toNat=45\/dk b:=P5 (iA h).1
theorem uR (s:au)(c:UInt8):(cut s [c]=(s,[],false)/\av c.toNat s= [s])\/∃a b,cut s [c]=(a,b,true)/\av c.toNat s=a::av c.toNat b/\a.length<=s.length/\b.length<=s.length:=by
 rcases kp c s with⟨h1,h2⟩|⟨i,h1,h2,h3⟩
 ·rw[<- index_one]at h1;refine .inl ⟨?_,h2⟩;unfold cut;grind
 ·rw[<- index_one]at h2;refine .inr ⟨s.take i,s.drop (i+1),?_,h3,by grind,by simp⟩;unfold cut;grind
def DW {α β:Type}(f:au->Option α)(g:au->Option β):List au->Option (α × β)
 | [a,b]=>(f a).bind λx=>(g b).map λy=>(x,y)
 |_=>none
def DY {α β:Type}(c:UInt8)(f:au->Option α)(g:au->Option β)(s:au):Option (α × β):=DW f g (av c.toNat s)
def uS (s:au):Option (Int × Int):=DY 47 (wN false 4) (wN false 4) s
def Bg (s:au):Option (Int × Int × Int × Int):=(DY 32 uS uS s).map λp=>(p.1.1,p.1.2,p.2.1,p.2.2)
def JN {c:Nat}: ∀ {s:au} {b:UInt8},b∈s->b.toNat≠c->∃w∈av c s,b∈w
 |x::r,b,hb,hc=>by
  unfold av;by_cases hx:x.toNat=c
  ·rw[if_pos hx];rcases cQ.1 hb with rfl|hb
   grind
   ·obtain⟨w,h1,h2⟩:=JN hb hc
    grind
  ·rw[if_neg hx]
   cases hs:av c r with
   |nil=>grind[lT]
   |cons w ws=>
    show ∃w'∈(x::w)::ws,b∈w';rcases cQ.1 hb with rfl|hb;simp_all
    ·obtain⟨w',h1,h2⟩:=JN hb hc
     grind
def To {c:Nat}: ∀ {s:au},(∀b∈s,b.toNat≠c)->av c s= [s]
 | [],_=>rfl
 |x::r,h=>by
  unfold av;rw[if_neg (h x (by simp)),To λb hb=>h b br]
def acO {c:Nat}{s:au}{b:UInt8}(hb:b∈s)(hc:b.toNat=c): ∃x y r,av c s=x::y::r:=by
 induction s with
 |nil=>grind
 |cons x s ih=>
  unfold av;by_cases hx:x.toNat=c
  ·rw[if_pos hx]
   cases hs:av c s with
   |nil=>grind[lT]
   |cons w ws=>grind
  grind
def yD {α β:Type}{c:UInt8}{f:au->Option α}{g:au->Option β}{s:au}(h:av c.toNat s= [s]):DY c f g s=none:=by unfold DY;rw[h];rfl
def yE {α β:Type}{c:UInt8}{f:au->Option α}{g:au->Option β}(hg: ∀s,(∃y∈s,y=c)->g s=none){s a b:au}(h:av c.toNat s=a::av c.toNat b):
  DY c f g s=(f a).bind λx=>(g b).map λy=>(x,y):=by
 unfold DY;rw[h];by_cases hb: ∃y∈b,y=c
 ·obtain⟨y,hy,e⟩:=hb;obtain⟨p,q,r,e2⟩:=acO hy (aP UInt8.toNat e);rw[e2,hg b ⟨y,hy,e⟩];cases f a<;>rfl
 ·rw[To λy hy e=>hb ⟨y,hy,CU.1 e⟩];rfl
def oF {α β:Type}{p:Option α}{q:Option β}:((p.bind λx=>q.map λy=>(x,y)).isSome =(p.isSome&&q.isSome))/\∀z,(p.bind λx=>q.map λy=>(x,y))=some z->p=some z.1/\q=some z.2:=by
 cases p<;>cases q<;>refine⟨rfl,?_⟩<;>rintro⟨z1,z2⟩ h<;>simp at h
 grind
def JO {s:au}{c:UInt8}(h:c=47\/c=32\/c=59)(hs: ∃y∈s,y=c):wN false 4 s=none:=by
 obtain⟨y,hy,rfl⟩:=hs
 cases hw:wN false 4 s with
 |none=>rfl
 |some n=>
  have:=DU hw y hy;unfold dk at this;exfalso;rcases h with rfl|rfl|rfl<;>revert this<;>decide
def aly {s:au}(hs: ∃y∈s,y=(32:UInt8)):uS s=none:=by
 obtain⟨y,hy,rfl⟩:=hs;obtain⟨w,hw,h2⟩:=JN (c:=47) hy K9;unfold uS DY;rw[show(47:UInt8).toNat =47 from rfl];generalize av 47 s=l at*
 match l,hw with
 | [],hw=>rfl
 | [a],hw=>rfl
 | [a,b],hw=>
  have hn:=JO (s:=w) (c:=32) (.inr (.inl rfl)) ⟨32,h2,rfl⟩;simp only[cQ,mA,mB]at hw;rcases hw with rfl|rfl
  ·show(wN false 4 w).bind _=none
   grind
  ·show(wN false 4 a).bind (λx=>(wN false 4 w).map λy=>(x,y))=none;simp_all
 |a::b::c::r,hw=>rfl
def fR {α:Type}(f:au->Option α):List au->Option (List α)
 | []=>some []
 |s::r=>match f s,fR f r with
  |some n,some t=>some (n::t)
  |_,_=>none
variable {α:Type}{f:au->Option α}
theorem yF (a b:List au):fR f (a++b)=match fR f a,fR f b with
  |some x,some y=>some (x++y)
  |_,_=>none:=by
 induction a with
 |nil=>show fR f b=_;cases fR f b<;>rfl
 |cons s a ih=>
  grind[fR]
theorem DZ (s:au):fR f [s]=(f s).map λn=>[n]:=by
 show(match f s,some []with|some n,some t=>some (n::t)|_,_=>none)=_;cases f s<;>rfl
theorem uT {l:List au}{i:Nat}(h:i<l.length){xs:List α}(hx:fR f (l.take i)=some xs){n:α}(hn:f (l.getD i [])=some n):fR f (l.take (i+1))=some (xs++[n]):=by grind[wP,yF,DZ]
theorem tK {l:List au}{i:Nat}(h:i<l.length)(hn:f (l.getD i [])=none):fR f l=none:=by
 have hs:l=l.take i++([l.getD i []]++l.drop (i+1)):=by simp_all
 grind[yF,fR]
theorem yG: ∀ {l:List au} {xs:List α},fR f l=some xs->xs.length=l.length
 | [],xs,h=>by grind[fR]
 |s::r,xs,h=>by
  unfold fR at h;split at h
  ·rename_i n t h1 h2;have:xs=n::t:=by grind
   rw[this,kD,kD,yG h2]
  grind
end Go.Plain
namespace Go.Plain
open Go.Lib
def cD:List au->Option (Int × List Int)
 | []=>some (0,[])
 |w::r=>match wN false 7 w,fR (fQ 7) r with
  |some a,some b=>some (a,b)
  |_,_=>none
def Bh (w:au)(r:List au):cD (w::r)=(wN false 7 w).bind λa=>(fR (fQ 7) r).map λb=>(a,b):=by
 show(match wN false 7 w,fR (fQ 7) r with|some a,some b=>some (a,b)|_,_=>none)=_;cases wN false 7 w<;>cases fR (fQ 7) r<;>rfl
def P7 {ws:List au}{st:Int}{l:List Int}(h:cD ws=some (st,l)):l.length<=ws.length:=by
 unfold cD at h
 grind[yG]
def Bi {ws:List au}(h:0<ws.length){n:Int}(hn:wN false 7 (ws.getD 0 [])=some n):cD (ws.take 1)=some (n,[]):=by
 cases ws with
 |nil=>grind
 |cons w r=>
  have IE:wN false 7 w=some n:=hn;show cD [w]=_;rw[Bh,IE];rfl
def Bj {ws:List au}{i:Nat}(h0:0<i)(h:i<ws.length){st:Int}{l:List Int}(hx:cD (ws.take i)=some (st,l)){n:Int}(hn:fQ 7 (ws.getD i [])=some n):cD (ws.take (i+1))=some (st,l++[n]):=by
 cases ws with
 |nil=>grind
 |cons w r=>
  obtain⟨j,rfl⟩: ∃j,i=j+1:=⟨i -1,by omega⟩;have h':j<r.length:=by grind
  have AN:(match wN false 7 w,fR (fQ 7) (r.take j)with|some a,some b=>some (a,b)|_,_=>none)=some (st,l):=hx;have IE:fQ 7 (r.getD j [])=some n:=by grind
  show(match wN false 7 w,fR (fQ 7) (r.take (j+1))with|some a,some b=>some (a,b)|_,_=>none)=_
  grind[uT]
def D0 {ws:List au}{i:Nat}(h:i<ws.length)(hn:(if i=0 then wN false 7 (ws.getD i [])else fQ 7 (ws.getD i []))=none):cD ws=none:=by
 cases ws with
 |nil=>grind
 |cons w r=>
  rw[Bh];by_cases h0:i=0
  grind
  ·obtain⟨j,rfl⟩: ∃j,i=j+1:=⟨i -1,by omega⟩;rw[if_neg h0]at hn
   grind[tK,wN]
abbrev MJ:Type:=Int × Int × Int × Int
def eC (ws:List au):Option (Int × MJ × List MJ):=match wN false 4 (ws.getD 0 []),fR Bg (ws.drop 1)with
 |some e,some (q::ch)=>some (e,q,ch)
 |_,_=>none
def HJ {ws:List au}(h:wN false 4 (ws.getD 0 [])=none):eC ws=none:=by grind[eC]
def D1 {ws:List au}(h:fR Bg (ws.drop 1)=none):eC ws=none:=by grind[eC]
def D2 {ws:List au}(h:fR Bg (ws.drop 1)=some []):eC ws=none:=by grind[eC]
def Bk {ws:List au}{e:Int}{q:MJ}{ch:List MJ}(h1:wN false 4 (ws.getD 0 [])=some e)(h2:fR Bg (ws.drop 1)=some (q::ch)):eC ws=some (e,q,ch):=by grind[eC]
def HK {sg:Bool}{d:Nat}{s:au}{n:Int}(hd:d<=18)(h:wN sg d s=some n):DS n:=by
 obtain⟨_,_,_,h4⟩:=fW hd (iA h).1;exact h4
theorem Af {α β:Type}{c:UInt8}{f:au->Option α}{g:au->Option β}{s:au}{z:α × β}(h:DY c f g s=some z):(∃a,f a=some z.1)/\∃b,g b=some z.2:=by
 unfold DY at h;generalize av c.toNat s=l at*
 match l,h with
 | [a,b],h=>
  obtain⟨h1,h2⟩:=oF.2 z h
  grind
theorem agu {s:au}{p:Int × Int}(h:uS s=some p):DS p.1/\DS p.2:=by
 obtain⟨⟨a,h1⟩,b,h2⟩:=Af h;exact⟨HK K9 h1,HK K9 h2⟩
def P8 {s:au}{q:MJ}(h:Bg s=some q):DS q.1/\DS q.2.1/\DS q.2.2.1/\DS q.2.2.2:=by
 obtain⟨z,hz,rfl⟩:=my.1 h
 grind[Af,agu]
def yH {α:Type}{f:au->Option α}{P:α->Prop}(hP: ∀s x,f s=some x->P x): ∀ {l:List au} {xs:List α},fR f l=some xs->∀x∈xs,P x
 | [],xs,h=>by grind[fR]
 |s::r,xs,h=>by
  unfold fR at h;split at h
  ·rename_i n t h1 h2;have:xs=n::t:=by grind
   subst this;intro x hx;rcases cQ.1 hx with rfl|hx
   grind
   ·exact yH hP h2 x hx
  grind
def frS (a b:Int):au:=itoa a++[47]++itoa b
def HL (q:MJ):au:=frS q.1 q.2.1++[32]++frS q.2.2.1 q.2.2.2
theorem Y1 (s:au):(trimPrefix s [45]).length <=s.length:=by grind[trimPrefix]
def q4 (q:MJ):Prop:=(0<=q.1/\q.1<=9999)/\(0<=q.2.1/\q.2.1<=9999)/\(0<=q.2.2.1/\q.2.2.1<=9999)/\0<=q.2.2.2/\q.2.2.2<=9999
abbrev aj:=List UInt8
def okc (j:Nat)(c:UInt8):Prop:=((97<=c.toNat/\c.toNat<=122)\/(65<=c.toNat/\c.toNat<=90))\/(j≠0/\(c.toNat=45\/(48<=c.toNat/\c.toNat<=57)))
def P9 (s:aj)(i:Nat):Prop:=∀j<i,okc j (s.getD j 0)
def eK (s:aj):Prop:=(1<=s.length/\s.length<=12)/\P9 s s.length
instance (s:aj):Decidable (eK s):=by unfold eK P9 okc;infer_instance
def Ag {s:aj}{i:Nat}(h:P9 s i)(k:okc i (s.getD i 0)):P9 s (i+1):=λj hj=>by
 by_cases e:j=i
 grind
 ·exact h j K0
def Qa {s:aj}{i:Nat}(h:i<s.length)(k: ¬okc i (s.getD i 0)): ¬eK s:=λn=>k (n.2 i h)
def Vo (f:Nat->Int):Nat->Nat->Int × Int
 |0,_=>(0,0)
 |n+1,i=>if f i≠0 then((i:Int),f i)else Vo f n (i+1)
def cM (f:Nat->Int)(n:Nat):Int × Int:=Vo f n 0
def Tp {f:Nat->Int}: ∀ {n i k:Nat},i<=k->k<i+n->(∀j,i<=j->j<k->f j=0)->f k≠0->Vo f n i=((k:Int),f k)
 |0,i,k,h1,h2,_,_=>by omega
 |n+1,i,k,h1,h2,h3,h4=>by
  unfold Vo;by_cases e:i=k
  grind
  ·rw[if_neg br];exact Tp K0 K0 (λj h5 h6=>h3 j K0 h6) h4
def Tq {f:Nat->Int}: ∀ {n i:Nat},(∀j,i<=j->j<i+n->f j=0)->Vo f n i=(0,0)
 |0,_,_=>rfl
 |n+1,i,h=>by
  unfold Vo;rw[if_neg br];exact Tq λj h1 h2=>h j K0 K0
theorem fK {f:Nat->Int}{n k:Nat}(h:k<n)(h0: ∀j<k,f j=0)(h1:f k≠0):cM f n=((k:Int),f k):=Tp (dC _) K0 (λj _ hj=>h0 j hj) h1
theorem gT {f:Nat->Int}{n:Nat}(h: ∀j<n,f j=0):cM f n=(0,0):=Tq λj _ hj=>h j K0
def all_succ {f:Nat->Int}{i:Nat}(h: ∀j<i,f j=0)(k:f i=0): ∀j<i+1,f j=0:=λj hj=>by grind
def tM (f:Nat->Int): ∀n:Nat,(∀j<n,f j=0)\/∃k,k<n/\(∀j<k,f j=0)/\f k≠0
 |0=>.inl λj hj=>by omega
 |n+1=>by
  rcases tM f n with h|⟨k,h1,h2,h3⟩
  grind
  grind
theorem oG {f:Nat->Int}{n:Nat}(h:(cM f n).2=0): ∀j<n,f j=0:=by
 rcases tM f n with h'|⟨k,h1,h2,h3⟩;omega
 ·rw[fK h1 h2 h3]at h;omega
def jp (a b:Int):Int:=if a≠0 then a else b
theorem ji (b:Int):jp 0 b=b:=by grind[jp]
theorem eR {a:Int}(h:a≠0)(b:Int):jp a b=a:=if_pos h
def vY {a b:Int}:jp a b=0↔a=0/\b=0:=by
 unfold jp
 grind
def oW (a b:Int × Int):Int × Int:=if a.2≠0 then a else b
noncomputable def jG (s:aj):Int:=if eK s then 0 else 4
noncomputable def gW (l:List aj)(i:Nat):Int:=jp (jG (l.getD i [])) (if l.getD i []∈l.take i then 5 else 0)
def D3 (l all:List aj)(k:Nat):Int:=if l.getD k []∈all then(if l.getD k []∈l.take k then 23 else 0)else 6
def jP (l all:List aj):Int:=(cM (D3 l all) l.length).2
structure Ts where
 name:aj
 kind:Int
 bu:List aj
 rules:aj
 lo:Int
 hi:Int
structure Pl where
 ae:List (aj × Int)
 ap:List aj
 aa:List Ts
 parts:List (aj × List aj)
 dW:Int
 eH:Int
def dt:Ts:=⟨[],0,[],[],0,0⟩
def Pl.ay (p:Pl):List aj:=p.ae.map Prod.fst
def Pl.bd (p:Pl):List aj:=p.parts.map Prod.fst
def sf (k:Int):Prop:=k=1\/k=2
instance (k:Int):Decidable (sf k):=by unfold sf;infer_instance
def cO (l:List Ts):List aj:=l.map Ts.name
def Y2 (lo hi:Int):Int:=if((-1000000000000000<=lo/\lo<=1000000000000000)/\ -1000000000000000<=hi/\hi<=1000000000000000)then(if lo<=hi then 0 else 9)else 2
def Qb (l:List Ts)(t:Ts):Int:=if t.kind=2 then(if t.bu.length=0 then 10 else if(l.getD (aZ (cO l) (t.bu.getD 0 [])).toNat dt).kind =1 then 0 else 3)else 0
def Vp (re:aj->Int)(l:List Ts)(i:Nat):Int:=
 let t:=l.getD i dt
 jp (if 0<=t.kind/\t.kind<=3 then 0 else 15) (jp (jP t.bu ((cO l).take i)) (jp (Qb l t) (jp (if sf t.kind then re t.rules else if t.rules= []then 0 else 7) (Y2 t.lo t.hi))))
noncomputable def Pl.dn (p:Pl)(i:Nat):Int:=jp (gW p.ay i) (if 0<=(p.ae.getD i ([],0)).2/\(p.ae.getD i ([],0)).2<=3 then 0 else 15)
noncomputable def Pl.gK (re:aj->Int)(p:Pl)(i:Nat):Int:=jp (gW (cO p.aa) i) (Vp re p.aa i)
noncomputable def Pl.je (p:Pl)(i:Nat):Int:=jp (gW p.bd i) (jP (p.parts.getD i ([],[])).2 (cO p.aa))
def pI (n ahG:Nat):Int:=if 0<n then(if n<=ahG then 0 else 8)else 10
def ku (n ahG:Nat):Int:=if n<=ahG then 0 else 8
noncomputable def Pl.err (re:aj->Int)(p:Pl):Int × Int:=
 oW (0,pI p.ae.length 8) (oW (cM p.dn p.ae.length) (oW (0,pI p.ap.length 4) (oW (cM (gW p.ap) p.ap.length)
  (oW (0,ku p.aa.length 8) (oW (cM (p.gK re) p.aa.length) (oW (0,ku p.parts.length 6) (oW (cM p.je p.parts.length)
   (0,if(0<=p.dW/\p.dW<=1000)/\0<=p.eH/\p.eH<=1000000000000 then 0 else 2))))))))
def HM (voids:List aj)(out:List aj)(t:Ts):List aj:=if t.name∈voids\/∃n∈t.bu,n∈out then out++[t.name]else out
def jj (l:List Ts)(voids:List aj):List aj:=l.foldl (HM voids) []
def Bl {l:List Ts}{voids:List aj}{i:Nat}(h:i<l.length):jj (l.take (i+1)) voids=HM voids (jj (l.take i) voids) (l.getD i dt):=by grind[jj,List.take_add_one]
def rq (l:List Ts)(voids:List aj):(jj l voids).length <=l.length:=by
 have: ∀(l:List Ts) (out:List aj),(l.foldl (HM voids) out).length <=out.length+l.length:=by
  intro l
  induction l with
  |nil=>grind
  |cons t l ih=>
   grind[HM]
 have h:=this l [];simp only[zQ,jZ]at h;exact h
def getD_at {α:Type}{l:List α}{i:Nat}{d:α}(h:i<l.length):l.getD i d=l[i]:=by grind
def iL {l:List aj}{i:Nat}{x:aj}(h:i<l.length):x∈l.take (i+1)↔x∈l.take i\/x=l.getD i []:=by grind[List.take_add_one]
def rx {l:List Ts}{i:Nat}(h:i<l.length):(cO l).getD i []=(l.getD i dt).name :=by grind[cO]
def Y3 (l:List Ts)(i:Nat):cO (l.take i)=(cO l).take i:=by simp[cO,List.map_take]
end Go.Plain
namespace Go.Proofs.Tryz
open Go.Fw Go.IntWalk
abbrev I (n:Int):SV:=(false,[.lit (.int .i64 n)])
abbrev Bo (b:Bool):SV:=(false,[.lit (.bool b)])
abbrev vI (n:Int):Option DV:=some (.val (false,[.st (.lit (.int .i64 n))]))
abbrev J (n:Int):SC:=.lit (.int .i64 n)
abbrev F2 (a b:Int):SV:=(true,[J a,J b])
def Vq {l:List Int}{i:Nat}(h:i<l.length):(SC.ints l).elem (i:Int).toNat =some [J l[i]]:=by simp[SC.elem,h]
def vZ {a b:Int}(h:a=b):mb.one (I a)= .one (I b):=by rw[h]
def oH {a b:Bool}(h:a=b):mb.one (Bo a)= .one (Bo b):=by rw[h]
def Y4 {a b c d:Int}(h:a=c)(h':b=d):mb.one (F2 a b)= .one (F2 c d):=by rw[h,h']
def Tt (n:Int):Prop:= -9223372036854775807<=n/\n<=9223372036854775807
def pU (n:Int):Prop:= -9223372036854775808<=n/\n<=9223372036854775807
def Tt.i {n:Int}(h:Tt n):pU n:=⟨by have:=h.1;omega,h.2⟩
def Tt.ne {n:Int}(h:Tt n):n≠ -9223372036854775808:=by have:=h.1;omega
def ec (n lo hi:Int):ad 50 [I n,I lo,I hi] (.one (Bo (decide (lo<=n)&&decide (n<=hi)))):=by
 refine sF f50 ?_;repeat(first|refine oP rfl ?_|(refine rG (λ_ h=>h) ?_;conv=>whnf)|(refine oN ?_;conv=>whnf)|refine aS ?_|(refine aR ?_;conv=>whnf))
 refine Jj rfl rfl rfl (λh=>?_) (λh=>?_)<;>(try conv=>whnf)<;>(repeat(first|refine oP rfl ?_|(refine rG (λ_ h=>h) ?_;conv=>whnf)|(refine oN ?_;conv=>whnf)|(refine aT ?_;conv=>whnf)|refine oY rfl rfl rfl ?_|(refine oZ rfl rfl rfl ?_;conv=>whnf)))
 ·simp[h,Bo]
 ·simp[h,Bo]
def Y5 (n:Int)(h0: -9223372036854775807<=n)(h1:n<=9223372036854775807):ad 328 [I n] (.one (I n.natAbs)):=by
 refine sF f328 ?_;repeat(first|refine oP rfl ?_|(refine rG (λ_ h=>h) ?_;conv=>whnf)|(refine oN ?_;conv=>whnf)|refine aS ?_|(refine aR ?_;conv=>whnf)|(refine aT ?_;conv=>whnf))
 have e:IntKind.i64.wrap (0 -n)= -n:=by rw[i64_in _ K0];omega
 show mb.one (false,[SC.lit (Value.int .i64 (if IntKind.i64.wrap (0 -n)>n then IntKind.i64.wrap (0 -n)else n))])=_;rw[e];have:(if -n>n then -n else n)=n.natAbs:=by split<;>omega
 rw[this]
def JP (a b:Int)(ha:pU a)(hb:Tt b)(RR:a= -9223372036854775808->b≠0):ad 295 [I a,I b] (.one (I (Int.gcd a b))):=by
 refine sF f295 ?_;repeat(first|refine oP rfl ?_|(refine rG (λ_ h=>h) ?_;conv=>whnf)|(refine oN ?_;conv=>whnf)|refine aS ?_|(refine aR ?_;conv=>whnf)|refine aB ?_|refine aL ?_)
 refine af (ι:=Int × Int) (λp=>Int.gcd p.1 p.2=Int.gcd a b/\pU p.1/\Tt p.2/\(p.1= -9223372036854775808->p.2≠0)) (λp=>p.2.natAbs) (λp=>⟨[(0,vI p.1),(1,vI p.2)],[],0⟩) (a,b)
  (fA (ks:=[0,1]) (m:=[]) (n:=0) rfl) ⟨rfl,ha,hb,RR⟩ ?_
 rintro⟨x,y⟩ ⟨hg,hx,hy,hxy⟩;simp only at hg hx hy hxy;repeat(first|refine oP rfl ?_|(refine rG (λ_ h=>h) ?_;conv=>whnf)|(refine oN ?_;conv=>whnf)|refine aS ?_|(refine aR ?_;conv=>whnf)|refine aC rfl ?_)
 (refine oy (λh=>?_) (λh=>?_))<;>(try conv=>whnf)<;>(repeat(first|refine oP rfl ?_|(refine rG (λ_ h=>h) ?_;conv=>whnf)|refine aS ?_|(refine aR ?_;conv=>whnf)|(refine aK ?_;conv=>whnf)|(refine aX ?_;conv=>whnf)|refine aB ?_))
 ·have h:(y != 0)=true:=h;have e8:y≠0:=by simpa using h
  refine rG (λ_ h=>⟨e8,h⟩) ?_;(conv=>whnf);repeat(first|refine oP rfl ?_|(refine rG (λ_ h=>h) ?_;conv=>whnf)|(refine oN ?_;conv=>whnf)|(refine dI dp ?_;conv=>whnf))
  have hy1:=hy.1;have hy2:=hy.2;refine⟨(y,x.tmod y),⟨?_,⟨by simp only;omega,hy2⟩,?_,λe=>absurd e af4⟩,?_,fA (ks:=[0,1]) (m:=[]) (n:=0) rfl⟩
  ·exact K61
  ·have h1:(x.tmod y).natAbs =x.natAbs%y.natAbs:=GZ _ _;have h2:x.natAbs%y.natAbs<y.natAbs:=sZ _ K0;exact ajl
  ·show(x.tmod y).natAbs <y.natAbs;rw[GZ];exact sZ _ K0
 ·have h:(y != 0)=false:=h;have h0:y=0:=by simpa using h
  subst h0;have GQ:=hx.1;have hx2:=hx.2;have hx3:x≠ -9223372036854775808:=λe=>hxy e rfl;refine rG (λ_ h=>⟨_,Y5 x K0 hx2,h⟩) ?_;(conv=>whnf);repeat(first|refine oP rfl ?_|(refine rG (λ_ h=>h) ?_;conv=>whnf)|(refine oN ?_;conv=>whnf)|(refine aT ?_;conv=>whnf))
  exact vZ (by rw[<- hg];simp)
open Go.Plain
abbrev T (l:List UInt8):SC:=.lit (.string (B l))
abbrev K (b:Bool):SC:=.lit (.bool b)
abbrev V1 (l:List aj):SV:=(false,[.view (ab l)])
def mH {a b:Int}(h:a=b):mb.one (I a)= .one (I b):=by rw[h]
def gX {a b:Bool}(h:a=b):mb.one (Bo a)= .one (Bo b):=by rw[h]
def sA {l:List aj}{i:Nat}(h:i<l.length):(ab l)[i]? =some [.lit (.string (B (l.getD i [])))]:=by grind
def JQ {s:aj}{i:Nat}(h:i<s.length):(kP (B s))[i]? =some [.lit (.int .u8 (((s.getD i 0).toNat :Nat):Int))]:=by grind[kP,jI]
def uU (s:aj):(kP (B s)).length =s.length:=by simp[kP,jI]
def MK (n lo hi:Int):ad 66 [I n,I lo,I hi] (.one (Bo (decide (lo<=n)&&decide (n<=hi)))):=by
 refine sF f66 ?_;repeat' ((first|refine tX 0 ?_|exact Zt|refine bR ?_ ?_<;>intro h)<;>(try conv=>whnf))
 all_goals exact gX wG
def bX (b:Bool)(e:Int):ad 54 [Bo b,I e] (.one (I (if b=true then 0 else e))):=by
 refine sF f54 ?_
 (try(refine tX 0 ?_;try exact Zt))
 cases b
 ·exact K1
 ·exact K1
def iR {b:Bool}{p:Prop} [BP b p] [Decidable p](e:Int):ad 54 [Bo b,I e] (.one (I (if p then 0 else e))):=by
 have h:=bX b e
 grind[BP.iff]
def bG {b:Bool}{p:Prop} [BP b p](hp: ¬p)(e:Int):ad 54 [Bo b,I e] (.one (I e)):=by
 have h:=bX b e;exact afI
def aN {b:Bool}{p:Prop} [BP b p](hp:p)(e:Int):ad 54 [Bo b,I e] (.one (I 0)):=by
 have h:=bX b e;exact afS
def oI (l:List Int)(hl:l.length<=1000000):ad 52 [(false,[.ints l])] (.one (I (fs l))):=by
 have hd: ∀i,i<l.length->fs (l.drop i)=if l.getD i 0≠0 then l.getD i 0 else fs (l.drop (i+1)):=λi hi=>by grind[List.drop_eq_getElem_cons,fs]
 refine sF f52 ?_
 (try(refine tX 0 ?_;try exact Zt))
 refine af (ι:=Nat) (λi=>i<=l.length/\fs (l.drop i)=fs l) (λi=>l.length -i) (λi=>⟨[(5,some (.val (false,[.st (.ints l)]))),(6,vI l.length),(7,vI i)],[],0⟩) 0 Zc ⟨dC _,rfl⟩ ?_;rintro i ⟨hi,he⟩;by_cases ak:i<l.length
 ·have h1:=hd i ak;by_cases hz:l.getD i 0=0
  ·rw[if_neg K0]at h1;exact K66
  ·rw[if_pos hz]at h1;repeat' ((first|refine tX 0 ?_|exact Zt|refine bR ?_ ?_<;>intro h)<;>(try conv=>whnf))
   all_goals first
    |(exfalso;omega)
    |exact mH K0
 ·exact K57
def ML {l:List aj}{i:Nat}(h:i<l.length):(ab l)[i]? =some [T (l.getD i [])]:=sA h
def cj (l:List aj)(x:aj)(hl:l.length<=1000000):ad 19 [V1 l,SS x] (.one (Bo (decide (x∈l)))):=by
 have hn:(ab l).length =l.length:=by simp
 refine sF f19 ?_
 (try(refine tX 0 ?_;try exact Zt))
 refine af (ι:=Nat) (λi=>i<=l.length/\x∉l.take i) (λi=>l.length -i) (λi=>⟨[(0,some (.val (false,[.st (.view (ab l))]))),(1,lS x),(5,vI i)],[],0⟩) 0 Zc ⟨dC _,by simp⟩ ?_;rintro i ⟨hi,dx⟩;by_cases ak:i<l.length
 ·have he:=ML ak;have hm:=iL (x:=x) ak;have zJ:l.getD i []∈l:=by grind
  repeat' ((first|refine tX 0 ?_|exact Zt|refine bR ?_ ?_<;>intro h)<;>(try conv=>whnf))
  all_goals first
   |(exact gX (fH (by rw[<- h];exact zJ)).symm)
   |exact⟨i+1,⟨ak,λhh=>(hm.1 hh).elim dx λe=>h e.symm⟩,by omega,Zc⟩
   |(exfalso;omega)
 ·obtain rfl:i=l.length:=by omega
  rw[lu]at dx;repeat' ((first|refine tX 0 ?_|exact Zt|refine bR ?_ ?_<;>intro h)<;>(try conv=>whnf))
  all_goals first
   |(exfalso;omega)
   |exact gX (eT dx).symm
def Ah (l:List (List UInt8))(x:List UInt8)(hl:l.length<=1000000):ad 93 [(false,[.view (ab l)]),SS x] (.one (I (aZ l x))):=by
 have hn:(ab l).length =l.length:=by simp
 refine sF f93 ?_
 (try(refine tX 0 ?_;try exact Zt))
 refine af (ι:=Nat) (λi=>i<=l.length/\x∉l.take i) (λi=>l.length -i) (λi=>⟨[(0,some (.val (false,[.st (.view (ab l))]))),(1,lS x),(7,vI l.length),(8,vI i)],[],0⟩) 0 (ai Pv) ⟨dC _,by simp⟩ ?_;rintro i ⟨hi,dx⟩;by_cases ak:i<l.length
 ·have he:=sA ak;have hg:l.getD i []=l[i]:=by grind
  by_cases hx:x=l.getD i []
  ·have e:aZ l x=i:=Tm ak br dx;rw[e];repeat' ((first|refine tX 0 ?_|exact Zt|refine bR ?_ ?_<;>intro h)<;>(try conv=>whnf))
   all_goals first|(exact rfl)|(exact absurd hx h)
  ·have aho:x∉l.take (i+1):=by
    rw[BH,nM ak]
    grind
   repeat' ((first|refine tX 0 ?_|exact Zt|refine bR ?_ ?_<;>intro h)<;>(try conv=>whnf))
   all_goals first|(exact absurd h hx)|(exact⟨i+1,⟨ak,aho⟩,by omega,Zc⟩)
 ·obtain rfl:i=l.length:=by omega
  have e:aZ l x= -1:=fp br;rw[e];exact K1
def bD (l:List aj)(x:aj)(hl:l.length<=1000000):ad 55 [V1 l,SS x] (.one (Bo (decide (x∈l)))):=by
 have hi:=Ah l x hl;refine sF f55 ?_
 (try(refine tX 0 ?_;try exact Zt))
 refine gX ?_;rw[sD];simp only[wB];unfold aZ
 grind
end Go.Proofs.Tryz
namespace Go.Plain
open Go.Lib
structure Rs where
 test:aj
 ans:Int
 entry:Int
 void:Bool
structure Gs where
 h:Int
 m:Int
 e:Int
 y:Int
 a:Int
structure Win where
 k1:Int
 t1:Int
 s1:Int
 r1:Bool
 k2:Int
 t2:Int
 s2:Int
 r2:Bool
 st:Int
def wi0:Win:=⟨0,0,0,false,0,0,0,false,0⟩
structure Un where
 name:aj
 win:Win
 lots:List aj
 res:List Rs
 failed:Bool
 rel:Bool
 shaken:Bool
 used:Int
 gas:List Gs
def o6:Un:=⟨[],wi0,[],[],false,false,false,0,[]⟩
structure bK where
 volt:Bool
 earth:Bool
 opens:List aj
 hall:aj
 lots:List aj
 units:List Un
structure En where
 t:Int
 lk:aj
 text:aj
def fD:bK:=⟨false,true,[],[],[],[]⟩
def st0:bK:=⟨false,false,[],[],[],[]⟩
def sG (t:aj)(r:Rs):Bool:=(r.test==t)&& !r.void
def iM (l:List Rs)(t:aj):Option Rs:=l.reverse.find? (sG t)
def BT:Rs:=⟨[],0,0,false⟩
def bH (l:List Rs)(t:aj):Bool:=match iM l t with
 |some r=>r.ans==2
 |none=>false
def tO (p:Pl)(l:List Rs):List aj:=(cO p.aa).filter λt=> !bH l t
def iU (l:List Rs)(t:Ts):Bool:=t.bu.all λn=>bH l n
def cT (s:bK):List aj:=s.units.map Un.name
def gY (s:bK)(n:aj):Int:=aZ (cT s) n
def si (s:bK)(lot:aj):List aj:=(s.units.filter λu=>decide (lot∈u.lots)).map Un.name
structure qH where
 pu:aj->Win × Int
 ev:List En->Un->Ts->aj->Int × Int
structure Vb where
 role:Int
 words:Nat
 pW:Nat
 rest:Bool
def kv:List (aj × Vb):=[
 ([110,111,116,101],⟨0,0,0,true⟩),
 ([108,111,116],⟨1,1,0,false⟩),
 ([117,110,105,116],⟨1,1,0,true⟩),
 ([117,115,101],⟨1,2,0,false⟩),
 ([111,112,101,110],⟨2,1,0,false⟩),
 ([115,104,117,116],⟨2,1,0,false⟩),
 ([101,97,114,116,104],⟨2,0,0,false⟩),
 ([108,105,102,116],⟨2,0,0,false⟩),
 ([118,111,108,116,97,103,101],⟨2,0,0,false⟩),
 ([111,102,102],⟨2,0,0,false⟩),
 ([101,110,116,101,114],⟨1,1,0,false⟩),
 ([108,101,97,118,101],⟨1,1,0,false⟩),
 ([116,101,115,116],⟨2,2,0,true⟩),
 ([114,101,112,97,105,114],⟨1,2,0,false⟩),
 ([114,101,108,101,97,115,101],⟨3,1,0,false⟩),
 ([115,104,111,99,107],⟨1,2,1,false⟩),
 ([105,110,115,112,101,99,116],⟨2,1,0,false⟩),
 ([108,111,97,100],⟨1,3,2,false⟩),
 ([103,97,115],⟨1,6,5,false⟩)]
def jH (w:aj):Nat:=(kv.map Prod.fst).idxOf w
def vb (k:Nat):Vb:=(kv.getD k ([],⟨0,0,0,false⟩)).2
def Y6 (g:Gs):Prop:=((0<=g.h/\g.h<=1000000)/\(0<=g.m/\g.m<=1000000))/\(0<=g.e/\g.e<=1000000)/\(0<=g.y/\g.y<=1000000)/\0<=g.a/\g.a<=1000000
instance (g:Gs):Decidable (Y6 g):=by unfold Y6;infer_instance
def Y7 (d t:Int):Prop:=(0<=d/\d<=200)/\0<=t/\t<=100000
instance (d t:Int):Decidable (Y7 d t):=by unfold Y7;infer_instance
def Y8 (d t:Int):Int:=if Y7 d t then(if d<80 then 0 else 2^((d -80)/6).toNat *t)else 0
def aI (E:qH)(p:Pl)(log:List En)(s:bK)(u:Un)(k:Nat)(a:List aj)(n:List Int)(rest:aj):Un × Int:=
 match k with
 |3=>if a.getD 1 []∈s.lots then(if u.rel then(u,20)else if a.getD 1 []∈u.lots then(u,23)else({u with lots:=u.lots++[a.getD 1 []]},0))else(u,6)
 |10=>if u.rel then(u,20)else if s.hall= []then(if s.opens= []then(u,24)else(u,0))else(u,17)
 |11=>if s.hall=u.name then(if s.opens= []then(u,24)else(u,0))else(u,20)
 |12=>if 0<=aZ (cO p.aa) (a.getD 1 [])then
   (let t:=p.aa.getD (aZ (cO p.aa) (a.getD 1 [])).toNat dt
    if s.hall=u.name/\u.failed=false then(if bH u.res t.name then(u,23)else if iU u.res t=false then(u,14)else if decide (t.kind=0)=s.volt then(u,24)else
     if(E.ev log u t rest).2=0 then({u with res:=u.res++[⟨t.name,(E.ev log u t rest).1,log.length,false⟩],failed:=decide ((E.ev log u t rest).1=0)},0)else(u,(E.ev log u t rest).2))else(u,20))
   else(u,6)
 |13=>if 0<=aZ p.bd (a.getD 1 [])then(if u.rel then(u,20)else if s.hall=u.name/\s.opens= []then(u,24)else
   ({u with res:=u.res.map λr=>{r with void:=r.void || decide (r.test∈jj p.aa (p.parts.getD (aZ p.bd (a.getD 1 [])).toNat ([],[])).2)},failed:=false},0))else(u,6)
 |14=>if u.rel then(u,20)else if s.hall=u.name then(u,17)else if tO p u.res= []then({u with rel:=true},0)else(u,14)
 |15=>if u.rel then(if n.getD 0 0<=1000 then({u with shaken:=u.shaken || decide (n.getD 0 0>p.dW)},0)else(u,2))else(u,20)
 |16=>if u.shaken then({u with shaken:=false},0)else(u,20)
 |17=>if u.rel then(if u.shaken then(u,24)else if Y7 (n.getD 0 0) (n.getD 1 0)then(if u.used+Y8 (n.getD 0 0) (n.getD 1 0)<=p.eH then({u with used:=u.used+Y8 (n.getD 0 0) (n.getD 1 0)},0)else(u,22))else(u,2))else(u,20)
 |18=>if u.rel then(let g:Gs:=⟨n.getD 0 0,n.getD 1 0,n.getD 2 0,n.getD 3 0,n.getD 4 0⟩;if Y6 g then(if u.gas.length<10 then({u with gas:=u.gas++[g]},0)else(u,16))else(u,2))else(u,20)
 |_=>(u,0)
noncomputable def ba (E:qH)(p:Pl)(log:List En)(s:bK)(k:Nat)(a:List aj)(n:List Int)(rest:aj):bK × Int:=
 match k with
 |0=>(s,0)
 |1=>if eK (a.getD 0 [])then(if a.getD 0 []∈s.lots then(s,5)else if s.lots.length<12 then({s with lots:=s.lots++[a.getD 0 []]},0)else(s,16))else(s,4)
 |2=>if eK (a.getD 0 [])then(if a.getD 0 []∈cT s then(s,5)else if s.units.length<6 then(if(E.pu rest).2=0 then({s with units:=s.units++[{o6 with name:=a.getD 0 [],win:=(E.pu rest).1}]},0)else(s,(E.pu rest).2))else(s,16))else(s,4)
 |4=>if a.getD 0 []∈p.ap then(if a.getD 0 []∈s.opens then(s,20)else if s.volt=false/\s.earth=true then({s with opens:=s.opens++[a.getD 0 []]},0)else(s,24))else(s,6)
 |5=>if a.getD 0 []∈p.ap then(if a.getD 0 []∈s.opens then({s with opens:=s.opens.erase (a.getD 0 [])},0)else(s,20))else(s,6)
 |6=>if s.earth then(s,20)else if s.volt then(s,24)else({s with earth:=true},0)
 |7=>if s.earth then(if s.opens= []then({s with earth:=false},0)else(s,24))else(s,20)
 |8=>if s.volt then(s,20)else if s.opens= []/\s.earth=false then({s with volt:=true},0)else(s,24)
 |9=>if s.volt then({s with volt:=false},0)else(s,20)
 |_=>if 0<=gY s (a.getD 0 [])then
   (let i:=(gY s (a.getD 0 [])).toNat
    let r:=aI E p log s (s.units.getD i o6) k a n rest
    ({s with units:=s.units.set i r.1,hall:=if r.2=0 then(if k=10 then(s.units.getD i o6).name else if k=11 then []else s.hall)else s.hall},r.2))
   else(s,6)
def jk:List aj->Option (List Int)
 | []=>some []
 |s::r=>match wN false 7 s,jk r with
  |some n,some t=>some (n::t)
  |_,_=>none
def bP:Nat->aj->aj
 |0,s=>s
 |n+1,s=>bP n (s.drop ((av 32 s).getD 0 []).length.succ)
def eD (v:Vb)(text:aj):Option (List aj × List Int × aj):=
 let ws:=av 32 text
 if(v.rest=true/\ws.length<v.words+2)\/(v.rest=false/\ws.length≠v.words+1)\/[]∈ws.take (v.words+1)then none
 else(jk ((ws.take (v.words+1)).drop (v.words+1 -v.pW))).map λn=>((ws.take (v.words+1)).drop 1,n,if v.rest then bP (v.words+1) text else [])
def aU (s:aj):Prop:=∀j<s.length,32<=(s.getD j 0).toNat /\(s.getD j 0).toNat <=126
instance (s:aj):Decidable (aU s):=by unfold aU;infer_instance
def im (l:List En):Int:=match l.getLast? with
 |some e=>e.t
 |none=>0
noncomputable def pm (E:qH)(p:Pl)(log:List En)(s:bK)(e:En):bK × Int:=
 if aZ p.ay e.lk<0 then(s,6)else
 if ¬(0<=e.t/\e.t<=1000000000000)then(s,2)else
 if e.t<im log then(s,9)else
 if 400<e.text.length then(s,8)else
 if ¬aU e.text then(s,3)else
 if 19<=jH ((av 32 e.text).getD 0 [])then(s,7)else
 if(p.ae.getD (aZ p.ay e.lk).toNat ([],0)).2< (vb (jH ((av 32 e.text).getD 0 []))).role then(s,18)else
 match eD (vb (jH ((av 32 e.text).getD 0 []))) e.text with
 |none=>(s,7)
 |some (a,n,rest)=>ba E p log s (jH ((av 32 e.text).getD 0 [])) a n rest
end Go.Plain
namespace Go.Proofs.Tryz
open Go.Fw Go.IntWalk
abbrev vL (l:List Int):Option DV:=some (.val (false,[.st (.ints l)]))
def JT {n g:Int}(hn:Tt n)(_:0<g)(hd:g∣n):IntKind.i64.wrap (n.tdiv g)=n/g:=by
 rw[Int.tdiv_eq_ediv_of_dvd hd];have h1:=hn.1;have h2:=hn.2;have:=Xy n g;exact i64_in _ K0
def Qh (n d:Int)(hn:Tt n)(hd:0<d/\d<=9223372036854775807):ad 371 [I n,I d] (.one (F2 (n/Int.gcd n d) (d/Int.gcd n d))):=by
 have hg:(0:Int)<Int.gcd n d:=ajB;refine sF f371 ?_;repeat(first|refine oP rfl ?_|(refine rG (λ_ h=>h) ?_;conv=>whnf)|(refine oN ?_;conv=>whnf)|refine aS ?_|(refine aR ?_;conv=>whnf))
 refine rG (λ_ h=>⟨_,JP n d hn.i ⟨by omega,by omega⟩ (λe=>absurd e hn.ne),h⟩) ?_;(conv=>whnf);repeat(first|refine oP rfl ?_|(refine rG (λ_ h=>h) ?_;conv=>whnf)|(refine oN ?_;conv=>whnf)|refine aS ?_|(refine aR ?_;conv=>whnf)|refine aC rfl ?_)
 (refine oy (λh=>?_) (λh=>?_))<;>(try conv=>whnf)<;>(repeat(first|refine oP rfl ?_|(refine rG (λ_ h=>h) ?_;conv=>whnf)|(refine oN ?_;conv=>whnf)|refine aS ?_|(refine aR ?_;conv=>whnf)|(refine aK ?_;conv=>whnf)))
 ·have h:decide (d<0)=true:=h;simp at h;omega
 ·refine rG (λ_ h=>⟨SK hg,h⟩) ?_;(conv=>whnf);repeat(first|refine oP rfl ?_|(refine rG (λ_ h=>h) ?_;conv=>whnf))
  refine rG (λ_ h=>⟨SK hg,h⟩) ?_;(conv=>whnf);repeat(first|refine oP rfl ?_|(refine rG (λ_ h=>h) ?_;conv=>whnf)|(refine oN ?_;conv=>whnf)|(refine aT ?_;conv=>whnf)|(refine dI dp ?_;conv=>whnf))
  exact aiQ
def nD (n d:Int)(hn:pU n)(hd:pU d):ad 268 [F2 n d] (.one (Bo (decide (0<d/\Int.gcd n d=1)))):=by
 refine sF f268 ?_;repeat(first|refine oP rfl ?_|(refine rG (λ_ h=>h) ?_;conv=>whnf)|(refine oN ?_;conv=>whnf)|refine aS ?_|(refine aR ?_;conv=>whnf))
 (refine Jj rfl rfl rfl (λh=>?_) (λh=>?_))<;>(try conv=>whnf)<;>(repeat(first|refine oP rfl ?_|(refine rG (λ_ h=>h) ?_;conv=>whnf)|(refine oN ?_;conv=>whnf)|(refine aT ?_;conv=>whnf)|refine oY rfl rfl rfl ?_|(refine oZ rfl rfl rfl ?_;conv=>whnf)))
 ·have h:decide (d>0)=true:=h;simp at h;have:=hd.2;refine rG (λ_ h=>⟨_,JP n d hn ⟨by omega,by omega⟩ (λ_=>by omega),h⟩) ?_;(conv=>whnf);repeat(first|refine oP rfl ?_|(refine rG (λ_ h=>h) ?_;conv=>whnf)|(refine oN ?_;conv=>whnf)|(refine aT ?_;conv=>whnf)|refine oY rfl rfl rfl ?_)
  exact oH (by rw[sD];simp[h];omega)
 ·have h:decide (d>0)=false:=h;simp at h;exact oH wG
abbrev F4 (a b c d:Int):SV:=(true,[J a,J b,J c,J d])
end Go.Proofs.Tryz
namespace Go.Fw
open Go.IntWalk
end Go.Fw
namespace Go.Proofs.Tryz
open Go.Fw Go.IntWalk
end Go.Proofs.Tryz
namespace Go.Plain
theorem Ai {α:Type}{l:List α}{i:Nat}{d:α}(h:i<l.length):l.take (i+1)=l.take i++[l.getD i d]:=by simp_all
def qq {α:Type}{l:List α}{i:Nat}{d:α}(h:i<l.length):l.getD i d∈l:=by grind
theorem nV {α:Type}{l:List α}{i:Nat}{d:α}(h:i<l.length):l.drop i=l.getD i d::l.drop (i+1):=by simp_all
def wa {α:Type}{n:Nat}{f:Nat->α}:(List.range (n+1)).map f=(List.range n).map f++[f n]:=by simp[List.range_succ]
def alB (l:List Int)(k:Nat):Int:=(l.take k).sum
def rs (a b:List Int)(k:Nat):Int:=alB a k+alB b k
def iZ (l:List Int)(lo hi:Int):Prop:=∀n∈l,lo<=n/\n<=hi
instance (l:List Int)(lo hi:Int):Decidable (iZ l lo hi):=inferInstanceAs (Decidable (∀n∈l,lo<=n/\n<=hi))
def HR (a b:List Int):Int:=
 if 0<a.length/\a.length=b.length then if a.length<=15 then if iZ a (-100) 100 then if iZ b (-100) 100 then if a.sum+b.sum=0 then 0 else 13 else 2 else 2 else 8 else 10
structure VW (a b:List Int):Prop where
 len:b.length=a.length
 pos:0<a.length
 le:a.length<=15
 ra: ∀n∈a,-100<=n/\n<=100
 rb: ∀n∈b,-100<=n/\n<=100
 sum:a.sum+b.sum=0
def D4 {a b:List Int}:HR a b=0↔VW a b:=by
 unfold HR;constructor
 ·intro h
  (repeat' split at h)<;>first|omega|skip
  rename_i h1 h2 h3 h4 h5;exact⟨by omega,by omega,by omega,h3,h4,by omega⟩
 ·intro h;have:=h.len;have:=h.pos;have:=h.le;rw[if_pos K0,if_pos K0,if_pos (show iZ a (-100) 100 from h.ra),if_pos (show iZ b (-100) 100 from h.rb),if_pos h.sum]
instance (a b:List Int):Decidable (VW a b):=decidable_of_iff _ D4
end Go.Plain
namespace Go.Proofs.Tryz
open Go.Fw Go.IntWalk Go.Plain
abbrev L (l:List Int):SV:=(false,[.ints l])
abbrev W2 (a b:List Int):SV:=(true,[.ints a,.ints b])
def Gh (l:List Int)(g:FuncId)(first:List (Bool × List SC))(bI:List (List SC))(p:Int->Bool)(hp: ∀n,ad g (first++[I n]++bI.map λcs=>(false,[.ref cs])) (.one (Bo (p n))))(hl:l.length<=maxLen):
  ad 267 [L l,(false,[.fn g first bI])] (.one (I (if l.any p then(l.findIdx p:Int)else -1))):=by
 unfold maxLen at hl;refine sF f267 ?_
 (try(refine tX 0 ?_;try exact Zt))
 refine af (ι:=Nat) (λi=>i<=l.length/\∀j<i,p (l.getD j 0)=false) (λi=>l.length -i) (λi=>⟨[(0,vL l),(1,some (.val (false,[.st (.fn g first bI)]))),(7,vI l.length),(8,vI i)],[],0⟩) 0 Zc ⟨dC _,by intro j hj;omega⟩ ?_;rintro i ⟨hi,hf⟩
 (try(refine tX 0 ?_;try exact Zt))
 (refine bR ?_ ?_<;>intro h<;>(try conv=>whnf))<;>((try(refine tX 0 ?_;try exact Zt)))
 ·have ak:i<l.length:=by omega
  repeat((first|(refine kO 7 rfl ?_;first|refine Rq (hp _) ?_)|refine tX 0 ?_|exact Zt);(try conv=>whnf))
  have iP:l.getD i 0=l[i]:=by simp[jE,ak]
  (refine bR ?_ ?_<;>intro h<;>(try conv=>whnf))<;>((try(refine tX 0 ?_;try exact Zt)))
  ·have ahz:l.any p=true:=CS.2 ⟨l.getD i 0,qq ak,h⟩;refine vZ ?_;rw[if_pos ahz]
   have:l.findIdx p=i:=by
    rw[XT ak];refine⟨by rw[<- iP];exact h,λj hj=>?_⟩;have:=hf j hj;simpa [jE,show j<l.length by omega]using this
   rw[this]
  ·refine⟨i+1,⟨ak,λj hj=>?_⟩,by omega,Zc⟩;by_cases e:j=i
   ·subst e;simpa using h
   ·exact hf j K0
 ·refine vZ ?_;rw[if_neg];intro ahz;obtain⟨x,hx,hpx⟩:=CS.1 ahz;obtain⟨j,hj,rfl⟩:=zN.1 hx;have:=hf j K0;simp[jE,hj,hpx]at this
def Aj (l:List Int)(g:FuncId)(first:List (Bool × List SC))(bI:List (List SC))(p:Int->Bool)(hp: ∀n,ad g (first++[I n]++bI.map λcs=>(false,[.ref cs])) (.one (Bo (p n))))(hl:l.length<=maxLen):
  ad 264 [L l,(false,[.fn g first bI])] (.one (Bo (l.any p))):=by
 refine sF f264 ?_;repeat' ((first|(refine kO 7 rfl ?_;first|refine rG (λ_ z=>⟨_,Gh l g first bI p hp hl,z⟩) ?_)|refine tX 0 ?_|exact Zt|refine bR ?_ ?_<;>intro h)<;>(try conv=>whnf))
 refine oH ?_;cases l.any p
 ·simp
 ·simp
def acP {l:List Int}{lo hi:Int}:(l.any λn=> !(decide (lo<=n)&&decide (n<=hi)))=decide (¬iZ l lo hi):=by
 rw[sD,wB];rw[CS];unfold iZ;constructor
 ·rintro⟨x,hx,h⟩ hh;have:=hh x hx;simp at h;omega
 ·intro h;apply Pn;intro hn;refine h λn hm=>?_;apply Pn;intro hc;exact hn ⟨n,hm,by simp;omega⟩
abbrev pP (id:Nat):Option DV:=some (bm (.ptr id 0))
abbrev pO (id:Nat):Option DV:=some (bm (.own id))
end Go.Proofs.Tryz
namespace Go.Plain
end Go.Plain
namespace Go.Proofs.Tryz
open Go.Fw Go.IntWalk Go.Plain
end Go.Proofs.Tryz
namespace Go.Plain
def mx (a b:Int):Int:=if b>a then b else a
end Go.Plain
namespace Go.Proofs.Tryz
open Go.Fw Go.IntWalk Go.Plain
def IM (x:Int):Prop:= -1000000000<=x/\x<=1000000000
def agv:(6,Lib.pow10Tab.map λz=>SC.lit (.int .u64 z))∈cx.gl:=jt (i:=4) dp
def Qi:(1,[SC.num .i64])∈cx.gl:=jt (i:=1) dp
def agw:(2,[SC.err])∈cx.gl:=jt (i:=2) dp
def agx:(3,[SC.err])∈cx.gl:=jt (i:=3) dp
def tT (n:Int)(h:pU n):ad 99 [I n] (.one (SS (Lib.itoa n))):=YV Xr dp (g:=6) dp agv n h
def tU (s:List UInt8)(hl:s.length<=1000000){v:Int}(h:Lib.atoiAll s= .ok v):ad 98 [SS s] (.aJ [I v,(false,[.lit .nilIface])]):=acI Ln dp s hl h
def pq (s:List UInt8)(hl:s.length<=1000000)(h: ∀v,Lib.atoiAll s≠ .ok v): ∃v,ad 98 [SS s] (.aJ [I v,(false,[.err])]):=YW Ln dp agw agx s hl h
def gZ (s:List UInt8)(c:UInt8)(hl:s.length<=1000000):ad 67 [SS s,SS [c]] (.aJ [SS (Lib.cut s [c]).1,SS (Lib.cut s [c]).2.1,Bo (Lib.cut s [c]).2.2]):=acJ abz dp Qi s c hl
def kX (s p:List UInt8):ad 207 [SS s,SS p] (.one (SS (Lib.trimPrefix s p))):=DN abA dp s p
def Ak (s:List UInt8)(c:UInt8)(hl:s.length<=1000000)(bB:(CF s c).length =Lib.countB (B s) (B [c])+1):ad 57 [SS s,SS [c]] (.own 1 (.view (ab (CF s c)))):=HH R1 dp dp Qi s c hl bB
def Tv (n:Int)(h: -1000000<=n/\n<=1000000):ad 328 [I n] (.one (I (n.natAbs:Nat))):=by
 have e:(if -n>n then -n else n)=((n.natAbs:Nat):Int):=by split<;>omega
 rw[<- e];refine sF f328 ?_;exact K1
end Go.Proofs.Tryz
namespace Go.Proofs.Tryz
open Go.Fw Go.IntWalk
def yL (a b:Int)(ha:pU a)(hb:Tt b)(RR:a= -9223372036854775808->b≠0):ad 261 [I a,I b] (.one (I (Int.gcd a b))):=by
 refine sF f261 ?_;repeat(first|refine oP rfl ?_|(refine rG (λ_ h=>h) ?_;conv=>whnf)|(refine oN ?_;conv=>whnf)|refine aS ?_|(refine aR ?_;conv=>whnf)|refine aB ?_|refine aL ?_)
 refine af (ι:=Int × Int) (λp=>Int.gcd p.1 p.2=Int.gcd a b/\pU p.1/\Tt p.2/\(p.1= -9223372036854775808->p.2≠0)) (λp=>p.2.natAbs) (λp=>⟨[(0,vI p.1),(1,vI p.2)],[],0⟩) (a,b)
  (fA (ks:=[0,1]) (m:=[]) (n:=0) rfl) ⟨rfl,ha,hb,RR⟩ ?_
 rintro⟨x,y⟩ ⟨hg,hx,hy,hxy⟩;simp only at hg hx hy hxy;repeat(first|refine oP rfl ?_|(refine rG (λ_ h=>h) ?_;conv=>whnf)|(refine oN ?_;conv=>whnf)|refine aS ?_|(refine aR ?_;conv=>whnf)|refine aC rfl ?_)
 (refine oy (λh=>?_) (λh=>?_))<;>(try conv=>whnf)<;>(repeat(first|refine oP rfl ?_|(refine rG (λ_ h=>h) ?_;conv=>whnf)|(refine oN ?_;conv=>whnf)|refine aS ?_|(refine aR ?_;conv=>whnf)|(refine aK ?_;conv=>whnf)|(refine aX ?_;conv=>whnf)|refine aB ?_|(refine aT ?_;conv=>whnf)))
 ·have h:(y != 0)=true:=h;have e8:y≠0:=by simpa using h
  refine rG (λ_ h=>⟨e8,h⟩) ?_;(conv=>whnf);repeat(first|refine oP rfl ?_|(refine rG (λ_ h=>h) ?_;conv=>whnf)|(refine oN ?_;conv=>whnf)|(refine dI dp ?_;conv=>whnf))
  have hy1:=hy.1;have hy2:=hy.2;refine⟨(y,x.tmod y),⟨?_,⟨by simp only;omega,hy2⟩,?_,λe=>absurd e af4⟩,?_,fA (ks:=[0,1]) (m:=[]) (n:=0) rfl⟩
  ·exact K61
  ·have h1:(x.tmod y).natAbs =x.natAbs%y.natAbs:=GZ _ _;have h2:x.natAbs%y.natAbs<y.natAbs:=sZ _ K0;exact ajl
  ·show(x.tmod y).natAbs <y.natAbs;rw[GZ];exact sZ _ K0
 ·have h:(y != 0)=false:=h;have h0:y=0:=by simpa using h
  subst h0;have GQ:=hx.1;have hx2:=hx.2;have hx3:x≠ -9223372036854775808:=λe=>hxy e rfl;have e:IntKind.i64.wrap (0 -x)= -x:=by rw[i64_in _ K0];omega
  show mb.one (I (if IntKind.i64.wrap (0 -x)>x then IntKind.i64.wrap (0 -x)else x))=mb.one (I (Int.gcd a b));refine vZ ?_;rw[<- hg,e];have:(if -x>x then -x else x)=x.natAbs:=by split<;>omega
  rw[this];simp
def mJ (b:Bool)(e:Int):ad 211 [Bo b,I e] (.one (I (if b then 0 else e))):=by
 refine sF f211 ?_;repeat(first|refine oP rfl ?_|(refine rG (λ_ h=>h) ?_;conv=>whnf)|(refine oN ?_;conv=>whnf)|refine aS ?_|(refine aR ?_;conv=>whnf)|refine aC rfl ?_)
 (refine oy (λh=>?_) (λh=>?_))<;>(try conv=>whnf)<;>(repeat(first|refine oP rfl ?_|(refine rG (λ_ h=>h) ?_;conv=>whnf)|(refine oN ?_;conv=>whnf)|refine aS ?_|(refine aR ?_;conv=>whnf)|(refine aK ?_;conv=>whnf)|(refine aT ?_;conv=>whnf)))
 ·exact vZ UM
 ·exact vZ UM
def Qj (l:List Int)(hl:l.length<=1000000):ad 210 [(false,[.ints l])] (.one (I ((l.find? (· ≠0)).getD 0))):=by
 refine sF f210 ?_;repeat(first|refine oP rfl ?_|(refine rG (λ_ h=>h) ?_;conv=>whnf)|(refine oN ?_;conv=>whnf)|refine aS ?_|(refine aR ?_;conv=>whnf)|refine aB ?_|refine aL ?_)
 refine af (ι:=Nat) (λi=>i<=l.length/\l.find? (· ≠0)=(l.drop i).find? (· ≠0)) (λi=>l.length -i) (λi=>⟨[(5,vL l),(6,vI l.length),(7,vI i)],[],0⟩) 0
  (fA (ks:=[5,6,7]) (m:=[]) (n:=0) rfl) ⟨dC _,rfl⟩ ?_
 rintro i ⟨hi,hf⟩;repeat(first|refine oP rfl ?_|(refine rG (λ_ h=>h) ?_;conv=>whnf)|(refine oN ?_;conv=>whnf)|refine aS ?_|(refine aR ?_;conv=>whnf)|refine aC rfl ?_)
 (refine oy (λh=>?_) (λh=>?_))<;>(try conv=>whnf)<;>(repeat(first|refine oP rfl ?_|(refine rG (λ_ h=>h) ?_;conv=>whnf)|(refine oN ?_;conv=>whnf)|refine aS ?_|(refine aR ?_;conv=>whnf)|(refine aK ?_;conv=>whnf)|(refine aX ?_;conv=>whnf)|refine aB ?_|(refine aT ?_;conv=>whnf)))
 ·have ak:i<l.length:=by simpa using h
  have hd:l.drop i=l[i]::l.drop (i+1):=Xx ak;refine rG (λ_ h=>⟨Int.natCast_nonneg i,[J l[i]],Vq ak,rfl,h⟩) ?_;(conv=>whnf);repeat(first|refine oP rfl ?_|(refine rG (λ_ h=>h) ?_;conv=>whnf)|(refine oN ?_;conv=>whnf)|refine aS ?_|(refine aR ?_;conv=>whnf)|refine aC rfl ?_)
  (refine oy (λh=>?_) (λh=>?_))<;>(try conv=>whnf)<;>(repeat(first|refine oP rfl ?_|(refine rG (λ_ h=>h) ?_;conv=>whnf)|(refine oN ?_;conv=>whnf)|refine aS ?_|(refine aR ?_;conv=>whnf)|(refine aK ?_;conv=>whnf)|(refine aT ?_;conv=>whnf)))
  ·have h:(l[i] != 0)=true:=h;exact vZ (by simp at h;rw[hf,hd,List.find?_cons_of_pos UK];rfl)
  ·have h:(l[i] != 0)=false:=h;refine⟨i+1,⟨ak,?_⟩,by omega,fA (ks:=[5,6,7]) (m:=[]) (n:=0) ?_⟩
   ·rw[hf,hd];simp at h;simp[h]
   ·have e:IntKind.i64.wrap (i+1)=((i+1:Nat):Int):=by rw[i64_in _ K0];simp
    rw[<- e];rfl
 ·have h:decide ((i:Int)<l.length)=false:=h;have:i=l.length:=by simp at h;omega
  subst this;exact vZ (by rw[hf];simp)
def Bm (n d:Int)(hn:Tt n)(hd:0<d/\d<=9223372036854775807):ad 350 [I n,I d] (.one (F2 (n/Int.gcd n d) (d/Int.gcd n d))):=by
 have hg:(0:Int)<Int.gcd n d:=ajB;refine sF f350 ?_;repeat(first|refine oP rfl ?_|(refine rG (λ_ h=>h) ?_;conv=>whnf)|(refine oN ?_;conv=>whnf)|refine aS ?_|(refine aR ?_;conv=>whnf))
 refine rG (λ_ h=>⟨_,yL n d hn.i ⟨by omega,by omega⟩ (λe=>absurd e hn.ne),h⟩) ?_;(conv=>whnf);repeat(first|refine oP rfl ?_|(refine rG (λ_ h=>h) ?_;conv=>whnf)|(refine oN ?_;conv=>whnf)|refine aS ?_|(refine aR ?_;conv=>whnf))
 refine rG (λ_ h=>⟨SK hg,h⟩) ?_;(conv=>whnf);repeat(first|refine oP rfl ?_|(refine rG (λ_ h=>h) ?_;conv=>whnf))
 refine rG (λ_ h=>⟨SK hg,h⟩) ?_;(conv=>whnf);repeat(first|refine oP rfl ?_|(refine rG (λ_ h=>h) ?_;conv=>whnf)|(refine oN ?_;conv=>whnf)|(refine aT ?_;conv=>whnf)|(refine dI dp ?_;conv=>whnf))
 exact aiQ
open Go.Plain
def dm (n lo hi:Int):ad 50 [I n,I lo,I hi] (.one (Bo (decide (lo<=n/\n<=hi)))):=by
 have:=ec n lo hi;rwa [<- XU]at this
end Go.Proofs.Tryz
namespace Go.Plain
def Zl {l:List Int}{lo hi:Int}(h: ∀j<l.length,lo<=l.getD j 0/\l.getD j 0<=hi):iZ l lo hi:=by
 intro n hn;obtain⟨j,hj,rfl⟩:=zN.1 hn
 grind
def Vx {l:List Int}{lo hi:Int}{j:Nat}(hj:j<l.length)(h: ¬(lo<=l.getD j 0/\l.getD j 0<=hi)): ¬iZ l lo hi:=λha=>h (ha _ (qq hj))
def Bal (a b:List Int)(n:Nat):Prop:=∀j<n,a.getD j 0= -b.getD j 0
instance (a b:List Int)(n:Nat):Decidable (Bal a b n):=inferInstanceAs (Decidable (∀j<n,a.getD j 0= -b.getD j 0))
def fq (n d:Int):Int:=n/Int.gcd n d
def eE (n d:Int):Int:=d/Int.gcd n d
def MQ {n d:Int}(hd:0<d):(0:Int)<Int.gcd n d:=by grind[Int.gcd_pos_of_ne_zero_right]
def Qk (n d:Int):n=Int.gcd n d*fq n d:=by grind[fq,Int.mul_ediv_cancel',Int.gcd_dvd_left]
def Ql (n d:Int):d=Int.gcd n d*eE n d:=by grind[eE,Int.mul_ediv_cancel',Int.gcd_dvd_right]
def wS {n d:Int}(hd:0<d):0<eE n d:=by
 have h1:=MQ (n:=n) hd;have h2:=Ql n d;rcases Int.lt_or_le 0 (eE n d)with h|h;omega
 ·have:=CM (Int.le_of_lt h1) (show 0<= -eE n d by omega)
  grind
def Gi {n d:Int}(hn:0<=n):0<=fq n d:=LF hn K0
def agy {n d:Int}(hn:0<=n)(hd:0<d):fq n d<=n/\eE n d<=d:=by
 unfold fq eE;have h1:=Xy n (Int.gcd n d);have h2:=Xy d (Int.gcd n d);omega
def Qm (p q r s:Int):Int:=if p*s<r*q then -1 else if p*s>r*q then 1 else 0
end Go.Plain
namespace Go.Proofs.Tryz
open Go.Fw Go.IntWalk Go.Plain
set_option maxHeartbeats 16000000
def MS (p q:Int):ad 377 [F2 p q] (.one (Bo (decide ((-1000000000<=p/\p<=1000000000)/\1<=q/\q<=1000000000)))):=by
 refine sF f377 ?_;repeat' ((first|(refine kO 7 rfl ?_;first|refine Rq (dm _ _ _) ?_)|refine tX 0 ?_|exact Zt|refine bR ?_ ?_<;>intro h)<;>(try conv=>whnf))
 ·refine oH ?_;simp[h]
 ·refine oH ?_;simp[h]
theorem JU (p q r s:Int)(h1: -4611686018427387904<=p*s/\p*s<=4611686018427387903)(h2: -4611686018427387904<=r*q/\r*q<=4611686018427387903):ad 269 [F2 p q,F2 r s] (.one (I (Qm p q r s))):=by
 unfold Qm;refine sF f269 ?_;repeat' ((first|refine tX 0 ?_|exact Zt|refine bR ?_ ?_<;>intro h)<;>(try conv=>whnf))
 ·rw[if_pos h]
 ·rw[if_neg K0,if_pos h]
 ·rw[if_neg K0,if_neg K0]
end Go.Proofs.Tryz
namespace Go.Plain
def D5 (a:Int){b:Int}(_hb:0<b):(a.tdiv b).natAbs <=a.natAbs:=by
 rw[Int.natAbs_tdiv];exact Nat.div_le_self _ _
def MT (a:Int){b:Int}(hb:0<b):a/b=if a.tmod b<0 then a.tdiv b -1 else a.tdiv b:=by
 have h1:=Int.tmod_lt_of_pos a hb;have h2:=Int.lt_tmod_of_pos a hb;have h3:=Int.mul_tdiv_add_tmod a b;split
 ·exact((Lw hb (r:=a.tmod b+b) (q:=a.tdiv b -1)).2 ⟨by grind,by omega,by omega⟩).1
 ·exact((Lw hb (r:=a.tmod b) (q:=a.tdiv b)).2 ⟨by omega,by omega,by omega⟩).1
def D6 (a:Int){b:Int}(_hb:0<b): -(a.natAbs:Int)<=a/b/\a/b<=a.natAbs:=by
 have:=Xy a b;omega
def acR {x:Int}(h:x<0):x.sign= -1:=aeq h
def Tx (n d:Int):n/d*d=n -n%d:=by grind[Int.ediv_mul_add_emod]
def agz {n d m k:Int}(hd:0<d)(hk:0<k)(h:n/d<m/k):(n*k -m*d).sign = -1:=by
 refine acR ?_;have h1:n< (n/d+1)*d:=by rw[Int.add_mul,Tx];have:=Lr n hd;omega
 have h2:m/k*k<=m:=by rw[Tx];have:=CK m (show k≠0 by omega);omega
 have h3:n*k< (n/d+1)*d*k:=R3 h1 hk;have h4:m/k*k*d<=m*d:=Xt h2 K0;have h5:(n/d+1)*(d*k)<=m/k*(d*k):=Xt K0 (Int.le_of_lt (Int.mul_pos hd hk))
 grind
def Zn {n d m k:Int}(hd:0<d)(hk:0<k)(h:n/d>m/k):(n*k -m*d).sign =1:=by
 have:=agz hk hd h
 grind
def acS (n d:Int):(fq n d).natAbs <=n.natAbs:=by grind[fq,Int.natAbs_ediv_le_natAbs]
def agA {n d:Int}(hd:0<d):eE n d<=d:=by
 unfold eE;have:=Xy d (Int.gcd n d:Int);omega
def VC (x:Int):(x.sign=0↔x=0)/\(x.sign=1↔0<x)/\(x.sign= -1↔x<0)/\(x.sign=0\/x.sign=1\/x.sign= -1):=by grind
def aW:List Int->Int
 | []=>0
 |x::l=>x+1000000000*aW l
def Dg (l:List Int):Prop:=∀x∈l,0<=x/\x<1000000000
def be (n:Nat):List Int:=if h:n=0 then []else((n%1000000000:Nat):Int)::be (n/1000000000)
termination_by n
decreasing_by omega
theorem cY:be 0= []:=by grind[be]
theorem qu {n:Nat}(h:n≠0):be n=((n%1000000000:Nat):Int)::be (n/1000000000):=by
 conv=>lhs;unfold be
 grind
abbrev pw (n:Nat):Int:=(1000000000:Int)^n
def acT:pw 0=1:=rfl
def pt (n:Nat):pw (n+1)=pw n*1000000000:=Int.pow_succ _ _
def Qp (n:Nat):0<pw n:=Int.pow_pos K9
theorem bp (n:Nat):aW (be n)=n:=by
 induction n using Nat.strongRecOn with
 |_ n ih=>
  grind[cY,qu,aW]
def cX (n:Nat):Dg (be n):=by
 induction n using Nat.strongRecOn with
 |_ n ih=>
  by_cases h:n=0
  ·subst h;rw[cY];intro x hx;grind
  ·rw[qu h];intro x hx;rcases cQ.1 hx with rfl|hx
   ·omega
   ·exact ih _ (Nat.div_lt_self K0 K9) x hx
def Qq:Dg []:=by intro x hx;grind
def Dg.tail {x:Int}{l:List Int}(h:Dg (x::l)):Dg l:=λy hy=>h y (i7 _ hy)
def Dg.take {l:List Int}(h:Dg l)(n:Nat):Dg (l.take n):=λy hy=>h y (FU hy)
def Dg.drop {l:List Int}(h:Dg l)(n:Nat):Dg (l.drop n):=λy hy=>h y (Ps hy)
theorem Dg.get {l:List Int}(h:Dg l)(i:Nat):0<=l.getD i 0/\l.getD i 0<1000000000:=by
 by_cases hi:i<l.length
 ·exact h _ (qq hi)
 grind
def mK {l:List Int}(h:Dg l):0<=aW l:=by
 induction l with
 |nil=>simp[aW]
 |cons x l ih=>
  have:=h x i8;have:=ih h.tail
  grind[aW]
theorem Bp (l l':List Int):aW (l++l')=aW l+pw l.length*aW l':=by
 induction l with
 |nil=>simp[aW,pw]
 |cons x l ih=>
  simp only[qK,aW,ih,kD,pt]
  grind
theorem u5 (l:List Int)(x:Int):aW (l++[x])=aW l+pw l.length*x:=by grind[Bp,aW]
def u6 {l:List Int}(h:Dg l):aW l<pw l.length:=by
 induction l with
 |nil=>simp[aW,pw]
 |cons x l ih=>
  have h1:=h x i8;have h2:=ih h.tail
  grind[aW]
theorem tV {l:List Int}{n:Nat}(h:n<l.length):aW (l.take (n+1))=aW (l.take n)+pw n*l.getD n 0:=by grind[Ai,u5]
def wT (l:List Int)(n:Nat)(h:n<=l.length):aW l=aW (l.take n)+pw n*aW (l.drop n):=by grind[Bp,List.take_append_drop]
def wg (l:List Int):Prop:=Dg l/\(l= []\/l.getD (l.length -1) 0≠0)
def wg.tail {x:Int}{l:List Int}(h:wg (x::l))(hl:l≠[]):wg l:=by
 refine⟨h.1.tail,.inr ?_⟩;rcases h.2 with h2|h2
 grind
 grind
def VD {l:List Int}(h:wg l)(hl:l≠[]):0<aW l:=by
 induction l with
 |nil=>grind
 |cons x l ih=>
  have h1:=h.1 x i8;by_cases he:l= []
  ·subst he;rcases h.2 with h2|h2
   grind
   grind[aW]
  ·have:=ih (h.tail he) he
   grind[aW]
theorem Zp {l:List Int}(h:wg l):l=be (aW l).toNat :=by
 induction l with
 |nil=>simp[aW,cY]
 |cons x l ih=>
  have h1:=h.1 x i8;have hp:=VD h (by simp);have h0:=mK h.1.tail;have hn:(aW (x::l)).toNat ≠0:=by omega
  rw[qu hn];have ed:aW (x::l)=x+1000000000*aW l:=rfl;have e1:(((aW (x::l)).toNat %1000000000:Nat):Int)=x:=by omega
  have e2:(aW (x::l)).toNat /1000000000=(aW l).toNat :=by omega
  rw[e1,e2];by_cases he:l= []
  grind[aW,cY]
  ·rw[<- ih (h.tail he)]
def rB (n:Nat):wg (be n):=by
 refine⟨cX n,?_⟩
 induction n using Nat.strongRecOn with
 |_ n ih=>
  grind[be]
def oJ (l:List Int):Nat->Nat
 |0=>0
 |n+1=>if l.getD n 0=0 then oJ l n else n+1
def M4 (l:List Int): ∀n,oJ l n<=n
 |0=>by simp[oJ]
 |n+1=>by have:=M4 l n;grind[oJ]
def trim (l:List Int):List Int:=l.take (oJ l l.length)
def Ec {l:List Int}: ∀ {n:Nat},n<=l.length->aW (l.take (oJ l n))=aW (l.take n)
 |0,_=>rfl
 |n+1,h=>by
  unfold oJ;split
  ·rename_i h0;rw[Ec (n:=n) K0,tV K0,h0];simp
  ·rfl
def Ed {l:List Int}: ∀ {n:Nat},oJ l n=0\/l.getD (oJ l n -1) 0≠0
 |0=>.inl rfl
 |n+1=>by
  unfold oJ;split
  ·exact Ed (n:=n)
  grind
def Cj {l:List Int}(h:Dg l):trim l=be (aW l).toNat :=by
 have h1:aW (trim l)=aW l:=by unfold trim;rw[Ec (dw _),lu]
 have h2:wg (trim l):=by
  refine⟨h.take _,?_⟩;have eu:=M4 l l.length;unfold trim;rcases Ed (l:=l) (n:=l.length)with h3|h3
  grind
  ·by_cases h0:oJ l l.length=0
   grind
   grind
 grind[Zp]
def Bq {n k:Nat}(h:(n:Int)<pw k):(be n).length <=k:=by
 induction k generalizing n with
 |zero=>
  have:n=0:=by grind
  grind[cY]
 |succ k ih=>
  by_cases h0:n=0
  grind
  grind[qu]
theorem yN {n:Nat}:be n= []↔n=0:=by grind[qu,cY]
end Go.Plain
namespace Go.Proofs.Tryz
open Go.Fw Go.IntWalk Go.Plain
def pv (l:List Int)(hl:l.length<=4294967296):ad 391 [L l] (.one (L (trim l))):=by
 refine sF f391 ?_
 (try(refine tX 0 ?_;try exact Zt))
 refine af (ι:=Nat) (λn=>n<=l.length/\oJ l n=oJ l l.length) (λn=>n) (λn=>⟨[(0,vL l),(3,vI n)],[],0⟩) l.length Zc ⟨dw _,rfl⟩ ?_;rintro n ⟨hn,ht⟩
 cases n with
 |zero=>
  (try(refine tX 0 ?_;try exact Zt))
  unfold trim;rw[<- ht];rfl
 |succ n=>
  have e1:(((n+1:Nat):Int) -1).toNat =n:=by omega
  rw[show oJ l (n+1)=if l.getD n 0=0 then oJ l n else n+1 from rfl]at ht
  (try(refine tX 0 ?_;try exact Zt))
  try rw[e1]
  (refine bR ?_ ?_<;>intro h<;>(try conv=>whnf))
  ·(try(refine tX 0 ?_;try exact Zt))
   rw[if_pos h]at ht;exact⟨n,⟨by omega,ht⟩,by omega,ai (by rw[show((n+1:Nat):Int) -1=(n:Int)by omega];kernel_rfl)⟩
  ·rw[if_neg h]at ht
   (try(refine tX 0 ?_;try exact Zt))
   unfold trim;rw[<- ht];rfl
abbrev Wd (s:Int)(l:List Int):SV:=(true,[J s,.ints l])
def Br (s:Int)(l:List Int)(hl:l.length<=4294967296):ad 384 [I s,L l] (.one (Wd (if trim l= []then 0 else s) (trim l))):=by
 have e:((trim l).length :Int)=0↔trim l= []:=by rw[<- CG];omega
 refine sF f384 ?_;repeat((first|(refine kO 7 rfl ?_;first|refine rG (λ_ z=>⟨_,pv l hl,z⟩) ?_)|refine tX 0 ?_|exact Zt);(try conv=>whnf))
 (refine bR ?_ ?_<;>intro h<;>(try conv=>whnf))
 ·(try(refine tX 0 ?_;try exact Zt))
  rw[if_pos (e.1 h)];rfl
 ·(try(refine tX 0 ?_;try exact Zt))
  rw[if_neg (λhh=>h (e.2 hh))];rfl
abbrev wd (x:Int):SV:=Wd x.sign (be x.natAbs)
def oK {s:Int}{l:List Int}(hl:l.length<=4294967296)(hd:Dg l)(hs:s=1\/s= -1):ad 384 [I s,L l] (.one (wd (s*aW l))):=by
 have h:=Br s l hl;have h0:=mK hd;rw[Cj hd]at h;have e1:(s*aW l).natAbs =(aW l).toNat :=by rcases hs with rfl|rfl<;>omega
 have e2:(if be (aW l).toNat = []then 0 else s)=(s*aW l).sign :=by
  by_cases hz:aW l=0
  ·rw[hz];simp[cY]
  ·rw[if_neg (λhh=>by rw[yN]at hh;omega)];rcases hs with rfl|rfl
   ·rw[CX,Int.sign_eq_one_of_pos K0]
   ·rw[aeq K0]
 unfold wd;rw[e1,<- e2];exact h
def j9 (n:Int)(h: -9223372036854775807<=n/\n<=9223372036854775807):ad 372 [I n] (.one (wd n)):=by
 have key: ∀(s x:Int),(s=1\/s= -1)->0<=x->s*x=n->x<=9223372036854775807->
   ∀(l:List Int) (m:Nat),Dg l/\aW l+pw l.length*m=x->m=0->l.length<=3->ad 384 [I s,L l] (.one (wd n)):=by
  intro s x hs hx hsx hb l m ⟨hd,he⟩ hm hl;subst hm;have:=oK (s:=s) (l:=l) K0 hd hs;rwa [show s*aW l=n by rw[<- hsx,<- he];simp]at this
 have grow: ∀(x:Int) (l:List Int) (m:Nat),Dg l/\aW l+pw l.length*m=x->Dg (l++[(m:Int)%1000000000])/\aW (l++[(m:Int)%1000000000])+pw (l++[(m:Int)%1000000000]).length *((m/1000000000:Nat):Int)=x:=by
  intro x l m ⟨hd,he⟩;refine⟨λy hy=>?_,?_⟩
  ·rcases gC.1 hy with hy|hy
   ·exact hd y hy
   ·simp at hy;subst hy;omega
  ·rw[u5,xI,Sd,pt,<- he];have:(m:Int)=m%1000000000+1000000000*((m/1000000000:Nat):Int):=by omega
   conv=>rhs;rw[this]
   rw[Int.mul_add,LJ];omega
 by_cases KU:n<0
 ·have hk:=key (-1) (-n) (.inr rfl) K0 K0 K0;refine sF f372 ?_
  (try(refine tX 0 ?_;try exact Zt))
  refine aD ?_
  (try(refine tX 0 ?_;try exact Zt))
  have g0:=grow (-n) [] (-n).toNat ⟨Qq,by simp[aW,pw];omega⟩
  refine af (ι:=List Int × Nat) (λp=>(Dg p.1/\aW p.1+pw p.1.length*p.2= -n)/\p.1.length<=3/\(p.1.length<=1->p.2<=9223372036)/\(p.1.length=2->p.2<=9)/\(p.1.length=3->p.2=0)/\1<=p.1.length) (λp=>p.2) (λp=>⟨[(0,vI p.2),(2,pP 0),(3,vI (-1)),(4,pO 1)],[(0,some (.box 423 [.st (J 0),.nil])),(1,some (.row true 1 (.ints p.1)))],2⟩) ([-n%1000000000],(-n).toNat /1000000000)
   (ai (by rw[show(((-n).toNat /1000000000:Nat):Int)= -n/1000000000 by omega];kernel_rfl)) ⟨by rw[show((-n).toNat :Int)= -n by omega]at g0;exact g0,by simp,by simp;omega,by simp,by simp,by simp⟩ ?_
  rintro⟨l,m⟩ ⟨h1,h2,h3,h4,h5,h6⟩;simp only at h1 h2 h3 h4 h5 h6
  (try(refine tX 0 ?_;try exact Zt))
  (refine bR ?_ ?_<;>intro h<;>(try conv=>whnf))
  ·have g:=grow (-n) l m h1;exact K84
  ·repeat((first|(refine kO 7 rfl ?_;first|refine rG (λ_ z=>⟨_,hk l m h1 K0 h2,z⟩) ?_)|refine tX 0 ?_|exact Zt);(try conv=>whnf))
   rfl
 ·have hk:=key 1 n (.inl rfl) K0 K0 K0;by_cases hz:n=0
  ·subst hz;have hk:=hk [] 0 ⟨Qq,by simp[aW]⟩ rfl (by simp);refine sF f372 ?_
   (try(refine tX 0 ?_;try exact Zt))
   refine aD ?_;exact IV
  ·refine sF f372 ?_
   (try(refine tX 0 ?_;try exact Zt))
   refine aD ?_
   (try(refine tX 0 ?_;try exact Zt))
   have g0:=grow n [] n.toNat ⟨Qq,by simp[aW,pw];omega⟩
   refine af (ι:=List Int × Nat) (λp=>(Dg p.1/\aW p.1+pw p.1.length*p.2=n)/\p.1.length<=3/\(p.1.length<=1->p.2<=9223372036)/\(p.1.length=2->p.2<=9)/\(p.1.length=3->p.2=0)/\1<=p.1.length) (λp=>p.2) (λp=>⟨[(0,vI p.2),(2,pP 0),(3,vI 1),(4,pO 1)],[(0,some (.box 423 [.st (J 0),.nil])),(1,some (.row true 1 (.ints p.1)))],2⟩) ([n%1000000000],n.toNat/1000000000)
    (ai (by rw[show((n.toNat/1000000000:Nat):Int)=n/1000000000 by omega];kernel_rfl)) ⟨by rw[show(n.toNat:Int)=n by omega]at g0;exact g0,by simp,by simp;omega,by simp,by simp,by simp⟩ ?_
   rintro⟨l,m⟩ ⟨h1,h2,h3,h4,h5,h6⟩;simp only at h1 h2 h3 h4 h5 h6
   (try(refine tX 0 ?_;try exact Zt))
   (refine bR ?_ ?_<;>intro h<;>(try conv=>whnf))
   ·have g:=grow n l m h1;exact K84
   ·repeat((first|(refine kO 7 rfl ?_;first|refine rG (λ_ z=>⟨_,hk l m h1 K0 h2,z⟩) ?_)|refine tX 0 ?_|exact Zt);(try conv=>whnf))
    rfl
end Go.Proofs.Tryz
namespace Go.Plain
def fY (l:List Int)(n:Nat):aW (l.take (n+1))=aW (l.take n)+pw n*l.getD n 0:=by grind[tV,List.take_of_length_le]
def Ck {m n:Nat}(h:m<=n):pw m<=pw n:=by
 induction n with
 |zero=>grind
 |succ n ih=>
  grind
def wU (x y:Nat):Int:=if x<y then -1 else if y<x then 1 else 0
def Zr {l:List Int}(h:wg l)(hl:l≠[]):pw (l.length -1)<=aW l:=by
 have fO:0<l.length:=Lq.2 hl;have h1:=wT l (l.length -1) K0;have h2:l.drop (l.length -1)= [l.getD (l.length -1) 0]:=by grind[nV]
 rw[h2]at h1
 have h3:l.getD (l.length -1) 0≠0:=by
  rcases h.2 with h3|h3
  grind
  omega
 have h4:=h.1.get (l.length -1);have h5:=mK (h.1.take (l.length -1));have h6:=Qp (l.length -1);have h7:pw (l.length -1)*1<=pw (l.length -1)*l.getD (l.length -1) 0:=Xu K0 K0;simp only[aW]at h1
 grind
def Qr {a b:List Int}(ha:wg a)(hb:wg b)(h:a.length<b.length):aW a<aW b:=by
 have h1:=u6 ha.1;have h2:=Zr hb br;have h3:=Ck (show a.length<=b.length -1 by omega);omega
def Zu {a b:List Int}(ha:Dg a)(hb:Dg b){i:Nat}(h:a.length=b.length)(hi:i<a.length)(ht:a.drop (i+1)=b.drop (i+1))(ak:a.getD i 0<b.getD i 0):aW a<aW b:=by
 have h1:=wT a i K0;have h2:=wT b i K0;rw[nV (d:=0) hi]at h1;rw[nV (d:=0) (show i<b.length by omega)]at h2;rw[ht]at h1;simp only[aW]at h1 h2;generalize aW (List.drop (i+1) b)=z at*;have h3:=u6 (ha.take i);have e:(a.take i).length =i:=by grind
 rw[e]at h3;have h4:=mK (hb.take i);have h5:=Qp i;have h6:pw i*(a.getD i 0+1+1000000000*z)<=pw i*(b.getD i 0+1000000000*z):=Xu K0 K0
 grind
def sI (a b:List Int):Nat->Int
 |0=>0
 |i+1=>(a.getD i 0+b.getD i 0+sI a b i)/1000000000
def Zv (a b:List Int)(i:Nat):Int:=(a.getD i 0+b.getD i 0+sI a b i)%1000000000
def rC {a b:List Int}(ha:Dg a)(hb:Dg b): ∀i,0<=sI a b i/\sI a b i<=1
 |0=>by simp[sI]
 |i+1=>by
  have h1:=rC ha hb i;have h2:=ha.get i;have h3:=hb.get i
  grind[sI]
def BU (a b:List Int)(n:Nat):List Int:=(List.range n).map (Zv a b)
def HX (a b:List Int)(n:Nat):BU a b (n+1)=BU a b n++[Zv a b n]:=wa
def Ef (a b:List Int)(n:Nat):(BU a b n).length =n:=by simp[BU]
def acU {a b:List Int}(n:Nat):Dg (BU a b n):=by
 intro x hx;obtain⟨k,_,rfl⟩:=dN.1 hx
 grind[Zv]
def M5 (a b:List Int): ∀n,aW (BU a b n)+pw n*sI a b n=aW (a.take n)+aW (b.take n)
 |0=>by simp[BU,aW,sI]
 |n+1=>by
  have h:=M5 a b n;rw[HX,u5,Ef,fY,fY,pt];have e:a.getD n 0+b.getD n 0+sI a b n=Zv a b n+1000000000*sI a b (n+1):=by grind[Zv,sI]
  grind
def rE (a b:List Int):Nat:=max a.length b.length+(if sI a b (max a.length b.length)>0 then 1 else 0)
def HY {a b:List Int}(ha:Dg a)(hb:Dg b){i:Nat}(hi:i<=rE a b):(i<a.length\/i<b.length\/sI a b i>0)↔i<rE a b:=by
 have xz:=rC ha hb (max a.length b.length);unfold rE at hi ⊢;by_cases h:i<max a.length b.length;omega
 ·by_cases hm:i=max a.length b.length
  grind
  ·split at hi<;>rename_i hc
   ·have hi2:i=max a.length b.length+1:=by omega
    have e1:a.getD (max a.length b.length) 0=0:=by grind
    have e2:b.getD (max a.length b.length) 0=0:=by grind
    have e3:sI a b i=0:=by grind[sI]
    grind
   ·omega
def Zw {a b:List Int}(ha:Dg a)(hb:Dg b):aW (BU a b (rE a b))=aW a+aW b:=by
 have h1:=M5 a b (rE a b);have h2:=(HY ha hb (dw _)).1;have h3:=rC ha hb (rE a b);have h4:sI a b (rE a b)=0:=by omega
 rw[h4,Int.mul_zero,Int.add_zero]at h1
 grind[List.take_of_length_le]
def FP (a b:List Int):Nat->Int
 |0=>0
 |i+1=>if a.getD i 0 -b.getD i 0 -FP a b i<0 then 1 else 0
def sbD (a b:List Int)(i:Nat):Int:=if a.getD i 0 -b.getD i 0 -FP a b i<0 then a.getD i 0 -b.getD i 0 -FP a b i+1000000000 else a.getD i 0 -b.getD i 0 -FP a b i
def Am (a b:List Int): ∀i,0<=FP a b i/\FP a b i<=1
 |0=>by simp[FP]
 |i+1=>by grind[FP]
def Xe (a b:List Int)(n:Nat):List Int:=(List.range n).map (sbD a b)
def M6 (a b:List Int)(n:Nat):Xe a b (n+1)=Xe a b n++[sbD a b n]:=wa
theorem Cl (a b:List Int)(n:Nat):(Xe a b n).length =n:=by simp[Xe]
def Zx {a b:List Int}(ha:Dg a)(hb:Dg b)(n:Nat):Dg (Xe a b n):=by
 intro x hx;obtain⟨k,_,rfl⟩:=dN.1 hx;have:=ha.get k;have:=hb.get k;have:=Am a b k
 grind[sbD]
def Tz (a b:List Int): ∀n,aW (Xe a b n)=aW (a.take n) -aW (b.take n)+pw n*FP a b n
 |0=>by simp[Xe,aW,FP]
 |n+1=>by
  have h:=Tz a b n;rw[M6,u5,Cl,fY,fY,pt,h];have e:sbD a b n=a.getD n 0 -b.getD n 0 -FP a b n+1000000000*FP a b (n+1):=by grind[sbD,FP]
  grind
def acV {a b:List Int}(ha:Dg a)(hb:Dg b)(hl:b.length<=a.length)(h:aW b<=aW a):aW (Xe a b a.length)=aW a -aW b:=by
 have h1:=Tz a b a.length;rw[lu,o0 hl]at h1;have h2:=u6 (Zx ha hb a.length);rw[Cl]at h2;have h3:=Am a b a.length;have h4:FP a b a.length=0\/FP a b a.length=1:=by omega
 grind
def gw {x y:Nat}(h:y<=x):(be y).length <=(be x).length :=by
 apply Pn;intro hh;have:=Qr (rB x) (rB y) K0
 grind[bp]
def Eg {l:List Int}{j:Nat}(h:j<l.length)(v:Int):aW (l.set j v)=aW l+pw j*(v -l.getD j 0):=by
 induction l generalizing j with
 |nil=>grind
 |cons x l ih=>
  cases j with
  |zero=>simp[aW,pw];omega
  |succ j=>
   have:=ih (j:=j) br;simp only[XK,aW,this,pt,Sr]
   grind
theorem getD_set_ne {l:List Int}{i j:Nat}(h:i≠j)(v:Int):(l.set i v).getD j 0=l.getD j 0:=by grind
theorem Qs {l:List Int}(h:Dg l)(j:Nat){v:Int}(hv:0<=v/\v<1000000000):Dg (l.set j v):=by
 intro x hx;rcases R8 hx with hx|rfl
 ·exact h x hx
 omega
def i6 (out:List Int)(i:Nat)(x:Int)(b:List Int):Nat->List Int × Int
 |0=>(out,0)
 |k+1=>((i6 out i x b k).1.set (i+k) (((i6 out i x b k).1.getD (i+k) 0+x*b.getD k 0+(i6 out i x b k).2)%1000000000),
   ((i6 out i x b k).1.getD (i+k) 0+x*b.getD k 0+(i6 out i x b k).2)/1000000000)
def Eh (out:List Int)(i:Nat)(x:Int)(b:List Int):List Int:=
 (i6 out i x b b.length).1.set (i+b.length) ((i6 out i x b b.length).1.getD (i+b.length) 0+(i6 out i x b b.length).2)
def ia (a b:List Int):Nat->List Int
 |0=>List.replicate (a.length+b.length+1) 0
 |i+1=>Eh (ia a b i) i (a.getD i 0) b
def qw (out:List Int)(i:Nat)(x:Int)(b:List Int): ∀k,(i6 out i x b k).1.length =out.length
 |0=>rfl
 |k+1=>by simp[i6,qw out i x b k]
def rF (a b:List Int): ∀i,(ia a b i).length =a.length+b.length+1
 |0=>by simp[ia]
 |i+1=>by simp[ia,Eh,qw,rF a b i]
def Ej {x y:Int}(hx:0<=x/\x<1000000000)(hy:0<=y/\y<1000000000):0<=x*y/\x*y<=999999998000000001:=
 ⟨CM hx.1 hy.1,by have:=CV (show x<=999999999 by omega) (show y<=999999999 by omega) hy.1 K0;omega⟩
def wW {out b:List Int}{i:Nat}{x:Int}(ho:Dg out)(hb:Dg b)(hx:0<=x/\x<1000000000): ∀k,i+k<=out.length->
  Dg (i6 out i x b k).1/\(0<=(i6 out i x b k).2/\(i6 out i x b k).2<1000000000)/\aW (i6 out i x b k).1+pw (i+k)*(i6 out i x b k).2=aW out+x*(pw i*aW (b.take k))/\
  ∀j,i+k<=j->(i6 out i x b k).1.getD j 0=out.getD j 0
 |0,_=>⟨ho,by simp[i6],by simp[i6,aW],λj _=>rfl⟩
 |k+1,hk=>by
  obtain⟨h1,h2,h3,h4⟩:=wW (i:=i) ho hb hx k K0;have hl:=qw out i x b k;have g1:=h1.get (i+k);have g2:=hb.get k;have g3:=Ej hx g2;refine⟨Qs h1 _ K0,by grind[i6],?_,λj hj=>?_⟩
  ·simp only[i6];rw[Eg K0,fY,<- LI,pt]
   grind
  grind[i6]
def tZ {a b:List Int}(ha:Dg a)(hb:Dg b): ∀i,i<=a.length->Dg (ia a b i)/\aW (ia a b i)=aW (a.take i)*aW b/\∀j,i+b.length<=j->(ia a b i).getD j 0=0
 |0,_=>by
  refine⟨λx hx=>?_,?_,λj _=>?_⟩
  grind[ia]
  ·simp only[ia,G1,aW,Int.zero_mul];generalize a.length+b.length+1=n;exact aj4
  grind[ia]
 |i+1,hi=>by
  obtain⟨h1,h2,h3⟩:=tZ ha hb i K0;have hl:=rF a b i;obtain⟨g1,g2,g3,g4⟩:=wW (i:=i) (x:=a.getD i 0) h1 hb (ha.get i) b.length K0;have hl2:=qw (ia a b i) i (a.getD i 0) b b.length;have e0:(i6 (ia a b i) i (a.getD i 0) b b.length).1.getD (i+b.length) 0=0:=by grind
  refine⟨?_,?_,λj hj=>?_⟩
  ·simp only[ia,Eh,e0,Int.zero_add]
   grind[Qs]
  ·simp only[ia,Eh,e0,Int.zero_add];rw[Eg K0,e0,Int.sub_zero,g3,h2,fY,lu,Int.add_mul,<- LJ,Int.mul_comm (pw i)]
  grind[ia,Eh,getD_set_ne]
def nY (a:List Int)(i:Nat):Int:=aW (a.drop i)
def VE (a:List Int)(y:Int)(i:Nat):Int:=(a.getD i 0+1000000000*(nY a (i+1)%y))/y
def qS (a:List Int)(y:Int):Nat->List Int
 |0=>List.replicate a.length 0
 |t+1=>(qS a y t).set (a.length -1 -t) (VE a y (a.length -1 -t))
def Ek (a:List Int)(y:Int): ∀t,(qS a y t).length =a.length
 |0=>by simp[qS]
 |t+1=>by simp[qS,Ek a y t]
def M9 {a:List Int}{i:Nat}(h:i<a.length):nY a i=a.getD i 0+1000000000*nY a (i+1):=by unfold nY;rw[nV (d:=0) h];rfl
def TB (a:List Int):nY a a.length=0:=by unfold nY;rw[LA];rfl
def Na (a:List Int):nY a 0=aW a:=rfl
def Nb {p r y:Int}(hy:0<y):(r+1000000000*p)/y=1000000000*(p/y)+(r+1000000000*(p%y))/y/\(r+1000000000*p)%y=(r+1000000000*(p%y))%y:=by
 have e:r+1000000000*p=(r+1000000000*(p%y))+y*(1000000000*(p/y)):=by
  have:=Sh p y
  grind
 constructor
 ·rw[e,Int.add_mul_ediv_left _ _ K0];omega
 simp_all
def Qt {a:List Int}{y:Int}(h:Dg a)(hy:0<y)(i:Nat):0<=VE a y i/\VE a y i<1000000000:=by
 have h1:=h.get i;have h2:=CK (nY a (i+1)) (show y≠0 by omega);have h3:=Lr (nY a (i+1)) hy;unfold VE;constructor
 ·exact LF K0 K0
 ·exact Int.ediv_lt_of_lt_mul hy K0
def TC {a:List Int}{y:Int}(h:Dg a)(hy:0<y): ∀t,t<=a.length->Dg (qS a y t)/\aW (qS a y t)=pw (a.length -t)*(nY a (a.length -t)/y)/\∀j,j<a.length -t->(qS a y t).getD j 0=0
 |0,_=>by
  refine⟨λx hx=>?_,?_,λj _=>?_⟩
  grind[qS]
  ·simp only[qS,G2,TB,Int.zero_ediv,Int.mul_zero];generalize a.length=n;exact aj4
  grind[qS]
 |t+1,ht=>by
  obtain⟨h1,h2,h3⟩:=TC h hy t K0;have hl:=Ek a y t;have e1:a.length -(t+1)=a.length -1 -t:=by omega
  have e2:a.length -t=a.length -1 -t+1:=by omega
  have hj:a.length -1 -t<a.length:=by omega
  refine⟨Qs h1 _ (Qt h hy _),?_,λj hjj=>?_⟩
  ·simp only[qS];rw[Eg K0,h3 _ K0,Int.sub_zero,h2,e1,e2,pt];have hs:=(Nb (p:=nY a (a.length -1 -t+1)) (r:=a.getD (a.length -1 -t) 0) hy).1;rw[M9 hj,hs,Int.mul_add,<- LJ];rfl
  grind[qS,getD_set_ne]
theorem VF {a:List Int}{y:Int}(hy:0<y){i:Nat}(h:i<a.length):nY a i%y=(a.getD i 0+1000000000*(nY a (i+1)%y))%y:=by rw[M9 h,(Nb hy).2]
def VG {x y:Int}(hy:0<y):(-x)/y=if x%y=0 then -(x/y)else -(x/y) -1:=by
 have h1:=Sh x y;have h2:=CK x (show y≠0 by omega);have h3:=Lr x hy;split
 ·rename_i h;refine((Lw (r:=0) (q:= -(x/y)) hy).2 ⟨?_,by omega,hy⟩).1
  grind
 ·rename_i h;refine((Lw (r:=y -x%y) (q:= -(x/y) -1) hy).2 ⟨?_,by omega,by omega⟩).1
  grind
end Go.Plain
namespace Go.Proofs.Tryz
open Go Go.RowKit Go.Shelf Go.Fw Go.Plain
attribute [local go_sem] Oper.semAt_some
set_option maxRecDepth 100000 in
set_option maxHeartbeats 4000000 in
def VL (mr:Mem)(a:Option Addr)(n cap bc ob:Nat)(f:Nat->Array Value)(hn:n<=1000000)(w:World)(hbc:mr bc ob=some (.slice a n cap))
  (l8: ∀i,i<n->∃b o,a=some ⟨b,o,none⟩/\(f i).size =4/\∀k,k<4->mr b (o+i*4+k)=some ((f i).getD k undef)):
  akH prog 296 #[] #[.pointer (some ⟨bc,ob,none⟩)] ((List.range n).map λj=> #[.int .i64 ((n -1 -j:Nat):Int),.agg (f (n -1 -j))]) mr w:=by
 intro l J Jx W M0 hW hM0 hJ hJx hJm hY h0;refine callsIn_of_wp Tryz.func296 rfl trivial ?_ rfl;simp only[Tryz.ntmps296,List.size_toArray,kD,zQ,Nat.reduceAdd,Nat.reduceSub,Array.replicate_succ,Array.replicate_zero,List.push_toArray,List.append_toArray,LG,qK];have c0:W.cell? ⟨bc,ob,none⟩=some (.slice a n cap):=hJm _ _ h0 _ _ _ hbc
 gi_wp2
 gi_loopw [3] (λv wr=>∃j:Nat,j<=n/\v= .int .i64 ((n:Int) -1 -j)/\∃M,J (j,M) wr)
  (λv _=>(intOf v+1).toNat)
 case atStart=>exact⟨0,dC _,by simp,M0,h0⟩
 case round=>
  clear c0 h0;obtain⟨j,hj,rfl,M1,hJj⟩:=hrel;have c1:wr.cell? ⟨bc,ob,none⟩=some (.slice a n cap):=hJm _ _ hJj _ _ _ hbc;by_cases hjn:j<n
  ·have e1:decide ((n:Int) -1 -j>=0)=true:=fH K0;obtain⟨b,o,rfl,hs4,hk4⟩:=l8 (n -1 -j) K0;have hje:((n:Int) -1 -j).toNat =n -1 -j:=by omega
   have e2:(Instr.indexAt 41 (.slice (some ⟨b,o,none⟩) n cap) (.int .i64 ((n:Int) -1 -j))).run prog wr= .ok (.pointer (some ⟨b,o+(n -1 -j)*4,none⟩)) wr:=by
    have:=HI (C:=cx) (w:=wr) (b:=b) (o:=o) (n:=n) (cap:=cap) (k:=(n:Int) -1 -j) lG (T:=41) rfl rfl rfl K0 K0;rw[hje]at this;exact this
   obtain⟨v0,v1,v2,v3,Fz⟩: ∃v0 v1 v2 v3,f (n -1 -j)= #[v0,v1,v2,v3]:=by
    generalize f (n -1 -j)=g at hs4;obtain⟨l⟩:=g
    match l,hs4 with
    | [v0,v1,v2,v3],_=>exact⟨v0,v1,v2,v3,rfl⟩
   rw[Fz]at hk4;have k0:wr.cell? ⟨b,o+(n -1 -j)*4,none⟩=some v0:=hJm _ _ hJj _ _ _ (hk4 0 K0);have k1:wr.cell? ⟨b,o+(n -1 -j)*4+1,none⟩=some v1:=hJm _ _ hJj _ _ _ (hk4 1 K0);have k2:wr.cell? ⟨b,o+(n -1 -j)*4+2,none⟩=some v2:=hJm _ _ hJj _ _ _ (hk4 2 K0);have k3:wr.cell? ⟨b,o+(n -1 -j)*4+3,none⟩=some v3:=hJm _ _ hJj _ _ _ (hk4 3 K0)
   have hx:((List.range n).map λj=> #[Value.int .i64 ((n -1 -j:Nat):Int),Value.agg (f (n -1 -j))])[j]? =some #[.int .i64 ((n:Int) -1 -j),.agg #[v0,v1,v2,v3]]:=by
    rw[gr,List.getElem?_range hjn];simp only[xJ,lK];rw[show((n -1 -j:Nat):Int)=(n:Int) -1 -j by omega,Fz]
   obtain⟨fn,tmps,assign,body,hy,hR⟩:=hY _ _ _ wr hx hJj
   gi_wp2
   refine⟨rfl,hR.mono ?_⟩;rintro e W3 (⟨rfl,M3,hJ3,hs3,hl3,hk3⟩|⟨rfl,hJx3⟩)
   ·gi_wp2
    refine⟨⟨j+1,by omega,by congr 1;omega,M3,hJ3⟩,by simp only[intOf];omega⟩
   ·gi_wp2
    refine bodyPost_ret (results_none rfl _ _ _) rfl ?_;exact⟨⟨_,rfl⟩,.inr hJx3⟩
  ·have e1:decide ((n:Int) -1 -j>=0)=false:=eT K0;obtain rfl:j=n:=by omega
   gi_wp2
   go_end0
   refine⟨⟨_,rfl⟩,.inl ⟨M1,?_⟩⟩;rw[ja,List.length_range];exact hJj
def acX (es:List (List SC))(hn:es.length<=1000000)(h4: ∀e∈es,e.length=4):
  S7 cx.P cx.gl 296 [] [[.view es]] ((List.range es.length).map λj=>[(false,[.lit (.int .i64 ((es.length -1 -j:Nat):Int))]),(true,es.getD (es.length -1 -j) [])]):=by
 refine⟨by kernel_rfl,λmv mr w fb cv wz hmr hgl hfb hcv=>?_⟩;have anN:fb= #[]:=Array.eq_empty_of_size_eq_zero hfb.1;subst anN;obtain⟨v,rfl,hv⟩:=yx hcv
 cases hv with
 |empty _ _ hv=>simp[SC.ao]at hv
 |view _ _ _ _ _ hv=>simp[SC.ao]at hv
 |ref bc ob g hc hr=>
  have hbc:mr bc ob=some (g 0):=hc 0 (by simp);have hg:=hr 0 _ rfl;generalize g 0=hv at hbc hg
  obtain⟨a,cap,rfl,l8⟩: ∃a cap,hv= .slice a es.length cap/\∃f:Nat->Array Value,∀i,i<es.length->∃b o,a=some ⟨b,o,none⟩/\(f i).size =4/\(∀k,k<4->mr b (o+i*4+k)=some ((f i).getD k undef))/\
    ∀(k:Nat) (x:SC),(es.getD i [])[k]? =some x->dq mv eU ((f i).getD k undef) x:=by
   cases hg with
   |empty a cap hv h0=>exact⟨a,cap,by rw[show es.length=0 from h0],λ_=> #[],λi hi=>by rw[show es.length=0 from h0]at hi;omega⟩
   |view b o cap z f hv fO hz gc hl hc hr=>
    have fO:0<es.length:=fO;have hz4:z=4:=by rw[<- hl 0 es[0] (by simp[SC.elem,fO])];exact h4 _ (oh fO)
    subst hz4;refine⟨_,cap,rfl,λi=> #[f (i*4),f (i*4+1),f (i*4+2),f (i*4+3)],λi hi=>⟨b,o,rfl,rfl,λk hk=>?_,λk x hx=>?_⟩⟩
    ·have:=wz _ _ _ (hc (i*4+k) (by show _<es.length*4;omega));rw[show o+i*4+k=o+(i*4+k)by omega,this]
     match k,hk with
     |0,_=>rfl
     |1,_=>rfl
     |2,_=>rfl
     |3,_=>rfl
    ·have he:(SC.view es).elem i=some (es.getD i []):=by simp[SC.elem,jE,hi]
     have hk:=(kl.1 hx).1;rw[hl i _ he]at hk;have:=hr i _ k x he hx
     match k,hk with
     |0,_=>exact this
     |1,_=>exact this
     |2,_=>exact this
     |3,_=>exact this
  obtain⟨f,hf⟩:=l8;refine⟨(List.range es.length).map λj=> #[.int .i64 ((es.length -1 -j:Nat):Int),.agg (f (es.length -1 -j))],by simp,λi x r hx B9=>?_,?_⟩
  ·rw[gr,my]at hx B9;obtain⟨j,hj,rfl⟩:=hx;obtain⟨j',hj',rfl⟩:=B9;rw[hj]at hj';cases hj'
   have hjl:j<es.length:=by
    have:=(kl.1 hj);obtain⟨q1,q2⟩:=this;simp at q1 q2;omega
   obtain⟨b,o,_,q2,_,q4⟩:=hf (es.length -1 -j) K0;refine⟨rfl,λk x hk=>?_⟩
   match k,hk with
   |0,hk=>simp at hk;subst hk;exact⟨_,rfl,.lit rfl⟩
   |1,hk=>
    simp at hk;subst hk;refine⟨_,rfl,?_,q4⟩;rw[q2];have ak:es.length -1 -j<es.length:=by omega
    simp only[jE,nM ak,sY];exact(h4 _ (oh ak)).symm
   |k+2,hk=>simp at hk
  ·exact VL mr a es.length cap bc ob f hn w hbc λi hi=>let⟨b,o,h1,h2,h3,_⟩:=hf i hi;⟨b,o,h1,h2,h3⟩
end Go.Proofs.Tryz
namespace Go.Fw
open Go.RowKit (Below)
open Classical
section
variable {C:bQ}{F:gN}{β:Nat->Option Nat}{N:Nat->Prop}{H:HF}{fid:Nat}{w:World}
def ZH (hR:ac F β N H w)(hf: ¬N fid){z id b cap:Nat}{c c':SC}{arr arr':Array Value}{T:TypeId}(hb:H id=some (.row true z c))(xm:β id=some b)(lB:w.heap[b]? =some (.cells arr T))(nn:arr.size=cap*z)(O5:arr'.size=arr.size)
  (hv:c'.ao=true)(eu:c'.len<=cap)(iE: ∀i e,c'.elem i=some e->e.length=z)(hc: ∀i e j x,c'.elem i=some e->e[j]? =some x->dq eU eU (arr'.getD (i*z+j) undef) x):
  ∃cL,Tr F β N H w cL (bf N fid) (Hp.on [(fid,some (.row true z c')),(id,none)] H) (w.setRow b arr')/\ac F cL (bf N fid) (Hp.on [(fid,some (.row true z c')),(id,none)] H) (w.setRow b arr')/\
   b8 F cL (bf N fid) (Hp.on [(fid,some (.row true z c')),(id,none)] H) (w.setRow b arr') (.slice (some ⟨b,0,none⟩) c'.len cap) (bm (.own fid)):=by
 obtain⟨hn,⟨hz,Xk,sq⟩,gD⟩:=hR.rel id _ hb
 rcases gD with⟨q,_⟩|⟨b',jD,q1,q2,xk,T0,q3,q4,q5⟩
 ·grind
 rw[xm]at q1;cases q1;rw[lB]at q3;cases q3;have W8:id≠fid:=λe=>hf (e▸hn);have vK:(w.setRow b arr').heap[b]? =some (.cells arr' T):=xK w b arr _ T (0,0) lB
 show ∃cL,Tr F β N H w cL (bf N fid) (bn (bn H id none) fid (some (.row true z c'))) (w.setRow b arr')/\ac F cL (bf N fid) (bn (bn H id none) fid (some (.row true z c'))) (w.setRow b arr')/\
   b8 F cL (bf N fid) (bn (bn H id none) fid (some (.row true z c'))) (w.setRow b arr') (.slice (some ⟨b,0,none⟩) c'.len cap) (bm (.own fid))
 have live: ∀ {k:Nat} {b0:co},k≠fid->bn (bn H id none) fid (some (.row true z c')) k=some b0->k≠id/\H k=some b0:=by grind[aH,an]
 have hT:Tr F β N H w (cR β fid (some b)) (Fw.bf N fid) (bn (bn H id none) fid (some (.row true z c'))) (w.setRow b arr'):=by
  refine⟨jv.setRow (hR.gb hb xm).2 _,λb' o v _ hs e=>⟨λiO bz e' jS=>?_,?_⟩,λ_ h=>.inl h,λiO IE=>it _ _ _ λe=>hf (e▸IE),λiO blk' IE e=>?_,λ_ _ _ b' xk T0 _ _ _ _ _ e=>?_,mg ⟨_,_,lB⟩ _⟩
  ·by_cases hk:iO=fid
   ·subst hk;rw[jw]at jS;cases jS;have:=hs id _ hb xm
    grind[co.sS]
   ·exact afP
  ·by_cases hk:b'=b
   ·subst hk;have:=hs id _ hb xm
    grind[co.sS]
   exact abY
  ·exact afD
  grind[setRow_other]
 have hH:ac F (cR β fid (some b)) (Fw.bf N fid) (bn (bn H id none) fid (some (.row true z c'))) (w.setRow b arr'):=by
  refine hR.step hT (λi=>i=fid) (λi bz hi e=>?_) (λi bz hi e=>?_) (λi j x y y' hi hj bi bj=>?_)
  ·exact K73
  ·subst hi;rw[an]at e;cases e;exact⟨.inr rfl,⟨hz,hv,iE⟩,.inr ⟨b,cap,by simp[cR],q2,arr',T,vK,by omega,hz,hv,eu,iE,λi e' j x he hx=>(hc i e' j x he hx).mono (dX _) (Mem.le_refl _)⟩⟩
  ·exact K21
 refine⟨_,hT,hH,cI ⟨.inr rfl,rfl,λnL z' n' jS wx=>?_⟩⟩;have:bn (bn H id none) fid (some (.row true z c')) fid=some nL:=jS;exact afA
theorem No {f:FuncId}(fB:iG C.P f=true)(zs:List (List UInt8))(i j:Nat)(Lb:i<j)(hj:j<=zs.length)
  (bC: ∀(b cap:Nat) (arr:Array Value) (T:TypeId) (w:World),w.heap[b]? =some (.cells arr T)->arr.size=cap->zs.length<=cap->(∀k,k<zs.length->arr[k]? =some (.string (B (zs.getD k []))))->
   Calls C.P f #[.slice (some ⟨b,0,none⟩) zs.length cap,.int .i64 i,.int .i64 j] w λe w'=>e= .returned (.slice (some ⟨b,0,none⟩) (i+(zs.length -j)) cap)/\
    ∃arr',w'=w.drew.setRow b arr'/\arr'.size=arr.size/\∀k,k<i+(zs.length -j)->arr'[k]? =some (.string (B ((zs.take i++zs.drop j).getD k []))))
  {id:Nat}(hb:H id=some (.row true 1 (.view (ab zs)))):
  bN C fid f [(false,[.own id]),(false,[.st (.lit (.int .i64 i))]),(false,[.st (.lit (.int .i64 j))])] H (bm (.own fid)) [(fid,some (.row true 1 (.view (ab (zs.take i++zs.drop j))))),(id,none)] [id]:=by
 refine⟨fB,λF β N H' w vs hH hG hR hf nn hv=>?_⟩;have jS:H' id=some (.row true 1 (.view (ab zs))):=by grind
 obtain⟨hn,h1,h2⟩:cd F β N H' w (vs.getD 0 undef) (.own id):=(hv 0 _ rfl).am;have e1:vs.getD 1 undef= .int .i64 i:=(cd.bw ((hv 1 _ rfl).am)).1;have e2:vs.getD 2 undef= .int .i64 j:=(cd.bw ((hv 2 _ rfl).am)).1;have bB:(SC.view (ab zs)).len =zs.length:=by simp[SC.len]
 rcases h2 _ _ _ jS rfl with⟨_,h0,_⟩|⟨b,cap,arr,T,a1,a2,a3,a4⟩
 ·omega
 rw[bB]at a2
 have xw:vs= #[.slice (some ⟨b,0,none⟩) zs.length cap,.int .i64 i,.int .i64 j]:=by
  have h3:vs.size=3:=nn;apply AS;omega
  ·intro k hk _;rw[h3]at hk;have hg: ∀k (hk:k<vs.size),vs[k]=vs.getD k undef:=λk hk=>by simp[Array.getD,hk]
   grind
 obtain⟨_,⟨hz,Xk,iE⟩,gD⟩:=hR.rel id _ jS
 rcases gD with⟨q,_⟩|⟨b',jD,q1,q2,arr',T',p1,p2,p3,p4,p5,p6,p7⟩
 ·omega
 rw[a1]at q1;cases q1;rw[a3]at p1;cases p1;have hcc:cap=jD:=by omega
 subst hcc;rw[bB]at p5
 have iP: ∀k,k<zs.length->arr[k]? =some (.string (B (zs.getD k []))):=λk hk=>by
  have:=p7 k [.lit (.string (B (zs.getD k [])))] 0 (.lit (.string (B (zs.getD k [])))) (by simp[SC.elem,ab,jE,hk]) rfl;simp only[AQ,CP]at this;have ak:k<arr.size:=by omega
  have e:=(cd.bw (F:=F) (β:=β) (N:=N) (H:=H') (w:=w) (dq.mono (Mem.le_refl _) (dX _) this)).1;simp_all
 rw[xw];refine(bC b cap arr T w a3 K0 p5 iP).mono λe w1 he=>?_;obtain⟨rfl,aef,rfl,s1,s2⟩:=he;have hB:Below w.heap.size w w.drew:=(Below.refl _ _).drew;have W6:=hR.grow hB;have t1:=Tr.grow hR hB;have hl2:(SC.view (ab (zs.take i++zs.drop j))).len =i+(zs.length -j):=by grind[SC.len]
 obtain⟨cL,g1,g2,g3⟩:=ZH (c':=.view (ab (zs.take i++zs.drop j))) W6 (λh=>hf _ h rfl) jS a1 (show w.drew.heap[b]? =some (.cells arr T)from a3) a4 s1 rfl K0 (λk e he=>by grind[nR]) λk e m x he hx=>by
  obtain⟨s,hs,rfl⟩:=nR he;have hk:k<i+(zs.length -j):=by grind
  cases m with
  |succ m=>grind
  |zero=>
   simp at hx;subst hx;have:=s2 k hk;rw[jE,hs,sY]at this;rw[AQ,CP,sw,this];exact .lit rfl
 rw[hl2]at g3;exact⟨_,cL,rfl,t1.trans g1,g2,g3⟩
end
end Go.Fw
namespace Go.Proofs.Tryz
open Go Go.RowKit Go.Fw Go.Lib
def yS {w:World}{b off:Nat}{arr:Array Value}{T:TypeId}{vs:List Value}(hb:w.heap[b]? =some (.cells arr T))(hf:off+vs.length<=arr.size)(h1: ∀v∈vs,v.oneCell'=true):w.setCells b off vs=w.setRow b (aO arr off vs):=by
 have e1:=Sj (default:Program) b off T vs 0 arr w hb (by simpa using hf) h1;have e2:=run_storeCells_cells (P:=default) b off vs 0 w (λj hj=>by simp[World.cell?,hb];omega) (λj hj=>by simp[World.frozen?,hb]) h1;rw[e1]at e2;simp only[CP,Result.ok.injEq,CY]at e2;rw[<- e2];rfl
set_option maxHeartbeats 4000000 in
set_option maxRecDepth 1000000 in
def acZ (zs:List (List UInt8))(i j:Nat)(Lb:i<j)(hj:j<=zs.length)(b cap:Nat)(arr:Array Value)(T:TypeId)(w:World)(hb:w.heap[b]? =some (.cells arr T))(nn:arr.size=cap)(gc:zs.length<=cap)
  (iP: ∀k,k<zs.length->arr[k]? =some (.string (B (zs.getD k [])))):
  Calls prog 202 #[.slice (some ⟨b,0,none⟩) zs.length cap,.int .i64 i,.int .i64 j] w λe w'=>e= .returned (.slice (some ⟨b,0,none⟩) (i+(zs.length -j)) cap)/\
   ∃arr',w'=w.drew.setRow b arr'/\arr'.size=arr.size/\∀k,k<i+(zs.length -j)->arr'[k]? =some (.string (B ((zs.take i++zs.drop j).getD k []))):=by
 have hbd:w.drew.heap[b]? =some (.cells arr T):=hb;have mixed:=lG.mixed;obtain⟨n,hn⟩: ∃n,n=zs.length:=⟨_,rfl⟩;obtain⟨news,O2⟩: ∃news,news=(zs.drop j).map λs=>Value.string (B s):=⟨_,rfl⟩;have bB:news.length=n -j:=by rw[O2,hn];simp
 have sP: ∀u∈news,u.oneCell'=true:=by intro u hu;rw[O2]at hu;obtain⟨x,_,rfl⟩:=dN.1 hu;rfl
 obtain⟨A,hA,anJ⟩: ∃A:Addr,(if cap=j then(some ⟨b,0,none⟩:Option Addr)else some ⟨b,j,none⟩)=some A/\Hid (∀t u,news[t]? =some u->w.drew.cell? (A.add t)=some u):=by
  have hc: ∀t u,news[t]? =some u->w.drew.cell? ⟨b,j+t,none⟩=some u:=by
   intro t u hu;rw[O2,gr,Pt,my]at hu;obtain⟨x,hx,rfl⟩:=hu;have ak:=(kl.1 hx).1;have:=iP _ ak;rw[jE,hx]at this;simp[World.cell?,hbd,this]
  by_cases h:cap=j
  ·refine⟨⟨b,0,none⟩,by simp[h],λt u hu=>?_⟩;have:t<news.length:=(kl.1 hu).1;omega
  ·refine⟨⟨b,j,none⟩,by simp[h],λt u hu=>?_⟩;rw[Fw.addr_add];exact hc t u hu
 have s1:Hid (news.length=(n -j)*1):=by show _=_;omega
 have s2:Hid (∀u∈news,u.oneCell'=true):=sP
 have s3:Hid (∀t,t<news.length->(w.drew.cell? ⟨b,0+i*1+t,none⟩).isSome =true/\w.drew.frozen? ⟨b,0+i*1+t,none⟩=false):=by
  intro t ht;constructor
  ·simp[World.cell?,hbd];omega
  ·simp[World.frozen?,hbd]
 obtain⟨tf,td,tz,hT⟩:=bQ.Ok.get lG (t:=9) (i:=(cx.ti 9).getD default) dp;have hu:prog.underlying 23=some (.slice 9):=by kernel_rfl
 obtain⟨W1,hW1⟩: ∃W1,W1=w.drew.setCells b (0+i*1) news:=⟨_,rfl⟩
 have ahx:Hid (W1=w.drew.setRow b (aO arr i news)):=by
  have:=yS (off:=i) hbd K0 sP;rw[<- this,hW1,jZ,AQ];exact rfl
 have hz: ∀w:World,(zeroValue 9).run prog w= .ok (.string ByteArray.empty) w:=λw=>by
  have:(prog.info? 9).bind (·.zero)=some (.string ByteArray.empty):=by kernel_rfl
  have h2:=hT.oc;rw[show cx.P=prog from rfl]at h2;rw[h2]at this;simp only[LB]at this;simp[zeroValue,typeInfo,h2,this]
 have xz:Hid (W1.heap[b]? =some (.cells (aO arr i news) T)):=by
  show _=_;rw[ahx.out];exact xK w.drew b arr _ T (0,0) hbd
 have FQ:(aO arr i news).size =arr.size:=fj K0
 have jd: ∀ty,(Builtin.clear_ #[23] ty #[.slice (some ⟨b,i+(n -j),none⟩) (n -(i+(n -j))) (cap -(i+(n -j)))]).run prog W1= .ok (.tuple #[]) (W1.setCells b (i+(n -j)) (List.replicate (n -(i+(n -j))) (.string ByteArray.empty))):=
  λty=>Lib.run_clear_slice W1 _ _ ty _ hu hz rfl rfl b _ _ _ K0 (λt ht=>by simp[World.cell?,xz.out,FQ];omega) (λt ht=>by simp[World.frozen?,xz.out])
 have hW:Hid (W1=w.drew.setCells b (0+i*1) news):=hW1;have Uk:i+(n -j)+(List.replicate (n -(i+(n -j))) (Value.string ByteArray.empty)).length <=(aO arr i news).size :=by rw[FQ];simp;omega
 have KO:Hid (∃arr',W1.setCells b (i+(n -j)) (List.replicate (n -(i+(n -j))) (.string ByteArray.empty))=w.drew.setRow b arr'/\arr'.size=arr.size/\∀k,k<i+(n -j)->arr'[k]? =some (.string (B ((zs.take i++zs.drop j).getD k [])))):=by
  refine⟨aO (aO arr i news) (i+(n -j)) (List.replicate (n -(i+(n -j))) (.string ByteArray.empty)),?_,by rw[fj Uk,FQ],λk hk=>?_⟩
  ·rw[yS (arr:=aO arr i news) xz.out Uk (λv hv=>by rw[List.eq_of_mem_replicate hv];rfl),ahx.out,setRow_setRow]
  ·rw[ge Uk,if_pos hk,ge (arr:=arr) (off:=i) (vs:=news) K0];by_cases h1:k<i
   ·rw[if_pos h1,iP k K0];have e0:(zs.take i++zs.drop j).getD k []=zs.getD k []:=by rw[jE,Uw wG,GW,if_pos h1,jE]
    rw[e0]
   ·rw[if_neg h1,if_pos K0,O2,gr,Pt];have ak:j+(k -i)<zs.length:=by omega
    rw[nM ak,xJ];congr 3;have e1: ¬k< (zs.take i).length :=by simp;omega
    simp only[jE,Si,if_neg e1,LC,Pt];have e2: ¬k<min i zs.length:=by omega
    rw[show j+(k -min i zs.length)=j+(k -i)by omega,nM ak,if_neg e2,sY]
 have hic:i<=cap:=by omega
 have hjc:j<=cap:=by omega
 have e8: ¬i=j:=by omega
 have eu:i<=j:=by omega
 subst hn;clear O2 sP bB hW1 ahx Uk xz FQ hz hb hbd iP
 go_enter Tryz.func202,Tryz.ntmps202
 go_wp2_with fail
 go_region_law_o (refine step_append_room rfl (.tmp 22) (.tmp 25) 23 rfl 9 tf 1 hu hT.oc hT.size b 0 i cap (by simp[Act.eval,Act.put]) A (zs.length -j) (cap -j) news (by simp[Act.eval,Act.put]) s1.out anJ.out s2.out K0 s3.out ?_;rw[<- hW.out])
 go_wp2
 go_ret
 exact⟨rfl,KO.out⟩
end Go.Proofs.Tryz
namespace Go.Fw
open Go.RowKit (Below)
open Go.Shelf
variable {P:Program}{gl:s6}
def IL (n:Nat)(s:List UInt8)(c:UInt8):List (List UInt8):=Lib.splitK [c] 0 (min n (s.length+1) -1) s
theorem Qz {ρ:Ren}(L:Proofs.Lays.n147 P ρ)(fB:iG P (ρ.f 147)=true)(hi9:(P.info? (ρ.t 9)).map (λi=>(i.zero,i.size,i.bytes))=some (some (.string ByteArray.empty),1,16))
  (hg:(ρ.g 1,[SC.num .i64])∈gl)(s:List UInt8)(c:UInt8)(n:Nat)(hl:s.length<=1000000)(h1:1<=n)(hn:n<=1000000):nN P gl (ρ.f 147) [SS s,SS [c],(false,[.lit (.int .i64 n)])] (.own 1 (.view (ab (IL n s c)))):=by
 refine .inl ⟨fB,λmv w vs _ hG xw=>?_⟩;obtain⟨nn,hx⟩:=xw
 have xw:vs= #[.string (B s),.string (B [c]),.int .i64 n]:=by
  obtain⟨c0,g0,r0⟩:=hx 0 _ rfl;cases g0;have a0:=gh r0;obtain⟨c1,g1,r1⟩:=hx 1 _ rfl;cases g1;have a1:=gh r1;obtain⟨c2,g2,r2⟩:=hx 2 _ rfl;cases g2;have a2:=gh r2;apply AS
  ·rw[nn];rfl
  ·intro i q1 q2;have q2:i<3:=q2;have hg:vs.getD i undef=vs[i]:=by simp[sw,q1]
   match i,q2 with
   |0,_=>rw[<- hg];exact a0
   |1,_=>rw[<- hg];exact a1
   |2,_=>rw[<- hg];exact a2
 rw[xw];obtain⟨ev,e1,h2⟩:=(hG _ _ hg).1 0 _ rfl;have oX: ∃m,ev= .int .i64 m:=aiF;obtain⟨m,rfl⟩:=oX;refine(Proofs.Any.strings_SplitN L hi9 (B s) (B [c]) n m w (by rw[lR];omega) e1 (by rw[lR];exact dw 1) h1 K0).mono λe w' he=>?_;obtain⟨rfl,rfl⟩:=he;rw[lR]
 have Ul:(Lib.splitB (B [c]) 0 (min n (s.length+1) -1) (B s))=(IL n s c).map B:=by
  have h:=Lib.splitB_data (B [c]) 0 (min n (s.length+1) -1) (B s);rw[jI,jI]at h;have:(IL n s c).map B=((Lib.splitB (B [c]) 0 (min n (s.length+1) -1) (B s)).map (·.data.toList)).map B:=by rw[h];rfl
  rw[this,zR];have e:(B ∘ λx:ByteArray=>x.data.toList)=id:=by funext x;exact acC x
  rw[e,LM]
 have eu:(IL n s c).length <=min n (s.length+1):=by
  have:=Lib.splitB_length_le (B [c]) 0 (min n (s.length+1) -1) (B s);rw[Ul,ja]at this;omega
 rw[Ul];generalize min n (s.length+1)=N at*;refine⟨_,rfl,Below.og _ _,.inr ⟨w.heap.size,N,by simp[SC.len],dw _,_,_,gO w _,by rw[Lib.cellsOf_size (by simpa using eu)];simp,by decide,rfl,by simpa [SC.len]using eu,λi e he=>?_,λi e j x he hx=>?_⟩⟩
 ·obtain⟨u,_,rfl⟩:=nR he;rfl
 ·obtain⟨u,hu,rfl⟩:=nR he;have ak:=(kl.1 hu).1
  cases j with
  |zero=>
   simp at hx;subst hx;rw[show i*1+0=i by omega,sw]
   have:(Lib.cellsOf ((IL n s c).map B) N)[i]? =some (.string (B u)):=by
    simp only[Lib.cellsOf,Lt];rw[Uw (by simpa using ak)];simp[hu]
   exact af7
  |succ j=>simp at hx
end Go.Fw
namespace Go.Plain
open Go.Lib
def EA: ∀(k:Nat) (s:au),splitK [32] 0 k s=if(av 32 s).length <=k+1 then av 32 s else(av 32 s).take k++[bP k s]
 |0,s=>by
  rcases kp 32 s with⟨h1,h2⟩|⟨i,h1,h2,h3⟩
  ·have h2:av 32 s= [s]:=h2;rw[h2];rfl
  ·have h3:av 32 s=s.take i::av 32 (s.drop (i+1)):=h3
   rw[if_neg (by
    rw[h3,kD]
    grind[lT])]
   rfl
 |k+1,s=>by
  rcases kp 32 s with⟨h1,h2⟩|⟨i,h1,h2,h3⟩
  ·have h2:av 32 s= [s]:=h2;rw[<- index_one]at h1;rw[h2,if_pos (by simp)];exact ajR
  ·have h3:av 32 s=s.take i::av 32 (s.drop (i+1)):=h3;rw[<- index_one]at h2;have e:splitK [32] 0 (k+1) s=s.take i::splitK [32] 0 k (s.drop (i+1)):=ajR;have hd:bP (k+1) s=bP k (s.drop (i+1)):=by grind[bP]
   rw[e,EA k,h3,kD,hd]
   grind
def Nw (n:Nat)(s:au)(h1:1<=n):Go.Fw.IL n s 32=if(av 32 s).length <=n then av 32 s else(av 32 s).take (n -1)++[bP (n -1) s]:=by
 unfold Go.Fw.IL;have hl:=(bZ 32 s).1;rw[EA]
 grind
theorem Nx: ∀(k:Nat) (s:au),(av 32 s).length =k+1->av 32 s=(av 32 s).take k++[bP k s]
 |0,s,h=>by
  rcases kp 32 s with⟨h1,h2⟩|⟨i,h1,h2,h3⟩
  ·have h2:av 32 s= [s]:=h2;rw[h2];rfl
  grind[lT]
 |k+1,s,h=>by
  rcases kp 32 s with⟨h1,h2⟩|⟨i,h1,h2,h3⟩
  grind
  ·have h3:av 32 s=s.take i::av 32 (s.drop (i+1)):=h3;have hd:bP (k+1) s=bP k (s.drop (i+1)):=by grind[bP]
   rw[hd,h3,XG,qK,<- Nx k _ br]
def J2 (n:Nat)(s:au)(h1:1<=n)(h:n<=(av 32 s).length):Go.Fw.IL n s 32=(av 32 s).take (n -1)++[bP (n -1) s]:=by
 rw[Nw n s h1];by_cases h2:(av 32 s).length <=n
 ·rw[if_pos h2]
  grind[Nx]
 grind
def lH (c:Nat):Nat:=if c=121 then 0 else if c=100 then 1 else if c=122 then 2 else 3
structure Pm where
 k:Int
 t:Int
 s:Int
 r:Bool
def wdE (w:Pm):Int:=if 0<=w.k/\w.k<=2 then(if(1<=w.t/\w.t<=2000)/\0<=w.s/\w.s<=2 then 0 else 2)else 15
def Bv (s:aj):Prop:=s.length<2\/((s.getD 1 0).toNat ≠43/\(s.getD 1 0).toNat ≠45)\/lH (s.getD 0 0).toNat =3
instance (s:aj):Decidable (Bv s):=by unfold Bv;infer_instance
def Aq (s:aj):Option Pm:=if Bv s then none else(uS (s.drop 2)).map λp=>⟨(lH (s.getD 0 0).toNat :Nat),p.2,p.1,decide ((s.getD 1 0).toNat =45)⟩
def stE (n:Int):Int:=if 0<=n/\n<=100 then 0 else 2
def Gn (a b:Pm)(c:Int):Int:=jp (wdE a) (jp (wdE b) (stE c))
def puE (a b:Pm)(c:Int):Win × Int:=if Gn a b c=0 then(⟨a.k,a.t,a.s,a.r,b.k,b.t,b.s,b.r,c⟩,0)else(wi0,Gn a b c)
def puO:Option Pm->Option Pm->Option Int->Win × Int
 |some a,some b,some c=>puE a b c
 |_,_,_=>(wi0,7)
def H7 (s:aj):Win × Int:=if(av 32 s).length =3 then puO (Aq ((av 32 s).getD 0 [])) (Aq ((av 32 s).getD 1 [])) (wN false 4 ((av 32 s).getD 2 []))else(wi0,7)
abbrev Pu:Type:=Int × Int × Int
def KY (s:aj):Option Pu:=if(av 32 s).length =3 then(wN false 13 ((av 32 s).getD 0 [])).bind λa=>(wN true 13 ((av 32 s).getD 1 [])).bind λb=>(wN false 13 ((av 32 s).getD 2 [])).map λc=>(a,b,c)else none
def pN (s:aj):Option (Int × Int):=DY 47 (wN false 13) (wN false 13) s
structure Gp where
 name:aj
 per:Int
 least:Int
 lo:Int × Int
 hi:Int × Int
 ps:List Pu
def Gq:Gp:=⟨[],0,0,(0,0),(0,0),[]⟩
def sj (w:List aj):Option (Int × Int × (Int × Int) × (Int × Int)):=(wN false 13 (w.getD 1 [])).bind λa=>(wN false 13 (w.getD 2 [])).bind λb=>(pN (w.getD 3 [])).bind λc=>(pN (w.getD 4 [])).map λd=>(a,b,c,d)
def ac4 (nm:aj):Option (Int × Int × (Int × Int) × (Int × Int))->Option (List Pu)->Option Gp
 |some (a,b,c,d),some l=>some ⟨nm,a,b,c,d,l⟩
 |_,_=>none
def EB (s:aj):Option Gp:=let w:=av 32 ((av 59 s).getD 0 [])
 if w.length=5 then ac4 (w.getD 0 []) (sj w) (fR KY ((av 59 s).drop 1))else none
def Ny (c d:Int × Int):Int:=if(0<c.2/\Int.gcd c.1 c.2=1)/\0<d.2/\Int.gcd d.1 d.2=1 then
 (if((1<=c.1/\c.1<=1000000000)/\1<=c.2/\c.2<=1000000000)/\(1<=d.1/\d.1<=1000000000)/\1<=d.2/\d.2<=1000000000 then(if c.1*d.2<=d.1*c.2 then 0 else 9)else 2)else 3
def yV (l:List Pu)(i:Nat):Int:=if(0<=(l.getD i (0,0,0)).1/\(l.getD i (0,0,0)).1<=1000000000000)/\(-4096<=(l.getD i (0,0,0)).2.1/\(l.getD i (0,0,0)).2.1<=4096)/\1<=(l.getD i (0,0,0)).2.2/\(l.getD i (0,0,0)).2.2<=100 then
 (if(l.getD i (0,0,0)).2.1=0 then 11 else if i=0\/(l.getD (i -1) (0,0,0)).1< (l.getD i (0,0,0)).1 then 0 else 9)else 2
noncomputable def H8 (x:Gp):Int:=jp (jG x.name) (jp (if(1<=x.per/\x.per<=1000000)/\1<=x.least/\x.least<=60 then 0 else 2) (jp (Ny x.lo x.hi) (if x.ps.length<=60 then 0 else 8)))
noncomputable def mO (x:Gp):Int × Int:=oW (0,H8 x) (cM (yV x.ps) x.ps.length)
noncomputable def Cn (s:aj):Gp × Int:=match EB s with
 |none=>(Gq,7)
 |some x=>if(mO x).2=0 then(x,0)else(Gq,(mO x).2)
def rH (l:List Pu)(q:Nat):Nat:=(l.filter λp=>decide ((q:Int)<=p.2.1.natAbs)).length
def qz (l:List Pu)(n:Int):Nat->Nat
 |0=>0
 |q+1=>if n<=rH l (q+1)then q+1 else qz l n q
noncomputable def TH (x:Gp):(Int × Int) × Int:=if(mO x).2=0 then(if x.least<=x.ps.length then(((qz x.ps x.least 4096:Nat)*x.lo.1/x.lo.2,-(-((qz x.ps x.least 4096:Nat)*x.hi.1)/x.hi.2)),0)else((0,0),12))else((0,0),(mO x).2)
end Go.Plain
namespace Go.Fw
open Go.RowKit (Below)
def EH {E:dP}{Hh:Hp}{nx:Nat}(id i k z:Nat)(c:SC){zr:Nat}{l:List (List DC)}{el:List DC}(hz:0<z)(hv:c.ao=true)(h0:c.len=0)(hB:Hh.get id=some (.aA zr l))(hi:l[i]? =some el)(hk:el[k]? =some .nil):
  bs ⟨E,Hh,nx⟩ ⟨E,(id,some (.aA zr (l.set i (el.set k (.own (2*nx))))))::((2*nx),some (.row true z c))::Hh,nx+1⟩:=by
 rintro F nt a w ⟨N,⟨q1,q2,q0,β,q3,q4⟩,q5⟩;have hf: ¬N (2*nx):=λh=>by have:=q5 _ h;rw[jM]at this;exact Nat.lt_irrefl _ this
 have hu: ∀i e,c.elem i=some e->e.length=z:=λi e he=>by exact abV
 have t2:=Tr.new q4 (Below.refl _ w) hf none (by simp) (.row true z c);have hN:=ac.new q4 (Below.refl _ w) hf none (by simp) (.row true z c) ⟨⟨hz,hv,hu⟩,.inl ⟨by simp[cR],h0⟩⟩;rw[<- Hp.ar]at t2 hN;have hid:N id:=(q4.rel id _ hB).1;have e8:id≠(2*nx):=λe=>hf (e▸hid);have KQ:Hp.get (((2*nx),some (.row true z c))::Hh) id=some (.aA zr l):=by rw[Hp.ar,aH _ _ _ e8];exact hB
 generalize xA:Hp.get (((2*nx),some (.row true z c))::Hh)=H1 at*;have iT:H1 (2*nx)=some (.row true z c):=by rw[<- xA,Hp.ar,an]
 have t3:Tr F (cR β (2*nx) none) (Fw.bf N (2*nx)) H1 w (cR β (2*nx) none) (Fw.bf N (2*nx)) (bn H1 id (some (.aA zr (l.set i (el.set k (.own (2*nx))))))) w:={
  below:=jv.refl _ _
  ax:=λ_ _ h=>h
  mem:=λb o v _ hs e=>⟨λiO bz e' hb=>by
   by_cases h:iO=id
   ·subst h;exact(hs iO _ KQ hb).elim
   ·rw[aH _ _ _ h]at e'
    exact hs iO bz e' hb,e⟩
  used:=λ_ h=>h
  kH:=λ_ _=>rfl
  keep:=λiO blk' _ e=>by
   by_cases h:iO=id
   ·subst h;rw[an]at e;cases e;exact⟨_,KQ,by simp[co.zM]⟩
   ·exact ajQ
  size:=λ_ _ _ _ arr _ _ _ _ _ _ h=>⟨arr,h,rfl⟩}
 have h3:ac F (cR β (2*nx) none) (Fw.bf N (2*nx)) (bn H1 id (some (.aA zr (l.set i (el.set k (.own (2*nx))))))) w:=by
  refine hN.step t3 (λi=>i=id) (λi b0 hi e=>?_) (λi' b0 kA e=>?_) (λp q b x y hi hj bi bj=>?_)
  ·exact ajs
  ·subst kA;rw[an]at e;cases e;obtain⟨hn,⟨fO,hall⟩,su⟩:=hN.rel i' _ KQ;have ak:i<l.length:=(kl.1 hi).1;refine⟨hn,⟨fO,λj e' Cy=>?_⟩,?_⟩
   ·by_cases hj:i=j
    ·subst hj;rw[IT ak]at Cy;cases Cy;rw[CJ];exact hall i el hi
    ·rw[Pq hj]at Cy;exact hall j e' Cy
   ·rcases su with⟨h1,h2⟩|⟨b,cap,arr,T,h1,h2,h3,h4,h5,h6⟩
    ·omega
    ·refine .inr ⟨b,cap,arr,T,h1,h2,h3,h4,by rw[CJ];exact h5,λj e' j' x Cy hx=>?_⟩;by_cases hj:i=j
     ·subst hj;rw[IT ak]at Cy;cases Cy;by_cases qF:k=j'
      ·subst qF;rw[IT (kl.1 hk).1]at hx;cases hx;have B8:arr.getD (i*zr+k) undef= .slice none 0 0:=h6 i el k _ hi hk;exact ah8
      ·rw[Pq qF]at hx;exact t3.jr hN (h6 i el j' x hi hx)
     ·rw[Pq hj]at Cy;exact t3.jr hN (h6 j e' j' x Cy hx)
  ·have live: ∀ {k':Nat} {b0:co},bn H1 id (some (.aA zr (l.set i (el.set k (.own (2*nx)))))) k'=some b0->∃b1,H1 k'=some b1:=by
    intro k' b0 h;by_cases qF:k'=id
    ·subst qF;exact⟨_,KQ⟩
    ·rw[aH _ _ _ qF]at h;exact⟨b0,h⟩
   obtain⟨b1,h1⟩:=live hi;obtain⟨b2,h2⟩:=live hj;exact hN.inj p q b b1 b2 h1 h2 bi bj
 refine⟨Fw.bf N (2*nx),⟨q1,q2,q0,cR β (2*nx) none,?_,?_⟩,λiO h=>?_⟩
 ·exact akh
 ·rw[Hp.ar,xA];exact h3
 ·rcases h with h|h
  ·exact Nat.lt_succ_of_lt (q5 _ h)
  ·rw[h,jM];exact Nat.lt_succ_self _
def Co {E E':dP}{hp Lc:Hp}{nx n':Nat}{m:List (Nat × Nat)}{ks:List Nat}(fB:cW m hp.get Lc.get)(hn: ∀q∈m,tag q.2<n')(hE:eZ m E.get ks=some E'):bs ⟨E,hp,nx⟩ ⟨E',Lc,n'⟩:=by
 rintro F nt a w ⟨N,⟨q1,q2,q0,β,q3,q4⟩,q5⟩;refine⟨yp m,⟨q1,q2,q0,pG m β,λs d' e=>?_,fB.nq q4⟩,?_⟩
 ·exact abE
 ·rintro n ⟨o,ho⟩;exact hn _ ho
def cW.aen {un:Nat}{m:List (Nat × Nat)}{H:HF}{Y R:Hp}{z:Nat}{l l':List (List DC)}(hT:BQ R)(hm:IM ((un,9)::m)=true)(h9:H un=some (.aA z l))(hl:fI ((un,9)::m++mW R) l=some l')
  (hY:jT ((un,9)::m++mW R) H m=some Y)(hYk:(ah Y).all JF=true)(hR: ∀k∈ah R,H k=R.get k):cW ((un,9)::m++mW R) H (Hp.get ((9,some (.aA z l'))::Y++R)):=by
 have:=cW.tail (Y:=(9,some (.aA z l'))::Y) (H:=H) hT hm (λn b' e=>?_) (λn hn=>?_) hR
 ·exact this
 ·rw[Hp.ar]at e;by_cases hn:n=9
  ·subst hn;rw[an]at e;cases e;refine⟨un,_,i8,h9,?_⟩;show(match fI ((un,9)::m++mW R) l with|some l'=>some (co.aA z l')|none=>none)=_;rw[hl]
  ·rw[aH _ _ _ hn]at e;obtain⟨o,b,g1,g2,g3⟩:=pg hY e;exact⟨o,b,i7 _ g1,g2,g3⟩
 ·rcases cQ.1 hn with rfl|hn
  ·rfl
  ·exact wC.1 hYk n hn
end Go.Fw
namespace Go.Fw
section
variable {F:gN}{β:Nat->Option Nat}{N:Nat->Prop}{H H':HF}{w:World}
structure mR (β:Nat->Option Nat)(H H':HF):Prop where
 st: ∀b o,fT β H b o->fT β H' b o
 sz: ∀id blk' z n,H' id=some blk'->blk'.sz=some (z,n)->∃bz,H id=some bz/\bz.sz=some (z,n)
def mR.mv (h:mR β H H'):(MV F β H w).le (MV F β H' w):=by
 intro b o v e;unfold MV at e ⊢;split at e
 ·rename_i hm;rw[if_pos hm];split at e
  ·rename_i hs;rw[if_pos (h.st b o hs)];exact e
  grind
 grind
def mR.mr (h:mR β H H'):(MR F β H w).le (MR F β H' w):=by
 intro b o v e;unfold MR at e ⊢;split at e
 ·rename_i hm;rw[if_pos hm];exact h.mv b o v e
 grind
theorem mR.jr (h:mR β H H'){v:Value}{d:DC}(hr:cd F β N H w v d):cd F β N H' w v d:=by
 cases d with
 |st c=>exact dq.mono h.mv h.mr hr
 |nil=>exact hr
 |ptr=>exact hr
 |own id=>
  obtain⟨a,b,c⟩:=hr;exact⟨a,b,λbz z n e hz=>by obtain⟨nL,e0,z0⟩:=h.sz id bz z n e hz;grind⟩
 |cF=>exact hr
 |mp=>exact hr
 |sv=>exact hr
def mR.r8 (h:mR β H H'){v:Value}{x:DX}(hr:aq F β N H w v x):aq F β N H' w v x:=by
 unfold aq at hr ⊢;split at hr
 ·rename_i hx;rw[if_pos hx];obtain⟨arr,h1,h2,h3⟩:=hr;exact⟨arr,h1,h2,λk c hc=>h.jr (h3 k c hc)⟩
 ·rename_i hx;rw[if_neg hx];obtain⟨c,h1,h2⟩:=hr;exact⟨c,h1,h.jr h2⟩
theorem mR.vQ (h:mR β H H'){v:Value}{d:DV}(hr:b8 F β N H w v d):b8 F β N H' w v d:=by
 cases d with
 |val x=>exact h.r8 hr
 |aJ l=>
  obtain⟨arr,h1,h2,h3⟩:=hr;exact⟨arr,h1,h2,λk c hc=>h.r8 (h3 k c hc)⟩
theorem mR.heap (hR:ac F β N H w){id:Nat}{b b':co}(hB:H id=some b)(hs:mR β H (bn H id (some b')))(hb:ir F β N (bn H id (some b')) w id b'):ac F β N (bn H id (some b')) w:=by
 refine⟨λi bz e=>?_,λp q b1 x y hi hj bi bj=>?_,hR.below,λb o v e=>?_⟩
 ·by_cases hi:i=id
  ·subst hi;rw[an]at e;cases e;exact⟨(hR.rel i b hB).1,hb⟩
  ·rw[aH _ _ _ hi]at e;obtain⟨hn,hb⟩:=hR.rel i bz e;refine⟨hn,?_⟩
   cases bz with
   |box ty cs=>
    obtain⟨b,arr,T',h1,h2,h3,h4,h5⟩:=hb;exact⟨b,arr,T',h1,h2,h3,h4,λk x hx=>hs.jr (h5 k x hx)⟩
   |dV cs=>
    obtain⟨b,arr,T',h1,h2,h3,h4,h5⟩:=hb;exact⟨b,arr,T',h1,h2,h3,h4,λk x hx=>(h5 k x hx).mono hs.mv hs.mr⟩
   |row m z c=>
    obtain⟨h0,h1|⟨b,cap,h1,h2,arr,T',q1,q2,q3,q4,q5,q6,q7⟩⟩:=hb
    ·exact⟨h0,.inl h1⟩
    ·exact⟨h0,.inr ⟨b,cap,h1,h2,arr,T',q1,q2,q3,q4,q5,q6,λi e j x he hx=>(q7 i e j x he hx).mono hs.mv (Mem.le_refl _)⟩⟩
   |aA z l=>
    obtain⟨h0,h1|⟨b,cap,arr,T',h1,h2,q1,q2,q3,q4⟩⟩:=hb
    ·exact⟨h0,.inl h1⟩
    ·exact⟨h0,.inr ⟨b,cap,arr,T',h1,h2,q1,q2,q3,λi e j x he hx=>hs.jr (q4 i e j x he hx)⟩⟩
   |map es=>
    obtain⟨b,arr,ck,h1,h2,h3,h4,h5⟩:=hb;exact⟨b,arr,ck,h1,h2,h3,h4,λi k x e hi he=>let⟨a1,a2⟩:=h5 i k x e hi he;⟨a1,a2.mono hs.mv hs.mr⟩⟩
 ·have live: ∀ {k':Nat} {b0:co},bn H id (some b') k'=some b0->∃b1,H k'=some b1:=by
   grind[aH]
  obtain⟨b2,h1⟩:=live hi;obtain⟨b3,h2⟩:=live hj;exact hR.inj p q b1 b2 b3 h1 h2 bi bj
 ·obtain⟨e1,e2⟩:=hR.sT b o v e;exact⟨e1,λhm=>hs.st b o (e2 hm)⟩
end
def ND {β:Nat->Option Nat}{H:HF}{id:Nat}{b b':co}(hB:H id=some b)(h1: ∀o,¬b.sS o)(h2:b'.sz=b.sz):mR β H (bn H id (some b')):=by
 refine⟨λc o hs i bz e hb=>?_,λi bz z n e hz=>?_⟩
 ·by_cases hi:i=id
  ·subst hi;exact(h1 o (hs i b hB hb)).elim
  ·rw[aH _ _ _ hi]at e;exact hs i bz e hb
 grind[an,aH]
def NE {E:dP}{Hh:Hp}{nx:Nat}(id:Nat){z:Nat}{V:List (List SC)}(hB:Hh.get id=some (.row true z (.view V))):bs ⟨E,Hh,nx⟩ ⟨E,(id,some (.aA z (V.map λe=>e.map .st)))::Hh,nx⟩:=by
 rintro F nt a w ⟨N,⟨q1,q2,q0,β,q3,q4⟩,q5⟩;have hs:mR β Hh.get (bn Hh.get id (some (.aA z (V.map λe=>e.map .st)))):=ND hB (λo h=>by cases h.1) (by simp[co.sz,SC.len]);refine⟨N,⟨q1,q2,q0,β,?_,?_⟩,q5⟩
 ·exact aiS
 ·rw[Hp.ar];refine mR.heap q4 hB hs ?_;obtain⟨_,⟨h1,h2,h3⟩,hc⟩:=q4.rel id _ hB;refine⟨⟨h1,λi e he=>?_⟩,?_⟩
  ·rw[gr,my]at he;obtain⟨e0,RS,rfl⟩:=he;rw[ja];exact h3 i e0 RS
  ·rcases hc with⟨a1,a2⟩|⟨b,cap,a1,a2,arr,T,b1,b2,b3,b4,b5,b6,b7⟩
   ·exact .inl ⟨a1,by rw[ja];exact a2⟩
   ·refine .inr ⟨b,cap,arr,T,a1,a2,b1,b2,by rw[ja];exact b5,λi e k x he hx=>?_⟩;rw[gr,my]at he;obtain⟨e0,RS,rfl⟩:=he;rw[gr,my]at hx;obtain⟨x0,RY,rfl⟩:=hx;exact(b7 i e0 k x0 RS RY).mono hs.mv (dX _)
section
variable {C:bQ}{f:FuncId}{fid nx:Nat}{xs:List DX}{T T':Hp}{r:DV}{H:HF}
def H9 (h:bt C f nx xs T [] r T')(hT:Mz T)(fh:Mz T')(iT:1<=nx)(hs: ∀id∈ah T,T.get id=H id)(B6: ∀x∈xs,dY (· ∈ah T) x)(hr:lF (· ∈ah T') r):
  bN C fid f xs H (KV (fresh (Fw.tag fid) 0) r) (cC T (cN (fresh (Fw.tag fid) 0) T')) (ah T):=by
 have hi:=fh.inj (Fw.tag fid);have hg:=h.out (m8.new fh hi) hr λid hid=>by grind
 have l7: ∀k∈ah T',fresh (Fw.tag fid) 0 k∈([]:List Nat)\/Fw.tag (fresh (Fw.tag fid) 0 k)=Fw.tag fid:=λk hk=>.inr (fh.tag hk);refine gv hg (λid hid=>by rw[(hT.lt id hid).2.2];omega) hs hT.dM B6 (λid hid=>by grind) (λid hid=>?_) (λid b e=>?_) (yw (rm l7 hr))
 ·exact ajn
 ·exact afv
end
end Go.Fw
namespace Go.Plain
open Go.Lib
variable {α β γ δ ε:Type}
def V0 {x:Option α}{y:Option β}{z:Option γ}:(x.bind λa=>y.bind λb=>z.map λc=>(a,b,c)).isSome =((x.isSome&&y.isSome)&&z.isSome):=by cases x<;>cases y<;>cases z<;>rfl
def ac8 {x:Option α}{y:Option β}{z:Option γ}{a:α}{b:β}{c:γ}(h:(x.bind λa=>y.bind λb=>z.map λc=>(a,b,c))=some (a,b,c)):x=some a/\y=some b/\z=some c:=by
 cases x<;>cases y<;>cases z<;>simp at h
 grind
def Ia {x:Option α}{y:Option β}{z:Option γ}{w:Option δ}:(x.bind λa=>y.bind λb=>z.bind λc=>w.map λd=>(a,b,c,d)).isSome =(((x.isSome&&y.isSome)&&z.isSome)&&w.isSome):=by cases x<;>cases y<;>cases z<;>cases w<;>rfl
def J3 {x:Option α}{y:Option β}{z:Option γ}{w:Option δ}{a:α}{b:β}{c:γ}{d:δ}(h:(x.bind λa=>y.bind λb=>z.bind λc=>w.map λd=>(a,b,c,d))=some (a,b,c,d)):x=some a/\y=some b/\z=some c/\w=some d:=by
 cases x<;>cases y<;>cases z<;>cases w<;>simp at h
 grind
def Ib {s x y z:aj}(h:av 32 s= [x,y,z]):KY s=(wN false 13 x).bind λa=>(wN true 13 y).bind λb=>(wN false 13 z).map λc=>(a,b,c):=by grind[KY]
def TJ {s:aj}(h:(av 32 s).length ≠3):KY s=none:=by unfold KY;grind
def V2 {f:aj->Option α}{l:List aj}{i:Nat}(h:i<l.length):(fR f (l.take (i+1))).isSome =((fR f (l.take i)).isSome &&(f (l.getD i [])).isSome):=by
 rw[wP h [],yF,DZ];cases fR f (l.take i)<;>cases f (l.getD i [])<;>rfl
theorem ZP {f:aj->Option α}{l:List aj}{i:Nat}(h:i<l.length){xs:List α}{n:α}(hx: ∀x,fR f (l.take i)=some x->x=xs)(hn: ∀x,f (l.getD i [])=some x->x=n): ∀x,fR f (l.take (i+1))=some x->x=xs++[n]:=by
 intro x e;rw[wP h [],yF,DZ]at e
 cases h1:fR f (l.take i)with
 |none=>grind
 |some y=>
  rw[h1]at e
  cases h2:f (l.getD i [])with
  |none=>grind
  |some z=>
   grind
def TK {s:aj}{p:aj}{ps:List aj}(h:av 59 s=p::ps)(h5:(av 32 p).length =5):EB s=ac4 ((av 32 p).getD 0 []) (sj (av 32 p)) (fR KY ps):=by unfold EB;grind
def TL {s:aj}{p:aj}{ps:List aj}(h:av 59 s=p::ps)(h5:(av 32 p).length ≠5):EB s=none:=by unfold EB;grind
theorem yX {nm:aj}{x:Option (Int × Int × (Int × Int) × (Int × Int))}{y:Option (List Pu)}(h:(x.isSome&&y.isSome)=false):ac4 nm x y=none:=by
 cases x with
 |none=>rfl
 |some a=>cases y with
  |none=>rfl
  |some b=>cases h
theorem jR {s:aj}(h:EB s=none):Cn s=(Gq,7):=by grind[Cn]
def EI {s:aj}{x:Gp}(h:EB s=some x):Cn s=if(mO x).2=0 then(x,0)else(Gq,(mO x).2):=by grind[Cn]
end Go.Plain
namespace Go.Plain
open Go.Lib
def V3 {nm:aj}{o:Option (Int × Int × (Int × Int) × (Int × Int))}{q:Option (List Pu)}{x:Gp}(h:ac4 nm o q=some x): ∃a b c d l,o=some (a,b,c,d)/\q=some l/\x=⟨nm,a,b,c,d,l⟩:=by
 cases o with
 |none=>cases q<;>cases h
 |some v=>
  obtain⟨a,b,c,d⟩:=v
  cases q with
  |none=>cases h
  |some l=>cases h;grind
theorem yY {s:aj}{p:Int × Int}(h:pN s=some p):DS p.1/\DS p.2:=by
 obtain⟨⟨a,ha⟩,b,hb⟩:=Af h;exact⟨HK K9 ha,HK K9 hb⟩
theorem ZQ {w:List aj}{a b:Int}{c d:Int × Int}(h:sj w=some (a,b,c,d)):(DS c.1/\DS c.2)/\DS d.1/\DS d.2:=by grind[sj,Option.bind_eq_some_iff,Option.map_eq_some_iff,yY]
def yZ {α:Type}{l:List α}{i:Nat}{d:α}(h:i<l.length):l.getD i d∈l:=by grind
def ZR (s:aj):((Cn s).1.name.length <=s.length/\(Cn s).1.ps.length <=s.length+1)/\(DS (Cn s).1.lo.1 /\DS (Cn s).1.lo.2)/\DS (Cn s).1.hi.1 /\DS (Cn s).1.hi.2 :=by
 have z:DS 0:=by grind[DS]
 have h0:(Gq.name.length<=s.length/\Gq.ps.length<=s.length+1)/\(DS Gq.lo.1/\DS Gq.lo.2)/\DS Gq.hi.1/\DS Gq.hi.2:=⟨⟨dC _,dC _⟩,⟨z,z⟩,z,z⟩
 cases e:EB s with
 |none=>grind[jR]
 |some x=>
  rw[EI e];by_cases h:(mO x).2=0
  ·rw[if_pos h];unfold EB at e;dsimp only at e;by_cases h5:(av 32 ((av 59 s).getD 0 [])).length =5
   ·rw[if_pos h5]at e;obtain⟨a,b,c,d,l,h1,h2,rfl⟩:=V3 e
    grind[ZQ,yG,bZ,List.length_drop]
   grind
  grind
end Go.Plain
namespace Go.Plain
def fF (p:Int->Bool)(l:List Int)(a:Nat):Int:=if(l.drop a).any p then(a:Int)+((l.drop a).findIdx p:Nat)else -1
def vg {p:Int->Bool}{l:List Int}{j:Nat}(h:j<l.length):fF p l j=if p (l.getD j 0)then(j:Int)else fF p l (j+1):=by
 unfold fF;rw[Xx h]
 grind
theorem J6 (p:Int->Bool)(l:List Int):fF p l l.length= -1:=by grind[fF]
def ac9 {p:Int->Bool}{l:List Int}: ∀ {n a:Nat},l.length -a=n->a<=l.length->(fF p l a= -1/\∀j,a<=j->j<l.length->p (l.getD j 0)=false)\/(∃k:Nat,fF p l a=k/\a<=k/\k<l.length/\p (l.getD k 0)=true/\∀j,a<=j->j<k->p (l.getD j 0)=false):=by
 intro n
 induction n with
 |zero=>
  intro a hn ha;have:a=l.length:=by omega
  grind[J6]
 |succ n ih=>
  intro a hn ha;have ak:a<l.length:=by omega
  rw[vg ak];by_cases hp:p (l.getD a 0)=true
  grind
  ·rw[if_neg hp];have hp:p (l.getD a 0)=false:=by grind
   rcases ih (a:=a+1) K0 K0 with⟨h1,h2⟩|⟨k,h1,h2,h3,h4,h5⟩
   grind
   grind
def ZT (p:Int->Bool)(l:List Int){a:Nat}(ha:a<=l.length): -1<=fF p l a/\fF p l a<l.length:=by rcases ac9 (p:=p) rfl ha with⟨h,_⟩|⟨k,h,_,h2,_⟩<;>omega
def Cp (l:List Int):Nat->Nat
 |0=>0
 |i+1=>if l.getD i 0>l.getD (Cp l i) 0 then i else Cp l i
def At {l:List Int}: ∀ {i:Nat},0<i->Cp l i<i
 |1,_=>by grind[Cp]
 |i+2,_=>by
  have:=At (l:=l) (i:=i+1) K0
  grind[Cp]
def TM {l:List Int}: ∀ {i:Nat} {j:Nat},j<i->l.getD j 0<=l.getD (Cp l i) 0
 |i+1,j,hj=>by
  unfold Cp;by_cases e:j=i
  grind
  ·have:=TM (l:=l) (i:=i) (j:=j) K0
   grind
def Ic {l:List Int}: ∀ {i:Nat} {j:Nat},j<Cp l i->l.getD j 0<l.getD (Cp l i) 0
 |0,j,hj=>by grind[Cp]
 |i+1,j,hj=>by
  unfold Cp at hj ⊢;split
  ·rename_i h;rw[if_pos h]at hj;have:=TM (l:=l) (i:=i) (j:=j) hj;omega
  ·rename_i h;rw[if_neg h]at hj;exact Ic hj
def pk (l:List Int):Nat:=Cp l l.length
def pA (l:List Int):Int:=l.getD (pk l) 0
abbrev Qn:Type:=Int × Int
def pQ (x y:Qn):Prop:=x.1*y.2<y.1*x.2
instance (x y:Qn):Decidable (pQ x y):=by unfold pQ;infer_instance
def zb (x y:Qn):Qn:=if pQ x y then y else x
def zc (x y:Qn):Qn:=if pQ y x then y else x
abbrev Iv:Type:=Qn × Qn
def sN (s o:Iv):Iv:=(zb s.1 o.1,zc s.2 o.2)
def kf (s:Iv):Prop:=pQ s.2 s.1
instance (s:Iv):Decidable (kf s):=by unfold kf;infer_instance
def lA (n d:Int):Qn:=(fq n d,eE n d)
def agF:Iv:=((1,1),(0,1))
def oM (s:Iv)(n m:Int):Iv:=if n>0 then(s.1,zc s.2 (lA m n))else if n<0 then(zb s.1 (lA (-m) (-n)),s.2)else if m<0 then agF else s
def atS (F:Iv)(e x y:Int):Iv:=oM (oM F (x -e) (y+e)) (-x -e) (e -y)
def QM (s:Iv)(n m:Int):Option Iv:=if n=0/\m<0 then none else if kf (oM s n m)then none else some (oM s n m)
def If (s:Iv)(e x y:Int):Option Iv:=(QM s (x -e) (y+e)).bind λs=>QM s (-x -e) (e -y)
abbrev ng (x:Qn):Prop:=0<x.2
abbrev nH (s:Iv):Prop:=ng s.1/\ng s.2
def ui {x y z:Qn}(hx:ng x)(hy:ng y)(hz:ng z)(h1: ¬pQ y x)(h2:pQ y z):pQ x z:=by
 unfold pQ at*;obtain⟨a,b⟩:=x;obtain⟨c,d⟩:=y;obtain⟨p,q⟩:=z;simp only at*;refine aer (a:=d) ?_ K0;have e1:a*d*q<=c*b*q:=Xt K0 K0;have e2:c*q*b<p*d*b:=R3 h2 hx
 grind
def pC {x y z:Qn}(hx:ng x)(hy:ng y)(hz:ng z)(h1:pQ x y)(h2: ¬pQ z y):pQ x z:=by
 unfold pQ at*;obtain⟨a,b⟩:=x;obtain⟨c,d⟩:=y;obtain⟨p,q⟩:=z;simp only at*;refine aer (a:=d) ?_ K0;have e1:a*d*q<c*b*q:=R3 h1 hz;have e2:c*q*b<=p*d*b:=Xt K0 K0
 grind
theorem Ay (x:Qn): ¬pQ x x:=by grind[pQ]
theorem Cq {x y:Qn}(h:pQ x y): ¬pQ y x:=by grind[pQ]
def le_trans' {x y z:Qn}(hx:ng x)(hy:ng y)(hz:ng z)(h1: ¬pQ y x)(h2: ¬pQ z y): ¬pQ z x:=λh=>h2 (pC hz hx hy h h1)
def Z1 {x y:Qn}(hx:ng x)(hy:ng y):ng (zb x y):=by grind[zb]
def Z2 {x y:Qn}(hx:ng x)(hy:ng y):ng (zc x y):=by grind[zc]
def alG {x y:Qn}: ¬pQ (zb x y) x:=by grind[zb,Cq]
def anu {x y:Qn}: ¬pQ (zb x y) y:=by grind[zb,Ay]
def alH {x y:Qn}: ¬pQ x (zc x y):=by grind[zc,Cq]
def anv {x y:Qn}: ¬pQ y (zc x y):=by grind[zc,Ay]
theorem Z3 {x y z:Qn}(hx:ng x)(hy:ng y)(hz:ng z):zb (zb x y) z=zb x (zb y z):=by
 by_cases h1:pQ x y
 ·rw[show zb x y=y from if_pos h1];by_cases h2:pQ y z
  ·rw[show zb y z=z from if_pos h2,show zb x z=z from if_pos (ui hx hy hz (Cq h1) h2)]
  ·rw[show zb y z=y from if_neg h2,show zb x y=y from if_pos h1]
 ·rw[show zb x y=x from if_neg h1];by_cases h2:pQ y z
  ·rw[show zb y z=z from if_pos h2]
  ·rw[show zb y z=y from if_neg h2,show zb x y=x from if_neg h1];exact if_neg (λh=>h2 (ui hy hx hz h1 h))
theorem Z4 {x y z:Qn}(hx:ng x)(hy:ng y)(hz:ng z):zc (zc x y) z=zc x (zc y z):=by
 by_cases h1:pQ y x
 ·rw[show zc x y=y from if_pos h1];by_cases h2:pQ z y
  ·rw[show zc y z=z from if_pos h2,show zc x z=z from if_pos (pC hz hy hx h2 (Cq h1))]
  ·rw[show zc y z=y from if_neg h2,show zc x y=y from if_pos h1]
 ·rw[show zc x y=x from if_neg h1];by_cases h2:pQ z y
  ·rw[show zc y z=z from if_pos h2]
  ·rw[show zc y z=y from if_neg h2,show zc x y=x from if_neg h1];exact if_neg (λh=>h2 (pC hz hx hy h h1))
theorem zd {n d:Int}(h:0<d):ng (lA n d):=wS h
theorem adc:nH agF:=⟨by decide,by decide⟩
theorem oQ {s:Iv}{n m:Int}(h:nH s):nH (oM s n m):=by
 unfold oM;split
 ·exact⟨h.1,Z2 h.2 (zd K0)⟩
 ·split
  ·exact⟨Z1 h.1 (zd K0),h.2⟩
  grind[adc]
def Cr {s o:Iv}(h:nH s)(k:nH o):nH (sN s o):=⟨Z1 h.1 k.1,Z2 h.2 k.2⟩
def Z5 {F:Iv}{e x y:Int}(h:nH F):nH (atS F e x y):=oQ (oQ h)
def kg (o s:Iv):Prop:=¬pQ o.1 s.1/\¬pQ s.2 o.2
theorem rK {o s:Iv}(ho:nH o)(hs:nH s)(h:kg o s)(he:kf s):kf o:=by
 unfold kf at*;exact pC ho.2 hs.1 ho.1 (ui ho.2 hs.2 hs.1 h.2 he) h.1
def uj (s:Iv):kg s s:=⟨Ay _,Ay _⟩
theorem rL {a b c:Iv}(ha:nH a)(hb:nH b)(hc:nH c)(h:kg a b)(k:kg b c):kg a c:=
 ⟨le_trans' hc.1 hb.1 ha.1 k.1 h.1,le_trans' ha.2 hb.2 hc.2 h.2 k.2⟩
def Ke (s o:Iv):kg (sN s o) s:=⟨alG,alH⟩
def ze (s o:Iv):kg (sN s o) o:=⟨anu,anv⟩
theorem Az {s:Iv}{n m:Int}(h: ¬(n=0/\m<0)):kg (oM s n m) s:=by
 unfold oM;split
 ·exact⟨Ay _,alH⟩
 ·split
  ·exact⟨alG,Ay _⟩
  ·rw[if_neg K0];exact uj s
theorem Z6 {s:Iv}{n m:Int}(hp:nH s)(h:kf s):kf (oM s n m):=by
 by_cases k:n=0/\m<0
 ·unfold oM;rw[if_neg K0,if_neg K0,if_pos k.2];decide
 grind[rK,oQ,Az]
def NN {s F:Iv}(h:kg s F):sN s F=s:=by
 unfold sN zb zc;rw[if_neg h.1,if_neg h.2]
theorem Z7 {s F:Iv}{n m:Int}(hs:nH s)(hF:nH F)(h: ¬(n=0/\m<0)):oM (sN s F) n m=sN s (oM F n m):=by
 unfold oM;by_cases h1:n>0
 ·rw[if_pos h1,if_pos h1]
  grind[sN,Z4,zd]
 ·rw[if_neg h1,if_neg h1];by_cases h2:n<0
  ·rw[if_pos h2,if_pos h2]
   grind[sN,Z3,zd]
  grind
def ade {s F:Iv}{e x y:Int}(hs:nH s)(hF:nH F)(hw:kg s F)(aoB: ¬kf s):
  (∃o,If s e x y=some o/\sN s (atS F e x y)=o/\¬kf o/\kg o s)\/(If s e x y=none/\kf (sN s (atS F e x y))):=by
 unfold If atS;by_cases k1:x -e=0/\y+e<0
 ·right;have hn:kf (oM F (x -e) (y+e)):=by unfold oM;rw[if_neg K0,if_neg K0,if_pos k1.2];decide
  have hp:=oQ (n:=x -e) (m:=y+e) hF;refine⟨by unfold QM;grind,rK (Cr hs (oQ hp)) (oQ hp) (ze _ _) (Z6 hp hn)⟩
 ·have e1:sN s (oM F (x -e) (y+e))=oM s (x -e) (y+e):=by rw[<- Z7 hs hF k1,NN hw]
  have hp1:=oQ (n:=x -e) (m:=y+e) hs;have hpF:=oQ (n:=x -e) (m:=y+e) hF;have w1:kg (oM s (x -e) (y+e)) s:=Az k1;by_cases k2: -x -e=0/\e -y<0
  ·right
   have hn:kf (oM (oM F (x -e) (y+e)) (-x -e) (e -y)):=by
    generalize oM F (x -e) (y+e)=G;unfold oM;rw[if_neg K0,if_neg K0,if_pos k2.2];decide
   refine⟨?_,rK (Cr hs (oQ hpF)) (oQ hpF) (ze _ _) hn⟩;unfold QM
   grind
  ·have e2:sN s (oM (oM F (x -e) (y+e)) (-x -e) (e -y))=oM (oM s (x -e) (y+e)) (-x -e) (e -y):=by grind[Z7]
   rw[e2];have hp2:=oQ (n:= -x -e) (m:=e -y) hp1;have w2:kg (oM (oM s (x -e) (y+e)) (-x -e) (e -y)) (oM s (x -e) (y+e)):=Az k2;unfold QM;rw[if_neg k1];by_cases h1:kf (oM s (x -e) (y+e))
   ·right;rw[if_pos h1]
    grind[Z6]
   ·rw[if_neg h1];simp only[LB];rw[if_neg k2];by_cases h2:kf (oM (oM s (x -e) (y+e)) (-x -e) (e -y))
    grind
    ·left;rw[if_neg h2]
     grind[rL]
def uk (F:Iv)(e:Int):List (Int × Int)->Iv->Iv
 | [],s=>s
 |p::l,s=>uk F e l (sN s (atS F e p.1 p.2))
def rM (e:Int):List (Int × Int)->Option Iv->Option Iv
 | [],s=>s
 |p::l,s=>rM e l (s.bind λs=>If s e p.1 p.2)
theorem zf (e:Int): ∀l,rM e l none=none
 | []=>rfl
 |_::l=>zf e l
theorem ER {F:Iv}{e:Int}(hF:nH F): ∀(l:List (Int × Int)) {s:Iv},nH s->kg (uk F e l s) s/\nH (uk F e l s)
 | [],_,hs=>⟨uj _,hs⟩
 |p::l,s,hs=>by
  have hp:=Cr hs (Z5 (e:=e) (x:=p.1) (y:=p.2) hF);obtain⟨h1,h2⟩:=ER hF l hp;exact⟨rL h2 hp hs h1 (Ke _ _),h2⟩
def TO {F:Iv}{e:Int}(hF:nH F): ∀(l:List (Int × Int)) {s:Iv},nH s->kg s F->¬kf s->(∃o,rM e l (some s)=some o/\uk F e l s=o/\¬kf o)\/(rM e l (some s)=none/\kf (uk F e l s))
 | [],s,_,_,e8=>.inl ⟨s,rfl,rfl,e8⟩
 |p::l,s,hs,hw,e8=>by
  have hp:=Cr hs (Z5 (e:=e) (x:=p.1) (y:=p.2) hF)
  rcases ade (e:=e) (x:=p.1) (y:=p.2) hs hF hw e8 with⟨o,h1,h2,h3,h4⟩|⟨h1,h2⟩
  ·rw[h2]at hp;have:=TO (e:=e) hF l hp (rL hp hs hF h4 hw) h3
   grind[rM,uk]
  grind[rM,uk,ER,zf,rK]
def QQ (l:List Pu)(q:Nat):rH l q=(l.map λp=>(p.2.1.natAbs:Int)).countP λx=>decide ((q:Int)<=x):=by
 unfold rH;rw[List.countP_map,List.countP_eq_length_filter];rfl
def TT {l:List Pu}{n:Int}{v:Nat}(h0:0<v)(h:n<=rH l v): ∀ {Q:Nat},v<=Q->(∀q,v<q->q<=Q->¬n<=rH l q)->qz l n Q=v
 |0,hv,_=>by omega
 |Q+1,hv,h'=>by
  unfold qz;by_cases e:v=Q+1
  grind
  ·rw[if_neg (h' (Q+1) K0 (dw _))];exact TT h0 h K0 λq h1 h2=>h' q h1 K0
def srt (l:List Int):List Int:=l.mergeSort λx y=>decide (x<=y)
def NY (l:List Int):(srt l).Perm l:=List.mergeSort_perm l _
def agM (l:List Int):(srt l).Pairwise λx y=>x<=y:=by
 have:=List.pairwise_mergeSort (le:=λx y:Int=>decide (x<=y)) (λa b c h1 h2=>by grind) (λa b=>by grind) l;exact this.imp λh=>by grind
def QR {l:List Pu}{n:Nat}(h1:1<=n)(h2:n<=l.length)(hb: ∀p∈l,1<=p.2.1.natAbs/\p.2.1.natAbs<=4096):
  (srt (l.map λp=>(p.2.1.natAbs:Int))).getD (l.length -n) 0=(qz l n 4096:Nat):=by
 have hc:=QQ l;have hp:=NY (l.map λp=>(p.2.1.natAbs:Int));have hs:=agM (l.map λp=>(p.2.1.natAbs:Int));have hm: ∀x∈srt (l.map λp=>(p.2.1.natAbs:Int)),1<=x/\x<=4096:=λx hx=>by grind
 have hl:=hp.length_eq;rw[ja]at hl;have abw: ∀q:Nat,rH l q=(srt (l.map λp=>(p.2.1.natAbs:Int))).countP λx=>decide ((q:Int)<=x):=λq=>by rw[hc,hp.countP_eq]
 generalize srt (l.map λp=>(p.2.1.natAbs:Int))=ss at*;have hk:l.length -n<ss.length:=by omega
 obtain⟨k,hke⟩: ∃k,k=l.length -n:=⟨_,rfl⟩;rw[<- hke]at hk ⊢;have hg:ss.getD k 0=ss[k]:=by grind
 have hv:=hm _ (oh hk);rw[hg];obtain⟨v,hve⟩: ∃v:Nat,ss[k]=v:=⟨ss[k].toNat,by omega⟩;rw[hve]at hv ⊢
 have hge: ∀j (hj:j<ss.length),k<=j->(v:Int)<=ss[j]:=λj hj hkj=>by
  rw[<- hve];rcases Nat.lt_or_eq_of_le hkj with h|rfl
  ·exact aeu.1 hs k j hk hj h
  omega
 have eu: ∀j (hj:j<ss.length),j<=k->ss[j]<=(v:Int):=λj hj hkj=>by
  rw[<- hve];rcases Nat.lt_or_eq_of_le hkj with h|rfl
  ·exact aeu.1 hs j k hj hk h
  omega
 congr 1;symm;refine TT K0 ?_ K0 λq hq1 hq2=>?_
 ·rw[abw];have e:ss=ss.take k++ss.drop k:=(Lu k ss).symm
  have hd:(ss.drop k).countP (λx=>decide ((v:Int)<=x))=(ss.drop k).length :=by
   rw[List.countP_eq_length];intro a ha;obtain⟨j,hj,rfl⟩:=XF ha;rw[List.getElem_drop];simp only[SH]at hj;simpa using hge (k+j) K0 K0
  grind
 ·rw[abw];have e:ss=ss.take (k+1)++ss.drop (k+1):=(Lu (k+1) ss).symm
  have hd:(ss.take (k+1)).countP (λx=>decide ((q:Int)<=x))=0:=by
   rw[List.countP_eq_zero];intro a ha;obtain⟨j,hj,rfl⟩:=XF ha
   grind
  grind
def aac {a b:Int × Int}(h:(oW a b).2=0):a.2=0/\b.2=0:=by
 unfold oW at h
 grind
def Cs {x:Gp}(h:(mO x).2=0):(1<=x.least/\x.least<=60)/\x.ps.length<=60/\(∀p∈x.ps,1<=p.2.1.natAbs/\p.2.1.natAbs<=4096)/\
  ((1<=x.lo.1/\x.lo.1<=1000000000)/\1<=x.lo.2/\x.lo.2<=1000000000)/\(1<=x.hi.1/\x.hi.1<=1000000000)/\1<=x.hi.2/\x.hi.2<=1000000000:=by
 obtain⟨h1,h2⟩:=aac h;obtain⟨_,h3⟩:=vY.1 h1;obtain⟨a1,h4⟩:=vY.1 h3;obtain⟨a2,a3⟩:=vY.1 h4;have b1:(1<=x.per/\x.per<=1000000)/\1<=x.least/\x.least<=60:=by omega
 have b3:x.ps.length<=60:=by omega
 refine⟨b1.2,b3,λp hp=>?_,?_⟩
 grind[List.getElem_of_mem,oG,yV]
 grind[Ny]
noncomputable def adh (x:Gp):Int × Int:=if(mO x).2=0 then(if x.least<=x.ps.length then((qz x.ps x.least 4096:Nat),0)else(0,12))else(0,(mO x).2)
def Kk (l:List Pu)(n:Int): ∀Q:Nat,qz l n Q<=Q
 |0=>dw _
 |Q+1=>by
  unfold qz;split;omega
  ·exact Nat.le_succ_of_le (Kk l n Q)
end Go.Plain
namespace Go.Fw
open Go.RowKit (Below)
open Go.Shelf
variable {P:Program}{gl:s6}
theorem aad {ρ:Ren}(L:Proofs.Lays.n189 P ρ)(fB:iG P (ρ.f 189)=true)(xs:List Int)(h0:0<xs.length)(hl:xs.length<4611686018427387904):nN P gl (ρ.f 189) [(false,[.ints xs])] (.uK 1 (.ints (xs.mergeSort λx y=>decide (x<=y)))):=by
 have bB:(xs.mergeSort λx y=>decide (x<=y)).length =xs.length:=List.length_mergeSort _;refine .inr ⟨.ints xs,rfl,fB,rfl,by simp[SC.len],?_,?_,?_⟩
 ·intro i e he;simp[SC.elem]at he;obtain⟨a,_,rfl⟩:=he;rfl
 ·intro h;exact absurd h (by show xs.length≠0;omega)
 ·intro mv w b cap arr T hb nn gc hr;have gc:xs.length<=cap:=gc;have nn:arr.size=cap:=by omega
  have iP: ∀j,j<xs.length->arr[j]? =some (.int .i64 (xs.getD j 0)):=by
   intro j hj;have h2:=hr j [.lit (.int .i64 (xs.getD j 0))] 0 (.lit (.int .i64 (xs.getD j 0))) (by simp[SC.elem,nM hj,jE]) rfl;simp only[AQ,CP]at h2;have hj':j<arr.size:=by omega
   have e:arr.getD j undef=arr[j]:=by simp[sw,hj']
   rw[e]at h2;rw[aev hj',gh h2]
  have hH:Sort.Holds (Value.int .i64) w b 0 xs.toArray:=by
   intro j hj;have hj:j<xs.length:=by simpa using hj
   constructor
   ·simp only[World.cell?,hb,jZ];rw[iP j hj];simp[jE,hj]
   ·simp[World.frozen?,hb]
  have hbl:b<w.heap.size:=(FT.1 hb).1;refine(Proofs.Any.slices_Sort_int L b 0 cap xs w hH hbl hl).mono λe w' he=>?_;generalize (xs.mergeSort λx y=>decide (x<=y))=ys at*;obtain⟨rfl,n,os,rfl⟩:=he;have xz:(Sort.ahead w n).heap[b]? =some (.cells arr T):=hb
  have hb2:(Sort.grow (Sort.ahead w n) os).heap[b]? =some (.cells arr T):=by
   show(w.heap++os)[b]? =_;rw[Xv hbl];exact hb
  refine⟨rfl,Sort.grow (Sort.ahead w n) os,Sort.putCells (Value.int .i64) 0 ys.toArray arr,?_,?_,by simp[Sort.putCells],?_⟩
  ·refine⟨rfl,rfl,rfl,?_,λc hc=>?_⟩
   ·show w.heap.size<=(w.heap++os).size;simp
   ·show(w.heap++os)[c]? =w.heap[c]?;rw[Xv hc]
  ·rw[pH xz,<- pH hb2];rw[<- pH xz];unfold Sort.putRow Sort.mapBlock Sort.grow;congr 1;show(w.heap.modify b _)++os=(w.heap++os).modify b _;apply AS
   ·simp
   ·intro i h1 h2;by_cases hi:i<w.heap.size
    ·rw[aew abQ,Sm,Sm,aew hi]
    ·rw[aes abQ,Sm,if_neg K0,aes K0];simp
  intro i e j x he hx;simp only[SC.elem,my]at he;obtain⟨a,ha,rfl⟩:=he;have hi:i<xs.length:=by have:=(kl.1 ha).1;omega
  cases j with
  |zero=>
   simp at hx;subst hx;have kA:i<arr.size:=by omega
   have hg:(Sort.putCells (Value.int .i64) 0 ys.toArray arr)[i]? =some (.int .i64 a):=by
    simp only[Sort.putCells,Array.getElem?_mapIdx,aev kA,xJ,dC,CY,jZ,G2];rw[if_pos (by simpa [bB]using hi)]
    have:ys.toArray[i]! =a:=by
     have:=(kl.1 ha);obtain⟨q1,q2⟩:=this;simp[q1,q2]
    rw[this]
   exact am3
  |succ j=>simp at hx
end Go.Fw
namespace Go.Plain
open Go.Lib
def AE:List aj->Nat->Nat
 |_,0=>0
 | [],_=>0
 |w::r,k+1=>w.length+1+AE r k
def Ir: ∀ {l:List aj} {k:Nat},k<l.length->AE l (k+1)=AE l k+(l.getD k []).length +1
 | [],k,h=>by grind
 |w::r,0,h=>by simp[AE]
 |w::r,k+1,h=>by
  have:=Ir (l:=r) (k:=k) br
  grind[AE]
def Is: ∀(k:Nat) (s:aj),k< (av 32 s).length ->AE (av 32 s) k<=s.length/\s.drop (AE (av 32 s) k)=bP k s
 |0,s,_=>⟨by simp[AE],by simp[AE,bP]⟩
 |k+1,s,h=>by
  rcases kp 32 s with⟨h1,h2⟩|⟨i,h1,h2,h3⟩
  grind
  ·have h3:av 32 s=s.take i::av 32 (s.drop (i+1)):=h3;have hi:(s.take i).length =i:=by grind
   have hd:bP (k+1) s=bP k (s.drop (i+1)):=by grind[bP]
   rw[h3]at h ⊢;obtain⟨a,b⟩:=Is k (s.drop (i+1)) br;rw[hd,<- b];show(s.take i).length +1+AE _ k<=_/\s.drop ((s.take i).length +1+AE _ k)=_;rw[hi,XX]
   grind
end Go.Plain
namespace Go.Fw
def Oo (d d':DC):Prop:=d'=d\/d'= .st .any
def AI {F:gN}{β:Nat->Option Nat}{N:Nat->Prop}{H:HF}{w:World}{v:Value}{d d':DC}(h:Oo d d')(hr:cd F β N H w v d):cd F β N H w v d':=by
 rcases h with rfl|rfl
 ·exact hr
 ·exact dq.any hr.one_cell
def Fo {E:dP}{Hh:Hp}{nx:Nat}(id i:Nat){z:Nat}{l:List (List DC)}{e e':List DC}(hB:Hh.get id=some (.aA z l))(hi:l[i]? =some e)(hl:e'.length=e.length)(hc: ∀(k:Nat) (d d':DC),e[k]? =some d->e'[k]? =some d'->Oo d d'):
  bs ⟨E,Hh,nx⟩ ⟨E,(id,some (.aA z (l.set i e')))::Hh,nx⟩:=by
 rintro F nt a w ⟨N,⟨q1,q2,q0,β,q3,q4⟩,q5⟩;have ak:i<l.length:=(kl.1 hi).1;have hs:mR β Hh.get (bn Hh.get id (some (.aA z (l.set i e')))):=ND hB (λo h=>h.elim) (by simp[co.sz]);refine⟨N,⟨q1,q2,q0,β,?_,?_⟩,q5⟩
 ·exact aiS
 ·rw[Hp.ar];refine mR.heap q4 hB hs ?_;obtain⟨_,⟨h1,h3⟩,su⟩:=q4.rel id _ hB;refine⟨⟨h1,λj x hx=>?_⟩,?_⟩
  ·by_cases hj:i=j
   ·subst hj;rw[IT ak]at hx;cases hx;rw[hl];exact h3 i e hi
   ·rw[Pq hj]at hx;exact h3 j x hx
  ·rcases su with⟨a1,a2⟩|⟨b,cap,arr,T,a1,a2,b1,b2,b3,b4⟩
   ·exact .inl ⟨a1,by rw[CJ];exact a2⟩
   ·refine .inr ⟨b,cap,arr,T,a1,a2,b1,b2,by rw[CJ];exact b3,λj x k d hx hd=>?_⟩;by_cases hj:i=j
    ·subst hj;rw[IT ak]at hx;cases hx;have hk:k<e.length:=by rw[<- hl];exact(kl.1 hd).1
     have hd0:e[k]? =some e[k]:=nM hk;exact AI (hc k e[k] d hd0 hd) (hs.jr (b4 i e k e[k] hi hd0))
    ·rw[Pq hj]at hx;exact hs.jr (b4 j x k d hx hd)
theorem bN.Pk {C:bQ}{fid:Nat}{f:FuncId}{xs xs':List DX}{H:HF}{r:DV}{u:Hp}{R:List Nat}(h:bN C fid f xs H r u R)(hl:xs'.length=xs.length)
  (hx: ∀(k:Nat) (x x':DX),xs[k]? =some x->xs'[k]? =some x'->x.1=x'.1/\x.2.length=x'.2.length/\∀(j:Nat) (d d':DC),x'.2[j]? =some d->x.2[j]? =some d'->Oo d d'):bN C fid f xs' H r u R:=by
 refine⟨h.1,λF β N H' w vs hR hG hH hf nn hv=>h.2 F β N H' w vs hR hG hH hf (by rw[nn,hl]) λk x hk=>?_⟩;have ak:=(kl.1 hk).1;have hd:xs'[k]? =some (xs'[k]'K0):=nM _;obtain⟨h1,h2,h3⟩:=hx k x _ hk hd;have hr:=hv k _ hd;generalize xs'[k]'K0=x' at*;obtain⟨g,ds⟩:=x;obtain⟨g',ds'⟩:=x';simp only at h1 h2 h3;subst h1;unfold aq at hr ⊢;cases g
 ·obtain⟨c,R0,hr⟩:=hr;simp only at R0;subst R0;obtain⟨c',rfl⟩:=wA.1 (by simpa using h2);exact⟨c',rfl,AI (h3 0 c c' rfl rfl) hr⟩
 ·obtain⟨arr,g1,g2,g3⟩:=hr;refine⟨arr,g1,by simp only at g2 ⊢;omega,λk c hk=>?_⟩;simp only at hk;have ak:=(kl.1 hk).1;have hd:ds'[k]? =some (ds'[k]'K0):=nM _;exact AI (h3 k _ c hd hk) (g3 k _ hd)
def adK (m:List (Nat × Nat))(H:HF):Hp->Prop
 | []=>True
 |(n,b)::r=>(∃o b0,(o,n)∈m/\H o=some b0/\fm m b0=b)/\adK m H r
def Fp {m:List (Nat × Nat)}{H:HF}: ∀ {X:Hp},adK m H X->∀n b',X.get n=some b'->∃o b,(o,n)∈m/\H o=some b/\fm m b=some b'
 | [],_,n,b',e=>by simp[Hp.get]at e
 |(j,b)::X,⟨⟨o,b0,h1,h2,h3⟩,h4⟩,n,b',e=>by
  rw[Hp.ar]at e;by_cases hn:n=j
  ·subst hn;rw[an]at e;subst e;exact⟨o,b0,h1,h2,h3⟩
  ·rw[aH _ _ _ hn]at e;exact Fp h4 n b' e
def vp {E E':dP}{Hh X:Hp}{nx n':Nat}{m:List (Nat × Nat)}{ks:List Nat}(hd:(eM (m.map Prod.fst)&&eM (m.map Prod.snd))=true)(hX:adK m Hh.get X)(hn:(m.all λq=>Nat.blt (tag q.2) n')=true)(hE:eZ m E.get ks=some E'):bs ⟨E,Hh,nx⟩ ⟨E',X,n'⟩:=by
 simp only[sC]at hd;refine Co (m:=m) ⟨bW hd.1,bW hd.2,Fp hX⟩ (λq hq=>?_) hE;have:=wC.1 hn q hq;rwa [AR]at this
def nI {m:List (Nat × Nat)}{H:HF}{X:Hp}(hd:(eM (m.map Prod.fst)&&eM (m.map Prod.snd))=true)(hX:adK m H X):cW m H X.get:=by
 simp only[sC]at hd;exact⟨bW hd.1,bW hd.2,Fp hX⟩
abbrev stL (V:List (List SC)):List (List DC):=V.map λ(e:List SC)=>e.map DC.st
def Fq (m:List (Nat × Nat)): ∀(e:List SC),eX m (e.map .st)=some (e.map .st)
 | []=>rfl
 |c::e=>by
  show(match m7 m (.st c)with|some c'=>(match eX m (e.map .st)with|some xn=>some (c'::xn)|none=>none)|none=>none)=_;rw[Fq m e];rfl
def KB (m:List (Nat × Nat)): ∀(V:List (List SC)),fI m (stL V)=some (stL V)
 | []=>rfl
 |e::V=>by
  show(match eX m (e.map .st)with|some e'=>(match fI m (stL V)with|some l'=>some (e'::l')|none=>none)|none=>none)=_;rw[Fq m e,KB m V];rfl
theorem kh {m:List (Nat × Nat)}{V:List (List SC)}{i:Nat}{e e':List DC}(he:eX m e=some e'):fI m ((stL V).set i e)=some ((stL V).set i e'):=by
 by_cases hi:i<V.length
 ·refine YT abQ he λj x _ hx=>?_;rw[gr,my]at hx;obtain⟨x0,_,rfl⟩:=hx;exact Fq m x0
 ·have h: ∀x:List DC,(stL V).set i x=stL V:=λx=>List.set_eq_of_length_le abQ;rw[h,h];exact KB m V
def unz (n id:Nat):Nat:=id/2 -n*4294967296
def WK {n k:Nat}(h:0<k):unz n (fresh n 0 k)=k:=by rw[qf K0];unfold unz;omega
def DC.Lf {ρ σ:Nat->Nat}{ok:Nat->Prop}(h: ∀k,ok k->σ (ρ k)=k){d:DC}(hd:d.dM ok):(d.rn ρ).rn σ=d:=by cases d<;>first|rfl|(have hd:ok _:=hd;simp only[DC.rn,h _ hd])
def adL {ρ σ:Nat->Nat}{ok:Nat->Prop}(h: ∀k,ok k->σ (ρ k)=k){x:DX}(hx:dY ok x):Gg σ (Gg ρ x)=x:=by
 obtain⟨g,ds⟩:=x;unfold Gg;simp only[zR,gt,CY];conv=>rhs;rw[<- LM ds]
 exact Lp λd hd=>DC.Lf h (hx d hd)
def co.Lf {ρ σ:Nat->Nat}{ok:Nat->Prop}(h: ∀k,ok k->σ (ρ k)=k){b:co}(hb:b.dM ok):(b.rn ρ).rn σ=b:=by
 have hd: ∀ds:List DC,(∀d∈ds,d.dM ok)->(ds.map (DC.rn ρ)).map (DC.rn σ)=ds:=λds h'=>by
  rw[zR];conv=>rhs;rw[<- LM ds]
  exact Lp λd hm=>DC.Lf h (h' d hm)
 cases b with
 |box t cs=>simp only[co.rn];rw[hd cs hb]
 |aA z l=>
  simp only[co.rn];congr 1;rw[zR];conv=>rhs;rw[<- LM l]
  exact Lp λe he=>hd e (hb e he)
 |_=>rfl
section
variable {C:bQ}{f:FuncId}{fid nx n:Nat}{xs:List DX}{T T':Hp}{r:DV}{H:HF}
def xd (h:bt C f 1 xs T [] r T')(hT:Mz T)(fh:Mz T')(hs: ∀id∈ah T,(T.get id).map (co.rn (fresh n 0))=H (fresh n 0 id))(B6: ∀x∈xs,dY (· ∈ah T) x)(hr:lF (· ∈ah T') r):
  bN C fid f (xs.map (Gg (fresh n 0))) H (KV (fresh (Fw.tag fid) 0) r) (cC (cN (fresh n 0) T) (cN (fresh (Fw.tag fid) 0) T')) (ah (cN (fresh n 0) T)):=by
 have hi:=fh.inj (Fw.tag fid);have zE:=hT.inj n;have fO: ∀k∈ah T,unz n (fresh n 0 k)=k:=λk hk=>WK (hT.lt k hk).1;have zJ: ∀o b,(cN (fresh n 0) T).get o=some b->∃k b0,k∈ah T/\o=fresh n 0 k/\T.get k=some b0/\b=b0.rn (fresh n 0):=(m8.new hT zE).heap
 have hR:m8 (ah (cN (fresh n 0) T)) (unz n) (cN (fresh n 0) T).get T.get:=by
  refine⟨?_,λi h1 j h2 e=>?_,λk b e=>?_,λk b e=>?_⟩
  ·rw[dj];have AM:=(m8.new hT zE).ok.news;have:(sc (ah T) (fresh n 0)).map Prod.snd=(ah T).map (fresh n 0):=by exact X3
   rwa [this]at AM
  ·rw[dj]at h1 h2;obtain⟨a,ha,rfl⟩:=dN.1 h1;obtain⟨c,hc,rfl⟩:=dN.1 h2;rw[fO a ha,fO c hc]at e;rw[e]
  ·obtain⟨o,b0,h1,rfl,h3,rfl⟩:=zJ k b e;exact JD (co.dJ (λx hx=>by rw[dj];exact dN.2 ⟨x,hx,rfl⟩) (hT.dM o b0 h3))
  ·have hk:=Hp.dS e;refine⟨fresh n 0 k,b.rn (fresh n 0),by rw[dj];exact dN.2 ⟨k,hk,rfl⟩,(fO k hk).symm,?_,(co.Lf fO (hT.dM k b e)).symm⟩;rw[jN zE k hk,e];rfl
 have h':bt C f 1 ((xs.map (Gg (fresh n 0))).map (Gg (unz n))) T [] r T':=by
  rw[zR]
  have:xs.map (Gg (unz n) ∘ Gg (fresh n 0))=xs:=by
   conv=>rhs;rw[<- LM xs]
   exact Lp λx hx=>adL fO (B6 x hx)
  rw[this];exact h
 have RY: ∀x∈xs.map (Gg (fresh n 0)),dY (· ∈ah (cN (fresh n 0) T)) x:=λx hx=>by
  obtain⟨x0,h0,rfl⟩:=dN.1 hx;exact DG (λd hd=>DC.dJ (λk hk=>by rw[dj];exact dN.2 ⟨k,hk,rfl⟩) (B6 x0 h0 d hd))
 have h2:bt C f (n+1) (xs.map (Gg (fresh n 0))) (cN (fresh n 0) T) [] r T':=by
  refine h'.inn hR (λo b e=>?_) (λk hk=>?_) RY λid hid=>by cases hid
  ·obtain⟨k,b0,h1,rfl,h3,rfl⟩:=zJ o b e;exact⟨Hp.dS e,by rw[fO k h1,h3,co.Lf fO (hT.dM k b0 h3)]⟩
  ·rw[dj]at hk;obtain⟨a,ha,rfl⟩:=dN.1 hk;rw[fO a ha,(hT.lt a ha).2.2];omega
 have hg:=h2.out (m8.new fh hi) hr λid hid=>by cases hid
 have l7: ∀k∈ah T',fresh (Fw.tag fid) 0 k∈([]:List Nat)\/Fw.tag (fresh (Fw.tag fid) 0 k)=Fw.tag fid:=λk hk=>.inr (fh.tag hk);refine gv hg (λid hid=>?_) (λid hid=>?_) hR.dM RY (λid hid=>by cases hid) (λid hid=>?_) (λid b e=>?_) (yw (rm l7 hr))
 ·have hid:id∈ah (cN (fresh n 0) T):=hid;rw[dj]at hid;obtain⟨k,hk,rfl⟩:=dN.1 hid;rw[hT.tag hk];omega
 ·have hid:id∈ah (cN (fresh n 0) T):=hid;rw[dj]at hid;obtain⟨k,hk,rfl⟩:=dN.1 hid;rw[<- hs k hk,jN zE k hk]
 ·have hid:id∈ah (cN (fresh (Fw.tag fid) 0) T'):=hid;exact ajj
 ·exact afv
end
end Go.Fw
namespace Go.Plain
structure LK (p:Pl) (s:bK):Prop where
 volt:s.volt=true->s.opens= []/\s.earth=false
 earth:s.opens≠[]->s.earth=true
 gate: ∀x∈s.opens,x∈p.ap
 nd:s.opens.Nodup
def LK.begin (p:Pl):LK p fD:=⟨(by intro h;cases h),(by intro h;exact absurd rfl h),(by intro x h;cases h),G0⟩
theorem LK.len {p:Pl}{s:bK}(h:LK p s):s.opens.length<=p.ap.length:=by
 have: ∀(l m:List aj),l.Nodup->(∀x∈l,x∈m)->l.length<=m.length:=by
  intro l
  induction l with
  |nil=>grind
  |cons a l ih=>
   intro m hn hm;obtain⟨h1,h2⟩:=zO.1 hn;have ha:=hm a i8
   have:=ih (m.erase a) h2 (λx hx=>by
    grind)
   grind
 exact this _ _ h.nd h.gate
def Ix {E:qH}{p:Pl}{log:List En}{s:bK}{u:Un}{k:Nat}{a:List aj}{n:List Int}{q:aj}(hk:k=10\/k=11)(h:(aI E p log s u k a n q).2=0):s.opens≠[]:=by
 intro ho;rcases hk with rfl|rfl
 ·have e:aI E p log s u 10 a n q=if u.rel then(u,20)else if s.hall= []then(if s.opens= []then(u,24)else(u,0))else(u,17):=rfl
  grind
 ·have e:aI E p log s u 11 a n q=if s.hall=u.name then(if s.opens= []then(u,24)else(u,0))else(u,20):=rfl
  grind
open Go.Lib
def OM: ∀s:au,join (av 32 s) [32]=s
 | []=>rfl
 |b::r=>by
  have ih:=OM r;have e8:=lT 32 r;unfold av;split
  ·rename_i h;have hb:b=32:=CU.1 h;subst hb
   cases hs:av 32 r with
   |nil=>exact absurd hs e8
   |cons w ws=>
    rw[hs]at ih;rw[join_cons];exact aju
  ·cases hs:av 32 r with
   |nil=>exact absurd hs e8
   |cons w ws=>
    rw[hs]at ih;dsimp only;exact aju
def B5 (x y:aj):aj:=[117,115,101,32]++x++[32]++y
def ON {x:aj}(h:eK x): ∀b∈x,b.toNat≠32:=by
 intro b hb;obtain⟨i,hi,rfl⟩:=zN.1 hb;have:=h.2 i hi;unfold okc at this;rw[jE,nM hi,sY]at this;omega
def Iy (x y:aj):B5 x y=join [[117,115,101],x,y] [32]:=by
 unfold B5;simp[join_cons,joinTail]
def Fx {x y:aj}(hx:eK x)(hy:eK y):av 32 (B5 x y)= [[117,115,101],x,y]:=by
 rw[Iy];refine MI _ _ λw hw=>?_;simp only[cQ,mA,mB]at hw;rcases hw with rfl|rfl|rfl
 ·decide
 ·exact ON hx
 ·exact ON hy
structure Xg (tx:aj) (k:Nat) (a:List aj) (r:aj):Prop where
 no:jH ((av 32 tx).getD 0 [])=k
 lt:k<19
 args:a=((av 32 tx).take ((vb k).words +1)).drop 1
 len:(vb k).words +1<=(av 32 tx).length
 all:(vb k).rest =false->(av 32 tx).length =(vb k).words +1
 rest:r=if(vb k).rest then bP ((vb k).words +1) tx else []
def Iz {tx:aj}{k:Nat}{a:List aj}{n:List Int}{r:aj}(W4:k<19)(hk:jH ((av 32 tx).getD 0 [])=k)(h:eD (vb k) tx=some (a,n,r)):Xg tx k a r:=by
 unfold eD at h;dsimp only at h;split at h
 ·cases h
 ·rename_i hc
  cases hn:jk (((av 32 tx).take ((vb k).words +1)).drop ((vb k).words +1 -(vb k).pW))with
  |none=>rw[hn]at h;cases h
  |some m=>
   rw[hn]at h;cases h;have h2:(vb k).rest =false->(av 32 tx).length =(vb k).words +1:=λhr=>aex λhl=>hc (.inr (.inl ⟨hr,hl⟩));refine⟨hk,W4,rfl,?_,h2,rfl⟩
   cases hr:(vb k).rest with
   |false=>rw[h2 hr];exact dw _
   |true=>
    have: ¬(av 32 tx).length < (vb k).words +2:=λhl=>hc (.inl ⟨hr,hl⟩);omega
def Xg.arg {tx:aj}{k:Nat}{a:List aj}{r:aj}(h:Xg tx k a r){i:Nat}(hi:i< (vb k).words):a.getD i []=(av 32 tx).getD (i+1) []:=by
 have:=h.len;rw[h.args,jE,jE,Pt,GW,if_pos K0,Nat.add_comm]
def KJ {w:aj}{k:Nat}(h:jH w=k)(W4:k<19):w=(kv.getD k ([],⟨0,0,0,false⟩)).1:=by
 subst h;have h':jH w< (kv.map Prod.fst).length :=W4;have e:(kv.map Prod.fst)[jH w]=w:=Sw h';have hv:jH w<kv.length:=W4;exact ajS
def Xg.use {tx:aj}{a:List aj}{r:aj}(h:Xg tx 3 a r):tx=B5 (a.getD 0 []) (a.getD 1 []):=by
 have hl:(av 32 tx).length =3:=h.all rfl;have hw:(av 32 tx).getD 0 []= [117,115,101]:=KJ h.no h.lt;rw[h.arg (i:=0) K9,h.arg (i:=1) K9,Iy,<- hw];conv=>lhs;rw[<- OM tx]
 congr 1
 match hs:av 32 tx,hl with
 | [_,_,_],_=>rfl
def ag4 {x y:aj}(hx:eK x)(hy:eK y):jH ((av 32 (B5 x y)).getD 0 [])=3:=by rw[Fx hx hy];rfl
def Xg.Ur {tx:aj}{k:Nat}{a:List aj}{r:aj}(h:Xg tx k a r){x y:aj}(hx:eK x)(hy:eK y)(e:tx=B5 x y):k=3/\a.getD 0 []=x/\a.getD 1 []=y:=by
 subst e;obtain rfl:k=3:=h.no.symm.trans (ag4 hx hy);refine⟨rfl,?_,?_⟩
 ·rw[h.arg (i:=0) K9,Fx hx hy];rfl
 ·rw[h.arg (i:=1) K9,Fx hx hy];rfl
def BF {E:qH}{p:Pl}{log:List En}{s:bK}{u:Un}{k:Nat}{a:List aj}{n:List Int}{r:aj}(h:(aI E p log s u k a n r).2=0):
  (aI E p log s u k a n r).1.name =u.name/\(aI E p log s u k a n r).1.win =u.win/\(aI E p log s u k a n r).1.lots =(if k=3 then u.lots++[a.getD 1 []]else u.lots)/\(k=3->a.getD 1 []∈s.lots):=by
 revert h
 unfold aI;split;all_goals((try dsimp only);repeat' split)
 all_goals intro h
 all_goals first|exact absurd h (by decide)|exact⟨rfl,rfl,rfl,λh=>absurd h (by decide)⟩|exact⟨rfl,rfl,rfl,λ_=>by assumption⟩|grind
def aa4 {l:List aj}{x:aj}(h:0<=aZ l x): ∃j:Nat,aZ l x=(j:Nat)/\l[j]? =some x:=by
 unfold aZ at h ⊢;by_cases hx:x∈l
 ·rw[if_pos hx];have hl:=R5 hx;exact⟨_,rfl,by rw[nM hl,Sw hl]⟩
 ·rw[if_neg hx]at h;exact absurd h K9
def IA {E:qH}{p:Pl}{log:List En}{s s':bK}{k:Nat}{a:List aj}{n:List Int}{r:aj}(h:ba E p log s k a n r=(s',0)):
  (s'.lots=s.lots\/k=1/\eK (a.getD 0 [])/\s'.lots=s.lots++[a.getD 0 []])/\
  ((k=2/\eK (a.getD 0 [])/\a.getD 0 []∉cT s/\(E.pu r).2=0/\s'.units=s.units++[{o6 with name:=a.getD 0 [],win:=(E.pu r).1}])\/
  (k≠2/\k≠3/\k<10/\s'.units=s.units)\/
  (k≠2/\∃(i:Nat) (u:Un),gY s (a.getD 0 [])=(i:Nat)/\s.units[i]? =some u/\u.name=a.getD 0 []/\(aI E p log s u k a n r).2=0/\s'.units=s.units.set i (aI E p log s u k a n r).1)):=by
 unfold ba at h;split at h
 case h_10=>
  split at h
  ·rename_i hx;obtain⟨j,hj,hjx⟩:=aa4 hx;have hj:gY s (a.getD 0 [])=(j:Nat):=hj;unfold cT at hjx;rw[gr,my]at hjx;obtain⟨u,hu,hn⟩:=hjx;dsimp only at h;have hg:s.units.getD j o6=u:=by rw[jE,hu,sY]
   rw[hj,sB,hg]at h;simp only[gt]at h;obtain⟨rfl,hz⟩:=h;exact⟨.inl rfl,.inr (.inr ⟨by assumption,j,u,hj,hu,hn,hz,rfl⟩)⟩
  ·simp only[gt]at h;exact absurd h.2 K9
 all_goals(try dsimp only at h)
 all_goals repeat' split at h
 all_goals(simp only[gt]at h;obtain⟨rfl,h⟩:=h)
 all_goals first|exact absurd h (by decide)|contradiction|exact⟨.inl rfl,.inr (.inl ⟨by decide,by decide,by decide,rfl⟩)⟩|exact⟨.inr ⟨rfl,by assumption,rfl⟩,.inr (.inl ⟨by decide,by decide,by decide,rfl⟩)⟩|exact⟨.inl rfl,.inl ⟨rfl,by assumption,by assumption,by assumption,rfl⟩⟩|skip
def IB {us:List Un}{i:Nat}{u v:Un}(W9:us[i]? =some u)(q1:v.name=u.name):(us.set i v).map Un.name=us.map Un.name:=by
 rw[LL,q1];refine Ly λj=>?_;rw[List.getElem?_set];split
 ·rename_i h;subst h;rw[gr,W9];have:=(kl.1 W9).1;simp[this]
 ·rfl
def adT {us:List Un}{i:Nat}{u v:Un}(AM:(us.map Un.name).Nodup)(W9:us[i]? =some u){P:Un->Prop}(g1: ∀w∈us,w.name≠u.name->P w)(g2:P v): ∀w∈us.set i v,P w:=λw hw=>by
 obtain⟨j,hj,e1⟩:=zN.1 hw;rw[List.getElem_set]at e1;split at e1
 ·subst e1;exact g2
 ·rename_i Lb;rw[CJ]at hj;subst e1;refine g1 _ (oh _) λhnm=>Lb ?_;have Ui:=(kl.1 W9).1;have lD:us[i]=u:=(kl.1 W9).2;exact(List.getElem_inj (xs:=us.map Un.name) (i:=i) (j:=j) (h₀:=by simpa using Ui) (h₁:=by simpa using hj) AM).1 (by simp[hnm,lD])
def adU {E:qH}{p:Pl}{log:List En}{s s':bK}{k:Nat}{a:List aj}{n:List Int}{r:aj}(hn:(cT s).Nodup)(h:ba E p log s k a n r=(s',0)):(cT s').Nodup :=by
 unfold cT at hn ⊢
 rcases(IA h).2 with⟨_,_,h2,_,hu⟩|⟨_,_,_,hu⟩|⟨_,i,u,_,W9,_,hz,hu⟩
 ·rw[hu,wD]
  exact IU.2 ⟨hn,by simp,λx hx y hy e1=>by
   have hy:y=a.getD 0 []:=by simpa using hy
   subst hy;subst e1;exact h2 hx⟩
 ·rw[hu];exact hn
 ·rw[hu,IB W9 (BF hz).1];exact hn
def so (x tx:aj):Prop:=jH ((av 32 tx).getD 0 [])=2/\(av 32 tx).getD 1 []=x
structure TI (E:qH) (l:List En) (s:bK):Prop where
 nd:(cT s).Nodup
 nm: ∀u∈s.units,eK u.name
 ln: ∀x∈s.lots,eK x
 lots: ∀u∈s.units,∀y,eK y->(y∈u.lots↔∃e∈l,e.text=B5 u.name y)
 known: ∀e∈l,∀x y,eK x->eK y->e.text=B5 x y->x∈cT s
 win: ∀u∈s.units,(∃e∈l,so u.name e.text)/\∀e∈l,so u.name e.text->E.pu (bP 2 e.text)=(u.win,0)
 fresh: ∀e∈l,∀x,so x e.text->x∈cT s
def TI.begin (E:qH):TI E [] fD:=⟨G0,(λ_ h=>by cases h),(λ_ h=>by cases h),(λ_ h=>by cases h),(λ_ h=>by cases h),(λ_ h=>by cases h),(λ_ h=>by cases h)⟩
def lh {α:Type}{l:List α}{x:α}{p:α->Prop}:(∃y∈l++[x],p y)↔(∃y∈l,p y)\/p x:=by
 constructor
 ·rintro⟨y,h,k⟩;rcases gC.1 h with h|h
  ·exact .inl ⟨y,h,k⟩
  ·rw[lq]at h;subst h;exact .inr k
 ·rintro(⟨y,h,k⟩|k)
  ·exact⟨y,Pp _ h,k⟩
  ·exact⟨x,by simp,k⟩
def gq {α:Type}{l:List α}{x:α}{p:α->Prop}:(∀y∈l++[x],p y)↔(∀y∈l,p y)/\p x:=by
 constructor
 ·exact λh=>⟨λy hy=>h y (Pp _ hy),h x (by simp)⟩
 ·rintro⟨h,k⟩ y hy;rcases gC.1 hy with hy|hy
  ·exact h y hy
  ·rw[lq]at hy;subst hy;exact k
def Xg.unit {tx:aj}{k:Nat}{a:List aj}{r:aj}(h:Xg tx k a r){x:aj}:so x tx↔k=2/\a.getD 0 []=x:=by
 unfold so;rw[h.no];constructor
 ·rintro⟨rfl,h2⟩;exact⟨rfl,by rw[h.arg K9,h2]⟩
 ·rintro⟨rfl,h2⟩;exact⟨rfl,by rw[<- h.arg (i:=0) K9,h2]⟩
def TI.step {E:qH}{p:Pl}{log:List En}{s s':bK}{e:En}{k:Nat}{a:List aj}{n:List Int}{r:aj}(hT:TI E log s)(he:Xg e.text k a r)(h:ba E p log s k a n r=(s',0)):TI E (log++[e]) s':=by
 obtain⟨hl,hu⟩:=IA h
 have hln: ∀x∈s'.lots,eK x:=by
  rcases hl with hl|⟨_,h1,hl⟩
  ·rw[hl];exact hT.ln
  ·rw[hl];exact gq.2 ⟨hT.ln,h1⟩
 rcases hu with⟨rfl,h1,h2,h3,hu⟩|⟨k2,k3,_,hu⟩|⟨k2,i,u,hi,W9,hun,hz,hu⟩
 ·have hn:cT s'=cT s++[a.getD 0 []]:=by unfold cT;rw[hu,wD];rfl
  have hnu: ∀x y,eK x->eK y->e.text≠B5 x y:=λx y hx hy e1=>by have:=(he.Ur hx hy e1).1;omega
  refine⟨adU hT.nd h,?_,hln,?_,?_,?_,?_⟩
  ·rw[hu];exact gq.2 ⟨hT.nm,h1⟩
  ·rw[hu];refine gq.2 ⟨λu hm y hy=>?_,λy hy=>?_⟩
   ·exact aiY
   ·rw[lh];refine⟨(λh=>by cases h),λo=>?_⟩;rcases o with⟨e1,g1,g2⟩|g
    ·exact absurd (hT.known e1 g1 _ y h1 hy g2) h2
    ·exact absurd g (hnu _ _ h1 hy)
  ·refine gq.2 ⟨λe1 g1 x y hx hy g2=>?_,λx y hx hy g2=>absurd g2 (hnu x y hx hy)⟩;rw[hn];exact Pp _ (hT.known e1 g1 x y hx hy g2)
  ·rw[hu];refine gq.2 ⟨λu hm=>?_,?_⟩
   ·obtain⟨g1,g2⟩:=hT.win u hm;refine⟨lh.2 (.inl g1),gq.2 ⟨g2,λg=>?_⟩⟩;have:=(he.unit.1 g).2;exact absurd (by rw[this];exact XH hm) h2
   ·refine⟨lh.2 (.inr (he.unit.2 ⟨rfl,rfl⟩)),gq.2 ⟨λe1 g1 g2=>absurd (hT.fresh e1 g1 _ g2) h2,λ_=>?_⟩⟩;have hr:r=bP 2 e.text:=he.rest;rw[<- hr];exact Prod.ext rfl h3
  ·rw[hn];refine gq.2 ⟨λe1 g1 x g2=>Pp _ (hT.fresh e1 g1 x g2),λx g=>?_⟩;rw[<- (he.unit.1 g).2];simp
 ·have hn:cT s'=cT s:=by unfold cT;rw[hu]
  have hnu: ∀x y,eK x->eK y->e.text≠B5 x y:=λx y hx hy e1=>k3 (he.Ur hx hy e1).1;have e8: ∀x,¬so x e.text:=λx g=>k2 (he.unit.1 g).1;refine⟨hn▸hT.nd,hu▸hT.nm,hln,?_,?_,?_,?_⟩
  ·rw[hu];intro u hm y hy;exact aiY
  ·rw[hn];exact gq.2 ⟨hT.known,λx y hx hy g2=>absurd g2 (hnu x y hx hy)⟩
  ·rw[hu];exact λu hm=>⟨lh.2 (.inl (hT.win u hm).1),gq.2 ⟨(hT.win u hm).2,λg=>absurd g (e8 _)⟩⟩
  ·exact ajE
 ·obtain⟨q1,q2,q3,q4⟩:=BF hz;generalize (aI E p log s u k a n r).1=v at*;have OR:=jt W9;have hn:cT s'=cT s:=by unfold cT;rw[hu];exact IB W9 q1
  have e8: ∀x,¬so x e.text:=λx g=>k2 (he.unit.1 g).1;have lj: ∀ {P:Un->Prop},(∀w∈s.units,w.name≠u.name->P w)->P v->∀w∈s'.units,P w:=λ{P} g1 g2=>hu▸adT hT.nd W9 g1 g2;refine⟨hn▸hT.nd,lj (λw hw _=>hT.nm w hw) (q1▸hT.nm u OR),hln,?_,?_,?_,?_⟩
  ·refine lj (λw hw e8 y hy=>?_) λy hy=>?_
   ·rw[lh,hT.lots w hw y hy];refine⟨.inl,λo=>o.resolve_right λg=>e8 ?_⟩;rw[hun,(he.Ur (hT.nm w hw) hy g).2.1]
   ·rw[lh,q1,q3,<- hT.lots u OR y hy];by_cases h3:k=3
    ·subst h3;rw[if_pos rfl,gC,lq];have ht:=he.use;rw[<- hun]at ht;constructor
     ·rintro(o|rfl)
      ·exact .inl o
      ·exact .inr ht
     ·rintro(o|o)
      ·exact .inl o
      ·exact .inr ((he.Ur (hT.nm u OR) hy o).2.2).symm
    ·rw[if_neg h3];exact⟨.inl,λo=>o.resolve_right λg=>h3 (he.Ur (hT.nm u OR) hy g).1⟩
  ·rw[hn];refine gq.2 ⟨hT.known,λx y hx hy g2=>?_⟩;have:=(he.Ur hx hy g2).2.1;rw[<- this,<- hun];exact XH OR
  ·refine lj (λw hw _=>?_) ?_
   ·exact⟨lh.2 (.inl (hT.win w hw).1),gq.2 ⟨(hT.win w hw).2,λg=>absurd g (e8 _)⟩⟩
   ·rw[q1,q2];exact⟨lh.2 (.inl (hT.win u OR).1),gq.2 ⟨(hT.win u OR).2,λg=>absurd g (e8 _)⟩⟩
  ·exact ajE
end Go.Plain
namespace Go.Proofs.Tryz
open Go.Fw
def xh (P:Program)(fn:Func)(s:ChangeSpec)(c:OpenClaim):Bool:=
 (c.kinds==(if c.domain.isEmpty then []else fn.params.toList.map λt=>match P.underlying t with|some (.int k)=>some k|_=>none))&&(c.pinned==c.pinnedBy)&&(c.veiled==(fn.params.toList++s.plain.varTypes P++fn.resultTypes.toList).any (P.veiledRec ·))&&c.veiledFits P fn.params.toList (fn.params.toList++s.plain.varTypes P++fn.resultTypes.toList)
def WV {P:Program}{f:FuncId}{fn:Func}{s:ChangeSpec}{c:OpenClaim}
  (a:(c.wf (OpenSpec.ofChange s)&&laidOutB P&&mapsRowed P&&fn.params.all (P.readableRec ·)&&namedTie P c.named s.vars&&(c.stops==[])&&(P.stops==[])&&(c.knobs==[])&&(P.stopKnobs==[]))=true)
  (b:(c.inPlace==P.inPlace f)=true)(d:(c.unfollowed==P.unfollowed f)=true)(e:(c.recurses==P.recurses f)=true)(g:(c.named==P.varsNamed f)=true)
  (h:((c.maps==(fn.params.toList++s.plain.varTypes P).any (P.mapsRec ·))&&(c.ifaces==(fn.params.toList++s.plain.varTypes P).any (P.ifacesRec ·))&&(c.mapsOut==P.mapsAmong fn.resultTypes.toList)&&(c.loops==(fn.params.toList++s.plain.varTypes P).any (P.loopsFrom ·))&&(c.wideKeys==(fn.params.toList++s.plain.varTypes P++fn.resultTypes.toList).any (P.wideKeysFrom ·))&&s.vars.all (P.varReadable ·)&&fn.resultTypes.all (λt=>P.readableRec t&&decide (t<P.types.size))&&(c.ifacesOut==fn.resultTypes.toList.any (P.ifacesRec ·))&&(c.loopsOut==fn.resultTypes.toList.any (P.loopsFrom ·)))=true)
  (i:(c.plainKeys==P.plainKeys)=true)
  (j:(c.shortTexts.isNone&&P.stopsHeard&&P.mayEnter&&(c.lifted==P.liftsFinal)&&(P.make==some c.make))=true)
  (k:xh P fn s c=true):
  joinedFacts P f fn s c=true:=by
 unfold joinedFacts;simp only[xh,sC]at a h j k ⊢;obtain⟨⟨⟨⟨⟨⟨⟨⟨a1,a2⟩,a3⟩,a4⟩,a5⟩,a6⟩,a7⟩,a8⟩,a9⟩:=a;obtain⟨⟨⟨⟨⟨⟨⟨⟨h1,h2⟩,h3⟩,h4⟩,h5⟩,h6⟩,h7⟩,h8⟩,h9⟩:=h;obtain⟨⟨⟨⟨j1,j2⟩,j3⟩,j4⟩,j5⟩:=j;obtain⟨⟨⟨k1,k2⟩,k3⟩,k4⟩:=k;exact⟨⟨⟨⟨⟨⟨⟨⟨⟨⟨⟨⟨⟨⟨⟨⟨⟨⟨⟨⟨⟨⟨⟨⟨⟨⟨⟨⟨⟨⟨⟨a1,a2⟩,a3⟩,a4⟩,a5⟩,a6⟩,a7⟩,a8⟩,a9⟩,b⟩,d⟩,e⟩,g⟩,h1⟩,h2⟩,h3⟩,h4⟩,h5⟩,h6⟩,h7⟩,h8⟩,h9⟩,i⟩,j1⟩,j2⟩,j3⟩,j4⟩,j5⟩,k1⟩,k2⟩,k3⟩,k4⟩
def WW {P:Program}(h:P.funcs.toList.any Func.goes=false)(f:FuncId):P.goes f=false:=by
 have h1:P.funcs.any Func.goes=false:=by rw[<- Array.any_toList];exact h
 unfold Program.goes;rw[h1,Bool.and_false,AP];rw[XO];intro g _
 cases hg:P.funcs[g]? with
 |none=>simp
 |some fn=>
  have hm:fn∈P.funcs.toList:=by simpa using XC hg
  simpa using XO.1 h fn hm
def OO {P:Program}(h:P.funcs.toList.any Func.goes=false)(c:OpenClaim):false=c.goesBy P:=by
 unfold OpenClaim.goesBy Program.goesAt Program.goesFrom;have hf:=WW h;have h2:P.inits.toList.any P.goes=false:=XO.2 λf _=>by rw[hf];decide
 rw[h2];cases P.funcNamed c.func<;>cases c.start<;>simp[hf]
def adZ:prog.funcs.toList.any Func.goes=false:=by kernel_rfl
open Go.ChangeShapes Go.WideShapes Go.ChangeAt Go.RowKit
abbrev oU:List (String × DataW Unit):=[("math/bits.deBruijn32tab",Go.Proofs.YtackacoaaihcjaaGreatDoor.Rows.laid_math_bits_deBruijn32tab),("math/bits.deBruijn64tab",Go.Proofs.YtackacoaaihcjaaGreatDoor.Rows.laid_math_bits_deBruijn64tab),("internal/strconv.uint64pow10",Go.Proofs.YtackacoaaihcjaaGreatDoor.Rows.laid_internal_strconv_uint64pow10),("unicode/utf8.acceptRanges",Go.Proofs.YtackacoaaihcjaaGreatDoor.Rows.laid_unicode_utf8_acceptRanges),("strconv.ErrRange",Go.Proofs.YtackacoaaihcjaaGreatDoor.Rows.laid_strconv_ErrRange),("strconv.ErrSyntax",Go.Proofs.YtackacoaaihcjaaGreatDoor.Rows.laid_strconv_ErrSyntax),("buchholz/group.patterns",Go.Proofs.YtackacoaaihcjaaGreatDoor.Rows.laid_buchholz_group_patterns),("buchholz/wave.never",Go.Proofs.YtackacoaaihcjaaGreatDoor.Rows.laid_buchholz_wave_never),("unicode/utf8.first",Go.Proofs.YtackacoaaihcjaaGreatDoor.Rows.laid_unicode_utf8_first)]
def own:ownKnob prog.godebug=none:=by kernel_rfl
def ad0:laidOutB prog=true:=by kernel_rfl
def ahb {W:World}(h:laidMet prog oU W):laidMetH prog oU W:=by
 unfold laidMetH;rw[show(oU.filter λx=>x.2.handleName?.isSome)= []by kernel_rfl];exact h
def abc (os:Os)(args:Array Value):laidMetH prog oU ((World.laidAll prog os oU).forCall (λ_ _=>0) ⟨#[],args,[]⟩).memory :=
 ahb (laidMet_laidAll _ (by kernel_rfl) (by kernel_rfl))
def RF {W:World}(h:laidMetH prog oU W):laidMet prog oU W:=(laidMetH_iff.1 h).1
def Ub {w:World}{m:Nat}{l:List Value}{i j:Int}{x:DataW Unit × List MemPlace}
  (hd:DataW.trod (λ_=>()) prog w 0 (λ_=>true) false m 159 l=some x)(hx:x.1= .agg [.lit (.int .i64 i),.lit (.int .i64 j)]):l= [.int .i64 i,.int .i64 j]:=by
 obtain⟨xs,n,rfl,rfl,bB,hxl,iE⟩:=Sl underlying159 hd;have c2:prog.cellsOf 159=2:=by kernel_rfl
 have c3:prog.cellsOf 3=1:=by kernel_rfl
 rw[c2]at bB;simp only[GX]at hx
 match l,bB,xs,hx with
 | [v0,v1],_,[x0,x1],hx=>
  simp only[ju,CO,BI,r9]at hx;have h0:=iE 0 _ rfl;have h1:=iE 1 _ rfl;change DataW.trod (λ_=>()) prog w 0 (λ_=>true) false n 3 (List.take (prog.cellsOf 3) (List.drop 0 [v0,v1]))=some x0 at h0;change DataW.trod (λ_=>()) prog w 0 (λ_=>true) false n 3 (List.take (prog.cellsOf 3) (List.drop 1 [v0,v1]))=some x1 at h1;rw[c3]at h0 h1;simp only[xL,XG,G1,XE]at h0 h1;obtain⟨d0,q0⟩:=x0;obtain⟨d1,q1⟩:=x1;obtain⟨rfl,rfl⟩:=hx;obtain⟨k0,e0,f0,_⟩:=CQ underlying3 h0;obtain⟨k1,e1,f1,_⟩:=CQ underlying3 h1;simp only[BI,r9]at e0 e1;simp only[gt,Sx,Lit.int.injEq,CY]at f0 f1;rw[e0,e1,<- f0.1,<- f1.1]
def abd {W:World}(h:laidMet prog oU W):rd W 9 0=some (.int .i64 1)/\rd W 9 1=some (.int .i64 1)/\rd W 9 2=some (.int .i64 0)/\rd W 9 3=some (.int .i64 1)/\rd W 9 4=none:=by
 have h1:laidMet prog [("buchholz/wave.never",Go.Proofs.YtackacoaaihcjaaGreatDoor.Rows.laid_buchholz_wave_never)] W:=(h.filter λx=>x.1=="buchholz/wave.never");obtain⟨ps,⟨g,t,cs,AL,p,q,hg,ht,hv,hd,_,_⟩,_,_⟩:=h1;obtain rfl:=wE ((show prog.globalNamed "buchholz/wave.never" =some 9 by kernel_rfl).symm.trans hg);obtain rfl:=wE ((show(prog.globals[9]?).map (·.type)=some 394 by kernel_rfl).symm.trans ht);obtain⟨xs,m,rfl,hx,bB,hxl,iE⟩:=Sl underlying394 hd;have c4:prog.cellsOf 394=4:=by kernel_rfl
 have c2:prog.cellsOf 159=2:=by kernel_rfl
 rw[c4]at bB;have GQ:DataW.agg (xs.map (·.1))=DataW.agg [_,_]:=(aP Prod.fst hx).symm;simp only[GX]at GQ;obtain⟨l⟩:=cs
 match xs,GQ,l,bB with
 | [x0,x1],GQ,[v0,v1,v2,v3],_=>
  simp only[ju,CO,BI,r9]at GQ;obtain⟨y0,y1⟩:=GQ;have h0:=iE 0 _ rfl;have h1:=iE 1 _ rfl;change DataW.trod (λ_=>()) prog W 0 (λ_=>true) false m 159 (List.take (prog.cellsOf 159) (List.drop 0 [v0,v1,v2,v3]))=some x0 at h0;change DataW.trod (λ_=>()) prog W 0 (λ_=>true) false m 159 (List.take (prog.cellsOf 159) (List.drop 2 [v0,v1,v2,v3]))=some x1 at h1;rw[c2]at h0 h1;have k0:=Ub h0 y0;have k1:=Ub h1 y1;simp at k0 k1;obtain⟨rfl,rfl⟩:=k0;obtain⟨rfl,rfl⟩:=k1;exact⟨CI hg hv 0,CI hg hv 1,CI hg hv 2,CI hg hv 3,CI hg hv 4⟩
def ahc {W:World}(h:laidMet prog oU W):(∀k z,Lib.pow10Tab[k]? =some z->rd W 6 k=some (.int .u64 z))/\rd W 6 20=none:=by
 have h1:laidMet prog [("internal/strconv.uint64pow10",Go.Proofs.YtackacoaaihcjaaGreatDoor.Rows.laid_internal_strconv_uint64pow10)] W:=(h.filter λx=>x.1=="internal/strconv.uint64pow10");obtain⟨ps,⟨g,t,cs,AL,p,q,hg,ht,hv,hd,_,_⟩,_,_⟩:=h1;obtain rfl:=wE ((show prog.globalNamed "internal/strconv.uint64pow10" =some 6 by kernel_rfl).symm.trans hg);obtain rfl:=wE ((show(prog.globals[6]?).map (·.type)=some 375 by kernel_rfl).symm.trans ht);obtain⟨xs,m,rfl,hx,bB,hxl,iE⟩:=Sq underlying375 hd;have c1:prog.cellsOf 330=1:=by kernel_rfl
 have c20:prog.cellsOf 375=20:=by kernel_rfl
 rw[c20]at bB;simp only[c1]at iE;have GQ:DataW.agg (xs.map (·.1))=DataW.agg (Lib.pow10Tab.map λz=>DataW.lit (.int .u64 z)):=(aP Prod.fst hx).symm;simp only[GX]at GQ
 have key: ∀(k:Nat) (z:Int),Lib.pow10Tab[k]? =some z->cs.toList[k]? =some (Value.int .u64 z):=by
  intro k z hz
  have hk:k<20:=by
   have:=(kl.1 hz).1;rwa [Lib.pow10Tab_length]at this
  have hy:(xs[k]?).map (·.1)=some (DataW.lit (.int .u64 z)):=by rw[<- gr,GQ,gr,hz];rfl
  cases hxk:xs[k]? with
  |none=>rw[hxk]at hy;cases hy
  |some y=>
   rw[hxk]at hy;have e:=iE k hk;obtain⟨d,r⟩:=y;simp only[xJ,lK]at hy;subst hy;rw[hxk]at e;obtain⟨n,e1,e2,_⟩:=CQ underlying330 e;simp only[gt,Sx,Lit.int.injEq,CY]at e2;have e3:(List.take 1 (List.drop (k*1) cs.toList))[0]? =cs.toList[k]? :=by simp
   rw[<- e3,e1,<- e2.1];rfl
 refine⟨λk z hz=>?_,?_⟩
 ·show W.cell? ⟨6,k,none⟩=_;rw[CI hg hv k,<- Uz];exact key k z hz
 ·show W.cell? ⟨6,20,none⟩=_;rw[CI hg hv 20,<- Uz,List.getElem?_eq_none (by omega)]
def abe {w:World}{m:Nat}{l:List Value}{i j k:Int}{x:DataW Unit × List MemPlace}
  (hd:DataW.trod (λ_=>()) prog w 0 (λ_=>true) false m 96 l=some x)(hx:x.1= .agg [.lit (.int .i64 i),.lit (.int .i64 j),.lit (.int .i64 k)]):l= [.int .i64 i,.int .i64 j,.int .i64 k]:=by
 obtain⟨xs,n,rfl,rfl,bB,hxl,iE⟩:=Sq underlying96 hd;have c3:prog.cellsOf 96=3:=by kernel_rfl
 have c1:prog.cellsOf 3=1:=by kernel_rfl
 rw[c3]at bB;simp only[c1]at iE;simp only[GX]at hx
 match l,bB,xs,hx with
 | [v0,v1,v2],_,[x0,x1,x2],hx=>
  simp only[ju,CO,BI,r9]at hx;have h0:=iE 0 (by decide);have h1:=iE 1 (by decide);have h2:=iE 2 (by decide);obtain⟨d0,q0⟩:=x0;obtain⟨d1,q1⟩:=x1;obtain⟨d2,q2⟩:=x2;obtain⟨rfl,rfl,rfl⟩:=hx;change DataW.trod (λ_=>()) prog w 0 (λ_=>true) false n 3 [v0]=some _ at h0;change DataW.trod (λ_=>()) prog w 0 (λ_=>true) false n 3 [v1]=some _ at h1;change DataW.trod (λ_=>()) prog w 0 (λ_=>true) false n 3 [v2]=some _ at h2;obtain⟨k0,e0,f0,_⟩:=CQ underlying3 h0;obtain⟨k1,e1,f1,_⟩:=CQ underlying3 h1;obtain⟨k2,e2,f2,_⟩:=CQ underlying3 h2;simp only[BI,r9]at e0 e1 e2;simp only[gt,Sx,Lit.int.injEq,CY]at f0 f1 f2;rw[e0,e1,e2,<- f0.1,<- f1.1,<- f2.1]
def xi {w:World}{m:Nat}{l:List Value}{c:UInt8}{i j k:Int}{x:DataW Unit × List MemPlace}
  (hd:DataW.trod (λ_=>()) prog w 0 (λ_=>true) false m 196 l=some x)(hx:x.1= .agg [.lit (.string [c]),.agg [.lit (.int .i64 i),.lit (.int .i64 j),.lit (.int .i64 k)]]):
  l= [.string ⟨#[c]⟩,.int .i64 i,.int .i64 j,.int .i64 k]:=by
 obtain⟨xs,n,rfl,rfl,bB,hxl,iE⟩:=Sl underlying196 hd;have c4:prog.cellsOf 196=4:=by kernel_rfl
 have c1:prog.cellsOf 9=1:=by kernel_rfl
 have c3:prog.cellsOf 96=3:=by kernel_rfl
 rw[c4]at bB;simp only[GX]at hx
 match l,bB,xs,hx with
 | [v0,v1,v2,v3],_,[x0,x1],hx=>
  simp only[ju,CO,BI,r9]at hx;have h0:=iE 0 _ rfl;have h1:=iE 1 _ rfl;change DataW.trod (λ_=>()) prog w 0 (λ_=>true) false n 9 (List.take (prog.cellsOf 9) (List.drop 0 [v0,v1,v2,v3]))=some x0 at h0;change DataW.trod (λ_=>()) prog w 0 (λ_=>true) false n 96 (List.take (prog.cellsOf 96) (List.drop 1 [v0,v1,v2,v3]))=some x1 at h1;rw[c1]at h0;rw[c3]at h1;simp only[xL,XG,G1,XE]at h0 h1;have e1:=abe h1 hx.2;obtain⟨s,e0,f0,_⟩:=DataW.trod_string underlying9 h0;simp only[BI,r9]at e0 e1;have f1:=hx.1;rw[f0]at f1;simp only[Sx,Lit.string.injEq]at f1
  have es:s=⟨#[c]⟩:=by
   obtain⟨s⟩:=s;have:s= #[c]:=G4 f1;rw[this]
  rw[e0,es,e1.1,e1.2.1,e1.2.2]
def ad1 {W:World}(h:laidMet prog oU W):(∀(k:Nat) (v:Value),[Value.string ⟨#[121]⟩,.int .i64 1,.int .i64 (-1),.int .i64 0,.string ⟨#[100]⟩,.int .i64 1,.int .i64 0,.int .i64 0,.string ⟨#[122]⟩,.int .i64 1,.int .i64 (-2),.int .i64 1][k]? =some v->rd W 0 k=some v)/\rd W 0 12=none:=by
 have h1:laidMet prog [("buchholz/group.patterns",Go.Proofs.YtackacoaaihcjaaGreatDoor.Rows.laid_buchholz_group_patterns)] W:=(h.filter λx=>x.1=="buchholz/group.patterns");obtain⟨ps,⟨g,t,cs,AL,p,q,hg,ht,hv,hd,_,_⟩,_,_⟩:=h1;obtain rfl:=wE ((show prog.globalNamed "buchholz/group.patterns" =some 0 by kernel_rfl).symm.trans hg);obtain rfl:=wE ((show(prog.globals[0]?).map (·.type)=some 197 by kernel_rfl).symm.trans ht);obtain⟨xs,m,rfl,hx,bB,hxl,iE⟩:=Sq underlying197 hd;have c4:prog.cellsOf 196=4:=by kernel_rfl
 have c12:prog.cellsOf 197=12:=by kernel_rfl
 rw[c12]at bB;simp only[c4]at iE;have GQ:DataW.agg (xs.map (·.1))=DataW.agg [_,_,_]:=(aP Prod.fst hx).symm;simp only[GX]at GQ;obtain⟨l⟩:=cs
 match xs,GQ,l,bB with
 | [x0,x1,x2],GQ,[v0,v1,v2,v3,v4,v5,v6,v7,v8,v9,v10,v11],_=>
  simp only[ju,CO,BI,r9]at GQ;obtain⟨y0,y1,y2⟩:=GQ;have h0:=iE 0 (by decide);have h1:=iE 1 (by decide);have h2:=iE 2 (by decide);change DataW.trod (λ_=>()) prog W 0 (λ_=>true) false m 196 [v0,v1,v2,v3]=some x0 at h0;change DataW.trod (λ_=>()) prog W 0 (λ_=>true) false m 196 [v4,v5,v6,v7]=some x1 at h1;change DataW.trod (λ_=>()) prog W 0 (λ_=>true) false m 196 [v8,v9,v10,v11]=some x2 at h2;have k0:=xi h0 y0;have k1:=xi h1 y1;have k2:=xi h2 y2;simp only[BI,r9]at k0 k1 k2;obtain⟨rfl,rfl,rfl,rfl⟩:=k0;obtain⟨rfl,rfl,rfl,rfl⟩:=k1;obtain⟨rfl,rfl,rfl,rfl⟩:=k2;refine⟨λk v hk=>?_,CI hg hv 12⟩;show W.cell? ⟨0,k,none⟩=_;rw[CI hg hv k,<- Uz];exact hk
def abf {W:World}{n:String}{b:DataW Unit}{g0:Nat}(h1:laidMet prog [(n,.iface "*errors.errorString" b)] W)(hg0:prog.globalNamed n=some g0)(ht0:(prog.globals[g0]?).map (·.type)=some 201):
  (∃u v,rd W g0 0=some (.iface u v))/\rd W g0 1=none:=by
 obtain⟨ps,⟨g,t,cs,AL,p,q,hg,ht,hv,hd,_,_⟩,_,_⟩:=h1;obtain rfl:=wE (hg0.symm.trans hg);obtain rfl:=wE (ht0.symm.trans ht);obtain⟨ms,hu⟩: ∃ms,prog.underlying 201=some (.interface ms):=⟨_,underlying201⟩;obtain⟨_,u,v,e,_,_⟩:=iface_of_trod hu hd;refine⟨⟨u,v,?_⟩,?_⟩
 ·show W.cell? ⟨g0,0,none⟩=_;rw[CI hg hv 0,<- Uz,e];rfl
 ·show W.cell? ⟨g0,1,none⟩=_;rw[CI hg hv 1,<- Uz,e];rfl
def max_zero:((Go.begin prog (λ_ _=>0) default).world.heap[1]?).bind Obj.row?=some (#[.int .i64 0],3):=by kernel_rfl
def ahd {W:World}(h:W.ShapedOpen prog):(∃m,rd W 1 0=some (.int .i64 m))/\rd W 1 1=none:=by
 refine⟨cell_of_shapedOpen_int h (by decide) max_zero rfl (by kernel_rfl) (by kernel_rfl) (by kernel_rfl),?_⟩;obtain⟨cs,hh,hs,_⟩:=h.1 1 _ _ (by decide) max_zero;have h1:cs.size=1:=hs;show W.cell? ⟨1,1,none⟩=none;simp[World.cell?,hh,h1]
def ad2 {W:World}(h:laidMetH prog oU W)(hs:W.ShapedOpen prog):eP cx.gl (rd W):=by
 have h':=RF h;have hp:=ahc h';have hq:=ad1 h';have hm:=ahd hs;have hy:=abf (W:=W) (h'.filter λx=>x.1=="strconv.ErrSyntax") (g0:=2) (by kernel_rfl) (by kernel_rfl);have hz:=abf (W:=W) (h'.filter λx=>x.1=="strconv.ErrRange") (g0:=3) (by kernel_rfl) (by kernel_rfl);intro g cs OR
 have hm1:(g,cs)=(0,[SC.lit (.string ⟨#[121]⟩),SC.lit (.int .i64 1),SC.lit (.int .i64 (-1)),SC.lit (.int .i64 0),SC.lit (.string ⟨#[100]⟩),SC.lit (.int .i64 1),SC.lit (.int .i64 0),SC.lit (.int .i64 0),SC.lit (.string ⟨#[122]⟩),SC.lit (.int .i64 1),SC.lit (.int .i64 (-2)),SC.lit (.int .i64 1)])\/(g,cs)=(1,[SC.num .i64])\/(g,cs)=(2,[SC.err])\/(g,cs)=(3,[SC.err])\/(g,cs)=(6,Lib.pow10Tab.map λz=>SC.lit (.int .u64 z))\/(g,cs)=(9,[SC.lit (.int .i64 1),SC.lit (.int .i64 1),SC.lit (.int .i64 0),SC.lit (.int .i64 1)]):=by
  rw[show cx.gl= [(0,[SC.lit (.string ⟨#[121]⟩),SC.lit (.int .i64 1),SC.lit (.int .i64 (-1)),SC.lit (.int .i64 0),SC.lit (.string ⟨#[100]⟩),SC.lit (.int .i64 1),SC.lit (.int .i64 0),SC.lit (.int .i64 0),SC.lit (.string ⟨#[122]⟩),SC.lit (.int .i64 1),SC.lit (.int .i64 (-2)),SC.lit (.int .i64 1)]),(1,[SC.num .i64]),(2,[SC.err]),(3,[SC.err]),(6,Lib.pow10Tab.map λz=>SC.lit (.int .u64 z)),(9,[SC.lit (.int .i64 1),SC.lit (.int .i64 1),SC.lit (.int .i64 0),SC.lit (.int .i64 1)])]by kernel_rfl]at OR;simpa only[cQ,mA,mB]using OR
 rcases hm1 with e|e|e|e|e|e;all_goals simp only[gt]at e
 all_goals obtain⟨rfl,rfl⟩:=e
 ·refine⟨λk x hk=>?_,λ_=>hq.2⟩
  match k,hk with
  |0,hk=>cases hk;exact⟨_,hq.1 0 _ rfl,.lit rfl⟩
  |1,hk=>cases hk;exact⟨_,hq.1 1 _ rfl,.lit rfl⟩
  |2,hk=>cases hk;exact⟨_,hq.1 2 _ rfl,.lit rfl⟩
  |3,hk=>cases hk;exact⟨_,hq.1 3 _ rfl,.lit rfl⟩
  |4,hk=>cases hk;exact⟨_,hq.1 4 _ rfl,.lit rfl⟩
  |5,hk=>cases hk;exact⟨_,hq.1 5 _ rfl,.lit rfl⟩
  |6,hk=>cases hk;exact⟨_,hq.1 6 _ rfl,.lit rfl⟩
  |7,hk=>cases hk;exact⟨_,hq.1 7 _ rfl,.lit rfl⟩
  |8,hk=>cases hk;exact⟨_,hq.1 8 _ rfl,.lit rfl⟩
  |9,hk=>cases hk;exact⟨_,hq.1 9 _ rfl,.lit rfl⟩
  |10,hk=>cases hk;exact⟨_,hq.1 10 _ rfl,.lit rfl⟩
  |11,hk=>cases hk;exact⟨_,hq.1 11 _ rfl,.lit rfl⟩
  |k+12,hk=>cases hk
 ·obtain⟨⟨m,e⟩,e2⟩:=hm;refine⟨λk x hk=>?_,λ_=>e2⟩
  match k,hk with
  |0,hk=>cases hk;exact⟨_,e,.num ⟨m,rfl⟩⟩
  |k+1,hk=>cases hk
 ·obtain⟨⟨u,v,e⟩,e2⟩:=hy;refine⟨λk x hk=>?_,λ_=>e2⟩
  match k,hk with
  |0,hk=>cases hk;exact⟨_,e,.err ⟨u,v,rfl⟩⟩
  |k+1,hk=>cases hk
 ·obtain⟨⟨u,v,e⟩,e2⟩:=hz;refine⟨λk x hk=>?_,λ_=>e2⟩
  match k,hk with
  |0,hk=>cases hk;exact⟨_,e,.err ⟨u,v,rfl⟩⟩
  |k+1,hk=>cases hk
 ·refine⟨λk x hk=>?_,λ_=>by rw[ja,Lib.pow10Tab_length];exact hp.2⟩;rw[gr]at hk
  cases hz:Lib.pow10Tab[k]? with
  |none=>rw[hz]at hk;cases hk
  |some z=>
   rw[hz]at hk;cases hk;exact⟨_,hp.1 k z hz,.lit rfl⟩
 ·obtain⟨e0,e1,e2,e3,e4⟩:=abd h';refine⟨λk x hk=>?_,λ_=>e4⟩
  match k,hk with
  |0,hk=>cases hk;exact⟨_,e0,.lit rfl⟩
  |1,hk=>cases hk;exact⟨_,e1,.lit rfl⟩
  |2,hk=>cases hk;exact⟨_,e2,.lit rfl⟩
  |3,hk=>cases hk;exact⟨_,e3,.lit rfl⟩
  |k+4,hk=>cases hk
end Go.Proofs.Tryz
