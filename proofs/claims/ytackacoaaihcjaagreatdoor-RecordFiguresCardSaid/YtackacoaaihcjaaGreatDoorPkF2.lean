import Derived.Test.YtackacoaaihcjaaGreatDoorPkF1
import Derived.Shelf.Strconv.Itoa3
import Derived.Shelf.Strconv.AtoiAll
import Derived.Shelf.Strings.Split
import Derived.Shelf.Strings.OnBuilder
import Derived.Shelf.Strings.Prefix
import Derived.Lib.AppendIntMem
import Derived.Lib.SmallJoins
import Derived.Shelf.LaysM
import Derived.Shelf.LaysC
import Derived.Shelf.Strings.Cut
import Derived.Ground.NamesProg
import Derived.Ground.Names2Prog
import Derived.Ground.Names7Prog
import Derived.Test.YtackacoaaihcjaaGreatDoorProg
import Derived.Lib.AtoiAll
import Derived.Lib.ItoaNum
import Derived.Lib.Strings
import Derived.Lib.Split
import Derived.Lib.Join
import Derived.Lib.AtoiAllCases
import Derived.KernelRfl
import Derived.IntWalk
import Derived.RangeFuncCalls
import Derived.RangeFuncLeaves
import Derived.WalkKit
import Derived.OwnWalkIn
import Derived.TacticsInMore
import Derived.LoopNIn
import Derived.LoopIn
import Derived.Lib.Walk
import Derived.Deep.RegionLaw
import Derived.Lib.SliceRun
import Derived.Laws.IdiomCopy
import Derived.Shelf.Sort.Plain
import Derived.JoinedOf
import GoSem.ClaimGoes
import Derived.Test.YtackacoaaihcjaaGreatDoorRows
import Derived.LaidMore
import Derived.LaidSub
import Derived.LaidLaws
import Derived.Stop.Joined
import Derived.Lay
import Derived.Shelf.Vars
set_option linter.all false
set_option maxRecDepth 100000
set_option maxHeartbeats 8000000
namespace Go.Fw
open Go.RowKit (Below)
open Go.Shelf
variable {P:Program}{gl:s7}
abbrev SS (l:List UInt8):SV:=(false,[.lit (.string (B l))])
def DL {mv mr:Mem}{vs:Array Value}{c d:SC}(h:o4 mv mr vs [(false,[c]),(false,[d])]): ∃v u,vs= #[v,u]/\dw mv mr v c/\dw mv mr u d:=by
 obtain⟨h1,h2⟩:=h;obtain⟨c',e,hr⟩:=h2 0 _ rfl;obtain⟨d',e',Cb⟩:=h2 1 _ rfl;simp at e e';subst e e';refine⟨vs.getD 0 undef,vs.getD 1 undef,?_,hr,Cb⟩;have h1:vs.size=2:=h1;apply AV;omega
 ·intro i hi _;rcases(show i=0\/i=1 by omega)with rfl|rfl<;>simp[sE,h1]
def acN {w:World}{b o:Nat}{v:Value}(h:rd w b o=some v): ∃arr T fr,w.heap[b]? =some (.cells arr T fr)/\arr[o]? =some v:=by grind[rd,World.cell?]
def agt {w:World}{name:String}{g:Nat}{k:IntKind}{zs:List Int}(hn:P.globalNamed name=some g)(hg:(g,zs.map λz=>.lit (.int k z))∈gl)(hG:eQ gl (rd w))(h0:0<zs.length):Lib.TabIs P w name k zs:=by
 obtain⟨h1,h2⟩:=hG _ _ hg;have h2:=h2 bq;rw[jf]at h2;obtain⟨v0,hv0,_⟩:=h1 0 (.lit (.int k zs[0])) bq;obtain⟨arr,T,fr,hb,_⟩:=acN hv0;unfold Lib.TabIs World.var?;rw[hn];simp only[LJ,hb];congr 1;have iQ: ∀o,rd w g o=arr[o]? :=λo=>by grind[rd,World.cell?]
 apply G7;rw[List.toList_toArray];apply LG;intro i;rw[UN,gq];by_cases hi:i<zs.length
 ·obtain⟨v,hv,hr⟩:=h1 i (.lit (.int k zs[i])) bq
  grind[gd]
 grind
def Y8 {ρ:Ren}(L:Proofs.LaysM.n171 P ρ)(fC:iH P (ρ.f 171)=true){g:Nat}(hn:P.globalNamed "internal/strconv.uint64pow10" =some g)(hg:(g,Lib.pow10Tab.map λz=>.lit (.int .u64 z))∈gl)
  (n:Int)(h: -9223372036854775808<=n/\n<=9223372036854775807):nN P gl (ρ.f 171) [(false,[.lit (.int .i64 n)])] (.one (SS (Lib.itoa n))):=by
 refine .inl ⟨fC,λmv w vs _ hG xi=>?_⟩;obtain⟨v,rfl,hr⟩:=yw xi;rw[gd hr];refine(Proofs.Any.strconv_Itoa L n h.1 h.2 w (agt hn hg hG (by grind[Lib.pow10Tab_length]))).mono λe w' he=>?_;obtain⟨rfl,k,os,rfl⟩:=he;exact⟨_,rfl,Lib.below_grow _ w (dz _) k os,⟨_,rfl,.lit rfl⟩⟩
theorem acO {ρ:Ren}(L:Proofs.LaysC.n172 P ρ)(fC:iH P (ρ.f 172)=true)(s:List UInt8)(hl:s.length<=1000000){v:Int}(h:Lib.atoiAll s= .ok v):nN P gl (ρ.f 172) [SS s] (.aJ [(false,[.lit (.int .i64 v)]),(false,[.lit .nilIface])]):=by
 refine .inl ⟨fC,λmv w vs _ hG xi=>?_⟩;obtain⟨x,rfl,hr⟩:=yw xi;rw[gd hr];refine(Proofs.Any.strconv_Atoi_ok L (B s) af4 v akn w).mono λe w' he=>?_;obtain⟨rfl,hw⟩:=he;refine⟨_,rfl,?_,#[.int .i64 v,.nilIface],rfl,rfl,λk x hk=>?_⟩
 grind[Below.refl,Lib.bytesWorld_below]
 ·match k,hk with
  |0,hk=>simp at hk;subst hk;exact⟨_,rfl,.lit rfl⟩
  |1,hk=>simp at hk;subst hk;exact⟨_,rfl,.lit rfl⟩
  |k+2,hk=>grind
theorem Y9 {ρ:Ren}(L:Proofs.LaysC.n172 P ρ)(fC:iH P (ρ.f 172)=true)(h15:(ρ.g 15,[SC.err])∈gl)(h16:(ρ.g 16,[SC.err])∈gl)(s:List UInt8)(hl:s.length<=1000000)(h: ∀v,Lib.atoiAll s≠ .ok v):
  ∃v,nN P gl (ρ.f 172) [SS s] (.aJ [(false,[.lit (.int .i64 v)]),(false,[.err])]):=by
 have key: ∀(v:Int) (g:Nat),(g,[SC.err])∈gl->(∀(ev:Value) (w:World),w.cell? ⟨g,0,none⟩=some ev->(ev= .nilIface \/∃te pe,ev= .iface te pe)->Calls P (ρ.f 172) #[.string (B s)] w λe w'=>∃N,e= .returned (.tuple #[.int .i64 v,.iface (ρ.t 168) (.pointer (some ⟨N,0,none⟩))])/\w.heap.size<=N/\w'.heap[N]? =some (.cells #[.string ⟨#[65,116,111,105]⟩,.string (B s),ev] (ρ.t 210) (0,0))/\Below w.heap.size w w')->
   nN P gl (ρ.f 172) [SS s] (.aJ [(false,[.lit (.int .i64 v)]),(false,[.err])]):=by
  intro v g hg hc;refine .inl ⟨fC,λmv w vs _ hG xi=>?_⟩;obtain⟨x,rfl,hr⟩:=yw xi;rw[gd hr];obtain⟨ev,h1,h2⟩:=(hG _ _ hg).1 0 _ rfl
  have oW: ∃T x,ev= .iface T x:=by
   cases h2 with
   |err h=>exact h
   |empty a cap hv=>grind[SC.ao]
   |view _ _ _ _ _ hv=>grind[SC.ao]
  refine(hc ev w h1 (.inr oW)).mono λe w' he=>?_;obtain⟨N,rfl,_,_,hb⟩:=he;refine⟨_,rfl,hb,_,rfl,rfl,λk x hk=>?_⟩
  match k,hk with
  |0,hk=>simp at hk;subst hk;exact⟨_,rfl,.lit rfl⟩
  |1,hk=>simp at hk;subst hk;exact⟨_,rfl,.err ⟨_,_,rfl⟩⟩
  |k+2,hk=>grind
 rcases hs:Lib.atoiAll s with v|_|_
 grind
 ·exact⟨0,key 0 _ h15 λev w h1 h2=>Proofs.Any.strconv_Atoi_syntax L (B s) af4 akn ev w h1 h2⟩
 ·refine⟨Lib.atoiSat s,key _ _ h16 λev w h1 h2=>?_⟩
  grind[Proofs.Any.strconv_Atoi_range,lT,jK]
def DM {ρ:Ren}(L:Proofs.Lays.n101 P ρ)(fC:iH P (ρ.f 101)=true)(s p:List UInt8):nN P gl (ρ.f 101) [SS s,SS p] (.one (SS (Lib.trimPrefix s p))):=by
 refine .inl ⟨fC,λmv w vs _ hG xi=>?_⟩;obtain⟨x,y,rfl,hr,Cb⟩:=DL xi;rw[gd hr,gd Cb];refine(Proofs.Any.strings_TrimPrefix L (B s) (B p) w).mono λe w' he=>?_;obtain⟨rfl,rfl⟩:=he;rw[jK,jK];exact ani
def CE (s:List UInt8)(c:UInt8):List (List UInt8):=Lib.splitK [c] 0 (Lib.countB (B s) (B [c])) s
abbrev ab (l:List (List UInt8)):List (List SC):=l.map λw=>[.lit (.string (B w))]
theorem nR {l:List (List UInt8)}{i:Nat}{e:List SC}(h:(SC.view (ab l)).elem i=some e): ∃w,l[i]? =some w/\e= [.lit (.string (B w))]:=by grind[SC.elem]
theorem HJ {ρ:Ren}(L:Proofs.Lays.n146 P ρ)(fC:iH P (ρ.f 146)=true)(hi9:(P.info? (ρ.t 9)).map (λi=>(i.zero,i.size,i.bytes))=some (some (.string ByteArray.empty),1,16))
  (hg:(ρ.g 1,[SC.num .i64])∈gl)(s:List UInt8)(c:UInt8)(hl:s.length<=1000000)(bA:(CE s c).length =Lib.countB (B s) (B [c])+1):nN P gl (ρ.f 146) [SS s,SS [c]] (.own 1 (.view (ab (CE s c)))):=by
 refine .inl ⟨fC,λmv w vs _ hG xi=>?_⟩;obtain⟨x,y,rfl,hr,Cb⟩:=DL xi;rw[gd hr,gd Cb];obtain⟨ev,h1,h2⟩:=(hG _ _ hg).1 0 _ rfl;have oW: ∃m,ev= .int .i64 m:=am9;obtain⟨m,rfl⟩:=oW;refine(Proofs.Any.strings_Split L hi9 (B s) (B [c]) m w af4 h1 (by rw[lT];grind)).mono λe w' he=>?_;obtain⟨rfl,rfl⟩:=he
 have Xu:(Lib.splitB (B [c]) 0 (Lib.countB (B s) (B [c])) (B s))=(CE s c).map B:=by
  have h:=Lib.splitB_data (B [c]) 0 (Lib.countB (B s) (B [c])) (B s);rw[jK,jK]at h;have:(CE s c).map B=((Lib.splitB (B [c]) 0 (Lib.countB (B s) (B [c])) (B s)).map (·.data.toList)).map B:=by rw[h];rfl
  exact am7
 rw[Xu];refine⟨_,rfl,Below.oc _ _,.inr ⟨w.heap.size,_,by rw[show(SC.view (ab (CE s c))).len =Lib.countB (B s) (B [c])+1 by grind[SC.len]],dz _,_,_,gO w _,by grind,by decide,rfl,by grind[SC.len],λi e he=>?_,λi e j x he hx=>?_⟩⟩
 grind[nR]
 ·obtain⟨u,hu,rfl⟩:=nR he
  cases j with
  |zero=>
   simp at hx;subst hx;rw[show i*1+0=i by omega,sE];have:(((CE s c).map B).map Value.string).toArray[i]? =some (.string (B u)):=by grind
   exact agb
  |succ j=>grind
end Go.Fw
namespace Go.Fw
open Go.IntWalk Go.RowKit
variable {C:bN}{fid:Nat}{o:Oper}{E:dT}{H:Hp}{t:bk}{k:dT->Hp->bk->Prop}{T:TypeId}{x y:Operand}
def ql (l:List (List UInt8)):(SC.view (ab l)).zN 1:=by
 intro e he
 grind
def ak9 {i:TI}{e:TypeId}{ie:TI}{l:List (List UInt8)}{zz:Int}{n:Nat}{k':IntKind} [nz:dN zz n](ho:o.op= .slice T x none (some y) none)(hx:C.ev E.get x=some (.val (false,[.st (.view (ab l))])))(hy:C.ev E.get y=some (.val (false,[.st (.lit (.int k' zz))])))
  (hi:C.ti T=some i)(hc:i.b8= .slice e)(he:C.ti e=some ie)(hs:ie.size=1)(hb:n<=l.length)
  (h2:eu o.dst (bm (.st (.view (ab (l.take n))))) E λE'=>k E' H (([],[])::t)):cR C fid o E H t k:=by
 refine rG (r:=bm (.st (.view (ab (l.take n))))) (u:=[]) (R:=[]) (λK hK=>?_) h2;have e0:zz.toNat=n:=by rw[nz.eq];simp
 have u:=ql l;unfold fw;rw[ho];simp only[hx,Option.map];unfold gL;simp only[hi,hc,he,bS,bv,hy,SC.ao,FZ,SC.len,SC.sub,IW];exact ajh
def ala {i:TI}{e:TypeId}{ie:TI}{l:List (List UInt8)}{zz:Int}{n:Nat}{k':IntKind} [nz:dN zz n](ho:o.op= .slice T x (some y) none none)(hx:C.ev E.get x=some (.val (false,[.st (.view (ab l))])))(hy:C.ev E.get y=some (.val (false,[.st (.lit (.int k' zz))])))
  (hi:C.ti T=some i)(hc:i.b8= .slice e)(he:C.ti e=some ie)(hs:ie.size=1)(hb:n<=l.length)
  (h2:eu o.dst (bm (.st (.view (ab (l.drop n))))) E λE'=>k E' H (([],[])::t)):cR C fid o E H t k:=by
 refine rG (r:=bm (.st (.view (ab (l.drop n))))) (u:=[]) (R:=[]) (λK hK=>?_) h2;have e0:zz.toNat=n:=by rw[nz.eq];simp
 have u:=ql l;unfold fw;rw[ho];simp only[hx,Option.map];unfold gL;simp only[hi,hc,he,bS,bv,hy,SC.ao,FZ,SC.len,SC.sub,mW];exact aji
def alb {i:TI}{e:TypeId}{ie:TI}{l:List (List UInt8)}{id:Nat}{zz:Int}{n:Nat}{k':IntKind} [nz:dN zz n](ho:o.op= .slice T x none (some y) none)(hx:C.ev E.get x=some (.val (false,[.own id])))(hy:C.ev E.get y=some (.val (false,[.st (.lit (.int k' zz))])))
  (hi:C.ti T=some i)(hc:i.b8= .slice e)(he:C.ti e=some ie)(hs:ie.size=1)(hH:H.get id=some (.row false 1 (.view (ab l))))(hb:n<=l.length)
  (h2:eu o.dst (bm (.st (.view (ab (l.take n))))) E λE'=>k E' H (([id],[])::t)):cR C fid o E H t k:=by
 refine rG (r:=bm (.st (.view (ab (l.take n))))) (u:=[]) (R:=[id]) (λK hK=>?_) h2;have e0:zz.toNat=n:=by rw[nz.eq];simp
 have u:=ql l;unfold fw;rw[ho];simp only[hx,Option.map];unfold gL;simp only[hi,hc,he,bS,bv,hH,hy,SC.ao,FZ,SC.len,SC.sub,IW,zQ];exact ajh
def alc {i:TI}{e:TypeId}{ie:TI}{l:List (List UInt8)}{id:Nat}{zz:Int}{n:Nat}{k':IntKind} [nz:dN zz n](ho:o.op= .slice T x (some y) none none)(hx:C.ev E.get x=some (.val (false,[.own id])))(hy:C.ev E.get y=some (.val (false,[.st (.lit (.int k' zz))])))
  (hi:C.ti T=some i)(hc:i.b8= .slice e)(he:C.ti e=some ie)(hs:ie.size=1)(hH:H.get id=some (.row false 1 (.view (ab l))))(hb:n<=l.length)
  (h2:eu o.dst (bm (.st (.view (ab (l.drop n))))) E λE'=>k E' H (([id],[])::t)):cR C fid o E H t k:=by
 refine rG (r:=bm (.st (.view (ab (l.drop n))))) (u:=[]) (R:=[id]) (λK hK=>?_) h2;have e0:zz.toNat=n:=by rw[nz.eq];simp
 have u:=ql l;unfold fw;rw[ho];simp only[hx,Option.map];unfold gL;simp only[hi,hc,he,bS,bv,hH,hy,SC.ao,FZ,SC.len,SC.sub,mW,zQ];exact aji
def ant {i:TI}{id n:Nat}{m:Bool}{l:List (List SC)}{v:Value}(ho:o.op= .load T x)(hx:C.ev E.get x=some (.val (false,[.cE id 1 n 0])))(hi:C.ti T=some i)(hg:cF i.b8=false)(hs:i.size=1)
  (hH:H.get id=some (.row m 1 (.view l)))(hb:l[n]? =some [.lit v])
  (h2:eu o.dst (lit v) E λE'=>k E' H (([id],[])::t)):cR C fid o E H t k:=by
 refine rG (r:=lit v) (u:=[]) (R:=[id]) (λK hK=>?_) h2;unfold fw;rw[ho];simp only[hx];unfold oq;simp only[hi,hH,hs,hg];refine⟨[.lit v],?_,hK⟩
 grind[SC.elem]
def iK {E:dT}{Hh:Hp}{nx:Nat}(id k z:Nat)(c:SC){T:TypeId}{cs:List DC}(hz:0<z)(hv:c.ao=true)(h0:c.len=0)(hB:Hh.get id=some (.box T cs))(hk:cs[k]? =some .nil):
  bs ⟨E,Hh,nx⟩ ⟨E,(id,some (.box T (cs.set k (.own (2*nx)))))::((2*nx),some (.row true z c))::Hh,nx+1⟩:=by
 rintro F nt a w ⟨N,⟨q1,q2,q0,β,q3,q4⟩,q5⟩;have hf: ¬N (2*nx):=λh=>by have:=q5 _ h;rw[jQ]at this;grind
 have hu: ∀i e,c.elem i=some e->e.length=z:=λi e he=>by exact ab1
 have t2:=Tr.new q4 (Below.refl _ w) hf none (by simp) (.row true z c);have hN:=ad.new q4 (Below.refl _ w) hf none (by simp) (.row true z c) ⟨⟨hz,hv,hu⟩,.inl ⟨by simp[cQ],h0⟩⟩;rw[<- Hp.au]at t2 hN;have hid:N id:=(q4.rel id _ hB).1;have fh:id≠(2*nx):=λe=>hf (e▸hid);have KT:Hp.get (((2*nx),some (.row true z c))::Hh) id=some (.box T cs):=by rw[Hp.au,az _ _ _ fh];exact hB
 generalize xy:Hp.get (((2*nx),some (.row true z c))::Hh)=H1 at*;have iU:H1 (2*nx)=some (.row true z c):=by rw[<- xy,Hp.au,am]
 have t3:Tr F (cQ β (2*nx) none) (Fw.bf N (2*nx)) H1 w (cQ β (2*nx) none) (Fw.bf N (2*nx)) (bn H1 id (some (.box T (cs.set k (.own (2*nx)))))) w:={
  below:=jx.refl _ _
  ax:=λ_ _ h=>h
  mem:=λb o v _ hs e=>⟨λiP bx e' hb=>by
   by_cases h:iP=id
   ·subst h;exact(hs iP _ KT hb).elim
   ·rw[az _ _ _ h]at e'
    exact hs iP bx e' hb,e⟩
  used:=λ_ h=>h
  kK:=λ_ _=>rfl
  keep:=λiP blk' _ e=>by
   by_cases h:iP=id
   ·subst h;rw[am]at e;cases e;exact⟨_,KT,trivial⟩
   ·exact ajQ
  size:=λ_ _ _ _ arr _ _ _ _ _ _ h=>⟨arr,h,rfl⟩}
 have h3:ad F (cQ β (2*nx) none) (Fw.bf N (2*nx)) (bn H1 id (some (.box T (cs.set k (.own (2*nx)))))) w:=by
  refine hN.step t3 (λi=>i=id) (λi b0 hi e=>?_) (λi b0 hi e=>?_) (λi j b x y hi hj bi bj=>?_)
  ·exact ajs
  ·subst hi;rw[am]at e;cases e;obtain⟨hn,b,arr,T',h1,h2,h3,h4,h5⟩:=hN.rel i _ KT;refine⟨hn,b,arr,T',h1,h2,h3,by grind,λj x hx=>?_⟩;by_cases hj:j=k
   ·subst hj;have ak:j<cs.length:=(kp.1 hk).1;have:x= .own (2*nx):=by grind
    subst this;have Ca:arr.getD j undef= .slice none 0 0:=h5 j _ hk;exact aia
   ·rw[Pz (oh hj)]at hx;exact t3.ju hN (h5 j x hx)
  ·have live: ∀ {k':Nat} {b0:cB},bn H1 id (some (.box T (cs.set k (.own (2*nx))))) k'=some b0->∃b1,H1 k'=some b1:=by
    grind[az]
   obtain⟨b1,h1⟩:=live hi;obtain⟨b2,h2⟩:=live hj;exact hN.inj i j b b1 b2 h1 h2 bi bj
 refine⟨Fw.bf N (2*nx),⟨q1,q2,q0,cQ β (2*nx) none,?_,?_⟩,λiP h=>?_⟩
 ·exact akh
 grind[Hp.au]
 ·exact akg
end Go.Fw
namespace Go.Fw
section
variable {C:bN}{fid:Nat}{o:Oper}{E:dT}{H:Hp}{t:bk}{k:dT->Hp->bk->Prop}{T:TypeId}{x y:Operand}
def ald {i:TI}{e:TypeId}{ie:TI}{l:List (List UInt8)}{id:Nat}{zz:Int}{n:Nat}{k':IntKind} [nz:dN zz n](ho:o.op= .slice T x (some y) none none)(hx:C.ev E.get x=some (.val (false,[.own id])))(hy:C.ev E.get y=some (.val (false,[.st (.lit (.int k' zz))])))
  (hi:C.ti T=some i)(hc:i.b8= .slice e)(he:C.ti e=some ie)(hs:ie.size=1)(hH:H.get id=some (.row true 1 (.view (ab l))))(hb:n<=l.length)
  (h2:Gb [(id,some (.row false 1 (.view (ab l))))] H λH'=>eu o.dst (bm (.st (.view (ab (l.drop n))))) E λE'=>k E' H' (([id],[id])::t)):cR C fid o E H t k:=by
 refine rG (r:=bm (.st (.view (ab (l.drop n))))) (u:=[(id,some (.row false 1 (.view (ab l))))]) (R:=[id]) (λK hK=>?_) h2;have e0:zz.toNat=n:=by rw[nz.eq];simp
 have u:=ql l;unfold fw;rw[ho];simp only[hx,Option.map];unfold gL;simp only[hi,hc,he,bS,bv,hH,hy,SC.ao,FZ,SC.len,SC.sub,mW,zQ];rw[hs];refine⟨by rw[nz.eq];omega,⟨by rw[e0];simpa using hb,by omega⟩,u,?_⟩;rw[e0,<- List.map_drop];exact hK
end
def jS {l:List (List DC)}{i:Nat}{X:List DC}(h:i<l.length):(l.set i X)[i]? =some X:=by simp[h]
def so {C:bN}{fid:Nat}{o:Oper}{E:dT}{H:Hp}{t:bk}{k:dT->Hp->bk->Prop}{r:DV}{u:Hp}{R:List Nat}(h1: ∀K:j9,K r u R->hcA C fid o (C.ev E.get) H.get K)
  (h2:eu o.dst r E λE'=>k E' (u++H) ((R,u.map Prod.fst)::t)):cR C fid o E H t k:=ii h1 (Dl.2 h2)
open Go.RowKit (Below)
variable {P:Program}{gl:s7}
def nN.call {f:FuncId}{args:List SV}{x:SV}(h:nN P gl f args (.one x)){mv:Mem}{w:World}{vs:Array Value}(hm:mv.le (rd w))(hG:eQ gl (rd w))(ha:o4 mv (rd w) vs args):
  Calls P f vs w λe w'=>∃v,e= .returned v/\Below w.heap.size w w'/\er (dW mv w.heap.size w') eV v x:=by
 exact ang
end Go.Fw
namespace Go.Fw
abbrev CL:=FuncId->List SV->Sum (List Nat) ma
def je (i:TI)(cs:List DC)(off:Nat):Option Ga:=
 match Nat.ble (off+i.size) cs.length&&(ack i || Nat.beq i.size 1)with
 |true=>some (.val (ack i,(cs.drop off).take i.size),[],[])
 |false=>none
abbrev CH:=Nat->FuncId->List DX->Hp->Sum (List Nat) Ga
structure Tv where
 cl:CL
 ch:CH
structure Tv.Ok (C:bN) (q:Tv):Prop where
 cl: ∀f a r,q.cl f a= .inr r->nN C.P C.gl f a r
 ch: ∀fid f xs (H:Hp) e,q.ch fid f xs H= .inr e->bW C fid f xs H.get e.1 e.2.1 e.2.2
def Ck (C:bN)(S:St)(x:Operand):St:=match S with
 |⟨E,H,nx⟩=>match C.ev E.get x with
  |some (.val (false,[.ptr id 0]))=>match H.get id with
   |some (.box t cs)=>match bS H.get (C.kinds t) cs with
    |some (l,u,_)=>⟨E,((id,some (.dZ l))::u)++H,nx⟩
    |none=>⟨E,H,nx⟩
   |_=>⟨E,H,nx⟩
  |_=>⟨E,H,nx⟩
def Bi (C:bN)(S:St)(x:Operand):bs S (Ck C S x):=by
 unfold Ck;repeat' split
 all_goals first|exact bs.refl _|(exact Y0 C _ FX FX)
def JK (C:bN):List Operand->St->St
 | [],S=>S
 |x::l,S=>JK C l (Ck C S x)
def MI (C:bN)(l:List Operand): ∀S,bs S (JK C l S):=by
 induction l with
 |nil=>exact λS=>bs.refl S
 |cons x l ih=>exact λS=>(Bi C S x).trans (ih _)
def Za (C:bN)(S:St)(o:Oper):St:=match o.op with
 | .slice T x none none none=>match C.ti T with
  |some i=>match i.b8 with
   | .array _ _=>Ck C S x
   |_=>S
  |none=>S
 | .makeFunc _ _ bI=>JK C bI.toList S
 |_=>S
def Vz (C:bN)(S:St)(o:Oper):bs S (Za C S o):=by
 unfold Za;repeat' split
 all_goals first|exact bs.refl _|exact Bi C _ _|exact MI C _ _
def MJ {E:dT}{Hh:Hp}{nx:Nat}(id:Nat){m:Bool}{z:Nat}{c:SC}(hb:Hh.get id=some (.row m z c)):bs ⟨E,Hh,nx⟩ ⟨E,(id,some (.row false z c))::Hh,nx⟩:=K44
def aeZ (all:List Oper):Nat->Tmp->Tmp
 |0,s=>s
 |n+1,s=>match all.find? λo=>match o.dst with|some d=>Nat.beq d s|none=>false with
  |some o=>match o.op with
   | .move (.tmp s')=>aeZ all n s'
   |_=>s
  |none=>s
def JL (_C:bN)(all:List Oper)(S:St)(o:Oper):St:=match S with
 |⟨E,H,nx⟩=>match o.op with
  | .slice _ (.tmp s) _ _ none=>match E.get (aeZ all 4 s)with
   |some (.val (false,[.own id]))=>match H.get id with
    |some (.row true z c)=>⟨E,(id,some (.row false z c))::H,nx⟩
    |_=>⟨E,H,nx⟩
   |_=>⟨E,H,nx⟩
  |_=>⟨E,H,nx⟩
def MK (C:bN)(all:List Oper)(S:St)(o:Oper):bs S (JL C all S o):=by
 unfold JL;repeat' split
 all_goals first|exact bs.refl _|exact MJ _ FX
def DN (C:bN)(all:List Oper):List Oper->St->St
 | [],S=>S
 |o::l,S=>DN C all l (JL C all S o)
def JM (C:bN)(all l:List Oper): ∀S,bs S (DN C all l S):=by
 induction l with
 |nil=>exact λS=>bs.refl S
 |cons o l ih=>exact λS=>(MK C all S o).trans (ih _)
def Qa (C:bN):List Oper->St->St
 | [],S=>S
 |o::l,S=>Qa C l (Za C S o)
def Qb (C:bN)(l:List Oper): ∀S,bs S (Qa C l S):=by
 induction l with
 |nil=>exact λS=>bs.refl S
 |cons o l ih=>exact λS=>(Vz C S o).trans (ih _)
def ae0 (C:bN)(l:List Oper)(S:St):St:=DN C l l (Qa C l S)
def VA (C:bN)(l:List Oper)(S:St):bs S (ae0 C l S):=(Qb C l S).trans (JM C l l _)
def yx:Code->List Oper
 | .region _ cw _=>cw.toList
 | .seq x _=>yx x
 | .scope c=>yx c
 | .block _ c=>yx c
 |_=>[]
def aSs {C:bN}{S:St}{kn:St->Prop}{kx:Nat->St->Prop}{kr:St->Prop}{x y:Code}(h:m6 C x S (λS=>m6 C y (ae0 C (yx y) S) kn kx kr) kx kr):m6 C (.seq x y) S kn kx kr:=
 aQ ⟨mD h.out (λS' h=>⟨_,VA C _ S',h⟩) (λ_ _ h=>h) λ_ h=>h⟩
inductive EO where
 |norm (S:St)
 |exit (id:Nat) (S:St)
 |ret (S:St)
 |bad (p:List Nat)
def EO.loops (C:bN)(c:Code)(S:St):EO->Prop
 | .norm _=>True
 | .exit id S'=>∀ {kx:Nat->St->Prop} {kr:St->Prop},kx id S'->Tj (λZ S=>rz C c S Z kx kr) S
 | .ret S'=>∀ {kx:Nat->St->Prop} {kr:St->Prop},kr S'->Tj (λZ S=>rz C c S Z kx kr) S
 | .bad _=>True
open Go.RowKit (Below)
def aF {C:bN}{g:Operand}{ps:Array Tmp}{x y:Code}{E:dT}{H:Hp}{n0:Nat}{kn:St->Prop}{kx:Nat->St->Prop}{kr:St->Prop}{gf:FuncId}{first:List SV}{bI:List (List SC)}
  (hg:C.ev E.get g=some (.val (false,[.st (.fn gf first bI)])))(xs:List (List SV))(Hs:Nat->Hp)(nx:Nat)(Inv:Nat->Prop)(hit:Ti C.P C.gl gf first bI xs)(bA: ∀r∈xs,r.length=ps.size)
  (og:(mC x&&(mC y&&(aM (kc E) x&&(aM (kc E) y&&qi (kc E) ps.toList))))=true)(hm: ∀i,rx (Hs i)=true)(h0:bs ⟨E,H,n0⟩ ⟨E,Hs 0,nx⟩)(hi:Inv 0)
  (hb: ∀i r,xs[i]? =some r->Inv i->m6 C x ⟨params ps.toList r E,Hs i,nx⟩ (λS1=>m6 C y S1 (λS2=>Inv (i+1)/\bs S2 ⟨E,Hs (i+1),nx⟩) (λ_ _=>False) (λS2=>∃Hr nr,rx Hr=true/\bs S2 ⟨E,Hr,nr⟩/\kr ⟨E,Hr,nr⟩)) (λ_ _=>False) (λ_=>False))
  (hd:Inv xs.length->kn ⟨E,Hs xs.length,nx⟩):m6 C (.rangeFunc g ps x y) ⟨E,H,n0⟩ kn kx kr:=by
 refine⟨?_⟩;unfold rz;simp only[hg];obtain⟨f1,og⟩:=aH og;obtain⟨f2,og⟩:=aH og;obtain⟨f3,og⟩:=aH og;obtain⟨f4,f5⟩:=aH og;exact⟨xs,Hs,nx,Inv,hit,bA,⟨f1,f2,f3,f4,f5⟩,hm,h0,hi,λi r hr hv=>mD (hb i r hr hv).out (λS1 h=>⟨S1,bs.refl _,h.out⟩) (λ_ _ h=>h) λ_ h=>h,hd⟩
end Go.Fw
namespace Go.Fw
def HK {C:bN}(hC:C.Ok){T e:TypeId}{i ie:TI}{w:World}{b o n cap:Nat}{k:Int}(hi:C.ti T=some i)(jd:i.b8= .slice e)(he:C.ti e=some ie)(h0:0<=k)(h1:k< (n:Int)):
  (Instr.indexAt T (.slice (some ⟨b,o,none⟩) n cap) (.int .i64 k)).run C.P w= .ok (.pointer (some ⟨b,o+k.toNat*ie.size,none⟩)) w:=by
 obtain⟨tf,d,z,hT⟩:=hC.get hi;obtain⟨ef,ed,ez,hE⟩:=hC.get he;have hd:=dm (hT.b8.trans jd);have h2:0<=k/\k< (n:Int):=⟨h0,h1⟩;exact ajw
structure Hdn (m:Nat) (p:Prop):Prop where
 out:p
inductive Dum (p:Prop):Prop where
 |mk
def ale {n:Nat}{p q:Prop}(_:Hdn n q)(m:p)(_:Dum q):p:=m
def Zm0 {p q:Prop}(_:Hdn 0 q)(m:p):p:=m
def Zm1 {p q:Prop}(_:Hdn 1 q)(m:p):p:=m
def Zm3 {p q:Prop}(_:Hdn 3 q)(m:p):p:=m
def Zd {p:Prop}(h:p:=by(first|omega|decide|rfl|exact lnS (by omega)|exact lnN (by decide)|exact lnN (by omega)|exact lnC (by omega)|exact lvS (by omega)|exact lvN (by decide)|exact lvC (by omega)|exact uvS rfl|exact uvN rfl|((try unfold SC.len);(try unfold SC.zN);(try unfold xq);(try simp);(try omega);done)|omega)):p:=h
def Zq {p:Prop}(h:p:=by first|omega|decide|exact fO rfl|(dsimp only[SC.len];omega)|(simp;done)|(simp;omega)|omega):p:=h
def Zb {p:Prop}(h:p:=by first|omega|(simp;omega)|(simp only[xI,kF,zR];omega)|decide):p:=h
def Zc {S S':St}(h:To (YZ S'.env) (aeP S S') S'.nx S=some S':=by kernel_rfl):bs S S':=fB h
def Rq {q p g:Prop}(c:q)(z:g)(h:q->g->p:=by(intro a b;refine rG (λ_ z=>⟨_,a,z⟩) ?_;exact b)):p:=h c z
def Rh {q p g:Prop}(c:q)(z:g)(h:q->g->p:=by(intro a b;refine ii (λ_ z=>⟨_,_,_,a,z⟩) ?_;exact b)):p:=h c z
def Rw {q p g:Prop}(c:q)(z:g)(h:q->g->p:=by(intro a b;refine so (λ_ z=>⟨_,_,_,a,z⟩) ?_;exact b)):p:=h c z
def anu:Op->Bool
 | .convert .. =>true
 |_=>false
section
variable {C:bN}{all:List Oper}{n0 i fid:Nat}{o:Oper}{l:List Oper}{E:dT}{H:Hp}{t:bk}{K:dT->Hp->Nat->bk->Prop}{k:dT->Hp->bk->Prop}
def rS {f:FuncId}{args:List SV}{r':ma}{u0 u:Hp}{rs R:List Nat}{r:DV}(h0: ∀K,fw C fid o (C.ev E.get) H.get K=aeC C f args (jb fid u0 rs K))(hs:nN C.P C.gl f args r')(h3: ∀K:j9,K r u R->jb fid u0 rs K r')
  (h2:Gb u H λH'=>eu o.dst r E λE'=>k E' H' ((R,u.map Prod.fst)::t)):cR C fid o E H t k:=rG (λK z=>by rw[h0];exact⟨r',hs,h3 K z⟩) h2
def cvO (_:anu o.op=true)(g:cR C fid o E H t k):cR C fid o E H t k:=g
def dR (g:cR C fid o E H t k):cR C fid o E H t k:=g
def dO (g:jz C all n0 l i E H t K):jz C all n0 l i E H t K:=g
def dA {c:Code}{S:St}{kn:St->Prop}{kx:Nat->St->Prop}{kr:St->Prop}(g:m6 C c S kn kx kr):m6 C c S kn kx kr:=g
def dB {b:Bool}{X Y:Prop}(g:Brn b X Y):Brn b X Y:=g
end
def tX (m:Nat){p q:Prop}(z:q)(h:Hdn m q->p:=by(intro zz;refine ale (q:=_) zz ?_ ?_;(try conv=>whnf);(repeat1' ((first|(refine dR ?_;first|(refine kO 0 rfl ?_;first|(refine cvO rfl ?_;first|refine Tt rfl rfl rfl rfl rfl rfl (cvI (by omega)) ?_|refine Tt rfl rfl rfl rfl rfl rfl (cv8 (by omega)) ?_)|(refine Zm3 zz ?_;refine anr rfl rfl rfl ?_)|refine rP rfl (λ_ z=>z) ?_|refine rGX rfl trivial ?_|refine rGX rfl Zd ?_|refine rG (λ_ z=>⟨Zd,z⟩) ?_|refine rG (λ_ z=>⟨Zd,Zd,z⟩) ?_)|(refine kO 3 rfl ?_;first|refine ant rfl rfl rfl rfl rfl rfl (by assumption) ?_|refine akX rfl rfl rfl rfl rfl ?_|refine akY rfl rfl rfl rfl rfl rfl rfl ?_|refine akU rfl rfl rfl rfl rfl rfl Zq ?_|refine rG (λ_ z=>z) ?_|refine rG (λ_ z=>⟨_,rfl,z⟩) ?_|refine rG (λ_ z=>⟨_,(by assumption),z⟩) ?_|refine rG (λ_ z=>⟨_,jS (by first|assumption|(simp only[CM];assumption)),z⟩) ?_)|(refine kO 1 rfl ?_;first|refine aeQ rfl rfl rfl Zb ?_|refine ak5 rfl rfl rfl ?_|refine ak6 rfl rfl rfl ?_|refine aeW rfl rfl rfl (by omega) ?_|refine akO rfl rfl rfl (by omega) ?_|refine akP rfl rfl rfl (by omega) ?_|refine akQ rfl rfl rfl (by omega) ?_|refine akR rfl rfl rfl (by omega) ?_|refine akS rfl rfl rfl (by omega) ?_|refine aeI rfl rfl rfl (by omega) ?_|refine aeJ rfl rfl rfl (by omega) ?_|refine rG (λ_ z=>z) ?_)|(refine kO 4 rfl ?_;first|refine akV rfl rfl rfl rfl rfl rfl Zq ?_|refine rG (λ_ z=>z) ?_|refine rG (λ_ z=>⟨_,(by assumption),z⟩) ?_|refine rG (λ_ z=>⟨_,jS (by first|assumption|(simp only[CM];assumption)),z⟩) ?_)|(refine kO 5 rfl ?_;first|refine akW rfl rfl rfl rfl rfl rfl rfl Zq ?_|refine agq rfl rfl rfl rfl rfl rfl rfl Zq ?_|refine aeK rfl rfl rfl rfl rfl rfl rfl rfl Zq ?_|refine agr rfl rfl rfl rfl rfl rfl rfl rfl Zq ?_|refine aeL rfl rfl rfl rfl rfl rfl (by first|assumption|rfl) rfl ?_)|(refine kO 8 rfl ?_;first|refine aeS rfl rfl rfl rfl rfl Zb ?_|refine aeV rfl rfl rfl rfl rfl rfl Zb ?_|refine aeT rfl rfl rfl rfl rfl Zb ?_|refine aeU rfl rfl rfl rfl rfl Zb ?_|refine ak9 rfl rfl rfl rfl rfl rfl rfl Zb ?_|refine ala rfl rfl rfl rfl rfl rfl rfl Zb ?_|refine alb rfl rfl rfl rfl rfl rfl rfl rfl Zb ?_|refine alc rfl rfl rfl rfl rfl rfl rfl rfl Zb ?_|refine ald rfl rfl rfl rfl rfl rfl rfl rfl Zb ?_|refine ak0 rfl rfl rfl rfl rfl rfl rfl (by omega) ?_|refine ak1 rfl rfl rfl rfl rfl rfl rfl (by omega) ?_|refine rG (λ_ z=>z) ?_)|(refine kO 6 rfl ?_;first|refine aeR rfl rfl rfl rfl rfl rfl ?_|refine akZ rfl rfl rfl rfl rfl rfl ?_|refine aeM rfl rfl rfl rfl rfl rfl ?_|refine aeN rfl rfl rfl rfl rfl rfl rfl ?_|refine YW rfl rfl rfl rfl rfl rfl rfl ?_|refine aeX rfl rfl rfl (by omega) ?_|refine rG (λ_ z=>z) ?_)|(refine kO 2 rfl ?_;first|refine akT rfl rfl (by omega) ?_|refine rG (λ_ z=>z) ?_)|(refine kO 7 rfl ?_;first|(apply rS (λ_=>rfl);assumption;exact λ_ z=>z)|refine Rq (ae2 _) ?_|refine Rq (ae1 _) ?_|refine Rq (alA _) ?_|refine Rq (MT _ _ _) ?_)|refine rGX rfl trivial ?_|refine rGX rfl Zd ?_|refine rG (λ_ z=>⟨Zd,z⟩) ?_|refine rG (λ_ z=>⟨Zd,Zd,z⟩) ?_)|(refine dO ?_;first|refine oP rfl ?_|refine oN ?_|refine oY rfl rfl rfl ?_|refine oZ rfl rfl rfl ?_|refine oO rfl rfl rfl ?_|refine oIt rfl rfl rfl (by omega) ?_|refine oIf rfl rfl rfl (by omega) ?_|refine oUt rfl rfl rfl (by omega) ?_|refine oUf rfl rfl rfl (by omega) ?_)|((first|refine Zm0 zz ?_|refine Zm3 zz ?_);(refine dA ?_;first|refine aS ?_|refine aR ?_|refine aC rfl ?_|refine aK ?_|refine aT ?_|refine aB ?_|refine aX ?_|refine aL ?_|refine aE ?_))|(refine Zm1 zz ?_;(refine dA ?_;first|refine aSs ?_|refine aR ?_|refine aC rfl ?_|refine aK ?_|refine aT ?_|refine aB ?_|refine aX ?_|refine aL ?_|refine aE ?_))|(refine dB ?_;first|refine bT ?_|refine bF ?_|refine bPt (by omega) ?_|refine bPf (by omega) ?_)|refine dI (by kernel_rfl) ?_);(try conv=>whnf)));(try exact zz.out);first|exact(Dum.mk:Dum True)|exact Dum.mk)):p:=h ⟨z⟩
def tB (m:Nat){p q:Prop}(z:q)(h:Hdn m q->p:=by(intro zz;refine ale (q:=_) zz ?_ ?_;(try conv=>whnf);(repeat1' ((first|(refine dA ?_;first|refine aC rfl ?_|refine aK ?_|refine aT ?_|refine aB ?_|refine aX ?_|refine aL ?_|refine aE ?_)|(refine dB ?_;first|refine bT ?_|refine bF ?_|refine bPt (by omega) ?_|refine bPf (by omega) ?_));(try conv=>whnf)));(try exact zz.out);first|exact(Dum.mk:Dum True)|exact Dum.mk)):p:=h ⟨z⟩
def bR {p q r:Prop}(z1:q)(z2:r)(h:Hdn 0 q->Hdn 0 r->p:=by(intro x y;(first|refine brp ?_ ?_|refine yr rfl rfl rfl ?_ ?_|refine nC rfl rfl rfl ?_ ?_);exact x.out;exact y.out)):p:=h ⟨z1⟩ ⟨z2⟩
def Zt:True:=True.intro
def Zo {p:Prop}(h:p:=by(exfalso;omega)):p:=h
def Ze {p:Prop}(h:p:=by first|(exfalso;omega)|contradiction):p:=h
def Zs {p:Prop}(h:p:=by first|(exfalso;omega)|contradiction|(exfalso;simp_all;done)|omega):p:=h
def Z0 {p:Prop}(h:p:=by first|(exfalso;omega)|rfl):p:=h
def Zf {p:Prop}(h:p:=by first|(exfalso;omega)|contradiction|rfl):p:=h
def Zg {p:Prop}(h:p:=by first|(exfalso;omega)|(exfalso;simp_all;done)|omega):p:=h
def tA {p:Prop}(h:p:=by(repeat' ((first|refine tX 0 ?_|exact Zt|refine bR ?_ ?_<;>intro h)<;>(try conv=>whnf)));(all_goals exact Z0)):p:=h
def tB0 {p:Prop}(h:p:=by(repeat' ((first|refine tX 0 ?_|exact Zt|refine bR ?_ ?_<;>intro h)<;>(try conv=>whnf)));(all_goals exact Zf)):p:=h
def tL {p:Prop}(h:p:=by((repeat' ((first|refine tX 0 ?_|(refine kO 7 rfl ?_;first|refine rG (λ_ z=>⟨_,dt _ _ _,z⟩) ?_|refine rG (λ_ z=>⟨_,eo _ _ _,z⟩) ?_|refine rG (λ_ z=>⟨_,wF rfl,z⟩) ?_|refine rG (λ_ z=>⟨_,wF (E:=0) rfl,z⟩) ?_|refine rG (λ_ z=>⟨_,bZ _ _,z⟩) ?_|refine rG (λ_ z=>⟨_,iS _,z⟩) ?_|refine rG (λ_ z=>⟨_,nX _,z⟩) ?_|refine rG (λ_ z=>⟨_,jE _,z⟩) ?_|refine rG (λ_ z=>⟨_,At _,z⟩) ?_|refine rG (λ_ z=>⟨_,unless_p _,z⟩) ?_|refine rG (λ_ z=>⟨_,g9 _ (fO rfl),z⟩) ?_|refine rG (λ_ z=>⟨_,first_fs _ (fO rfl),z⟩) ?_|refine rG (λ_ z=>⟨_,MU (by decide),z⟩) ?_|refine rG (λ_ z=>⟨_,eF _ _ _,z⟩) ?_|refine rG (λ_ z=>⟨_,kD _ _ _,z⟩) ?_|refine rG (λ_ z=>⟨_,px _ _ _,z⟩) ?_|refine rG (λ_ z=>⟨_,eP _ _ _,z⟩) ?_|refine rG (λ_ z=>⟨_,gj _,z⟩) ?_|refine rG (λ_ z=>⟨_,oQ _ _ (by decide),z⟩) ?_|refine rG (λ_ z=>⟨_,kY _ _ (by omega),z⟩) ?_|refine rG (λ_ z=>⟨_,nF _ _,z⟩) ?_|refine rG (λ_ z=>⟨_,M2 _ _,z⟩) ?_|refine rG (λ_ z=>⟨_,aaH _ _,z⟩) ?_|refine rG (λ_ z=>⟨_,Np _ _ _,z⟩) ?_|refine rG (λ_ z=>⟨_,EW _,z⟩) ?_|refine rG (λ_ z=>⟨_,Oa _,z⟩) ?_|refine rG (λ_ z=>⟨_,Bs _,z⟩) ?_|refine rG (λ_ z=>⟨_,within52_sat _ _ _,z⟩) ?_|refine rG (λ_ z=>⟨_,wF CB,z⟩) ?_|refine rG (λ_ z=>⟨_,mH _ _,z⟩) ?_|refine rG (λ_ z=>⟨_,both_sat _ _,z⟩) ?_|refine rG (λ_ z=>⟨_,aN (by assumption) _,z⟩) ?_|refine rG (λ_ z=>⟨_,bG (by assumption) _,z⟩) ?_|refine rG (λ_ z=>⟨_,aN (by(simp[ab]<;>fail "")) _,z⟩) ?_|refine rG (λ_ z=>⟨_,bG (by(simp[ab]<;>fail "")) _,z⟩) ?_|refine rG (λ_ z=>⟨_,aN (by simp only[ab,jw,CP,kF,zR,jf];omega) _,z⟩) ?_|refine rG (λ_ z=>⟨_,bG (by simp only[ab,jw,CP,kF,zR,jf];omega) _,z⟩) ?_|refine ii (λ_ z=>⟨_,_,_,c0 _ _ ⟨_,_,rfl,rfl⟩ rfl,z⟩) ?_|refine ii (λ_ z=>⟨_,_,_,c3 _ _ ⟨_,_,rfl,rfl⟩ rfl,z⟩) ?_|refine ii (λ_ z=>⟨_,_,_,c2 _ _,z⟩) ?_|refine ii (λ_ z=>⟨_,_,_,jn _ _,z⟩) ?_|refine ii (λ_ z=>⟨_,_,_,cv _ _ _ _ _ _ _ rfl (jS (by assumption)) rfl rfl rfl,z⟩) ?_|refine ii (λ_ z=>⟨_,_,_,cr _ _ _ _ _ _ _ rfl (jS (by assumption)) rfl rfl rfl,z⟩) ?_|refine ii (λ_ z=>⟨_,_,_,cv _ _ _ _ _ rfl rfl rfl,z⟩) ?_|refine ii (λ_ z=>⟨_,_,_,cr _ _ _ _ _ rfl rfl rfl,z⟩) ?_|refine ii (λ_ z=>⟨_,_,_,cu _ _ rfl rfl rfl,z⟩) ?_|refine ii (λ_ z=>⟨_,_,_,cu _ _ rfl rfl rfl rfl,z⟩) ?_|refine ii (λ_ z=>⟨_,_,_,cm _ _ _ _ _ rfl rfl rfl,z⟩) ?_|refine ii (λ_ z=>⟨_,_,_,vc hM hp hr rfl rfl rfl (jS (by assumption)) rfl rfl rfl,z⟩) ?_)|exact Zt|refine bR ?_ ?_<;>intro h)<;>(try conv=>whnf)));(all_goals first|exact Zf|exact Ei|exact Ew|exact rfl|exact⟨m0,dX rfl rfl,_,rfl,rfl⟩|exact⟨m3,dX rfl rfl,_,rfl,rfl⟩|exact⟨[],H7 _,_,rfl,rfl⟩|exact⟨rfl,rfl,_,rfl,rfl⟩|exact⟨i+1,ak,by omega,Zc⟩|exact⟨i+1,⟨ak,by assumption⟩,by omega,Zc⟩|exact⟨i+1,⟨ak,iU (by omega)⟩,by omega,Zc⟩|exact⟨i+1,⟨ak,l8 (by omega)⟩,by omega,Zc⟩|exact⟨i+1,⟨ak,λhm=>(FP.1 hm).elim dy λe=>hx e.symm⟩,by omega,Zc⟩|exact⟨i+1,ak,by omega,ai (by rw[xu,lW];kernel_rfl)⟩|exact⟨i+1,ak,by omega,ai (by rw[xu];kernel_rfl)⟩|exact⟨k+1,⟨ak,iU⟩,by omega,Zc⟩|exact gX (by simp;omega)|exact gX (by simp)|exact gX (eU (dy (by omega))).symm |exact gX (fG ⟨by assumption,by assumption⟩).symm |exact gX (eU λh=>h0 h.1).symm |exact pV _ _ 7 (by decide)|exact pV _ _ 18 (by decide)|exact absurd (by assumption) hx|exact absurd hx (by assumption)|exact absurd KU (dy (by omega))|exact m9 (by simp)|exact Zg))):p:=h
end Go.Fw
namespace Go.Proofs
open Go.Shelf
def Tryz.IL:Go.Shelf.Ren:=⟨λ|171=>99|243=>194|246=>240|283=>275|284=>276|285=>277|286=>278|129=>300|317=>299|318=>301|319=>302|320=>303|337=>329|338=>330|n=>n,λ|3=>3|9=>9|2=>2|4=>4|171=>336|0=>0|53=>330|37=>239|5=>5|173=>339|212=>375|51=>345|20=>20|213=>376|46=>306|232=>418|233=>419|n=>n,λ|17=>6|18=>7|19=>8|n=>n⟩
def Tryz.XD:Go.Proofs.LaysM.n171 Tryz.prog Tryz.IL:={
 mixed:=by kernel_rfl
 f129:=Tryz.func300.trans (aP some (by kernel_rfl))
 f171:=Tryz.func99.trans (aP some (by kernel_rfl))
 f243:=Tryz.func194.trans (aP some (by kernel_rfl))
 f246:=Tryz.func240.trans (aP some (by kernel_rfl))
 f283:=Tryz.func275.trans (aP some (by kernel_rfl))
 f284:=Tryz.func276.trans (aP some (by kernel_rfl))
 f285:=Tryz.func277.trans (aP some (by kernel_rfl))
 f286:=Tryz.func278.trans (aP some (by kernel_rfl))
 f317:=Tryz.func299.trans (aP some (by kernel_rfl))
 f318:=Tryz.func301.trans (aP some (by kernel_rfl))
 f319:=Tryz.func302.trans (aP some (by kernel_rfl))
 f320:=Tryz.func303.trans (aP some (by kernel_rfl))
 f337:=Tryz.func329.trans (aP some (by kernel_rfl))
 f338:=Tryz.func330.trans (aP some (by kernel_rfl))
 t0:=Tryz.underlying0
 a0:=Tryz.isAgg0
 z0:=Tryz.sizeOf0
 v0:=Tryz.zeroValue0
 t2:=Tryz.underlying2
 a2:=Tryz.isAgg2
 z2:=Tryz.sizeOf2
 v2:=Tryz.zeroValue2
 t3:=Tryz.underlying3
 a3:=Tryz.isAgg3
 z3:=Tryz.sizeOf3
 v3:=Tryz.zeroValue3
 t4:=Tryz.underlying4
 a4:=Tryz.isAgg4
 z4:=Tryz.sizeOf4
 v4:=Tryz.zeroValue4
 t5:=Tryz.underlying5
 a5:=Tryz.isAgg5
 z5:=Tryz.sizeOf5
 v5:=Tryz.zeroValue5
 t9:=Tryz.underlying9
 a9:=Tryz.isAgg9
 z9:=Tryz.sizeOf9
 v9:=Tryz.zeroValue9
 t20:=Tryz.underlying20
 a20:=Tryz.isAgg20
 z20:=Tryz.sizeOf20
 v20:=Tryz.zeroValue20
 t37:=Tryz.underlying239
 a37:=Tryz.isAgg239
 z37:=Tryz.sizeOf239
 v37:=Tryz.zeroValue239
 t46:=Tryz.underlying306
 a46:=Tryz.isAgg306
 z46:=Tryz.sizeOf306
 v46:=Tryz.zeroValue306
 t51:=Tryz.underlying345
 a51:=Tryz.isAgg345
 z51:=Tryz.sizeOf345
 v51:=Tryz.zeroValue345
 t53:=Tryz.underlying330
 a53:=Tryz.isAgg330
 z53:=Tryz.sizeOf330
 v53:=Tryz.zeroValue330
 t171:=Tryz.underlying336
 a171:=Tryz.isAgg336
 z171:=Tryz.sizeOf336
 v171:=Tryz.zeroValue336
 t173:=Tryz.underlying339
 a173:=Tryz.isAgg339
 z173:=Tryz.sizeOf339
 v173:=Tryz.zeroValue339
 t212:=Tryz.underlying375
 a212:=Tryz.isAgg375
 z212:=Tryz.sizeOf375
 v212:=Tryz.zeroValue375
 t213:=Tryz.underlying376
 a213:=Tryz.isAgg376
 z213:=Tryz.sizeOf376
 t232:=Tryz.underlying418
 a232:=Tryz.isAgg418
 z232:=Tryz.sizeOf418
 v232:=Tryz.zeroValue418
 t233:=Tryz.underlying419
 a233:=Tryz.isAgg419
 z233:=Tryz.sizeOf419
 v233:=Tryz.zeroValue419
 g17:=by kernel_rfl
 g18:=by kernel_rfl
 g19:=by kernel_rfl
 i0:=by kernel_rfl
 i2:=by kernel_rfl
 i3:=by kernel_rfl
 i4:=by kernel_rfl
 i5:=by kernel_rfl
 i9:=by kernel_rfl
 i20:=by kernel_rfl
 i37:=by kernel_rfl
 i46:=by kernel_rfl
 i51:=by kernel_rfl
 i53:=by kernel_rfl
 i171:=by kernel_rfl
 i173:=by kernel_rfl
 i212:=by kernel_rfl
 i232:=by kernel_rfl
 i233:=by kernel_rfl
 m17:=by kernel_rfl
 m18:=by kernel_rfl
 m19:=by kernel_rfl}
def Tryz.IN:Go.Shelf.Ren:=⟨λ|172=>98|244=>192|245=>193|247=>235|279=>236|280=>237|281=>238|282=>239|287=>272|316=>273|171=>99|205=>274|321=>297|322=>298|243=>194|246=>240|283=>275|284=>276|285=>277|286=>278|129=>300|317=>299|318=>301|319=>302|320=>303|337=>329|338=>330|n=>n,λ|9=>9|3=>3|75=>201|76=>202|4=>4|5=>5|167=>297|37=>239|0=>0|85=>298|2=>2|168=>300|53=>330|175=>331|46=>306|210=>334|127=>370|145=>373|143=>371|21=>21|171=>336|173=>339|212=>375|51=>345|20=>20|213=>376|232=>418|233=>419|80=>341|n=>n,λ|15=>2|16=>3|17=>6|18=>7|19=>8|n=>n⟩
def Tryz.Ln:Go.Proofs.LaysC.n172 Tryz.prog Tryz.IN:={
 mixed:=by kernel_rfl
 f129:=Tryz.func300.trans (aP some (by kernel_rfl))
 f171:=Tryz.func99.trans (aP some (by kernel_rfl))
 f172:=Tryz.func98.trans (aP some (by kernel_rfl))
 f205:=Tryz.func274.trans (aP some (by kernel_rfl))
 f243:=Tryz.func194.trans (aP some (by kernel_rfl))
 f244:=Tryz.func192.trans (aP some (by kernel_rfl))
 f245:=Tryz.func193.trans (aP some (by kernel_rfl))
 f246:=Tryz.func240.trans (aP some (by kernel_rfl))
 f247:=Tryz.func235.trans (aP some (by kernel_rfl))
 f279:=Tryz.func236.trans (aP some (by kernel_rfl))
 f280:=Tryz.func237.trans (aP some (by kernel_rfl))
 f281:=Tryz.func238.trans (aP some (by kernel_rfl))
 f282:=Tryz.func239.trans (aP some (by kernel_rfl))
 f283:=Tryz.func275.trans (aP some (by kernel_rfl))
 f284:=Tryz.func276.trans (aP some (by kernel_rfl))
 f285:=Tryz.func277.trans (aP some (by kernel_rfl))
 f286:=Tryz.func278.trans (aP some (by kernel_rfl))
 f287:=Tryz.func272.trans (aP some (by kernel_rfl))
 f316:=Tryz.func273.trans (aP some (by kernel_rfl))
 f317:=Tryz.func299.trans (aP some (by kernel_rfl))
 f318:=Tryz.func301.trans (aP some (by kernel_rfl))
 f319:=Tryz.func302.trans (aP some (by kernel_rfl))
 f320:=Tryz.func303.trans (aP some (by kernel_rfl))
 f321:=Tryz.func297.trans (aP some (by kernel_rfl))
 f322:=Tryz.func298.trans (aP some (by kernel_rfl))
 f337:=Tryz.func329.trans (aP some (by kernel_rfl))
 f338:=Tryz.func330.trans (aP some (by kernel_rfl))
 t0:=Tryz.underlying0
 a0:=Tryz.isAgg0
 z0:=Tryz.sizeOf0
 v0:=Tryz.zeroValue0
 t2:=Tryz.underlying2
 a2:=Tryz.isAgg2
 z2:=Tryz.sizeOf2
 v2:=Tryz.zeroValue2
 t3:=Tryz.underlying3
 a3:=Tryz.isAgg3
 z3:=Tryz.sizeOf3
 v3:=Tryz.zeroValue3
 t4:=Tryz.underlying4
 a4:=Tryz.isAgg4
 z4:=Tryz.sizeOf4
 v4:=Tryz.zeroValue4
 t5:=Tryz.underlying5
 a5:=Tryz.isAgg5
 z5:=Tryz.sizeOf5
 v5:=Tryz.zeroValue5
 t9:=Tryz.underlying9
 a9:=Tryz.isAgg9
 z9:=Tryz.sizeOf9
 v9:=Tryz.zeroValue9
 t20:=Tryz.underlying20
 a20:=Tryz.isAgg20
 z20:=Tryz.sizeOf20
 v20:=Tryz.zeroValue20
 t21:=Tryz.underlying21
 a21:=Tryz.isAgg21
 z21:=Tryz.sizeOf21
 v21:=Tryz.zeroValue21
 t37:=Tryz.underlying239
 a37:=Tryz.isAgg239
 z37:=Tryz.sizeOf239
 v37:=Tryz.zeroValue239
 t46:=Tryz.underlying306
 a46:=Tryz.isAgg306
 z46:=Tryz.sizeOf306
 v46:=Tryz.zeroValue306
 t51:=Tryz.underlying345
 a51:=Tryz.isAgg345
 z51:=Tryz.sizeOf345
 v51:=Tryz.zeroValue345
 t53:=Tryz.underlying330
 a53:=Tryz.isAgg330
 z53:=Tryz.sizeOf330
 v53:=Tryz.zeroValue330
 t75:=Tryz.underlying201
 a75:=Tryz.isAgg201
 z75:=Tryz.sizeOf201
 v75:=Tryz.zeroValue201
 t76:=Tryz.underlying202
 a76:=Tryz.isAgg202
 z76:=Tryz.sizeOf202
 v76:=Tryz.zeroValue202
 t85:=Tryz.underlying298
 a85:=Tryz.isAgg298
 z85:=Tryz.sizeOf298
 v85:=Tryz.zeroValue298
 t127:=Tryz.underlying370
 a127:=Tryz.isAgg370
 z127:=Tryz.sizeOf370
 v127:=Tryz.zeroValue370
 t143:=Tryz.underlying371
 a143:=Tryz.isAgg371
 z143:=Tryz.sizeOf371
 v143:=Tryz.zeroValue371
 t145:=Tryz.underlying373
 a145:=Tryz.isAgg373
 z145:=Tryz.sizeOf373
 v145:=Tryz.zeroValue373
 t167:=Tryz.underlying297
 a167:=Tryz.isAgg297
 z167:=Tryz.sizeOf297
 v167:=Tryz.zeroValue297
 t168:=Tryz.underlying300
 a168:=Tryz.isAgg300
 z168:=Tryz.sizeOf300
 v168:=Tryz.zeroValue300
 t171:=Tryz.underlying336
 a171:=Tryz.isAgg336
 z171:=Tryz.sizeOf336
 v171:=Tryz.zeroValue336
 t173:=Tryz.underlying339
 a173:=Tryz.isAgg339
 z173:=Tryz.sizeOf339
 v173:=Tryz.zeroValue339
 t175:=Tryz.underlying331
 a175:=Tryz.isAgg331
 z175:=Tryz.sizeOf331
 v175:=Tryz.zeroValue331
 t210:=Tryz.underlying334
 a210:=Tryz.isAgg334
 z210:=Tryz.sizeOf334
 v210:=Tryz.zeroValue334
 t212:=Tryz.underlying375
 a212:=Tryz.isAgg375
 z212:=Tryz.sizeOf375
 v212:=Tryz.zeroValue375
 t213:=Tryz.underlying376
 a213:=Tryz.isAgg376
 z213:=Tryz.sizeOf376
 t232:=Tryz.underlying418
 a232:=Tryz.isAgg418
 z232:=Tryz.sizeOf418
 v232:=Tryz.zeroValue418
 t233:=Tryz.underlying419
 a233:=Tryz.isAgg419
 z233:=Tryz.sizeOf419
 v233:=Tryz.zeroValue419
 g15:=by kernel_rfl
 g16:=by kernel_rfl
 g17:=by kernel_rfl
 g18:=by kernel_rfl
 g19:=by kernel_rfl
 t80:=Tryz.underlying341
 a80:=Tryz.isAgg341
 z80:=Tryz.sizeOf341
 v80:=Tryz.zeroValue341
 i0:=by kernel_rfl
 i2:=by kernel_rfl
 i3:=by kernel_rfl
 i4:=by kernel_rfl
 i5:=by kernel_rfl
 i9:=by kernel_rfl
 i20:=by kernel_rfl
 i21:=by kernel_rfl
 i37:=by kernel_rfl
 i46:=by kernel_rfl
 i51:=by kernel_rfl
 i53:=by kernel_rfl
 i75:=by kernel_rfl
 i76:=by kernel_rfl
 i80:=by kernel_rfl
 i85:=by kernel_rfl
 i127:=by kernel_rfl
 i143:=by kernel_rfl
 i145:=by kernel_rfl
 i167:=by kernel_rfl
 i168:=by kernel_rfl
 i171:=by kernel_rfl
 i173:=by kernel_rfl
 i175:=by kernel_rfl
 i210:=by kernel_rfl
 i212:=by kernel_rfl
 i232:=by kernel_rfl
 i233:=by kernel_rfl
 m15:=by kernel_rfl
 m16:=by kernel_rfl
 m17:=by kernel_rfl
 m18:=by kernel_rfl
 m19:=by kernel_rfl
 c0:=by kernel_rfl
 c2:=by kernel_rfl
 c3:=by kernel_rfl
 c4:=by kernel_rfl
 c5:=by kernel_rfl
 c9:=by kernel_rfl
 c20:=by kernel_rfl
 c21:=by kernel_rfl
 c37:=by kernel_rfl
 c46:=by kernel_rfl
 c51:=by kernel_rfl
 c53:=by kernel_rfl
 c75:=by kernel_rfl
 c76:=by kernel_rfl
 c80:=by kernel_rfl
 c85:=by kernel_rfl
 c127:=by kernel_rfl
 c143:=by kernel_rfl
 c145:=by kernel_rfl
 c167:=by kernel_rfl
 c168:=by kernel_rfl
 c171:=by kernel_rfl
 c173:=by kernel_rfl
 c175:=by kernel_rfl
 c210:=by kernel_rfl
 c212:=by kernel_rfl
 c213:=by kernel_rfl
 c232:=by kernel_rfl
 c233:=by kernel_rfl}
def Tryz.Lo:Go.Shelf.Ren:=⟨λ|145=>67|220=>113|219=>201|217=>245|225=>246|224=>247|267=>248|266=>283|314=>284|n=>n,λ|9=>9|4=>4|59=>144|3=>3|5=>5|46=>306|146=>346|51=>345|n=>n,λ|1=>1|n=>n⟩
def Tryz.abI:Go.Proofs.Lays.n145 Tryz.prog Tryz.Lo:={
 mixed:=by kernel_rfl
 f145:=Tryz.func67.trans (aP some (by kernel_rfl))
 f217:=Tryz.func245.trans (aP some (by kernel_rfl))
 f219:=Tryz.func201.trans (aP some (by kernel_rfl))
 f220:=Tryz.func113.trans (aP some (by kernel_rfl))
 f224:=Tryz.func247.trans (aP some (by kernel_rfl))
 f225:=Tryz.func246.trans (aP some (by kernel_rfl))
 f266:=Tryz.func283.trans (aP some (by kernel_rfl))
 f267:=Tryz.func248.trans (aP some (by kernel_rfl))
 f314:=Tryz.func284.trans (aP some (by kernel_rfl))
 t3:=Tryz.underlying3
 a3:=Tryz.isAgg3
 z3:=Tryz.sizeOf3
 v3:=Tryz.zeroValue3
 t4:=Tryz.underlying4
 a4:=Tryz.isAgg4
 z4:=Tryz.sizeOf4
 v4:=Tryz.zeroValue4
 t5:=Tryz.underlying5
 a5:=Tryz.isAgg5
 z5:=Tryz.sizeOf5
 v5:=Tryz.zeroValue5
 t9:=Tryz.underlying9
 a9:=Tryz.isAgg9
 z9:=Tryz.sizeOf9
 v9:=Tryz.zeroValue9
 t46:=Tryz.underlying306
 a46:=Tryz.isAgg306
 z46:=Tryz.sizeOf306
 v46:=Tryz.zeroValue306
 t51:=Tryz.underlying345
 a51:=Tryz.isAgg345
 z51:=Tryz.sizeOf345
 v51:=Tryz.zeroValue345
 t59:=Tryz.underlying144
 a59:=Tryz.isAgg144
 z59:=Tryz.sizeOf144
 v59:=Tryz.zeroValue144
 t146:=Tryz.underlying346
 a146:=Tryz.isAgg346
 z146:=Tryz.sizeOf346
 v146:=Tryz.zeroValue346
 g1:=by kernel_rfl}
def Tryz.Ls:Go.Shelf.Ren:=⟨λ|101=>207|208=>257|206=>191|n=>n,λ|9=>9|4=>4|3=>3|n=>n,λ|n=>n⟩
def Tryz.abH:Go.Proofs.Lays.n101 Tryz.prog Tryz.Ls:={
 mixed:=by kernel_rfl
 f101:=Tryz.func207.trans (aP some (by kernel_rfl))
 f206:=Tryz.func191.trans (aP some (by kernel_rfl))
 f208:=Tryz.func257.trans (aP some (by kernel_rfl))
 t3:=Tryz.underlying3
 a3:=Tryz.isAgg3
 z3:=Tryz.sizeOf3
 v3:=Tryz.zeroValue3
 t4:=Tryz.underlying4
 a4:=Tryz.isAgg4
 z4:=Tryz.sizeOf4
 v4:=Tryz.zeroValue4
 t9:=Tryz.underlying9
 a9:=Tryz.isAgg9
 z9:=Tryz.sizeOf9
 v9:=Tryz.zeroValue9}
def Tryz.Lp:Go.Shelf.Ren:=⟨λ|146=>57|221=>94|268=>188|138=>189|143=>190|195=>232|197=>233|218=>234|219=>201|260=>271|217=>245|225=>246|224=>247|267=>248|266=>283|314=>284|n=>n,λ|9=>9|31=>23|3=>3|4=>4|0=>0|105=>294|21=>21|5=>5|46=>306|119=>365|139=>368|138=>367|146=>346|51=>345|n=>n,λ|1=>1|3=>4|4=>5|n=>n⟩
def Tryz.Sb:Go.Proofs.Lays.n146 Tryz.prog Tryz.Lp:={
 mixed:=by kernel_rfl
 f138:=Tryz.func189.trans (aP some (by kernel_rfl))
 f143:=Tryz.func190.trans (aP some (by kernel_rfl))
 f146:=Tryz.func57.trans (aP some (by kernel_rfl))
 f195:=Tryz.func232.trans (aP some (by kernel_rfl))
 f197:=Tryz.func233.trans (aP some (by kernel_rfl))
 f217:=Tryz.func245.trans (aP some (by kernel_rfl))
 f218:=Tryz.func234.trans (aP some (by kernel_rfl))
 f219:=Tryz.func201.trans (aP some (by kernel_rfl))
 f221:=Tryz.func94.trans (aP some (by kernel_rfl))
 f224:=Tryz.func247.trans (aP some (by kernel_rfl))
 f225:=Tryz.func246.trans (aP some (by kernel_rfl))
 f260:=Tryz.func271.trans (aP some (by kernel_rfl))
 f266:=Tryz.func283.trans (aP some (by kernel_rfl))
 f267:=Tryz.func248.trans (aP some (by kernel_rfl))
 f268:=Tryz.func188.trans (aP some (by kernel_rfl))
 f314:=Tryz.func284.trans (aP some (by kernel_rfl))
 t0:=Tryz.underlying0
 a0:=Tryz.isAgg0
 z0:=Tryz.sizeOf0
 v0:=Tryz.zeroValue0
 t3:=Tryz.underlying3
 a3:=Tryz.isAgg3
 z3:=Tryz.sizeOf3
 v3:=Tryz.zeroValue3
 t4:=Tryz.underlying4
 a4:=Tryz.isAgg4
 z4:=Tryz.sizeOf4
 v4:=Tryz.zeroValue4
 t5:=Tryz.underlying5
 a5:=Tryz.isAgg5
 z5:=Tryz.sizeOf5
 v5:=Tryz.zeroValue5
 t9:=Tryz.underlying9
 a9:=Tryz.isAgg9
 z9:=Tryz.sizeOf9
 v9:=Tryz.zeroValue9
 t21:=Tryz.underlying21
 a21:=Tryz.isAgg21
 z21:=Tryz.sizeOf21
 v21:=Tryz.zeroValue21
 t31:=Tryz.underlying23
 a31:=Tryz.isAgg23
 z31:=Tryz.sizeOf23
 v31:=Tryz.zeroValue23
 t46:=Tryz.underlying306
 a46:=Tryz.isAgg306
 z46:=Tryz.sizeOf306
 v46:=Tryz.zeroValue306
 t51:=Tryz.underlying345
 a51:=Tryz.isAgg345
 z51:=Tryz.sizeOf345
 v51:=Tryz.zeroValue345
 t105:=Tryz.underlying294
 a105:=Tryz.isAgg294
 z105:=Tryz.sizeOf294
 v105:=Tryz.zeroValue294
 t119:=Tryz.underlying365
 a119:=Tryz.isAgg365
 z119:=Tryz.sizeOf365
 t138:=Tryz.underlying367
 a138:=Tryz.isAgg367
 z138:=Tryz.sizeOf367
 v138:=Tryz.zeroValue367
 t139:=Tryz.underlying368
 a139:=Tryz.isAgg368
 z139:=Tryz.sizeOf368
 v139:=Tryz.zeroValue368
 t146:=Tryz.underlying346
 a146:=Tryz.isAgg346
 z146:=Tryz.sizeOf346
 v146:=Tryz.zeroValue346
 g1:=by kernel_rfl
 g3:=by kernel_rfl
 g4:=by kernel_rfl}
def Tryz.Lt:Go.Shelf.Ren:=⟨λ|147=>133|221=>94|268=>188|138=>189|143=>190|195=>232|197=>233|218=>234|219=>201|260=>271|217=>245|225=>246|224=>247|267=>248|266=>283|314=>284|n=>n,λ|9=>9|3=>3|31=>23|4=>4|0=>0|105=>294|21=>21|5=>5|46=>306|119=>365|139=>368|138=>367|146=>346|51=>345|n=>n,λ|1=>1|3=>4|4=>5|n=>n⟩
def Tryz.abE:Go.Proofs.Lays.n147 Tryz.prog Tryz.Lt:={
 mixed:=by kernel_rfl
 f138:=Tryz.func189.trans (aP some (by kernel_rfl))
 f143:=Tryz.func190.trans (aP some (by kernel_rfl))
 f147:=Tryz.func133.trans (aP some (by kernel_rfl))
 f195:=Tryz.func232.trans (aP some (by kernel_rfl))
 f197:=Tryz.func233.trans (aP some (by kernel_rfl))
 f217:=Tryz.func245.trans (aP some (by kernel_rfl))
 f218:=Tryz.func234.trans (aP some (by kernel_rfl))
 f219:=Tryz.func201.trans (aP some (by kernel_rfl))
 f221:=Tryz.func94.trans (aP some (by kernel_rfl))
 f224:=Tryz.func247.trans (aP some (by kernel_rfl))
 f225:=Tryz.func246.trans (aP some (by kernel_rfl))
 f260:=Tryz.func271.trans (aP some (by kernel_rfl))
 f266:=Tryz.func283.trans (aP some (by kernel_rfl))
 f267:=Tryz.func248.trans (aP some (by kernel_rfl))
 f268:=Tryz.func188.trans (aP some (by kernel_rfl))
 f314:=Tryz.func284.trans (aP some (by kernel_rfl))
 t0:=Tryz.underlying0
 a0:=Tryz.isAgg0
 z0:=Tryz.sizeOf0
 v0:=Tryz.zeroValue0
 t3:=Tryz.underlying3
 a3:=Tryz.isAgg3
 z3:=Tryz.sizeOf3
 v3:=Tryz.zeroValue3
 t4:=Tryz.underlying4
 a4:=Tryz.isAgg4
 z4:=Tryz.sizeOf4
 v4:=Tryz.zeroValue4
 t5:=Tryz.underlying5
 a5:=Tryz.isAgg5
 z5:=Tryz.sizeOf5
 v5:=Tryz.zeroValue5
 t9:=Tryz.underlying9
 a9:=Tryz.isAgg9
 z9:=Tryz.sizeOf9
 v9:=Tryz.zeroValue9
 t21:=Tryz.underlying21
 a21:=Tryz.isAgg21
 z21:=Tryz.sizeOf21
 v21:=Tryz.zeroValue21
 t31:=Tryz.underlying23
 a31:=Tryz.isAgg23
 z31:=Tryz.sizeOf23
 v31:=Tryz.zeroValue23
 t46:=Tryz.underlying306
 a46:=Tryz.isAgg306
 z46:=Tryz.sizeOf306
 v46:=Tryz.zeroValue306
 t51:=Tryz.underlying345
 a51:=Tryz.isAgg345
 z51:=Tryz.sizeOf345
 v51:=Tryz.zeroValue345
 t105:=Tryz.underlying294
 a105:=Tryz.isAgg294
 z105:=Tryz.sizeOf294
 v105:=Tryz.zeroValue294
 t119:=Tryz.underlying365
 a119:=Tryz.isAgg365
 z119:=Tryz.sizeOf365
 t138:=Tryz.underlying367
 a138:=Tryz.isAgg367
 z138:=Tryz.sizeOf367
 v138:=Tryz.zeroValue367
 t139:=Tryz.underlying368
 a139:=Tryz.isAgg368
 z139:=Tryz.sizeOf368
 v139:=Tryz.zeroValue368
 t146:=Tryz.underlying346
 a146:=Tryz.isAgg346
 z146:=Tryz.sizeOf346
 v146:=Tryz.zeroValue346
 g1:=by kernel_rfl
 g3:=by kernel_rfl
 g4:=by kernel_rfl}
end Go.Proofs
namespace Go.Fw
open Go.RowKit (Below)
open Go.Shelf
variable {P:Program}{gl:s7}
theorem acP {ρ:Ren}(L:Proofs.Lays.n145 P ρ)(fC:iH P (ρ.f 145)=true)(hg:(ρ.g 1,[SC.num .i64])∈gl)(s:List UInt8)(c:UInt8)(hl:s.length<=1000000):
  nN P gl (ρ.f 145) [SS s,SS [c]] (.aJ [SS (Lib.cut s [c]).1,SS (Lib.cut s [c]).2.1,(false,[.lit (.bool (Lib.cut s [c]).2.2)])]):=by
 refine .inl ⟨fC,λmv w vs _ hG xi=>?_⟩;obtain⟨x,y,rfl,hr,Cb⟩:=DL xi;rw[gd hr,gd Cb];obtain⟨ev,h1,h2⟩:=(hG _ _ hg).1 0 _ rfl;have oW: ∃m,ev= .int .i64 m:=aiI;obtain⟨m,rfl⟩:=oW;refine(Proofs.Any.strings_Cut L (B s) (B [c]) m w (by rw[lT];omega) h1).mono λe w' he=>?_;obtain⟨rfl,n,rfl⟩:=he;rw[jK,jK];refine⟨_,rfl,(Below.refl w.heap.size w).trans ⟨rfl,rfl,rfl,dz _,λ_ _=>rfl⟩,_,rfl,rfl,λk x hk=>?_⟩
 match k,hk with
 |0,hk=>simp at hk;subst hk;exact⟨_,rfl,.lit rfl⟩
 |1,hk=>simp at hk;subst hk;exact⟨_,rfl,.lit rfl⟩
 |2,hk=>simp at hk;subst hk;exact⟨_,rfl,.lit rfl⟩
 |k+3,hk=>simp at hk
end Go.Fw
namespace Go.Plain
open Go.Lib
abbrev av:=List UInt8
def dp (b:UInt8):Prop:=48<=b.toNat/\b.toNat<=57
instance (b:UInt8):Decidable (dp b):=inferInstanceAs (Decidable (_/\_))
def fI (acc:Nat):av->Nat
 | []=>acc
 |b::r=>fI (10*acc+(b.toNat -48)) r
def DO (acc:Nat)(a b:av):fI acc (a++b)=fI (fI acc a) b:=by
 induction a generalizing acc with
 |nil=>rfl
 |cons x a ih=>exact ih _
def Ae {acc:Nat}{l:av}:acc<=fI acc l:=by
 induction l generalizing acc with
 |nil=>exact dz _
 |cons x l ih=>exact o3 K0 (ih (acc:=10*acc+(x.toNat -48)))
def JN: ∀(l:av) (acc:Nat),(∀b∈l,dp b)->fI acc l< (acc+1)*10^l.length
 | [],acc,_=>by
  show acc< (acc+1)*1;omega
 |b::l,acc,h=>by
  have h1:=h b (ja ..);have:=JN l (10*acc+(b.toNat -48)) λx hx=>h x (i8 _ hx);have h0:10*acc+(b.toNat -48)+1<=(acc+1)*10:=by grind[dp]
  have h2:(10*acc+(b.toNat -48)+1)*10^l.length<=(acc+1)*10*10^l.length:=kE _ h0;rw[kF,Nat.pow_succ];have e:(acc+1)*(10^l.length*10)=(acc+1)*10*10^l.length:=by ac_rfl
  rw[e];exact XV this h2
theorem yA {d:Nat}(h:d<10):(UInt8.ofNat (48+d)).toNat =48+d:=by simp[UInt8.toNat_ofNat];omega
def ML {b:UInt8}(h:dp b):UInt8.ofNat (48+(b.toNat -48))=b:=by
 unfold dp at h;simp_all
def Tw: ∀(u:Nat),∀b∈decDigits u,dp b:=by
 intro u
 induction u using Nat.strongRecOn with
 |_ u ih=>
  grind[decDigits,dp,yA]
def Tx: ∀(u:Nat),fI 0 (decDigits u)=u:=by
 intro u
 induction u using Nat.strongRecOn with
 |_ u ih=>
  rw[decDigits];split
  ·rename_i h;show 10*0+((UInt8.ofNat (48+u)).toNat -48)=u
   grind[yA]
  ·rename_i h;rw[DO,ih _ K0];show 10*(u/10)+((UInt8.ofNat (48+u%10)).toNat -48)=u
   grind[yA]
def agu (u:Nat):decDigits u≠[]:=by rw[decDigits];split<;>simp
theorem MM: ∀ {u:Nat},0<u->∃b r,decDigits u=b::r/\b.toNat≠48:=by
 intro u
 induction u using Nat.strongRecOn with
 |_ u ih=>
  intro h0;rw[decDigits];split
  grind[yA]
  ·rename_i h;obtain⟨b,r,e,hb⟩:=ih (u/10) K0 K0
   grind
theorem Zh: ∀(l:av) (b:UInt8) (r:av),l=b::r->(∀x∈l,dp x)->(b.toNat≠48\/r= [])->decDigits (fI 0 l)=l:=by
 intro l
 induction h:l.length using Nat.strongRecOn generalizing l with
 |_ n ih=>
  intro b r e hd hb;subst e;rcases List.eq_nil_or_concat r with rfl|⟨m,x,hr⟩
  ·have jV:=hd b (ja ..);have e:fI 0 [b]=b.toNat -48:=by show 10*0+(b.toNat -48)=_;omega
   rw[e,decDigits,dif_pos (by grind[dp]),ML jV]
  ·rw[List.concat_eq_append]at hr;subst hr;have hx:dp x:=hd x (by simp)
   have hm: ∀y∈b::m,dp y:=λy hy=>hd y (by
    grind)
   have xA:b.toNat≠48:=by grind
   have i1:=ih (b::m).length bq (b::m) rfl b m rfl hm (.inl xA);have hv:fI 0 (b::(m++[x]))=10*fI 0 (b::m)+(x.toNat -48):=by rw[show b::(m++[x])=(b::m)++[x]from rfl,DO];rfl
   have fN:0<fI 0 (b::m):=by
    have h1:=hm b (ja ..);have:10*0+(b.toNat -48)<=fI 0 (b::m):=Ae (acc:=10*0+(b.toNat -48)) (l:=m)
    grind[dp]
   unfold dp at hx;show decDigits (fI 0 (b::(m++[x])))=_;rw[hv,decDigits,dif_neg K0,show(10*fI 0 (b::m)+(x.toNat -48))/10=fI 0 (b::m)by omega,show(10*fI 0 (b::m)+(x.toNat -48))%10=x.toNat -48 by omega,i1,ML hx];rfl
def BU (s:av):Nat:=if(s.getD 0 0).toNat =45 then 1 else 0
def BV (d:Nat)(s:av):Prop:=s.length=BU s\/d<s.length -BU s\/((s.getD (BU s) 0).toNat =48/\1<s.length)
instance (d:Nat)(s:av):Decidable (BV d s):=inferInstanceAs (Decidable (_\/_\/_))
def fP (d:Nat)(s:av):Option Int:=
 if BV d s then none else if ∀b∈s.drop (BU s),dp b then some (if BU s=1 then -(fI 0 (s.drop (BU s)):Int)else(fI 0 (s.drop (BU s)):Int))else none
def agv (s:av):BU s<=s.length:=by
 unfold BU
 cases s with
 |nil=>simp
 |cons b s=>grind
def DP {s:av}{a i:Nat}(h1:a<=i)(h2:i<s.length):(s.take (i+1)).drop a=(s.take i).drop a++[s.getD i 0]:=by grind[List.take_succ_eq_append_getElem]
def MN {s:av}{a i:Nat}(h1:a<=i)(h2:i<s.length)(h3:dp (s.getD i 0)):((fI 0 ((s.take (i+1)).drop a):Nat):Int)=10*((fI 0 ((s.take i).drop a):Nat):Int)+(((s.getD i 0).toNat :Nat) -48:Int):=by
 rw[DP h1 h2,DO];unfold dp at h3;show((10*fI 0 _+((s.getD i 0).toNat -48):Nat):Int)=_;omega
def oD {l:av}(h: ∀b∈l,dp b)(hl:l.length<=18):(fI 0 l:Int)<1000000000000000000:=by
 have h1:=JN l 0 h
 have h2:(0+1)*10^l.length<=10^18:=by
  rw[j8,Nat.one_mul];exact XR K9 hl
 omega
def Bj {l:av}(h: ∀b∈l,dp b)(hl:l.length<=17):(fI 0 l:Int)<100000000000000000:=by
 have h1:=JN l 0 h
 have h2:(0+1)*10^l.length<=10^17:=by
  rw[j8,Nat.one_mul];exact XR K9 hl
 omega
def jc (s:av)(c:Nat):Nat->List av × Nat
 |0=>([],0)
 |i+1=>if(s.getD i 0).toNat =c then((jc s c i).1++[(s.take i).drop (jc s c i).2],i+1)else jc s c i
def agw (s:av)(c:Nat):List av:=(jc s c s.length).1++[s.drop (jc s c s.length).2]
def JO (s:av)(c:Nat): ∀i,(jc s c i).2<=i/\(jc s c i).1.length <=i
 |0=>⟨dz _,dz _⟩
 |i+1=>by
  obtain⟨h1,h2⟩:=JO s c i;unfold jc
  grind
def aZ (l:List av)(x:av):Int:=if x∈l then(l.idxOf x:Int)else -1
theorem eN {l:List av}{x:av}(h:x∉l):aZ l x= -1:=by unfold aZ;rw[if_neg h]
def Tz {l:List av}{x:av}{i:Nat}(h:i<l.length)(e:l[i]=x)(dy:x∉l.take i):aZ l x=i:=by
 have hm:x∈l:=by rw[<- e];exact pH h
 unfold aZ;rw[if_pos hm]
 have:l.idxOf x=i:=by
  have hs:l=l.take i++x::l.drop (i+1):=by rw[<- e,List.getElem_cons_drop h,LA]
  rw[hs,List.idxOf_append,if_neg dy,List.idxOf_cons_self];simp;omega
 rw[this]
def Zi: ∀(l:av) (acc:Nat),(∀b∈l,dp b)->fI acc l<1000000000000000000->parseUint10 acc l= .ok (fI acc l)
 | [],_,_,_=>rfl
 |c::r,acc,h,hl=>by
  have hc:=h c (ja ..);have h1:10*acc+(c.toNat -48)<=fI (10*acc+(c.toNat -48)) r:=Ae;have h2:fI (10*acc+(c.toNat -48)) r<1000000000000000000:=hl;have ih:=Zi r (10*acc+(c.toNat -48)) (λb hb=>h b (i8 _ hb)) h2;unfold dp at hc;show(if 48<=c.toNat/\c.toNat<=57 then if 1844674407370955162<=acc then _ else if 18446744073709551616<=acc*10+(c.toNat -48)then _ else parseUint10 (acc*10+(c.toNat -48)) r else _)=_;rw[if_pos hc,if_neg K0,if_neg K0,Nat.mul_comm acc 10,ih];rfl
def Zj {l:av}(h0:l≠[])(h: ∀b∈l,dp b)(hl:l.length<=18):parseMag l= .ok (fI 0 l):=by
 unfold parseMag;rw[if_neg h0];exact Zi l 0 h (by have:=oD h hl;omega)
def b45 {c:UInt8}(h:c.toNat=45):c=45:=CU.1 h
theorem MO (r:av):trimPrefix (45::r) [45]=r:=by simp[trimPrefix,hasPrefix]
theorem DQ {c:UInt8}(h:c.toNat≠45)(r:av):trimPrefix (c::r) [45]=c::r:=by
 have: ¬(45:UInt8)=c:=λe=>h (by rw[<- e];rfl)
 grind[trimPrefix,hasPrefix]
def fV {d:Nat}{s:av}{n:Int}(hd:d<=18)(h:fP d s=some n):atoiAll s= .ok n/\itoa n=s/\(trimPrefix s [45]).length <=d/\ -9223372036854775808<=n/\n<=9223372036854775807:=by
 unfold fP at h;split at h
 ·cases h
 rename_i hb;split at h
 ·rename_i xj
  cases s with
  |nil=>exact absurd (.inl rfl) hb
  |cons c r=>
   by_cases Lb:c.toNat=45
   ·have hc:=b45 Lb;subst hc;have ea:BU (45::r)=1:=rfl;unfold BV at hb;rw[ea]at h hb xj;simp only[kF,XS,IW]at hb xj h;simp only[if_true]at h;have hn:n= -(fI 0 r:Int):=by grind
    cases r with
    |nil=>grind
    |cons b r'=>
     have aog:b.toNat≠48:=by grind
     have bA:(b::r').length <=d:=by omega
     have xA:=xj b (ja ..);have fN:0<fI 0 (b::r'):=aiK;have hsm:=oD xj K0;refine⟨?_,?_,?_,?_⟩
     ·rw[atoiAll_minus,Zj (by simp) xj K0,hn];unfold signed
      grind
     ·unfold itoa;rw[if_pos K0,hn];have:(-(fI 0 (b::r'):Int)).natAbs =fI 0 (b::r'):=by omega
      grind[Zh]
     grind[MO]
     ·omega
   ·have ea:BU (c::r)=0:=by unfold BU;grind
    unfold BV at hb;rw[ea]at h hb xj;simp only[kF,IW]at hb xj h;simp only[Nat.zero_ne_one,kM]at h;have hn:n=(fI 0 (c::r):Int):=by grind
    have hc1:=xj c (ja ..);have aoF:c.toNat≠48\/r= []:=by grind
    have bA:(c::r).length <=d:=by grind
    have hsm:=oD xj K0;refine⟨?_,?_,?_,?_⟩
    ·rw[atoiAll_plain c r (by grind[dp]) Lb,Zj (by simp) xj K0,hn];unfold signless
     grind
    ·unfold itoa;rw[if_neg K0,hn];have:((fI 0 (c::r):Nat):Int).toNat =fI 0 (c::r):=by omega
     grind[Zh]
    grind[DQ]
    ·omega
 grind
def uQ {d:Nat}{n:Int}(h2:(trimPrefix (itoa n) [45]).length <=d):fP d (itoa n)=some n:=by
 unfold itoa at*;split at h2
 ·rename_i h;rw[MO]at h2;obtain⟨b,r,e,hb⟩:=MM (u:=n.natAbs) K0;have xj:=Tw n.natAbs;have hv:=Tx n.natAbs;rw[if_pos h];have ea:BU (45::decDigits n.natAbs)=1:=rfl;have l5: ¬BV d (45::decDigits n.natAbs):=by grind[BV]
  unfold fP
  grind
 ·rename_i h;have xj:=Tw n.toNat;have hv:=Tx n.toNat;rw[if_neg h];have fh:=agu n.toNat
  obtain⟨b,r,e⟩: ∃b r,decDigits n.toNat=b::r:=by
   cases hh:decDigits n.toNat with
   |nil=>grind
   |cons b r=>grind
  have xA:=xj b bq;have Lb:b.toNat≠45:=by grind[dp]
  rw[e,DQ Lb,<- e]at h2;have ea:BU (decDigits n.toNat)=0:=by rw[e];unfold BU;grind
  have l5: ¬BV d (decDigits n.toNat):=by
   unfold BV;rw[ea];rintro(h1|h1|⟨h1,h3⟩)
   grind
   ·omega
   ·rw[e]at h1 h3;by_cases h0:0<n.toNat
    grind[MM]
    grind[decDigits]
  unfold fP
  grind
def DR (n:Int):Prop:= -9223372036854775808<=n/\n<=9223372036854775807
theorem wJ {α:Type}{l:List α}{i:Nat}(h:i<l.length)(d:α):l.take (i+1)=l.take i++[l.getD i d]:=by
 rw[CK,oX h];exact ajd
def jC {l:List Int}{P:Int->Prop}(hl: ∀n∈l,P n){i:Nat}(h:i<l.length):P (l.getD i 0):=by
 rw[show l.getD i 0=l[i]by simp[jP,h]];exact hl _ (pH h)
def ar (c:Nat):av->List av
 | []=>[[]]
 |b::r=>if b.toNat=c then []::ar c r else match ar c r with
  |w::ws=>(b::w)::ws
  | []=>[[b]]
theorem lU (c:Nat): ∀s,ar c s≠[]
 | []=>by simp[ar]
 |b::r=>by grind[ar]
def kw (c:UInt8): ∀s:av,(indexByte s c= -1/\ar c.toNat s= [s])\/∃i:Nat,i<s.length/\indexByte s c=i/\ar c.toNat s=s.take i::ar c.toNat (s.drop (i+1))
 | []=>.inl ⟨rfl,rfl⟩
 |b::r=>by
  by_cases hb:b=c
  ·subst hb;refine .inr ⟨0,by simp,?_,?_⟩
   ·unfold indexByte;grind
   ·show(if b.toNat=b.toNat then _ else _)=_
    grind
  ·have jV: ¬b.toNat=c.toNat:=λe=>hb (CU.1 e)
   rcases kw c r with⟨h1,h2⟩|⟨i,h1,h2,h3⟩
   ·refine .inl ⟨?_,?_⟩
    ·unfold indexByte;grind
    ·unfold ar;grind
   ·refine .inr ⟨i+1,by grind,?_,?_⟩
    ·unfold indexByte;grind
    ·show(if b.toNat=c.toNat then _ else match ar c.toNat r with|w::ws=>(b::w)::ws| []=>[[b]])=_
     grind
def DS (c:UInt8): ∀(n:Nat) (s:av),s.length<=n->splitK [c] 0 (count s [c]) s=ar c.toNat s/\(ar c.toNat s).length =count s [c]+1
 |n,s,hn=>by
  rcases kw c s with⟨h1,h2⟩|⟨i,h1,h2,h3⟩
  ·rw[<- index_one]at h1;rw[count_miss h1,h2];exact⟨rfl,rfl⟩
  ·rw[<- index_one]at h2;rw[count_hit (by simp) h2,h3,Nat.add_comm 1];have hl:(s.drop (i+1)).length <s.length:=by grind
   cases n with
   |zero=>omega
   |succ n=>
    have ih:=DS c n (s.drop (i+1)) K0;simp only[kF,zR,j8];refine⟨?_,by omega⟩;show(if(index s [c]== -1)=true then _ else _)=_
    grind
def tK (s:av)(c:UInt8):Go.Fw.CE s c=ar c.toNat s/\(Go.Fw.CE s c).length =countB (Go.Fw.B s) (Go.Fw.B [c])+1:=by
 have e:countB (Go.Fw.B s) (Go.Fw.B [c])=count s [c]:=by grind[Go.Fw.jK]
 have h:=DS c s.length s (dz _)
 grind[Go.Fw.CE]
def yB (c:Nat)(b:UInt8): ∀(t:av) (ps:List av) (w:av),ar c t=ps++[w]->ar c (t++[b])=if b.toNat=c then ps++[w]++[[]]else ps++[w++[b]]
 | [],ps,w,h=>by
  have h': [[]]=ps++[w]:=h
  have:ps= []/\w= []:=by
   cases ps with
   |nil=>grind
   |cons p ps=>simp at h'
  obtain⟨rfl,rfl⟩:=this;show(if b.toNat=c then []::[[]]else _)=_
  grind
 |x::t,ps,w,h=>by
  by_cases hx:x.toNat=c
  ·have h1: []::ar c t=ps++[w]:=by rw[<- h];exact(if_pos hx).symm
   cases ps with
   |nil=>
    grind[lU]
   |cons p ps=>
    have h2:p= []/\ar c t=ps++[w]:=by grind
    have ih:=yB c b t ps w h2.2;show(if x.toNat=c then []::ar c (t++[b])else _)=_
    grind
  ·have fh:=lU c t
   cases hs:ar c t with
   |nil=>grind
   |cons w0 ws=>
    have h1:(x::w0)::ws=ps++[w]:=by
     rw[<- h];show _=(if x.toNat=c then _ else match ar c t with|w::ws=>(x::w)::ws| []=>[[x]])
     grind
    have go: ∀u us,ar c (t++[b])=u::us->ar c (x::t++[b])=(x::u)::us:=by
     intro u us e;show(if x.toNat=c then _ else match ar c (t++[b])with|w::ws=>(x::w)::ws| []=>[[x]])=_
     grind
    cases ps with
    |nil=>
     have h2:x::w0=w/\ws= []:=by grind
     obtain⟨rfl,rfl⟩:=h2;have ih:=yB c b t [] w0 bq
     grind
    |cons p ps=>
     have h2:x::w0=p/\ws=ps++[w]:=by grind
     obtain⟨rfl,rfl⟩:=h2;have ih:=yB c b t (w0::ps) w bq
     grind
def MP (s:av)(c:Nat): ∀i,i<=s.length->ar c (s.take i)=(jc s c i).1++[(s.take i).drop (jc s c i).2]
 |0,_=>by simp[ar,jc]
 |i+1,h=>by
  have ih:=MP s c i K0;have h2:=(JO s c i).1
  have e:s.take (i+1)=s.take i++[s.getD i 0]:=by
   have:=DP (s:=s) (a:=0) (i:=i) (dM _) K0
   grind
  have hs:=yB c (s.getD i 0) (s.take i) _ _ ih;rw[e,hs];show _=(if(s.getD i 0).toNat =c then((jc s c i).1++[(s.take i).drop (jc s c i).2],i+1)else jc s c i).1++[(s.take i++[s.getD i 0]).drop (if(s.getD i 0).toNat =c then((jc s c i).1++[(s.take i).drop (jc s c i).2],i+1)else jc s c i).2]
  grind
theorem iL (s:av)(c:Nat):agw s c=ar c s:=by
 have:=MP s c s.length (dz _);rw[mW]at this;exact this.symm
theorem Af {c:Nat}: ∀ {w:av},(∀b∈w,b.toNat≠c)->ar c w= [w]/\∀d r,d.toNat=c->ar c (w++d::r)=w::ar c r
 | [],_=>⟨rfl,λd r hd=>by show(if d.toNat=c then _ else _)=_;grind⟩
 |b::w,h=>by
  have ih:=Af (c:=c) (w:=w) λx hx=>h x (i8 _ hx);have hb:=h b (ja ..);refine⟨?_,λd r hd=>?_⟩
  ·unfold ar;grind
  ·show(if b.toNat=c then _ else match ar c (w++d::r)with|w::ws=>(b::w)::ws| []=>[[b]])=_
   grind
def MQ: ∀(x:av) (l:List av),(∀w∈x::l,∀b∈w,b.toNat≠32)->ar 32 (join (x::l) [32])=x::l
 |x,[],h=>by grind[join_one,Af]
 |x,y::l,h=>by
  have ih:=MQ y l λw hw=>h w (i8 _ hw);have e:join (x::y::l) [32]=x++32::join (y::l) [32]:=by grind[join_cons,joinTail]
  rw[e,(Af (h x (ja ..))).2 32 _ rfl,ih]
theorem cd (c:Nat): ∀s:av,(ar c s).length <=s.length+1/\∀w∈ar c s,w.length<=s.length
 | []=>by simp[ar]
 |b::r=>by
  have ih:=cd c r
  grind[ar]
end Go.Plain
namespace Go.Fw
open Go.RowKit (Below)
open Go.Shelf Go.Plain
structure anv where
 split:Nat
 splitN:Nat
 cut:Nat
 atoi:Nat
 itoa:Nat
 trim:Nat
def anw (l:List (List UInt8)):ma:=.own 1 (.view (ab l))
end Go.Fw
namespace Go.Proofs.Tryz
open Go.Fw
namespace Ty
abbrev i0:ZC:=.lit (.int .i64 0)
abbrev b0:ZC:=.lit (.bool false)
abbrev s0:ZC:=.lit (.string (ByteArray.mk #[]))
abbrev w0:ZC:=.lit (.int .u64 0)
abbrev y0:ZC:=.lit (.int .u8 0)
abbrev v0:ZC:=.lit (.int .u32 0)
abbrev z0:ZC:=.lit .nilFunc
abbrev p0:ZC:=.lit (.pointer none)
abbrev n0:ZC:=.lit .nilIface
abbrev F:=false
abbrev eI:AW:=.int .i64
abbrev eY:AW:=.int .u8
abbrev eW:AW:=.int .u64
abbrev tF:TI:=⟨.func,1,8,[z0],[F],none⟩
abbrev tI:TI:=⟨eI,1,8,[i0],[F],some [eI]⟩
abbrev tB:TI:=⟨.bool,1,1,[b0],[F],some [.bool]⟩
abbrev tS:TI:=⟨.str,1,16,[s0],[F],some [.str]⟩
abbrev tY:TI:=⟨eY,1,1,[y0],[F],some [eY]⟩
abbrev tW:TI:=⟨eW,1,8,[w0],[F],some [eW]⟩
abbrev tL(n:TypeId)(k:=false):TI:=⟨.slice n,1,24,[.nil],[k],none⟩
abbrev tP(n:TypeId):TI:=⟨.ptr n,1,8,[p0],[F],none⟩
abbrev tN:TI:=⟨.iface,1,16,[n0],[F],none⟩
abbrev u7:TI:=⟨.struct [(0,2),(1,3),(2,4),(3,6)],4,24,[i0,i0,b0,y0],[F,F,F,F],some [eI,eI,.bool,eY]⟩
abbrev u13:TI:=⟨.struct [(0,9),(1,12)],2,24,[s0,w0],[F,F],none⟩
abbrev u18:TI:=⟨.struct [(0,17)],1,8,[p0],[F],none⟩
abbrev u21:TI:=⟨.int .i32,1,4,[.lit (.int .i32 0)],[F],some [.int .i32]⟩
abbrev u26:TI:=⟨.struct [(0,22),(1,23),(2,24),(3,25),(4,3),(5,3)],6,112,[.nil,.nil,.nil,.nil,i0,i0],[F,F,F,F,F,F],none⟩
abbrev u35:TI:=⟨.struct [(0,3),(1,9),(2,9)],3,40,[i0,s0,s0],[F,F,F],some [eI,.str,.str]⟩
abbrev u37:TI:=⟨.struct [(0,3),(1,3),(2,3),(3,4)],4,32,[i0,i0,i0,b0],[F,F,F,F],some [eI,eI,eI,.bool]⟩
abbrev u39:TI:=⟨.struct [(0,38),(4,38),(8,3)],9,72,[i0,i0,i0,b0,i0,i0,i0,b0,i0],[F,F,F,F,F,F,F,F,F],some [eI,eI,eI,.bool,eI,eI,eI,.bool,eI]⟩
abbrev u43:TI:=⟨.struct [(0,9),(1,40),(10,23),(11,41),(12,4),(13,4),(14,4),(15,3),(16,42)],17,176,[s0,i0,i0,i0,b0,i0,i0,i0,b0,i0,.nil,.nil,b0,b0,b0,i0,.nil],(List.replicate 17 false),none⟩
abbrev u51:TI:=⟨.struct [(0,3),(1,3)],2,16,[i0,i0],[F,F],some [eI,eI]⟩
abbrev u53:TI:=⟨.struct [(0,9),(1,3),(2,23),(3,9),(4,52)],6,80,[s0,i0,.nil,s0,i0,i0],[F,F,F,F,F,F],none⟩
abbrev u57:TI:=⟨.struct [(0,4),(1,4),(2,23),(3,9),(4,23),(5,56)],6,96,[b0,b0,.nil,s0,.nil,.nil],[F,F,F,F,F,F],none⟩
abbrev u77:TI:=⟨.struct [(0,3),(1,52),(3,52),(5,52),(7,52)],9,72,[i0,i0,i0,i0,i0,i0,i0,i0,i0],[F,F,F,F,F,F,F,F,F],some [eI,eI,eI,eI,eI,eI,eI,eI,eI]⟩
abbrev u99:TI:=⟨.struct [(0,3),(1,3),(2,3),(3,3),(4,3)],5,40,[i0,i0,i0,i0,i0],[F,F,F,F,F],some [eI,eI,eI,eI,eI]⟩
abbrev alf:TI:=⟨.struct [(0,9),(1,3)],2,24,[s0,i0],[F,F],some [.str,eI]⟩
abbrev alg:TI:=⟨.struct [(0,9),(1,23)],2,40,[s0,.nil],[F,F],none⟩
abbrev acQ:TI:=⟨.struct [(0,9),(1,3),(2,3),(3,4)],4,40,[s0,i0,i0,b0],[F,F,F,F],some [.str,eI,eI,.bool]⟩
abbrev alh:TI:=⟨.struct [(0,27),(6,28),(7,58)],13,232,[.nil,.nil,.nil,.nil,i0,i0,.nil,b0,b0,.nil,s0,.nil,.nil],(List.replicate 13 false),none⟩
abbrev ali:TI:=⟨.struct [(0,23),(1,67),(2,9)],3,64,[.nil,.nil,s0],[F,true,F],none⟩
abbrev alj:TI:=⟨.struct [(0,3),(1,3),(2,3),(3,4),(4,149)],5,40,[i0,i0,i0,b0,z0],[F,F,F,F,F],none⟩
abbrev agx:TI:=⟨.struct [(0,159),(2,159)],4,32,[i0,i0,i0,i0],[F,F,F,F],some [eI,eI,eI,eI]⟩
abbrev alk:TI:=⟨.struct [(0,3),(1,161),(5,162)],6,64,[i0,i0,i0,i0,i0,.nil],[F,F,F,F,F,F],none⟩
abbrev acR:TI:=⟨.struct [(0,3),(1,67)],2,32,[i0,.nil],[F,true],none⟩
abbrev alm:TI:=⟨.struct [(0,9),(1,96)],4,40,[s0,i0,i0,i0],[F,F,F,F],some [.str,eI,eI,eI]⟩
abbrev aln:TI:=⟨.struct [(0,67),(1,3)],2,32,[.nil,i0],[true,F],none⟩
abbrev alo:TI:=⟨.struct [(0,9),(1,3),(2,3),(3,161),(7,308)],8,88,[s0,i0,i0,i0,i0,i0,i0,.nil],[F,F,F,F,F,F,F,F],none⟩
abbrev alp:TI:=⟨.struct [(0,9),(1,9),(2,201)],3,48,[s0,s0,n0],[F,F,F],none⟩
abbrev alq:TI:=⟨.struct [(0,4)],1,1,[b0],[F],some [.bool]⟩
abbrev acS:TI:=⟨.struct [(0,3),(1,3),(2,3)],3,24,[i0,i0,i0],[F,F,F],some [eI,eI,eI]⟩
abbrev alr:TI:=⟨.struct [(0,5),(1,5)],2,2,[y0,y0],[F,F],some [eY,eY]⟩
abbrev als:TI:=⟨.struct [(0,9)],1,16,[s0],[F],some [.str]⟩
abbrev alt:TI:=⟨.struct [(0,310)],8,88,[s0,i0,i0,i0,i0,i0,i0,.nil],[F,F,F,F,F,F,F,F],none⟩
abbrev alu:TI:=⟨.struct [(0,394),(4,3),(5,67),(6,67)],7,88,[i0,i0,i0,i0,i0,.nil,.nil],[F,F,F,F,F,true,true],none⟩
abbrev alv:TI:=⟨.struct [(0,423),(2,423)],4,64,[i0,.nil,i0,.nil],[F,true,F,true],none⟩
abbrev alw:TI:=⟨.struct [(0,17),(1,17),(2,17),(3,9)],4,40,[p0,p0,p0,s0],[F,F,F,F],none⟩
abbrev alx:TI:=⟨.struct [(0,461)],0,0,[],[],none⟩
abbrev aly:TI:=⟨.struct [(0,12),(1,12),(2,345),(3,464),(4,5),(5,5),(6,465),(7,466),(8,370),(9,467),(10,468)],11,48,[w0,w0,v0,y0,y0,y0,y0,z0,p0,.lit (.int .i32 0),.lit (.int .i32 0)],[F,F,F,F,F,F,F,F,F,F,F],none⟩
end Ty
open Ty in
noncomputable def cx:bN:={P:=prog,gl:=[(0,[.lit (.string ⟨#[121]⟩),.lit (.int .i64 1),.lit (.int .i64 (-1)),.lit (.int .i64 0),.lit (.string ⟨#[100]⟩),.lit (.int .i64 1),.lit (.int .i64 0),.lit (.int .i64 0),.lit (.string ⟨#[122]⟩),.lit (.int .i64 1),.lit (.int .i64 (-2)),.lit (.int .i64 1)]),(1,[.num .i64]),(2,[.err]),(3,[.err]),(6,Lib.pow10Tab.map λz=>.lit (.int .u64 z)),(9,[.lit (.int .i64 1),.lit (.int .i64 1),.lit (.int .i64 0),.lit (.int .i64 1)])],deep:=[44],fx:=[227,162,225,154,79,56,157,80,203,252],sx:=[(89,"record.go:493")],mz:=[(151,true),(4,false)],hx:=[51,47,91,68,114,62,89,56,206,87,115,116,117,118,119,120,121,122,123,124,125,126,127,128,129,130,131,132,202,155],ty:=[
(1,tF),
(2,tI),
(3,tI),
(4,tB),
(5,tY),
(6,tY),
(7,u7),
(8,u7),
(9,tS),
(10,tS),
(11,tS),
(12,tW),
(13,u13),
(14,u13),
(15,tP 460),
(16,tP 463),
(17,tP 470),
(18,u18),
(19,u18),
(20,tN),
(21,u21),
(22,tL 103),
(23,tL 9),
(24,tL 54),
(25,tL 106),
(26,u26),
(27,u26),
(28,tL 36),
(29,tF),
(30,tF),
(31,tF),
(32,tF),
(34,tF),
(35,u35),
(36,u35),
(37,u37),
(38,u37),
(39,u39),
(40,u39),
(41,tL 121),
(42,tL 100),
(43,u43),
(44,u43),
(45,tI),
(47,tF),
(48,tF),
(49,tF),
(50,tF),
(51,u51),
(52,u51),
(53,u53),
(54,u53),
(55,tF),
(56,tL 44),
(57,u57),
(58,u57),
(60,tF),
(62,tF),
(63,tF),
(65,tF),
(66,tF),
(67,tL 3 true),
(69,tF),
(71,tF),
(73,tF),
(74,tF),
(75,tF),
(76,tF),
(77,u77),
(78,u77),
(80,tF),
(82,tF),
(83,tF),
(84,tF),
(86,tF),
(87,tF),
(89,tF),
(90,tF),
(91,tF),
(92,tF),
(93,tF),
(95,tF),
(96,⟨.array 3 3,3,24,[i0,i0,i0],[F,F,F],some [eI,eI,eI]⟩),
(98,tF),
(99,u99),
(100,u99),
(101,tF),
(102,alf),
(103,alf),
(104,tF),
(105,alg),
(106,alg),
(107,tF),
(108,tF),
(109,tL 112),
(110,tF),
(111,acQ),
(112,acQ),
(113,tF),
(114,tP 126),
(115,tP 44),
(117,tF),
(118,tF),
(119,tF),
(120,acQ),
(121,acQ),
(122,tF),
(124,tF),
(125,alh),
(126,alh),
(127,tF),
(128,tF),
(129,tF),
(130,tF),
(131,tF),
(133,tF),
(135,tF),
(136,tF),
(137,tF),
(138,tF),
(140,tF),
(141,tF),
(143,tF),
(145,tF),
(146,ali),
(147,ali),
(149,tF),
(150,alj),
(151,alj),
(152,⟨.map 9 151,1,8,[.lit (.map none)],[F],none⟩),
(153,tF),
(154,tF),
(156,tF),
(157,tF),
(158,u51),
(159,u51),
(160,agx),
(161,agx),
(162,tL 161),
(163,alk),
(164,alk),
(166,tF),
(167,acR),
(168,acR),
(170,tF),
(171,tF),
(173,tF),
(175,tF),
(176,tF),
(177,tF),
(178,tF),
(179,tF),
(180,tF),
(181,tF),
(182,tF),
(183,tF),
(184,tI),
(185,tF),
(186,tF),
(187,tF),
(188,tF),
(189,tF),
(190,tL 45 true),
(191,tF),
(192,tF),
(193,tF),
(194,tL 196),
(195,alm),
(196,alm),
(197,⟨.array 3 196,12,120,[s0,i0,i0,i0,s0,i0,i0,i0,s0,i0,i0,i0],[F,F,F,F,F,F,F,F,F,F,F,F],some [.str,eI,eI,eI,.str,eI,eI,eI,.str,eI,eI,eI]⟩),
(198,tF),
(199,tF),
(200,tN),
(201,tN),
(203,tF),
(204,tF),
(205,tF),
(206,tF),
(207,tF),
(209,tF),
(210,tF),
(211,tF),
(212,tF),
(213,tF),
(214,tF),
(215,tF),
(216,tF),
(218,tF),
(219,tF),
(220,tF),
(221,aln),
(222,aln),
(224,tF),
(226,tF),
(227,tF),
(228,tF),
(229,tF),
(230,tF),
(231,tF),
(232,tF),
(233,tF),
(234,tF),
(235,tF),
(236,tF),
(237,⟨.array 5 3,5,40,[i0,i0,i0,i0,i0],[F,F,F,F,F],some [eI,eI,eI,eI,eI]⟩),
(238,tP 184),
(239,tL 5),
(240,tF),
(241,tF),
(242,tF),
(243,tF),
(244,tF),
(245,tF),
(246,tF),
(247,tF),
(248,tF),
(249,tF),
(250,tF),
(251,tF),
(252,tF),
(253,tF),
(254,tF),
(255,⟨.array 9 242,9,72,[z0,z0,z0,z0,z0,z0,z0,z0,z0],[F,F,F,F,F,F,F,F,F],none⟩),
(256,tF),
(257,tF),
(258,tF),
(260,tF),
(262,tF),
(263,tF),
(264,tF),
(265,tF),
(266,tP 58),
(267,tF),
(268,tF),
(270,tF),
(271,tF),
(273,tF),
(274,tF),
(276,tF),
(277,tF),
(278,tF),
(279,tF),
(280,tF),
(281,tF),
(282,tF),
(284,tF),
(286,tF),
(287,tF),
(288,tF),
(289,tF),
(290,tF),
(291,⟨.map 9 4,1,8,[.lit (.map none)],[F],none⟩),
(292,tF),
(293,tF),
(295,tF),
(296,tF),
(297,tI),
(299,tF),
(300,tP 334),
(301,tF),
(302,tF),
(303,tF),
(304,tF),
(305,tF),
(306,tW),
(307,tF),
(308,tL 355),
(309,alo),
(310,alo),
(312,tF),
(314,tF),
(315,tF),
(316,tF),
(317,tF),
(318,tF),
(320,tF),
(321,tF),
(322,tF),
(323,tF),
(324,tF),
(325,tF),
(326,tF),
(327,tF),
(328,tF),
(329,tF),
(330,tW),
(332,tF),
(333,alp),
(334,alp),
(335,tF),
(336,⟨.array 24 5,24,24,(List.replicate 24 y0),(List.replicate 24 false),some (List.replicate 24 eY)⟩),
(337,tF),
(338,tF),
(340,tF),
(341,tF),
(342,tF),
(343,tF),
(344,tF),
(345,⟨.int .u32,1,4,[v0],[F],some [.int .u32]⟩),
(347,tF),
(348,tF),
(349,tP 351),
(350,alq),
(351,alq),
(352,tF),
(353,tF),
(354,acS),
(355,acS),
(356,tF),
(357,tF),
(359,tF),
(360,tF),
(361,tF),
(362,u51),
(363,u51),
(364,tF),
(365,⟨.array 256 5,256,256,(List.replicate 256 y0),(List.replicate 256 false),some (List.replicate 256 eY)⟩),
(366,alr),
(367,alr),
(368,⟨.array 16 367,32,32,(List.replicate 32 y0),(List.replicate 32 false),some (List.replicate 32 eY)⟩),
(369,tF),
(370,tP 5),
(371,tP 373),
(372,als),
(373,als),
(374,tF),
(375,⟨.array 20 330,20,160,(List.replicate 20 w0),(List.replicate 20 false),some (List.replicate 20 eW)⟩),
(376,⟨.array 65 5,65,65,(List.replicate 65 y0),(List.replicate 65 false),some (List.replicate 65 eY)⟩),
(377,tF),
(379,tF),
(380,tF),
(382,tF),
(384,tF),
(385,tF),
(386,tF),
(387,tF),
(388,tF),
(389,alt),
(390,alt),
(392,tF),
(393,tF),
(394,agx),
(395,alu),
(396,alu),
(398,tF),
(399,tF),
(400,tF),
(401,⟨.array 3 52,6,48,[i0,i0,i0,i0,i0,i0],[F,F,F,F,F,F],some [eI,eI,eI,eI,eI,eI]⟩),
(402,tF),
(403,tF),
(404,tF),
(405,tF),
(406,tF),
(407,tF),
(408,tF),
(409,tF),
(410,tF),
(411,tF),
(412,tF),
(413,tF),
(414,tF),
(415,tF),
(416,tF),
(417,tF),
(418,⟨.array 32 5,32,32,(List.replicate 32 y0),(List.replicate 32 false),some (List.replicate 32 eY)⟩),
(419,⟨.array 64 5,64,64,(List.replicate 64 y0),(List.replicate 64 false),some (List.replicate 64 eY)⟩),
(420,tF),
(421,tF),
(422,acR),
(423,acR),
(424,alv),
(425,alv),
(426,tF),
(427,tF),
(428,tF),
(429,tF),
(430,tL 52),
(431,tF),
(432,tI),
(434,tF),
(435,tF),
(436,tF),
(437,tF),
(438,tF),
(439,tF),
(440,tF),
(441,tF),
(442,tF),
(443,tF),
(444,tW),
(445,tF),
(446,tF),
(447,tF),
(448,tP 3),
(449,tF),
(450,tF),
(451,tF),
(452,tF),
(453,tF),
(454,tP 444),
(455,tF),
(456,tF),
(457,tF),
(458,tF),
(459,alw),
(460,alw),
(461,⟨.array 0 16,0,0,[],[],none⟩),
(462,alx),
(463,alx),
(464,tY),
(465,tY),
(466,tF),
(467,u21),
(468,u21),
(469,aly),
(470,aly),
(471,tF),
(473,acS),
(474,acS)]}
def lH:cx.Ok:=⟨by kernel_rfl,by kernel_rfl,by kernel_rfl⟩
def sF {f:FuncId}{c:Code}{args:List SV}{r:ma}(fn:Func)(h:m6 cx c (entry args) (λS=>acw cx fn S λr'=>r'=r) (λ_ _=>False) (λS=>acw cx fn S λr'=>r'=r))
  (h1:iH cx.P f=true:=by kernel_rfl)(h2:cx.P.funcs[f]? =some fn:=by kernel_rfl)(h3:fn.body=some c:=by rfl)(h4:bM fn.ntmps c=true:=by kernel_rfl)(h5:args.length<=fn.ntmps:=by exact fO rfl):nN cx.P cx.gl f args r:=
 P2 lH h1 h2 h3 h4 h5 h
abbrev ac:=nN cx.P cx.gl
open Go.IntWalk Go.Plain
def acT:(1,[SC.num .i64])∈cx.gl:=jv (i:=1) dl
def rE (s:List UInt8)(c:UInt8)(hl:s.length<=1000000):ac 57 [SS s,SS [c]] (anw (ar c.toNat s)):=by
 have h:=tK s c;rw[<- h.1];exact HJ Sb dl dl acT s c hl h.2
end Go.Proofs.Tryz
namespace Go.Plain
open Go.Lib
def wN (sg:Bool)(d:Nat)(s:av):Option Int:=match fP d s with
 |some n=>if sg=true\/0<=n then some n else none
 |none=>none
def yC {d:Nat}{s:av}{n:Int}(h:fP d s=some n):0<s.length:=by
 unfold fP at h;split at h
 grind
 ·rename_i hb
  cases s with
  |nil=>exact absurd (.inl rfl) hb
  |cons c r=>simp
def qo {d:Nat}{s:av}{n:Int}(h:fP d s=some n):(s.getD 0 0).toNat =45↔¬0<=n:=by
 unfold fP at h;split at h
 ·cases h
 rename_i hb;split at h
 ·rename_i xj;by_cases Lb:(s.getD 0 0).toNat =45
  ·have ea:BU s=1:=by unfold BU;grind
   rw[ea]at h xj;unfold BV at hb;rw[ea]at hb;rw[if_pos rfl]at h;have hn:n= -(fI 0 (s.drop 1):Int):=by grind
   refine⟨λ_=>?_,λ_=>Lb⟩
   match s,hb,xj,Lb,hn with
   | [],hb,_,Lb,_=>simp_all
   | [c],hb,_,_,_=>grind
   |c::b::r',hb,xj,_,hn=>
    have aog:b.toNat≠48:=λe=>hb (.inr (.inr ⟨e,by simp⟩));have xA:=xj b (by simp);have fN:0<fI 0 (b::r'):=aiK
    grind
  ·exact akp
 grind
def Qc {d:Nat}{s:av}{n:Int}(h:fP d s=some n): ∀b∈s,b.toNat=45\/dp b:=by
 unfold fP at h;split at h
 grind
 split at h
 ·rename_i xj;intro b hb;by_cases Lb:(s.getD 0 0).toNat =45
  ·have ea:BU s=1:=by unfold BU;grind
   rw[ea]at xj
   cases s with
   |nil=>grind
   |cons c r=>
    grind
  ·exact akp
 grind
def iB {sg:Bool}{d:Nat}{s:av}{n:Int}(h:wN sg d s=some n):fP d s=some n/\(sg=true\/0<=n):=by grind[wN]
def Qd {d:Nat}{s:av}{n:Int}(h:fP d s=some n):wN false d s=if(s.getD 0 0).toNat =45 then none else some n:=by
 unfold wN;rw[h];have:=qo h
 grind
def TA {sg:Bool}{d:Nat}{s:av}(h:fP d s=none):wN sg d s=none:=by grind[wN]
def Cl (d:Nat)(s:av):wN true d s=fP d s:=by grind[wN]
def DT {sg:Bool}{d:Nat}{s:av}{n:Int}(h:wN sg d s=some n): ∀b∈s,b.toNat=45\/dp b:=Qc (iB h).1
theorem uR (s:av)(c:UInt8):(cut s [c]=(s,[],false)/\ar c.toNat s= [s])\/∃a b,cut s [c]=(a,b,true)/\ar c.toNat s=a::ar c.toNat b/\a.length<=s.length/\b.length<=s.length:=by
 rcases kw c s with⟨h1,h2⟩|⟨i,h1,h2,h3⟩
 ·rw[<- index_one]at h1;refine .inl ⟨?_,h2⟩;unfold cut;grind
 ·rw[<- index_one]at h2;refine .inr ⟨s.take i,s.drop (i+1),?_,h3,by grind,by simp⟩;unfold cut;grind
def DU {α β:Type}(f:av->Option α)(g:av->Option β):List av->Option (α × β)
 | [a,b]=>(f a).bind λx=>(g b).map λy=>(x,y)
 |_=>none
def DW {α β:Type}(c:UInt8)(f:av->Option α)(g:av->Option β)(s:av):Option (α × β):=DU f g (ar c.toNat s)
def uS (s:av):Option (Int × Int):=DW 47 (wN false 4) (wN false 4) s
def Bk (s:av):Option (Int × Int × Int × Int):=(DW 32 uS uS s).map λp=>(p.1.1,p.1.2,p.2.1,p.2.2)
def JP {c:Nat}: ∀ {s:av} {b:UInt8},b∈s->b.toNat≠c->∃w∈ar c s,b∈w
 |x::r,b,hb,hc=>by
  unfold ar;by_cases hx:x.toNat=c
  ·rw[if_pos hx];rcases dh.1 hb with rfl|hb
   grind
   ·obtain⟨w,h1,h2⟩:=JP hb hc
    grind
  ·rw[if_neg hx]
   cases hs:ar c r with
   |nil=>grind[lU]
   |cons w ws=>
    show ∃w'∈(x::w)::ws,b∈w';rcases dh.1 hb with rfl|hb;simp_all
    ·obtain⟨w',h1,h2⟩:=JP hb hc
     grind
def TB {c:Nat}: ∀ {s:av},(∀b∈s,b.toNat≠c)->ar c s= [s]
 | [],_=>rfl
 |x::r,h=>by
  unfold ar;rw[if_neg (h x (by simp)),TB λb hb=>h b bq]
def acU {c:Nat}{s:av}{b:UInt8}(hb:b∈s)(hc:b.toNat=c): ∃x y r,ar c s=x::y::r:=by
 induction s with
 |nil=>grind
 |cons x s ih=>
  unfold ar;by_cases hx:x.toNat=c
  ·rw[if_pos hx]
   cases hs:ar c s with
   |nil=>grind[lU]
   |cons w ws=>grind
  grind
def yD {α β:Type}{c:UInt8}{f:av->Option α}{g:av->Option β}{s:av}(h:ar c.toNat s= [s]):DW c f g s=none:=by unfold DW;rw[h];rfl
def yE {α β:Type}{c:UInt8}{f:av->Option α}{g:av->Option β}(hg: ∀s,(∃y∈s,y=c)->g s=none){s a b:av}(h:ar c.toNat s=a::ar c.toNat b):
  DW c f g s=(f a).bind λx=>(g b).map λy=>(x,y):=by
 unfold DW;rw[h];by_cases hb: ∃y∈b,y=c
 ·obtain⟨y,hy,e⟩:=hb;obtain⟨p,q,r,e2⟩:=acU hy (aP UInt8.toNat e);rw[e2,hg b ⟨y,hy,e⟩];cases f a<;>rfl
 ·rw[TB λy hy e=>hb ⟨y,hy,CU.1 e⟩];rfl
def oE {α β:Type}{p:Option α}{q:Option β}:((p.bind λx=>q.map λy=>(x,y)).isSome =(p.isSome&&q.isSome))/\∀z,(p.bind λx=>q.map λy=>(x,y))=some z->p=some z.1/\q=some z.2:=by
 cases p<;>cases q<;>refine⟨rfl,?_⟩<;>rintro⟨z1,z2⟩ h<;>simp at h
 grind
def JQ {s:av}{c:UInt8}(h:c=47\/c=32\/c=59)(hs: ∃y∈s,y=c):wN false 4 s=none:=by
 obtain⟨y,hy,rfl⟩:=hs
 cases hw:wN false 4 s with
 |none=>rfl
 |some n=>
  have:=DT hw y hy;unfold dp at this;exfalso;rcases h with rfl|rfl|rfl<;>revert this<;>decide
def alz {s:av}(hs: ∃y∈s,y=(32:UInt8)):uS s=none:=by
 obtain⟨y,hy,rfl⟩:=hs;obtain⟨w,hw,h2⟩:=JP (c:=47) hy K9;unfold uS DW;rw[show(47:UInt8).toNat =47 from rfl];generalize ar 47 s=l at*
 match l,hw with
 | [],hw=>rfl
 | [a],hw=>rfl
 | [a,b],hw=>
  have hn:=JQ (s:=w) (c:=32) (.inr (.inl rfl)) ⟨32,h2,rfl⟩;simp only[dh,mV,mY]at hw;rcases hw with rfl|rfl
  ·show(wN false 4 w).bind _=none
   grind
  ·show(wN false 4 a).bind (λx=>(wN false 4 w).map λy=>(x,y))=none;simp_all
 |a::b::c::r,hw=>rfl
def fQ {α:Type}(f:av->Option α):List av->Option (List α)
 | []=>some []
 |s::r=>match f s,fQ f r with
  |some n,some t=>some (n::t)
  |_,_=>none
variable {α:Type}{f:av->Option α}
theorem yF (a b:List av):fQ f (a++b)=match fQ f a,fQ f b with
  |some x,some y=>some (x++y)
  |_,_=>none:=by
 induction a with
 |nil=>show fQ f b=_;cases fQ f b<;>rfl
 |cons s a ih=>
  grind[fQ]
theorem DY (s:av):fQ f [s]=(f s).map λn=>[n]:=by
 show(match f s,some []with|some n,some t=>some (n::t)|_,_=>none)=_;cases f s<;>rfl
theorem uT {l:List av}{i:Nat}(h:i<l.length){xs:List α}(hx:fQ f (l.take i)=some xs){n:α}(hn:f (l.getD i [])=some n):fQ f (l.take (i+1))=some (xs++[n]):=by grind[wJ,yF,DY]
theorem tM {l:List av}{i:Nat}(h:i<l.length)(hn:f (l.getD i [])=none):fQ f l=none:=by
 have hs:l=l.take i++([l.getD i []]++l.drop (i+1)):=by simp_all
 grind[yF,fQ]
theorem yG: ∀ {l:List av} {xs:List α},fQ f l=some xs->xs.length=l.length
 | [],xs,h=>by grind[fQ]
 |s::r,xs,h=>by
  unfold fQ at h;split at h
  ·rename_i n t h1 h2;have:xs=n::t:=by grind
   rw[this,kF,kF,yG h2]
  grind
end Go.Plain
namespace Go.Plain
open Go.Lib
def bC:List av->Option (Int × List Int)
 | []=>some (0,[])
 |w::r=>match wN false 7 w,fQ (fP 7) r with
  |some a,some b=>some (a,b)
  |_,_=>none
def Bl (w:av)(r:List av):bC (w::r)=(wN false 7 w).bind λa=>(fQ (fP 7) r).map λb=>(a,b):=by
 show(match wN false 7 w,fQ (fP 7) r with|some a,some b=>some (a,b)|_,_=>none)=_;cases wN false 7 w<;>cases fQ (fP 7) r<;>rfl
def Qe {ws:List av}{st:Int}{l:List Int}(h:bC ws=some (st,l)):l.length<=ws.length:=by
 unfold bC at h
 grind[yG]
def Bm {ws:List av}(h:0<ws.length){n:Int}(hn:wN false 7 (ws.getD 0 [])=some n):bC (ws.take 1)=some (n,[]):=by
 cases ws with
 |nil=>grind
 |cons w r=>
  have Lk:wN false 7 w=some n:=hn;show bC [w]=_;rw[Bl,Lk];rfl
def Bn {ws:List av}{i:Nat}(h0:0<i)(h:i<ws.length){st:Int}{l:List Int}(hx:bC (ws.take i)=some (st,l)){n:Int}(hn:fP 7 (ws.getD i [])=some n):bC (ws.take (i+1))=some (st,l++[n]):=by
 cases ws with
 |nil=>grind
 |cons w r=>
  obtain⟨j,rfl⟩: ∃j,i=j+1:=⟨i -1,by omega⟩;have h':j<r.length:=by grind
  have AO:(match wN false 7 w,fQ (fP 7) (r.take j)with|some a,some b=>some (a,b)|_,_=>none)=some (st,l):=hx;have Lk:fP 7 (r.getD j [])=some n:=by grind
  show(match wN false 7 w,fQ (fP 7) (r.take (j+1))with|some a,some b=>some (a,b)|_,_=>none)=_
  grind[uT]
def DZ {ws:List av}{i:Nat}(h:i<ws.length)(hn:(if i=0 then wN false 7 (ws.getD i [])else fP 7 (ws.getD i []))=none):bC ws=none:=by
 cases ws with
 |nil=>grind
 |cons w r=>
  rw[Bl];by_cases h0:i=0
  grind
  ·obtain⟨j,rfl⟩: ∃j,i=j+1:=⟨i -1,by omega⟩;rw[if_neg h0]at hn
   grind[tM,wN]
abbrev MS:Type:=Int × Int × Int × Int
def bY (ws:List av):Option (Int × MS × List MS):=match wN false 4 (ws.getD 0 []),fQ Bk (ws.drop 1)with
 |some e,some (q::ch)=>some (e,q,ch)
 |_,_=>none
def HL {ws:List av}(h:wN false 4 (ws.getD 0 [])=none):bY ws=none:=by grind[bY]
def D0 {ws:List av}(h:fQ Bk (ws.drop 1)=none):bY ws=none:=by grind[bY]
def D1 {ws:List av}(h:fQ Bk (ws.drop 1)=some []):bY ws=none:=by grind[bY]
def Bp {ws:List av}{e:Int}{q:MS}{ch:List MS}(h1:wN false 4 (ws.getD 0 [])=some e)(h2:fQ Bk (ws.drop 1)=some (q::ch)):bY ws=some (e,q,ch):=by grind[bY]
def HM {sg:Bool}{d:Nat}{s:av}{n:Int}(hd:d<=18)(h:wN sg d s=some n):DR n:=by
 obtain⟨_,_,_,h4⟩:=fV hd (iB h).1;exact h4
theorem Ag {α β:Type}{c:UInt8}{f:av->Option α}{g:av->Option β}{s:av}{z:α × β}(h:DW c f g s=some z):(∃a,f a=some z.1)/\∃b,g b=some z.2:=by
 unfold DW at h;generalize ar c.toNat s=l at*
 match l,h with
 | [a,b],h=>
  obtain⟨h1,h2⟩:=oE.2 z h
  grind
theorem agy {s:av}{p:Int × Int}(h:uS s=some p):DR p.1/\DR p.2:=by
 obtain⟨⟨a,h1⟩,b,h2⟩:=Ag h;exact⟨HM K9 h1,HM K9 h2⟩
def Qf {s:av}{q:MS}(h:Bk s=some q):DR q.1/\DR q.2.1/\DR q.2.2.1/\DR q.2.2.2:=by
 obtain⟨z,hz,rfl⟩:=my.1 h
 grind[Ag,agy]
def yH {α:Type}{f:av->Option α}{P:α->Prop}(hP: ∀s x,f s=some x->P x): ∀ {l:List av} {xs:List α},fQ f l=some xs->∀x∈xs,P x
 | [],xs,h=>by grind[fQ]
 |s::r,xs,h=>by
  unfold fQ at h;split at h
  ·rename_i n t h1 h2;have:xs=n::t:=by grind
   subst this;intro x hx;rcases dh.1 hx with rfl|hx
   grind
   ·exact yH hP h2 x hx
  grind
def frS (a b:Int):av:=itoa a++[47]++itoa b
def HN (q:MS):av:=frS q.1 q.2.1++[32]++frS q.2.2.1 q.2.2.2
theorem Zk (s:av):(trimPrefix s [45]).length <=s.length:=by grind[trimPrefix]
def q4 (q:MS):Prop:=(0<=q.1/\q.1<=9999)/\(0<=q.2.1/\q.2.1<=9999)/\(0<=q.2.2.1/\q.2.2.1<=9999)/\0<=q.2.2.2/\q.2.2.2<=9999
abbrev aj:=List UInt8
def okc (j:Nat)(c:UInt8):Prop:=((97<=c.toNat/\c.toNat<=122)\/(65<=c.toNat/\c.toNat<=90))\/(j≠0/\(c.toNat=45\/(48<=c.toNat/\c.toNat<=57)))
def Qg (s:aj)(i:Nat):Prop:=∀j<i,okc j (s.getD j 0)
def eK (s:aj):Prop:=(1<=s.length/\s.length<=12)/\Qg s s.length
instance (s:aj):Decidable (eK s):=by unfold eK Qg okc;infer_instance
def Ah {s:aj}{i:Nat}(h:Qg s i)(k:okc i (s.getD i 0)):Qg s (i+1):=λj hj=>by
 by_cases e:j=i
 grind
 ·exact h j K0
def Qh {s:aj}{i:Nat}(h:i<s.length)(k: ¬okc i (s.getD i 0)): ¬eK s:=λn=>k (n.2 i h)
def VB (f:Nat->Int):Nat->Nat->Int × Int
 |0,_=>(0,0)
 |n+1,i=>if f i≠0 then((i:Int),f i)else VB f n (i+1)
def cN (f:Nat->Int)(n:Nat):Int × Int:=VB f n 0
def TC {f:Nat->Int}: ∀ {n i k:Nat},i<=k->k<i+n->(∀j,i<=j->j<k->f j=0)->f k≠0->VB f n i=((k:Int),f k)
 |0,i,k,h1,h2,_,_=>by omega
 |n+1,i,k,h1,h2,h3,h4=>by
  unfold VB;by_cases e:i=k
  grind
  ·rw[if_neg bq];exact TC K0 K0 (λj h5 h6=>h3 j K0 h6) h4
def TD {f:Nat->Int}: ∀ {n i:Nat},(∀j,i<=j->j<i+n->f j=0)->VB f n i=(0,0)
 |0,_,_=>rfl
 |n+1,i,h=>by
  unfold VB;rw[if_neg bq];exact TD λj h1 h2=>h j K0 K0
theorem fJ {f:Nat->Int}{n k:Nat}(h:k<n)(h0: ∀j<k,f j=0)(h1:f k≠0):cN f n=((k:Int),f k):=TC (dM _) K0 (λj _ hj=>h0 j hj) h1
theorem gT {f:Nat->Int}{n:Nat}(h: ∀j<n,f j=0):cN f n=(0,0):=TD λj _ hj=>h j K0
def all_succ {f:Nat->Int}{i:Nat}(h: ∀j<i,f j=0)(k:f i=0): ∀j<i+1,f j=0:=λj hj=>by grind
def tO (f:Nat->Int): ∀n:Nat,(∀j<n,f j=0)\/∃k,k<n/\(∀j<k,f j=0)/\f k≠0
 |0=>.inl λj hj=>by omega
 |n+1=>by
  rcases tO f n with h|⟨k,h1,h2,h3⟩
  grind
  grind
theorem oF {f:Nat->Int}{n:Nat}(h:(cN f n).2=0): ∀j<n,f j=0:=by
 rcases tO f n with h'|⟨k,h1,h2,h3⟩;omega
 ·rw[fJ h1 h2 h3]at h;omega
def jr (a b:Int):Int:=if a≠0 then a else b
theorem jj (b:Int):jr 0 b=b:=by grind[jr]
theorem eS {a:Int}(h:a≠0)(b:Int):jr a b=a:=if_pos h
def vU {a b:Int}:jr a b=0↔a=0/\b=0:=by
 unfold jr
 grind
def oV (a b:Int × Int):Int × Int:=if a.2≠0 then a else b
noncomputable def jI (s:aj):Int:=if eK s then 0 else 4
noncomputable def gW (l:List aj)(i:Nat):Int:=jr (jI (l.getD i [])) (if l.getD i []∈l.take i then 5 else 0)
def D2 (l all:List aj)(k:Nat):Int:=if l.getD k []∈all then(if l.getD k []∈l.take k then 23 else 0)else 6
def jT (l all:List aj):Int:=(cN (D2 l all) l.length).2
structure Ts where
 name:aj
 kind:Int
 bu:List aj
 rules:aj
 lo:Int
 hi:Int
structure Pl where
 ae:List (aj × Int)
 ap:List aj
 aa:List Ts
 parts:List (aj × List aj)
 dY:Int
 eH:Int
def dk:Ts:=⟨[],0,[],[],0,0⟩
def Pl.ay (p:Pl):List aj:=p.ae.map Prod.fst
def Pl.bd (p:Pl):List aj:=p.parts.map Prod.fst
def nj (k:Int):Prop:=k=1\/k=2
instance (k:Int):Decidable (nj k):=by unfold nj;infer_instance
def cL (l:List Ts):List aj:=l.map Ts.name
def Zl (lo hi:Int):Int:=if((-1000000000000000<=lo/\lo<=1000000000000000)/\ -1000000000000000<=hi/\hi<=1000000000000000)then(if lo<=hi then 0 else 9)else 2
def Qi (l:List Ts)(t:Ts):Int:=if t.kind=2 then(if t.bu.length=0 then 10 else if(l.getD (aZ (cL l) (t.bu.getD 0 [])).toNat dk).kind =1 then 0 else 3)else 0
def VC (re:aj->Int)(l:List Ts)(i:Nat):Int:=
 let t:=l.getD i dk
 jr (if 0<=t.kind/\t.kind<=3 then 0 else 15) (jr (jT t.bu ((cL l).take i)) (jr (Qi l t) (jr (if nj t.kind then re t.rules else if t.rules= []then 0 else 7) (Zl t.lo t.hi))))
noncomputable def Pl.du (p:Pl)(i:Nat):Int:=jr (gW p.ay i) (if 0<=(p.ae.getD i ([],0)).2/\(p.ae.getD i ([],0)).2<=3 then 0 else 15)
noncomputable def Pl.gK (re:aj->Int)(p:Pl)(i:Nat):Int:=jr (gW (cL p.aa) i) (VC re p.aa i)
noncomputable def Pl.je (p:Pl)(i:Nat):Int:=jr (gW p.bd i) (jT (p.parts.getD i ([],[])).2 (cL p.aa))
def pL (n ahm:Nat):Int:=if 0<n then(if n<=ahm then 0 else 8)else 10
def ky (n ahm:Nat):Int:=if n<=ahm then 0 else 8
noncomputable def Pl.err (re:aj->Int)(p:Pl):Int × Int:=
 oV (0,pL p.ae.length 8) (oV (cN p.du p.ae.length) (oV (0,pL p.ap.length 4) (oV (cN (gW p.ap) p.ap.length)
  (oV (0,ky p.aa.length 8) (oV (cN (p.gK re) p.aa.length) (oV (0,ky p.parts.length 6) (oV (cN p.je p.parts.length)
   (0,if(0<=p.dY/\p.dY<=1000)/\0<=p.eH/\p.eH<=1000000000000 then 0 else 2))))))))
def HO (voids:List aj)(out:List aj)(t:Ts):List aj:=if t.name∈voids\/∃n∈t.bu,n∈out then out++[t.name]else out
def jk (l:List Ts)(voids:List aj):List aj:=l.foldl (HO voids) []
def Bq {l:List Ts}{voids:List aj}{i:Nat}(h:i<l.length):jk (l.take (i+1)) voids=HO voids (jk (l.take i) voids) (l.getD i dk):=by grind[jk,List.take_add_one]
def rF (l:List Ts)(voids:List aj):(jk l voids).length <=l.length:=by
 have: ∀(l:List Ts) (out:List aj),(l.foldl (HO voids) out).length <=out.length+l.length:=by
  intro l
  induction l with
  |nil=>grind
  |cons t l ih=>
   grind[HO]
 have h:=this l [];simp only[zR,j8]at h;exact h
def getD_at {α:Type}{l:List α}{i:Nat}{d:α}(h:i<l.length):l.getD i d=l[i]:=by grind
def iM {l:List aj}{i:Nat}{x:aj}(h:i<l.length):x∈l.take (i+1)↔x∈l.take i\/x=l.getD i []:=by grind[List.take_add_one]
def rH {l:List Ts}{i:Nat}(h:i<l.length):(cL l).getD i []=(l.getD i dk).name :=by grind[cL]
def Zm (l:List Ts)(i:Nat):cL (l.take i)=(cL l).take i:=by simp[cL,List.map_take]
end Go.Plain
namespace Go.Proofs.Tryz
open Go.Fw Go.IntWalk
abbrev I (n:Int):SV:=(false,[.lit (.int .i64 n)])
abbrev Bo (b:Bool):SV:=(false,[.lit (.bool b)])
abbrev vI (n:Int):Option DV:=some (.val (false,[.st (.lit (.int .i64 n))]))
abbrev J (n:Int):SC:=.lit (.int .i64 n)
abbrev F2 (a b:Int):SV:=(true,[J a,J b])
def VD {l:List Int}{i:Nat}(h:i<l.length):(SC.ints l).elem (i:Int).toNat =some [J l[i]]:=by simp[SC.elem,h]
def vV {a b:Int}(h:a=b):ma.one (I a)= .one (I b):=by rw[h]
def m9 {a b:Bool}(h:a=b):ma.one (Bo a)= .one (Bo b):=by rw[h]
def Zn {a b c d:Int}(h:a=c)(h':b=d):ma.one (F2 a b)= .one (F2 c d):=by rw[h,h']
def TE (n:Int):Prop:= -9223372036854775807<=n/\n<=9223372036854775807
def pW (n:Int):Prop:= -9223372036854775808<=n/\n<=9223372036854775807
def TE.i {n:Int}(h:TE n):pW n:=⟨by have:=h.1;omega,h.2⟩
def TE.ne {n:Int}(h:TE n):n≠ -9223372036854775808:=by have:=h.1;omega
def eo (n lo hi:Int):ac 50 [I n,I lo,I hi] (.one (Bo (decide (lo<=n)&&decide (n<=hi)))):=by
 refine sF f50 ?_;repeat(first|refine oP rfl ?_|(refine rG (λ_ h=>h) ?_;conv=>whnf)|(refine oN ?_;conv=>whnf)|refine aS ?_|(refine aR ?_;conv=>whnf))
 refine Jl rfl rfl rfl (λh=>?_) (λh=>?_)<;>(try conv=>whnf)<;>(repeat(first|refine oP rfl ?_|(refine rG (λ_ h=>h) ?_;conv=>whnf)|(refine oN ?_;conv=>whnf)|(refine aT ?_;conv=>whnf)|refine oY rfl rfl rfl ?_|(refine oZ rfl rfl rfl ?_;conv=>whnf)))
 ·simp[h,Bo]
 ·simp[h,Bo]
def Zp (n:Int)(h0: -9223372036854775807<=n)(h1:n<=9223372036854775807):ac 328 [I n] (.one (I n.natAbs)):=by
 refine sF f328 ?_;repeat(first|refine oP rfl ?_|(refine rG (λ_ h=>h) ?_;conv=>whnf)|(refine oN ?_;conv=>whnf)|refine aS ?_|(refine aR ?_;conv=>whnf)|(refine aT ?_;conv=>whnf))
 have e:IntKind.i64.wrap (0 -n)= -n:=by rw[i64_in _ K0];omega
 show ma.one (false,[SC.lit (Value.int .i64 (if IntKind.i64.wrap (0 -n)>n then IntKind.i64.wrap (0 -n)else n))])=_;rw[e];have:(if -n>n then -n else n)=n.natAbs:=by split<;>omega
 rw[this]
def JR (a b:Int)(ha:pW a)(hb:TE b)(R0:a= -9223372036854775808->b≠0):ac 295 [I a,I b] (.one (I (Int.gcd a b))):=by
 refine sF f295 ?_;repeat(first|refine oP rfl ?_|(refine rG (λ_ h=>h) ?_;conv=>whnf)|(refine oN ?_;conv=>whnf)|refine aS ?_|(refine aR ?_;conv=>whnf)|refine aB ?_|refine aL ?_)
 refine af (ι:=Int × Int) (λp=>Int.gcd p.1 p.2=Int.gcd a b/\pW p.1/\TE p.2/\(p.1= -9223372036854775808->p.2≠0)) (λp=>p.2.natAbs) (λp=>⟨[(0,vI p.1),(1,vI p.2)],[],0⟩) (a,b)
  (fB (ks:=[0,1]) (m:=[]) (n:=0) rfl) ⟨rfl,ha,hb,R0⟩ ?_
 rintro⟨x,y⟩ ⟨hg,hx,hy,hxy⟩;simp only at hg hx hy hxy;repeat(first|refine oP rfl ?_|(refine rG (λ_ h=>h) ?_;conv=>whnf)|(refine oN ?_;conv=>whnf)|refine aS ?_|(refine aR ?_;conv=>whnf)|refine aC rfl ?_)
 (refine ox (λh=>?_) (λh=>?_))<;>(try conv=>whnf)<;>(repeat(first|refine oP rfl ?_|(refine rG (λ_ h=>h) ?_;conv=>whnf)|refine aS ?_|(refine aR ?_;conv=>whnf)|(refine aK ?_;conv=>whnf)|(refine aX ?_;conv=>whnf)|refine aB ?_))
 ·have h:(y != 0)=true:=h;have fh:y≠0:=by simpa using h
  refine rG (λ_ h=>⟨fh,h⟩) ?_;(conv=>whnf);repeat(first|refine oP rfl ?_|(refine rG (λ_ h=>h) ?_;conv=>whnf)|(refine oN ?_;conv=>whnf)|(refine dI dl ?_;conv=>whnf))
  have hy1:=hy.1;have hy2:=hy.2;refine⟨(y,x.tmod y),⟨?_,⟨by simp only;omega,hy2⟩,?_,λe=>absurd e af8⟩,?_,fB (ks:=[0,1]) (m:=[]) (n:=0) rfl⟩
  ·exact K61
  ·have h1:(x.tmod y).natAbs =x.natAbs%y.natAbs:=G2 _ _;have h2:x.natAbs%y.natAbs<y.natAbs:=s6 _ K0;exact ajm
  ·show(x.tmod y).natAbs <y.natAbs;rw[G2];exact s6 _ K0
 ·have h:(y != 0)=false:=h;have h0:y=0:=by simpa using h
  subst h0;have GW:=hx.1;have hx2:=hx.2;have hx3:x≠ -9223372036854775808:=λe=>hxy e rfl;refine rG (λ_ h=>⟨_,Zp x K0 hx2,h⟩) ?_;(conv=>whnf);repeat(first|refine oP rfl ?_|(refine rG (λ_ h=>h) ?_;conv=>whnf)|(refine oN ?_;conv=>whnf)|(refine aT ?_;conv=>whnf))
  exact vV (by rw[<- hg];simp)
open Go.Plain
abbrev T (l:List UInt8):SC:=.lit (.string (B l))
abbrev K (b:Bool):SC:=.lit (.bool b)
abbrev V1 (l:List aj):SV:=(false,[.view (ab l)])
def mF {a b:Int}(h:a=b):ma.one (I a)= .one (I b):=by rw[h]
def gX {a b:Bool}(h:a=b):ma.one (Bo a)= .one (Bo b):=by rw[h]
def sA {l:List aj}{i:Nat}(h:i<l.length):(ab l)[i]? =some [.lit (.string (B (l.getD i [])))]:=by grind
def JS {s:aj}{i:Nat}(h:i<s.length):(kS (B s))[i]? =some [.lit (.int .u8 (((s.getD i 0).toNat :Nat):Int))]:=by grind[kS,jK]
def uU (s:aj):(kS (B s)).length =s.length:=by simp[kS,jK]
def MT (n lo hi:Int):ac 66 [I n,I lo,I hi] (.one (Bo (decide (lo<=n)&&decide (n<=hi)))):=by
 refine sF f66 ?_;repeat' ((first|refine tX 0 ?_|exact Zt|refine bR ?_ ?_<;>intro h)<;>(try conv=>whnf))
 all_goals exact gX wA
def bZ (b:Bool)(e:Int):ac 54 [Bo b,I e] (.one (I (if b=true then 0 else e))):=by
 refine sF f54 ?_
 (try(refine tX 0 ?_;try exact Zt))
 cases b
 ·exact K1
 ·exact K1
def iS {b:Bool}{p:Prop} [BP b p] [Decidable p](e:Int):ac 54 [Bo b,I e] (.one (I (if p then 0 else e))):=by
 have h:=bZ b e
 grind[BP.iff]
def bG {b:Bool}{p:Prop} [BP b p](hp: ¬p)(e:Int):ac 54 [Bo b,I e] (.one (I e)):=by
 have h:=bZ b e;exact afL
def aN {b:Bool}{p:Prop} [BP b p](hp:p)(e:Int):ac 54 [Bo b,I e] (.one (I 0)):=by
 have h:=bZ b e;exact afV
def oG (l:List Int)(hl:l.length<=1000000):ac 52 [(false,[.ints l])] (.one (I (fs l))):=by
 have hd: ∀i,i<l.length->fs (l.drop i)=if l.getD i 0≠0 then l.getD i 0 else fs (l.drop (i+1)):=λi hi=>by grind[List.drop_eq_getElem_cons,fs]
 refine sF f52 ?_
 (try(refine tX 0 ?_;try exact Zt))
 refine af (ι:=Nat) (λi=>i<=l.length/\fs (l.drop i)=fs l) (λi=>l.length -i) (λi=>⟨[(5,some (.val (false,[.st (.ints l)]))),(6,vI l.length),(7,vI i)],[],0⟩) 0 Zc ⟨dM _,rfl⟩ ?_;rintro i ⟨hi,he⟩;by_cases ak:i<l.length
 ·have h1:=hd i ak;by_cases hz:l.getD i 0=0
  ·rw[if_neg K0]at h1;exact K66
  ·rw[if_pos hz]at h1;repeat' ((first|refine tX 0 ?_|exact Zt|refine bR ?_ ?_<;>intro h)<;>(try conv=>whnf))
   all_goals first
    |(exfalso;omega)
    |exact mF K0
 ·exact K57
def Zr {l:List aj}{i:Nat}(h:i<l.length):(ab l)[i]? =some [T (l.getD i [])]:=sA h
def cX (l:List aj)(x:aj)(hl:l.length<=1000000):ac 19 [V1 l,SS x] (.one (Bo (decide (x∈l)))):=by
 have hn:(ab l).length =l.length:=by simp
 refine sF f19 ?_
 (try(refine tX 0 ?_;try exact Zt))
 refine af (ι:=Nat) (λi=>i<=l.length/\x∉l.take i) (λi=>l.length -i) (λi=>⟨[(0,some (.val (false,[.st (.view (ab l))]))),(1,lS x),(5,vI i)],[],0⟩) 0 Zc ⟨dM _,by simp⟩ ?_;rintro i ⟨hi,dy⟩;by_cases ak:i<l.length
 ·have he:=Zr ak;have hm:=iM (x:=x) ak;have B8:l.getD i []∈l:=by grind
  repeat' ((first|refine tX 0 ?_|exact Zt|refine bR ?_ ?_<;>intro h)<;>(try conv=>whnf))
  all_goals first
   |(exact gX (fG (by rw[<- h];exact B8)).symm)
   |exact⟨i+1,⟨ak,λhh=>(hm.1 hh).elim dy λe=>h e.symm⟩,by omega,Zc⟩
   |(exfalso;omega)
 ·obtain rfl:i=l.length:=by omega
  rw[mW]at dy;repeat' ((first|refine tX 0 ?_|exact Zt|refine bR ?_ ?_<;>intro h)<;>(try conv=>whnf))
  all_goals first
   |(exfalso;omega)
   |exact gX (eU dy).symm
def Ai (l:List (List UInt8))(x:List UInt8)(hl:l.length<=1000000):ac 93 [(false,[.view (ab l)]),SS x] (.one (I (aZ l x))):=by
 have hn:(ab l).length =l.length:=by simp
 refine sF f93 ?_
 (try(refine tX 0 ?_;try exact Zt))
 refine af (ι:=Nat) (λi=>i<=l.length/\x∉l.take i) (λi=>l.length -i) (λi=>⟨[(0,some (.val (false,[.st (.view (ab l))]))),(1,lS x),(7,vI l.length),(8,vI i)],[],0⟩) 0 (ai PD) ⟨dM _,by simp⟩ ?_;rintro i ⟨hi,dy⟩;by_cases ak:i<l.length
 ·have he:=sA ak;have hg:l.getD i []=l[i]:=by grind
  by_cases hx:x=l.getD i []
  ·have e:aZ l x=i:=Tz ak bq dy;rw[e];repeat' ((first|refine tX 0 ?_|exact Zt|refine bR ?_ ?_<;>intro h)<;>(try conv=>whnf))
   all_goals first|(exact rfl)|(exact absurd hx h)
  ·have aho:x∉l.take (i+1):=by
    rw[CK,oX ak]
    grind
   repeat' ((first|refine tX 0 ?_|exact Zt|refine bR ?_ ?_<;>intro h)<;>(try conv=>whnf))
   all_goals first|(exact absurd h hx)|(exact⟨i+1,⟨ak,aho⟩,by omega,Zc⟩)
 ·obtain rfl:i=l.length:=by omega
  have e:aZ l x= -1:=eN bq;rw[e];exact K1
def bD (l:List aj)(x:aj)(hl:l.length<=1000000):ac 55 [V1 l,SS x] (.one (Bo (decide (x∈l)))):=by
 have hi:=Ai l x hl;refine sF f55 ?_
 (try(refine tX 0 ?_;try exact Zt))
 refine gX ?_;rw[vt];simp only[wv];unfold aZ
 grind
end Go.Proofs.Tryz
namespace Go.Plain
open Go.Lib
structure Rs where
 test:aj
 ans:Int
 entry:Int
 void:Bool
structure Gs where
 h:Int
 m:Int
 e:Int
 y:Int
 a:Int
structure Win where
 k1:Int
 t1:Int
 s1:Int
 r1:Bool
 k2:Int
 t2:Int
 s2:Int
 r2:Bool
 st:Int
def wi0:Win:=⟨0,0,0,false,0,0,0,false,0⟩
structure Un where
 name:aj
 win:Win
 lots:List aj
 res:List Rs
 failed:Bool
 rel:Bool
 shaken:Bool
 used:Int
 gas:List Gs
def pX:Un:=⟨[],wi0,[],[],false,false,false,0,[]⟩
structure bQ where
 volt:Bool
 earth:Bool
 opens:List aj
 hall:aj
 lots:List aj
 units:List Un
structure En where
 t:Int
 lu:aj
 text:aj
def gm:bQ:=⟨false,true,[],[],[],[]⟩
def sJ (t:aj)(r:Rs):Bool:=(r.test==t)&& !r.void
def iN (l:List Rs)(t:aj):Option Rs:=l.reverse.find? (sJ t)
def BW:Rs:=⟨[],0,0,false⟩
def bH (l:List Rs)(t:aj):Bool:=match iN l t with
 |some r=>r.ans==2
 |none=>false
def tQ (p:Pl)(l:List Rs):List aj:=(cL p.aa).filter λt=> !bH l t
def iV (l:List Rs)(t:Ts):Bool:=t.bu.all λn=>bH l n
def cT (s:bQ):List aj:=s.units.map Un.name
def gY (s:bQ)(n:aj):Int:=aZ (cT s) n
def TF (s:bQ)(lot:aj):List aj:=(s.units.filter λu=>decide (lot∈u.lots)).map Un.name
structure qp where
 pu:aj->Win × Int
 ev:List En->Un->Ts->aj->Int × Int
structure Vb where
 role:Int
 words:Nat
 pZ:Nat
 rest:Bool
def kf:List (aj × Vb):=[
 ([110,111,116,101],⟨0,0,0,true⟩),
 ([108,111,116],⟨1,1,0,false⟩),
 ([117,110,105,116],⟨1,1,0,true⟩),
 ([117,115,101],⟨1,2,0,false⟩),
 ([111,112,101,110],⟨2,1,0,false⟩),
 ([115,104,117,116],⟨2,1,0,false⟩),
 ([101,97,114,116,104],⟨2,0,0,false⟩),
 ([108,105,102,116],⟨2,0,0,false⟩),
 ([118,111,108,116,97,103,101],⟨2,0,0,false⟩),
 ([111,102,102],⟨2,0,0,false⟩),
 ([101,110,116,101,114],⟨1,1,0,false⟩),
 ([108,101,97,118,101],⟨1,1,0,false⟩),
 ([116,101,115,116],⟨2,2,0,true⟩),
 ([114,101,112,97,105,114],⟨1,2,0,false⟩),
 ([114,101,108,101,97,115,101],⟨3,1,0,false⟩),
 ([115,104,111,99,107],⟨1,2,1,false⟩),
 ([105,110,115,112,101,99,116],⟨2,1,0,false⟩),
 ([108,111,97,100],⟨1,3,2,false⟩),
 ([103,97,115],⟨1,6,5,false⟩)]
def jJ (w:aj):Nat:=(kf.map Prod.fst).idxOf w
def vb (k:Nat):Vb:=(kf.getD k ([],⟨0,0,0,false⟩)).2
def Zu (g:Gs):Prop:=((0<=g.h/\g.h<=1000000)/\(0<=g.m/\g.m<=1000000))/\(0<=g.e/\g.e<=1000000)/\(0<=g.y/\g.y<=1000000)/\0<=g.a/\g.a<=1000000
instance (g:Gs):Decidable (Zu g):=by unfold Zu;infer_instance
def Zv (d t:Int):Prop:=(0<=d/\d<=200)/\0<=t/\t<=100000
instance (d t:Int):Decidable (Zv d t):=by unfold Zv;infer_instance
def Zw (d t:Int):Int:=if Zv d t then(if d<80 then 0 else 2^((d -80)/6).toNat *t)else 0
def aI (E:qp)(p:Pl)(log:List En)(s:bQ)(u:Un)(k:Nat)(a:List aj)(n:List Int)(rest:aj):Un × Int:=
 match k with
 |3=>if a.getD 1 []∈s.lots then(if u.rel then(u,20)else if a.getD 1 []∈u.lots then(u,23)else({u with lots:=u.lots++[a.getD 1 []]},0))else(u,6)
 |10=>if u.rel then(u,20)else if s.hall= []then(if s.opens= []then(u,24)else(u,0))else(u,17)
 |11=>if s.hall=u.name then(if s.opens= []then(u,24)else(u,0))else(u,20)
 |12=>if 0<=aZ (cL p.aa) (a.getD 1 [])then
   (let t:=p.aa.getD (aZ (cL p.aa) (a.getD 1 [])).toNat dk
    if s.hall=u.name/\u.failed=false then(if bH u.res t.name then(u,23)else if iV u.res t=false then(u,14)else if decide (t.kind=0)=s.volt then(u,24)else
     if(E.ev log u t rest).2=0 then({u with res:=u.res++[⟨t.name,(E.ev log u t rest).1,log.length,false⟩],failed:=decide ((E.ev log u t rest).1=0)},0)else(u,(E.ev log u t rest).2))else(u,20))
   else(u,6)
 |13=>if 0<=aZ p.bd (a.getD 1 [])then(if u.rel then(u,20)else if s.hall=u.name/\s.opens= []then(u,24)else
   ({u with res:=u.res.map λr=>{r with void:=r.void || decide (r.test∈jk p.aa (p.parts.getD (aZ p.bd (a.getD 1 [])).toNat ([],[])).2)},failed:=false},0))else(u,6)
 |14=>if u.rel then(u,20)else if s.hall=u.name then(u,17)else if tQ p u.res= []then({u with rel:=true},0)else(u,14)
 |15=>if u.rel then(if n.getD 0 0<=1000 then({u with shaken:=u.shaken || decide (n.getD 0 0>p.dY)},0)else(u,2))else(u,20)
 |16=>if u.shaken then({u with shaken:=false},0)else(u,20)
 |17=>if u.rel then(if u.shaken then(u,24)else if Zv (n.getD 0 0) (n.getD 1 0)then(if u.used+Zw (n.getD 0 0) (n.getD 1 0)<=p.eH then({u with used:=u.used+Zw (n.getD 0 0) (n.getD 1 0)},0)else(u,22))else(u,2))else(u,20)
 |18=>if u.rel then(let g:Gs:=⟨n.getD 0 0,n.getD 1 0,n.getD 2 0,n.getD 3 0,n.getD 4 0⟩;if Zu g then(if u.gas.length<10 then({u with gas:=u.gas++[g]},0)else(u,16))else(u,2))else(u,20)
 |_=>(u,0)
noncomputable def ba (E:qp)(p:Pl)(log:List En)(s:bQ)(k:Nat)(a:List aj)(n:List Int)(rest:aj):bQ × Int:=
 match k with
 |0=>(s,0)
 |1=>if eK (a.getD 0 [])then(if a.getD 0 []∈s.lots then(s,5)else if s.lots.length<12 then({s with lots:=s.lots++[a.getD 0 []]},0)else(s,16))else(s,4)
 |2=>if eK (a.getD 0 [])then(if a.getD 0 []∈cT s then(s,5)else if s.units.length<6 then(if(E.pu rest).2=0 then({s with units:=s.units++[{pX with name:=a.getD 0 [],win:=(E.pu rest).1}]},0)else(s,(E.pu rest).2))else(s,16))else(s,4)
 |4=>if a.getD 0 []∈p.ap then(if a.getD 0 []∈s.opens then(s,20)else if s.volt=false/\s.earth=true then({s with opens:=s.opens++[a.getD 0 []]},0)else(s,24))else(s,6)
 |5=>if a.getD 0 []∈p.ap then(if a.getD 0 []∈s.opens then({s with opens:=s.opens.erase (a.getD 0 [])},0)else(s,20))else(s,6)
 |6=>if s.earth then(s,20)else if s.volt then(s,24)else({s with earth:=true},0)
 |7=>if s.earth then(if s.opens= []then({s with earth:=false},0)else(s,24))else(s,20)
 |8=>if s.volt then(s,20)else if s.opens= []/\s.earth=false then({s with volt:=true},0)else(s,24)
 |9=>if s.volt then({s with volt:=false},0)else(s,20)
 |_=>if 0<=gY s (a.getD 0 [])then
   (let i:=(gY s (a.getD 0 [])).toNat
    let r:=aI E p log s (s.units.getD i pX) k a n rest
    ({s with units:=s.units.set i r.1,hall:=if r.2=0 then(if k=10 then(s.units.getD i pX).name else if k=11 then []else s.hall)else s.hall},r.2))
   else(s,6)
def jl:List aj->Option (List Int)
 | []=>some []
 |s::r=>match wN false 7 s,jl r with
  |some n,some t=>some (n::t)
  |_,_=>none
def bP:Nat->aj->aj
 |0,s=>s
 |n+1,s=>bP n (s.drop ((ar 32 s).getD 0 []).length.succ)
def dU (v:Vb)(text:aj):Option (List aj × List Int × aj):=
 let ws:=ar 32 text
 if(v.rest=true/\ws.length<v.words+2)\/(v.rest=false/\ws.length≠v.words+1)\/[]∈ws.take (v.words+1)then none
 else(jl ((ws.take (v.words+1)).drop (v.words+1 -v.pZ))).map λn=>((ws.take (v.words+1)).drop 1,n,if v.rest then bP (v.words+1) text else [])
def aU (s:aj):Prop:=∀j<s.length,32<=(s.getD j 0).toNat /\(s.getD j 0).toNat <=126
instance (s:aj):Decidable (aU s):=by unfold aU;infer_instance
def il (l:List En):Int:=match l.getLast? with
 |some e=>e.t
 |none=>0
noncomputable def pl (E:qp)(p:Pl)(log:List En)(s:bQ)(e:En):bQ × Int:=
 if aZ p.ay e.lu<0 then(s,6)else
 if ¬(0<=e.t/\e.t<=1000000000000)then(s,2)else
 if e.t<il log then(s,9)else
 if 400<e.text.length then(s,8)else
 if ¬aU e.text then(s,3)else
 if 19<=jJ ((ar 32 e.text).getD 0 [])then(s,7)else
 if(p.ae.getD (aZ p.ay e.lu).toNat ([],0)).2< (vb (jJ ((ar 32 e.text).getD 0 []))).role then(s,18)else
 match dU (vb (jJ ((ar 32 e.text).getD 0 []))) e.text with
 |none=>(s,7)
 |some (a,n,rest)=>ba E p log s (jJ ((ar 32 e.text).getD 0 [])) a n rest
end Go.Plain
namespace Go.Proofs.Tryz
open Go.Fw Go.IntWalk
abbrev vL (l:List Int):Option DV:=some (.val (false,[.st (.ints l)]))
def JV {n g:Int}(hn:TE n)(_:0<g)(hd:g∣n):IntKind.i64.wrap (n.tdiv g)=n/g:=by
 rw[Int.tdiv_eq_ediv_of_dvd hd];have h1:=hn.1;have h2:=hn.2;have:=XL n g;exact i64_in _ K0
def Qp (n d:Int)(hn:TE n)(hd:0<d/\d<=9223372036854775807):ac 371 [I n,I d] (.one (F2 (n/Int.gcd n d) (d/Int.gcd n d))):=by
 have hg:(0:Int)<Int.gcd n d:=ajB;refine sF f371 ?_;repeat(first|refine oP rfl ?_|(refine rG (λ_ h=>h) ?_;conv=>whnf)|(refine oN ?_;conv=>whnf)|refine aS ?_|(refine aR ?_;conv=>whnf))
 refine rG (λ_ h=>⟨_,JR n d hn.i ⟨by omega,by omega⟩ (λe=>absurd e hn.ne),h⟩) ?_;(conv=>whnf);repeat(first|refine oP rfl ?_|(refine rG (λ_ h=>h) ?_;conv=>whnf)|(refine oN ?_;conv=>whnf)|refine aS ?_|(refine aR ?_;conv=>whnf)|refine aC rfl ?_)
 (refine ox (λh=>?_) (λh=>?_))<;>(try conv=>whnf)<;>(repeat(first|refine oP rfl ?_|(refine rG (λ_ h=>h) ?_;conv=>whnf)|(refine oN ?_;conv=>whnf)|refine aS ?_|(refine aR ?_;conv=>whnf)|(refine aK ?_;conv=>whnf)))
 ·have h:decide (d<0)=true:=h;simp at h;omega
 ·refine rG (λ_ h=>⟨SY hg,h⟩) ?_;(conv=>whnf);repeat(first|refine oP rfl ?_|(refine rG (λ_ h=>h) ?_;conv=>whnf))
  refine rG (λ_ h=>⟨SY hg,h⟩) ?_;(conv=>whnf);repeat(first|refine oP rfl ?_|(refine rG (λ_ h=>h) ?_;conv=>whnf)|(refine oN ?_;conv=>whnf)|(refine aT ?_;conv=>whnf)|(refine dI dl ?_;conv=>whnf))
  exact aiT
def nE (n d:Int)(hn:pW n)(hd:pW d):ac 268 [F2 n d] (.one (Bo (decide (0<d/\Int.gcd n d=1)))):=by
 refine sF f268 ?_;repeat(first|refine oP rfl ?_|(refine rG (λ_ h=>h) ?_;conv=>whnf)|(refine oN ?_;conv=>whnf)|refine aS ?_|(refine aR ?_;conv=>whnf))
 (refine Jl rfl rfl rfl (λh=>?_) (λh=>?_))<;>(try conv=>whnf)<;>(repeat(first|refine oP rfl ?_|(refine rG (λ_ h=>h) ?_;conv=>whnf)|(refine oN ?_;conv=>whnf)|(refine aT ?_;conv=>whnf)|refine oY rfl rfl rfl ?_|(refine oZ rfl rfl rfl ?_;conv=>whnf)))
 ·have h:decide (d>0)=true:=h;simp at h;have:=hd.2;refine rG (λ_ h=>⟨_,JR n d hn ⟨by omega,by omega⟩ (λ_=>by omega),h⟩) ?_;(conv=>whnf);repeat(first|refine oP rfl ?_|(refine rG (λ_ h=>h) ?_;conv=>whnf)|(refine oN ?_;conv=>whnf)|(refine aT ?_;conv=>whnf)|refine oY rfl rfl rfl ?_)
  exact m9 (by rw[vt];simp[h];omega)
 ·have h:decide (d>0)=false:=h;simp at h;exact m9 wA
abbrev F4 (a b c d:Int):SV:=(true,[J a,J b,J c,J d])
end Go.Proofs.Tryz
namespace Go.Fw
open Go.IntWalk
end Go.Fw
namespace Go.Proofs.Tryz
open Go.Fw Go.IntWalk
end Go.Proofs.Tryz
namespace Go.Plain
theorem Ak {α:Type}{l:List α}{i:Nat}{d:α}(h:i<l.length):l.take (i+1)=l.take i++[l.getD i d]:=by simp_all
def qx {α:Type}{l:List α}{i:Nat}{d:α}(h:i<l.length):l.getD i d∈l:=by grind
theorem nV {α:Type}{l:List α}{i:Nat}{d:α}(h:i<l.length):l.drop i=l.getD i d::l.drop (i+1):=by simp_all
def vW {α:Type}{n:Nat}{f:Nat->α}:(List.range (n+1)).map f=(List.range n).map f++[f n]:=by simp[List.range_succ]
def alC (l:List Int)(k:Nat):Int:=(l.take k).sum
def rs (a b:List Int)(k:Nat):Int:=alC a k+alC b k
def iZ (l:List Int)(lo hi:Int):Prop:=∀n∈l,lo<=n/\n<=hi
instance (l:List Int)(lo hi:Int):Decidable (iZ l lo hi):=inferInstanceAs (Decidable (∀n∈l,lo<=n/\n<=hi))
def HT (a b:List Int):Int:=
 if 0<a.length/\a.length=b.length then if a.length<=15 then if iZ a (-100) 100 then if iZ b (-100) 100 then if a.sum+b.sum=0 then 0 else 13 else 2 else 2 else 8 else 10
structure VW (a b:List Int):Prop where
 len:b.length=a.length
 pos:0<a.length
 le:a.length<=15
 ra: ∀n∈a,-100<=n/\n<=100
 rb: ∀n∈b,-100<=n/\n<=100
 sum:a.sum+b.sum=0
def D3 {a b:List Int}:HT a b=0↔VW a b:=by
 unfold HT;constructor
 ·intro h
  (repeat' split at h)<;>first|omega|skip
  rename_i h1 h2 h3 h4 h5;exact⟨by omega,by omega,by omega,h3,h4,by omega⟩
 ·intro h;have:=h.len;have:=h.pos;have:=h.le;rw[if_pos K0,if_pos K0,if_pos (show iZ a (-100) 100 from h.ra),if_pos (show iZ b (-100) 100 from h.rb),if_pos h.sum]
instance (a b:List Int):Decidable (VW a b):=decidable_of_iff _ D3
end Go.Plain
namespace Go.Proofs.Tryz
open Go.Fw Go.IntWalk Go.Plain
abbrev L (l:List Int):SV:=(false,[.ints l])
abbrev W2 (a b:List Int):SV:=(true,[.ints a,.ints b])
def Gj (l:List Int)(g:FuncId)(first:List (Bool × List SC))(bI:List (List SC))(p:Int->Bool)(hp: ∀n,ac g (first++[I n]++bI.map λcs=>(false,[.ref cs])) (.one (Bo (p n))))(hl:l.length<=maxLen):
  ac 267 [L l,(false,[.fn g first bI])] (.one (I (if l.any p then(l.findIdx p:Int)else -1))):=by
 unfold maxLen at hl;refine sF f267 ?_
 (try(refine tX 0 ?_;try exact Zt))
 refine af (ι:=Nat) (λi=>i<=l.length/\∀j<i,p (l.getD j 0)=false) (λi=>l.length -i) (λi=>⟨[(0,vL l),(1,some (.val (false,[.st (.fn g first bI)]))),(7,vI l.length),(8,vI i)],[],0⟩) 0 Zc ⟨dM _,by intro j hj;omega⟩ ?_;rintro i ⟨hi,hf⟩
 (try(refine tX 0 ?_;try exact Zt))
 (refine bR ?_ ?_<;>intro h<;>(try conv=>whnf))<;>((try(refine tX 0 ?_;try exact Zt)))
 ·have ak:i<l.length:=by omega
  repeat((first|(refine kO 7 rfl ?_;first|refine Rq (hp _) ?_)|refine tX 0 ?_|exact Zt);(try conv=>whnf))
  have iQ:l.getD i 0=l[i]:=by simp[jP,ak]
  (refine bR ?_ ?_<;>intro h<;>(try conv=>whnf))<;>((try(refine tX 0 ?_;try exact Zt)))
  ·have ahF:l.any p=true:=G1.2 ⟨l.getD i 0,qx ak,h⟩;refine vV ?_;rw[if_pos ahF]
   have:l.findIdx p=i:=by
    rw[X7 ak];refine⟨by rw[<- iQ];exact h,λj hj=>?_⟩;have:=hf j hj;simpa [jP,show j<l.length by omega]using this
   rw[this]
  ·refine⟨i+1,⟨ak,λj hj=>?_⟩,by omega,Zc⟩;by_cases e:j=i
   ·subst e;simpa using h
   ·exact hf j K0
 ·refine vV ?_;rw[if_neg];intro ahF;obtain⟨x,hx,hpx⟩:=G1.1 ahF;obtain⟨j,hj,rfl⟩:=CI.1 hx;have:=hf j K0;simp[jP,hj,hpx]at this
def Al (l:List Int)(g:FuncId)(first:List (Bool × List SC))(bI:List (List SC))(p:Int->Bool)(hp: ∀n,ac g (first++[I n]++bI.map λcs=>(false,[.ref cs])) (.one (Bo (p n))))(hl:l.length<=maxLen):
  ac 264 [L l,(false,[.fn g first bI])] (.one (Bo (l.any p))):=by
 refine sF f264 ?_;repeat' ((first|(refine kO 7 rfl ?_;first|refine rG (λ_ z=>⟨_,Gj l g first bI p hp hl,z⟩) ?_)|refine tX 0 ?_|exact Zt|refine bR ?_ ?_<;>intro h)<;>(try conv=>whnf))
 refine m9 ?_;cases l.any p
 ·simp
 ·simp
def acV {l:List Int}{lo hi:Int}:(l.any λn=> !(decide (lo<=n)&&decide (n<=hi)))=decide (¬iZ l lo hi):=by
 rw[vt,wv];rw[G1];unfold iZ;constructor
 ·rintro⟨x,hx,h⟩ hh;have:=hh x hx;simp at h;omega
 ·intro h;apply Pw;intro hn;refine h λn hm=>?_;apply Pw;intro hc;exact hn ⟨n,hm,by simp;omega⟩
abbrev pP (id:Nat):Option DV:=some (bm (.ptr id 0))
abbrev pO (id:Nat):Option DV:=some (bm (.own id))
end Go.Proofs.Tryz
namespace Go.Plain
end Go.Plain
namespace Go.Proofs.Tryz
open Go.Fw Go.IntWalk Go.Plain
end Go.Proofs.Tryz
namespace Go.Plain
def mx (a b:Int):Int:=if b>a then b else a
end Go.Plain
namespace Go.Proofs.Tryz
open Go.Fw Go.IntWalk Go.Plain
def IQ (x:Int):Prop:= -1000000000<=x/\x<=1000000000
def agz:(6,Lib.pow10Tab.map λz=>SC.lit (.int .u64 z))∈cx.gl:=jv (i:=4) dl
def Qq:(1,[SC.num .i64])∈cx.gl:=jv (i:=1) dl
def agA:(2,[SC.err])∈cx.gl:=jv (i:=2) dl
def agB:(3,[SC.err])∈cx.gl:=jv (i:=3) dl
def tU (n:Int)(h:pW n):ac 99 [I n] (.one (SS (Lib.itoa n))):=Y8 XD dl (g:=6) dl agz n h
def tV (s:List UInt8)(hl:s.length<=1000000){v:Int}(h:Lib.atoiAll s= .ok v):ac 98 [SS s] (.aJ [I v,(false,[.lit .nilIface])]):=acO Ln dl s hl h
def pp (s:List UInt8)(hl:s.length<=1000000)(h: ∀v,Lib.atoiAll s≠ .ok v): ∃v,ac 98 [SS s] (.aJ [I v,(false,[.err])]):=Y9 Ln dl agA agB s hl h
def gh (s:List UInt8)(c:UInt8)(hl:s.length<=1000000):ac 67 [SS s,SS [c]] (.aJ [SS (Lib.cut s [c]).1,SS (Lib.cut s [c]).2.1,Bo (Lib.cut s [c]).2.2]):=acP abI dl Qq s c hl
def kZ (s p:List UInt8):ac 207 [SS s,SS p] (.one (SS (Lib.trimPrefix s p))):=DM abH dl s p
def Am (s:List UInt8)(c:UInt8)(hl:s.length<=1000000)(bA:(CE s c).length =Lib.countB (B s) (B [c])+1):ac 57 [SS s,SS [c]] (.own 1 (.view (ab (CE s c)))):=HJ Sb dl dl Qq s c hl bA
def TH (n:Int)(h: -1000000<=n/\n<=1000000):ac 328 [I n] (.one (I (n.natAbs:Nat))):=by
 have e:(if -n>n then -n else n)=((n.natAbs:Nat):Int):=by split<;>omega
 rw[<- e];refine sF f328 ?_;exact K1
end Go.Proofs.Tryz
namespace Go.Proofs.Tryz
open Go.Fw Go.IntWalk
def yL (a b:Int)(ha:pW a)(hb:TE b)(R0:a= -9223372036854775808->b≠0):ac 261 [I a,I b] (.one (I (Int.gcd a b))):=by
 refine sF f261 ?_;repeat(first|refine oP rfl ?_|(refine rG (λ_ h=>h) ?_;conv=>whnf)|(refine oN ?_;conv=>whnf)|refine aS ?_|(refine aR ?_;conv=>whnf)|refine aB ?_|refine aL ?_)
 refine af (ι:=Int × Int) (λp=>Int.gcd p.1 p.2=Int.gcd a b/\pW p.1/\TE p.2/\(p.1= -9223372036854775808->p.2≠0)) (λp=>p.2.natAbs) (λp=>⟨[(0,vI p.1),(1,vI p.2)],[],0⟩) (a,b)
  (fB (ks:=[0,1]) (m:=[]) (n:=0) rfl) ⟨rfl,ha,hb,R0⟩ ?_
 rintro⟨x,y⟩ ⟨hg,hx,hy,hxy⟩;simp only at hg hx hy hxy;repeat(first|refine oP rfl ?_|(refine rG (λ_ h=>h) ?_;conv=>whnf)|(refine oN ?_;conv=>whnf)|refine aS ?_|(refine aR ?_;conv=>whnf)|refine aC rfl ?_)
 (refine ox (λh=>?_) (λh=>?_))<;>(try conv=>whnf)<;>(repeat(first|refine oP rfl ?_|(refine rG (λ_ h=>h) ?_;conv=>whnf)|(refine oN ?_;conv=>whnf)|refine aS ?_|(refine aR ?_;conv=>whnf)|(refine aK ?_;conv=>whnf)|(refine aX ?_;conv=>whnf)|refine aB ?_|(refine aT ?_;conv=>whnf)))
 ·have h:(y != 0)=true:=h;have fh:y≠0:=by simpa using h
  refine rG (λ_ h=>⟨fh,h⟩) ?_;(conv=>whnf);repeat(first|refine oP rfl ?_|(refine rG (λ_ h=>h) ?_;conv=>whnf)|(refine oN ?_;conv=>whnf)|(refine dI dl ?_;conv=>whnf))
  have hy1:=hy.1;have hy2:=hy.2;refine⟨(y,x.tmod y),⟨?_,⟨by simp only;omega,hy2⟩,?_,λe=>absurd e af8⟩,?_,fB (ks:=[0,1]) (m:=[]) (n:=0) rfl⟩
  ·exact K61
  ·have h1:(x.tmod y).natAbs =x.natAbs%y.natAbs:=G2 _ _;have h2:x.natAbs%y.natAbs<y.natAbs:=s6 _ K0;exact ajm
  ·show(x.tmod y).natAbs <y.natAbs;rw[G2];exact s6 _ K0
 ·have h:(y != 0)=false:=h;have h0:y=0:=by simpa using h
  subst h0;have GW:=hx.1;have hx2:=hx.2;have hx3:x≠ -9223372036854775808:=λe=>hxy e rfl;have e:IntKind.i64.wrap (0 -x)= -x:=by rw[i64_in _ K0];omega
  show ma.one (I (if IntKind.i64.wrap (0 -x)>x then IntKind.i64.wrap (0 -x)else x))=ma.one (I (Int.gcd a b));refine vV ?_;rw[<- hg,e];have:(if -x>x then -x else x)=x.natAbs:=by split<;>omega
  rw[this];simp
def mH (b:Bool)(e:Int):ac 211 [Bo b,I e] (.one (I (if b then 0 else e))):=by
 refine sF f211 ?_;repeat(first|refine oP rfl ?_|(refine rG (λ_ h=>h) ?_;conv=>whnf)|(refine oN ?_;conv=>whnf)|refine aS ?_|(refine aR ?_;conv=>whnf)|refine aC rfl ?_)
 (refine ox (λh=>?_) (λh=>?_))<;>(try conv=>whnf)<;>(repeat(first|refine oP rfl ?_|(refine rG (λ_ h=>h) ?_;conv=>whnf)|(refine oN ?_;conv=>whnf)|refine aS ?_|(refine aR ?_;conv=>whnf)|(refine aK ?_;conv=>whnf)|(refine aT ?_;conv=>whnf)))
 ·exact vV U0
 ·exact vV U0
def Qr (l:List Int)(hl:l.length<=1000000):ac 210 [(false,[.ints l])] (.one (I ((l.find? (· ≠0)).getD 0))):=by
 refine sF f210 ?_;repeat(first|refine oP rfl ?_|(refine rG (λ_ h=>h) ?_;conv=>whnf)|(refine oN ?_;conv=>whnf)|refine aS ?_|(refine aR ?_;conv=>whnf)|refine aB ?_|refine aL ?_)
 refine af (ι:=Nat) (λi=>i<=l.length/\l.find? (· ≠0)=(l.drop i).find? (· ≠0)) (λi=>l.length -i) (λi=>⟨[(5,vL l),(6,vI l.length),(7,vI i)],[],0⟩) 0
  (fB (ks:=[5,6,7]) (m:=[]) (n:=0) rfl) ⟨dM _,rfl⟩ ?_
 rintro i ⟨hi,hf⟩;repeat(first|refine oP rfl ?_|(refine rG (λ_ h=>h) ?_;conv=>whnf)|(refine oN ?_;conv=>whnf)|refine aS ?_|(refine aR ?_;conv=>whnf)|refine aC rfl ?_)
 (refine ox (λh=>?_) (λh=>?_))<;>(try conv=>whnf)<;>(repeat(first|refine oP rfl ?_|(refine rG (λ_ h=>h) ?_;conv=>whnf)|(refine oN ?_;conv=>whnf)|refine aS ?_|(refine aR ?_;conv=>whnf)|(refine aK ?_;conv=>whnf)|(refine aX ?_;conv=>whnf)|refine aB ?_|(refine aT ?_;conv=>whnf)))
 ·have ak:i<l.length:=by simpa using h
  have hd:l.drop i=l[i]::l.drop (i+1):=XK ak;refine rG (λ_ h=>⟨Int.natCast_nonneg i,[J l[i]],VD ak,rfl,h⟩) ?_;(conv=>whnf);repeat(first|refine oP rfl ?_|(refine rG (λ_ h=>h) ?_;conv=>whnf)|(refine oN ?_;conv=>whnf)|refine aS ?_|(refine aR ?_;conv=>whnf)|refine aC rfl ?_)
  (refine ox (λh=>?_) (λh=>?_))<;>(try conv=>whnf)<;>(repeat(first|refine oP rfl ?_|(refine rG (λ_ h=>h) ?_;conv=>whnf)|(refine oN ?_;conv=>whnf)|refine aS ?_|(refine aR ?_;conv=>whnf)|(refine aK ?_;conv=>whnf)|(refine aT ?_;conv=>whnf)))
  ·have h:(l[i] != 0)=true:=h;exact vV (by simp at h;rw[hf,hd,List.find?_cons_of_pos UY];rfl)
  ·have h:(l[i] != 0)=false:=h;refine⟨i+1,⟨ak,?_⟩,by omega,fB (ks:=[5,6,7]) (m:=[]) (n:=0) ?_⟩
   ·rw[hf,hd];simp at h;simp[h]
   ·have e:IntKind.i64.wrap (i+1)=((i+1:Nat):Int):=by rw[i64_in _ K0];simp
    rw[<- e];rfl
 ·have h:decide ((i:Int)<l.length)=false:=h;have:i=l.length:=by simp at h;omega
  subst this;exact vV (by rw[hf];simp)
def Br (n d:Int)(hn:TE n)(hd:0<d/\d<=9223372036854775807):ac 350 [I n,I d] (.one (F2 (n/Int.gcd n d) (d/Int.gcd n d))):=by
 have hg:(0:Int)<Int.gcd n d:=ajB;refine sF f350 ?_;repeat(first|refine oP rfl ?_|(refine rG (λ_ h=>h) ?_;conv=>whnf)|(refine oN ?_;conv=>whnf)|refine aS ?_|(refine aR ?_;conv=>whnf))
 refine rG (λ_ h=>⟨_,yL n d hn.i ⟨by omega,by omega⟩ (λe=>absurd e hn.ne),h⟩) ?_;(conv=>whnf);repeat(first|refine oP rfl ?_|(refine rG (λ_ h=>h) ?_;conv=>whnf)|(refine oN ?_;conv=>whnf)|refine aS ?_|(refine aR ?_;conv=>whnf))
 refine rG (λ_ h=>⟨SY hg,h⟩) ?_;(conv=>whnf);repeat(first|refine oP rfl ?_|(refine rG (λ_ h=>h) ?_;conv=>whnf))
 refine rG (λ_ h=>⟨SY hg,h⟩) ?_;(conv=>whnf);repeat(first|refine oP rfl ?_|(refine rG (λ_ h=>h) ?_;conv=>whnf)|(refine oN ?_;conv=>whnf)|(refine aT ?_;conv=>whnf)|(refine dI dl ?_;conv=>whnf))
 exact aiT
open Go.Plain
def dt (n lo hi:Int):ac 50 [I n,I lo,I hi] (.one (Bo (decide (lo<=n/\n<=hi)))):=by
 have:=eo n lo hi;rwa [<- X8]at this
end Go.Proofs.Tryz
namespace Go.Plain
def ZE {l:List Int}{lo hi:Int}(h: ∀j<l.length,lo<=l.getD j 0/\l.getD j 0<=hi):iZ l lo hi:=by
 intro n hn;obtain⟨j,hj,rfl⟩:=CI.1 hn
 grind
def VK {l:List Int}{lo hi:Int}{j:Nat}(hj:j<l.length)(h: ¬(lo<=l.getD j 0/\l.getD j 0<=hi)): ¬iZ l lo hi:=λha=>h (ha _ (qx hj))
def Bal (a b:List Int)(n:Nat):Prop:=∀j<n,a.getD j 0= -b.getD j 0
instance (a b:List Int)(n:Nat):Decidable (Bal a b n):=inferInstanceAs (Decidable (∀j<n,a.getD j 0= -b.getD j 0))
def fu (n d:Int):Int:=n/Int.gcd n d
def eE (n d:Int):Int:=d/Int.gcd n d
def MZ {n d:Int}(hd:0<d):(0:Int)<Int.gcd n d:=by grind[Int.gcd_pos_of_ne_zero_right]
def Qs (n d:Int):n=Int.gcd n d*fu n d:=by grind[fu,Int.mul_ediv_cancel',Int.gcd_dvd_left]
def Qt (n d:Int):d=Int.gcd n d*eE n d:=by grind[eE,Int.mul_ediv_cancel',Int.gcd_dvd_right]
def wM {n d:Int}(hd:0<d):0<eE n d:=by
 have h1:=MZ (n:=n) hd;have h2:=Qt n d;rcases Int.lt_or_le 0 (eE n d)with h|h;omega
 ·have:=CO (Int.le_of_lt h1) (show 0<= -eE n d by omega)
  grind
def Gk {n d:Int}(hn:0<=n):0<=fu n d:=LN hn K0
def agC {n d:Int}(hn:0<=n)(hd:0<d):fu n d<=n/\eE n d<=d:=by
 unfold fu eE;have h1:=XL n (Int.gcd n d);have h2:=XL d (Int.gcd n d);omega
def Qu (p q r s:Int):Int:=if p*s<r*q then -1 else if p*s>r*q then 1 else 0
end Go.Plain
namespace Go.Proofs.Tryz
open Go.Fw Go.IntWalk Go.Plain
set_option maxHeartbeats 16000000
def M2 (p q:Int):ac 377 [F2 p q] (.one (Bo (decide ((-1000000000<=p/\p<=1000000000)/\1<=q/\q<=1000000000)))):=by
 refine sF f377 ?_;repeat' ((first|(refine kO 7 rfl ?_;first|refine Rq (dt _ _ _) ?_)|refine tX 0 ?_|exact Zt|refine bR ?_ ?_<;>intro h)<;>(try conv=>whnf))
 ·refine m9 ?_;simp[h]
 ·refine m9 ?_;simp[h]
theorem JW (p q r s:Int)(h1: -4611686018427387904<=p*s/\p*s<=4611686018427387903)(h2: -4611686018427387904<=r*q/\r*q<=4611686018427387903):ac 269 [F2 p q,F2 r s] (.one (I (Qu p q r s))):=by
 unfold Qu;refine sF f269 ?_;repeat' ((first|refine tX 0 ?_|exact Zt|refine bR ?_ ?_<;>intro h)<;>(try conv=>whnf))
 ·rw[if_pos h]
 ·rw[if_neg K0,if_pos h]
 ·rw[if_neg K0,if_neg K0]
end Go.Proofs.Tryz
namespace Go.Plain
def D4 (a:Int){b:Int}(_hb:0<b):(a.tdiv b).natAbs <=a.natAbs:=by
 rw[Int.natAbs_tdiv];exact Nat.div_le_self _ _
def M4 (a:Int){b:Int}(hb:0<b):a/b=if a.tmod b<0 then a.tdiv b -1 else a.tdiv b:=by
 have h1:=Int.tmod_lt_of_pos a hb;have h2:=Int.lt_tmod_of_pos a hb;have h3:=Int.mul_tdiv_add_tmod a b;split
 ·exact((LD hb (r:=a.tmod b+b) (q:=a.tdiv b -1)).2 ⟨by grind,by omega,by omega⟩).1
 ·exact((LD hb (r:=a.tmod b) (q:=a.tdiv b)).2 ⟨by omega,by omega,by omega⟩).1
def D5 (a:Int){b:Int}(_hb:0<b): -(a.natAbs:Int)<=a/b/\a/b<=a.natAbs:=by
 have:=XL a b;omega
def acX {x:Int}(h:x<0):x.sign= -1:=aev h
def TK (n d:Int):n/d*d=n -n%d:=by grind[Int.ediv_mul_add_emod]
def agD {n d m k:Int}(hd:0<d)(hk:0<k)(h:n/d<m/k):(n*k -m*d).sign = -1:=by
 refine acX ?_;have h1:n< (n/d+1)*d:=by rw[Int.add_mul,TK];have:=Ly n hd;omega
 have h2:m/k*k<=m:=by rw[TK];have:=CN m (show k≠0 by omega);omega
 have h3:n*k< (n/d+1)*d*k:=Sd h1 hk;have h4:m/k*k*d<=m*d:=XG h2 K0;have h5:(n/d+1)*(d*k)<=m/k*(d*k):=XG K0 (Int.le_of_lt (Int.mul_pos hd hk))
 grind
def ZG {n d m k:Int}(hd:0<d)(hk:0<k)(h:n/d>m/k):(n*k -m*d).sign =1:=by
 have:=agD hk hd h
 grind
def acY (n d:Int):(fu n d).natAbs <=n.natAbs:=by grind[fu,Int.natAbs_ediv_le_natAbs]
def agE {n d:Int}(hd:0<d):eE n d<=d:=by
 unfold eE;have:=XL d (Int.gcd n d:Int);omega
def VP (x:Int):(x.sign=0↔x=0)/\(x.sign=1↔0<x)/\(x.sign= -1↔x<0)/\(x.sign=0\/x.sign=1\/x.sign= -1):=by grind
def aW:List Int->Int
 | []=>0
 |x::l=>x+1000000000*aW l
def Dg (l:List Int):Prop:=∀x∈l,0<=x/\x<1000000000
def be (n:Nat):List Int:=if h:n=0 then []else((n%1000000000:Nat):Int)::be (n/1000000000)
termination_by n
decreasing_by omega
theorem df:be 0= []:=by grind[be]
theorem qA {n:Nat}(h:n≠0):be n=((n%1000000000:Nat):Int)::be (n/1000000000):=by
 conv=>lhs;unfold be
 grind
abbrev pw (n:Nat):Int:=(1000000000:Int)^n
def acZ:pw 0=1:=rfl
def pq (n:Nat):pw (n+1)=pw n*1000000000:=Int.pow_succ _ _
def Qw (n:Nat):0<pw n:=Int.pow_pos K9
theorem bp (n:Nat):aW (be n)=n:=by
 induction n using Nat.strongRecOn with
 |_ n ih=>
  grind[df,qA,aW]
def cZ (n:Nat):Dg (be n):=by
 induction n using Nat.strongRecOn with
 |_ n ih=>
  by_cases h:n=0
  ·subst h;rw[df];intro x hx;grind
  ·rw[qA h];intro x hx;rcases dh.1 hx with rfl|hx
   ·omega
   ·exact ih _ (Nat.div_lt_self K0 K9) x hx
def Qx:Dg []:=by intro x hx;grind
def Dg.tail {x:Int}{l:List Int}(h:Dg (x::l)):Dg l:=λy hy=>h y (i8 _ hy)
def Dg.take {l:List Int}(h:Dg l)(n:Nat):Dg (l.take n):=λy hy=>h y (FU hy)
def Dg.drop {l:List Int}(h:Dg l)(n:Nat):Dg (l.drop n):=λy hy=>h y (PA hy)
theorem Dg.get {l:List Int}(h:Dg l)(i:Nat):0<=l.getD i 0/\l.getD i 0<1000000000:=by
 by_cases hi:i<l.length
 ·exact h _ (qx hi)
 grind
def mI {l:List Int}(h:Dg l):0<=aW l:=by
 induction l with
 |nil=>simp[aW]
 |cons x l ih=>
  have:=h x ja;have:=ih h.tail
  grind[aW]
theorem Bt (l l':List Int):aW (l++l')=aW l+pw l.length*aW l':=by
 induction l with
 |nil=>simp[aW,pw]
 |cons x l ih=>
  simp only[qR,aW,ih,kF,pq]
  grind
theorem u5 (l:List Int)(x:Int):aW (l++[x])=aW l+pw l.length*x:=by grind[Bt,aW]
def u6 {l:List Int}(h:Dg l):aW l<pw l.length:=by
 induction l with
 |nil=>simp[aW,pw]
 |cons x l ih=>
  have h1:=h x ja;have h2:=ih h.tail
  grind[aW]
theorem tZ {l:List Int}{n:Nat}(h:n<l.length):aW (l.take (n+1))=aW (l.take n)+pw n*l.getD n 0:=by grind[Ak,u5]
def wO (l:List Int)(n:Nat)(h:n<=l.length):aW l=aW (l.take n)+pw n*aW (l.drop n):=by grind[Bt,List.take_append_drop]
def vZ (l:List Int):Prop:=Dg l/\(l= []\/l.getD (l.length -1) 0≠0)
def vZ.tail {x:Int}{l:List Int}(h:vZ (x::l))(hl:l≠[]):vZ l:=by
 refine⟨h.1.tail,.inr ?_⟩;rcases h.2 with h2|h2
 grind
 grind
def VQ {l:List Int}(h:vZ l)(hl:l≠[]):0<aW l:=by
 induction l with
 |nil=>grind
 |cons x l ih=>
  have h1:=h.1 x ja;by_cases he:l= []
  ·subst he;rcases h.2 with h2|h2
   grind
   grind[aW]
  ·have:=ih (h.tail he) he
   grind[aW]
theorem ZH {l:List Int}(h:vZ l):l=be (aW l).toNat :=by
 induction l with
 |nil=>simp[aW,df]
 |cons x l ih=>
  have h1:=h.1 x ja;have hp:=VQ h (by simp);have h0:=mI h.1.tail;have hn:(aW (x::l)).toNat ≠0:=by omega
  rw[qA hn];have ed:aW (x::l)=x+1000000000*aW l:=rfl;have e1:(((aW (x::l)).toNat %1000000000:Nat):Int)=x:=by omega
  have e2:(aW (x::l)).toNat /1000000000=(aW l).toNat :=by omega
  rw[e1,e2];by_cases he:l= []
  grind[aW,df]
  ·rw[<- ih (h.tail he)]
def rK (n:Nat):vZ (be n):=by
 refine⟨cZ n,?_⟩
 induction n using Nat.strongRecOn with
 |_ n ih=>
  grind[be]
def oH (l:List Int):Nat->Nat
 |0=>0
 |n+1=>if l.getD n 0=0 then oH l n else n+1
def Nb (l:List Int): ∀n,oH l n<=n
 |0=>by simp[oH]
 |n+1=>by have:=Nb l n;grind[oH]
def trim (l:List Int):List Int:=l.take (oH l l.length)
def Eb {l:List Int}: ∀ {n:Nat},n<=l.length->aW (l.take (oH l n))=aW (l.take n)
 |0,_=>rfl
 |n+1,h=>by
  unfold oH;split
  ·rename_i h0;rw[Eb (n:=n) K0,tZ K0,h0];simp
  ·rfl
def Ec {l:List Int}: ∀ {n:Nat},oH l n=0\/l.getD (oH l n -1) 0≠0
 |0=>.inl rfl
 |n+1=>by
  unfold oH;split
  ·exact Ec (n:=n)
  grind
def Cn {l:List Int}(h:Dg l):trim l=be (aW l).toNat :=by
 have h1:aW (trim l)=aW l:=by unfold trim;rw[Eb (dz _),mW]
 have h2:vZ (trim l):=by
  refine⟨h.take _,?_⟩;have eB:=Nb l l.length;unfold trim;rcases Ec (l:=l) (n:=l.length)with h3|h3
  grind
  ·by_cases h0:oH l l.length=0
   grind
   grind
 grind[ZH]
def Bu {n k:Nat}(h:(n:Int)<pw k):(be n).length <=k:=by
 induction k generalizing n with
 |zero=>
  have:n=0:=by grind
  grind[df]
 |succ k ih=>
  by_cases h0:n=0
  grind
  grind[qA]
theorem yN {n:Nat}:be n= []↔n=0:=by grind[qA,df]
end Go.Plain
namespace Go.Proofs.Tryz
open Go.Fw Go.IntWalk Go.Plain
def pt (l:List Int)(hl:l.length<=4294967296):ac 391 [L l] (.one (L (trim l))):=by
 refine sF f391 ?_
 (try(refine tX 0 ?_;try exact Zt))
 refine af (ι:=Nat) (λn=>n<=l.length/\oH l n=oH l l.length) (λn=>n) (λn=>⟨[(0,vL l),(3,vI n)],[],0⟩) l.length Zc ⟨dz _,rfl⟩ ?_;rintro n ⟨hn,ht⟩
 cases n with
 |zero=>
  (try(refine tX 0 ?_;try exact Zt))
  unfold trim;rw[<- ht];rfl
 |succ n=>
  have e1:(((n+1:Nat):Int) -1).toNat =n:=by omega
  rw[show oH l (n+1)=if l.getD n 0=0 then oH l n else n+1 from rfl]at ht
  (try(refine tX 0 ?_;try exact Zt))
  try rw[e1]
  (refine bR ?_ ?_<;>intro h<;>(try conv=>whnf))
  ·(try(refine tX 0 ?_;try exact Zt))
   rw[if_pos h]at ht;exact⟨n,⟨by omega,ht⟩,by omega,ai (by rw[show((n+1:Nat):Int) -1=(n:Int)by omega];kernel_rfl)⟩
  ·rw[if_neg h]at ht
   (try(refine tX 0 ?_;try exact Zt))
   unfold trim;rw[<- ht];rfl
abbrev Wd (s:Int)(l:List Int):SV:=(true,[J s,.ints l])
def Bv (s:Int)(l:List Int)(hl:l.length<=4294967296):ac 384 [I s,L l] (.one (Wd (if trim l= []then 0 else s) (trim l))):=by
 have e:((trim l).length :Int)=0↔trim l= []:=by rw[<- CG];omega
 refine sF f384 ?_;repeat((first|(refine kO 7 rfl ?_;first|refine rG (λ_ z=>⟨_,pt l hl,z⟩) ?_)|refine tX 0 ?_|exact Zt);(try conv=>whnf))
 (refine bR ?_ ?_<;>intro h<;>(try conv=>whnf))
 ·(try(refine tX 0 ?_;try exact Zt))
  rw[if_pos (e.1 h)];rfl
 ·(try(refine tX 0 ?_;try exact Zt))
  rw[if_neg (λhh=>h (e.2 hh))];rfl
abbrev wd (x:Int):SV:=Wd x.sign (be x.natAbs)
def oI {s:Int}{l:List Int}(hl:l.length<=4294967296)(hd:Dg l)(hs:s=1\/s= -1):ac 384 [I s,L l] (.one (wd (s*aW l))):=by
 have h:=Bv s l hl;have h0:=mI hd;rw[Cn hd]at h;have e1:(s*aW l).natAbs =(aW l).toNat :=by rcases hs with rfl|rfl<;>omega
 have e2:(if be (aW l).toNat = []then 0 else s)=(s*aW l).sign :=by
  by_cases hz:aW l=0
  ·rw[hz];simp[df]
  ·rw[if_neg (λhh=>by rw[yN]at hh;omega)];rcases hs with rfl|rfl
   ·rw[CX,Int.sign_eq_one_of_pos K0]
   ·rw[aev K0]
 unfold wd;rw[e1,<- e2];exact h
def kg (n:Int)(h: -9223372036854775807<=n/\n<=9223372036854775807):ac 372 [I n] (.one (wd n)):=by
 have key: ∀(s x:Int),(s=1\/s= -1)->0<=x->s*x=n->x<=9223372036854775807->
   ∀(l:List Int) (m:Nat),Dg l/\aW l+pw l.length*m=x->m=0->l.length<=3->ac 384 [I s,L l] (.one (wd n)):=by
  intro s x hs hx hsx hb l m ⟨hd,he⟩ hm hl;subst hm;have:=oI (s:=s) (l:=l) K0 hd hs;rwa [show s*aW l=n by rw[<- hsx,<- he];simp]at this
 have grow: ∀(x:Int) (l:List Int) (m:Nat),Dg l/\aW l+pw l.length*m=x->Dg (l++[(m:Int)%1000000000])/\aW (l++[(m:Int)%1000000000])+pw (l++[(m:Int)%1000000000]).length *((m/1000000000:Nat):Int)=x:=by
  intro x l m ⟨hd,he⟩;refine⟨λy hy=>?_,?_⟩
  ·rcases gC.1 hy with hy|hy
   ·exact hd y hy
   ·simp at hy;subst hy;omega
  ·rw[u5,xI,Sm,pq,<- he];have:(m:Int)=m%1000000000+1000000000*((m/1000000000:Nat):Int):=by omega
   conv=>rhs;rw[this]
   rw[Int.mul_add,LS];omega
 by_cases La:n<0
 ·have hk:=key (-1) (-n) (.inr rfl) K0 K0 K0;refine sF f372 ?_
  (try(refine tX 0 ?_;try exact Zt))
  refine aD ?_
  (try(refine tX 0 ?_;try exact Zt))
  have g0:=grow (-n) [] (-n).toNat ⟨Qx,by simp[aW,pw];omega⟩
  refine af (ι:=List Int × Nat) (λp=>(Dg p.1/\aW p.1+pw p.1.length*p.2= -n)/\p.1.length<=3/\(p.1.length<=1->p.2<=9223372036)/\(p.1.length=2->p.2<=9)/\(p.1.length=3->p.2=0)/\1<=p.1.length) (λp=>p.2) (λp=>⟨[(0,vI p.2),(2,pP 0),(3,vI (-1)),(4,pO 1)],[(0,some (.box 423 [.st (J 0),.nil])),(1,some (.row true 1 (.ints p.1)))],2⟩) ([-n%1000000000],(-n).toNat /1000000000)
   (ai (by rw[show(((-n).toNat /1000000000:Nat):Int)= -n/1000000000 by omega];kernel_rfl)) ⟨by rw[show((-n).toNat :Int)= -n by omega]at g0;exact g0,by simp,by simp;omega,by simp,by simp,by simp⟩ ?_
  rintro⟨l,m⟩ ⟨h1,h2,h3,h4,h5,h6⟩;simp only at h1 h2 h3 h4 h5 h6
  (try(refine tX 0 ?_;try exact Zt))
  (refine bR ?_ ?_<;>intro h<;>(try conv=>whnf))
  ·have g:=grow (-n) l m h1;exact K84
  ·repeat((first|(refine kO 7 rfl ?_;first|refine rG (λ_ z=>⟨_,hk l m h1 K0 h2,z⟩) ?_)|refine tX 0 ?_|exact Zt);(try conv=>whnf))
   rfl
 ·have hk:=key 1 n (.inl rfl) K0 K0 K0;by_cases hz:n=0
  ·subst hz;have hk:=hk [] 0 ⟨Qx,by simp[aW]⟩ rfl (by simp);refine sF f372 ?_
   (try(refine tX 0 ?_;try exact Zt))
   refine aD ?_;exact IX
  ·refine sF f372 ?_
   (try(refine tX 0 ?_;try exact Zt))
   refine aD ?_
   (try(refine tX 0 ?_;try exact Zt))
   have g0:=grow n [] n.toNat ⟨Qx,by simp[aW,pw];omega⟩
   refine af (ι:=List Int × Nat) (λp=>(Dg p.1/\aW p.1+pw p.1.length*p.2=n)/\p.1.length<=3/\(p.1.length<=1->p.2<=9223372036)/\(p.1.length=2->p.2<=9)/\(p.1.length=3->p.2=0)/\1<=p.1.length) (λp=>p.2) (λp=>⟨[(0,vI p.2),(2,pP 0),(3,vI 1),(4,pO 1)],[(0,some (.box 423 [.st (J 0),.nil])),(1,some (.row true 1 (.ints p.1)))],2⟩) ([n%1000000000],n.toNat/1000000000)
    (ai (by rw[show((n.toNat/1000000000:Nat):Int)=n/1000000000 by omega];kernel_rfl)) ⟨by rw[show(n.toNat:Int)=n by omega]at g0;exact g0,by simp,by simp;omega,by simp,by simp,by simp⟩ ?_
   rintro⟨l,m⟩ ⟨h1,h2,h3,h4,h5,h6⟩;simp only at h1 h2 h3 h4 h5 h6
   (try(refine tX 0 ?_;try exact Zt))
   (refine bR ?_ ?_<;>intro h<;>(try conv=>whnf))
   ·have g:=grow n l m h1;exact K84
   ·repeat((first|(refine kO 7 rfl ?_;first|refine rG (λ_ z=>⟨_,hk l m h1 K0 h2,z⟩) ?_)|refine tX 0 ?_|exact Zt);(try conv=>whnf))
    rfl
end Go.Proofs.Tryz
namespace Go.Plain
def fW (l:List Int)(n:Nat):aW (l.take (n+1))=aW (l.take n)+pw n*l.getD n 0:=by grind[tZ,List.take_of_length_le]
def Co {m n:Nat}(h:m<=n):pw m<=pw n:=by
 induction n with
 |zero=>grind
 |succ n ih=>
  grind
def wP (x y:Nat):Int:=if x<y then -1 else if y<x then 1 else 0
def ZI {l:List Int}(h:vZ l)(hl:l≠[]):pw (l.length -1)<=aW l:=by
 have fN:0<l.length:=Lx.2 hl;have h1:=wO l (l.length -1) K0;have h2:l.drop (l.length -1)= [l.getD (l.length -1) 0]:=by grind[nV]
 rw[h2]at h1
 have h3:l.getD (l.length -1) 0≠0:=by
  rcases h.2 with h3|h3
  grind
  omega
 have h4:=h.1.get (l.length -1);have h5:=mI (h.1.take (l.length -1));have h6:=Qw (l.length -1);have h7:pw (l.length -1)*1<=pw (l.length -1)*l.getD (l.length -1) 0:=XH K0 K0;simp only[aW]at h1
 grind
def Qy {a b:List Int}(ha:vZ a)(hb:vZ b)(h:a.length<b.length):aW a<aW b:=by
 have h1:=u6 ha.1;have h2:=ZI hb bq;have h3:=Co (show a.length<=b.length -1 by omega);omega
def ZJ {a b:List Int}(ha:Dg a)(hb:Dg b){i:Nat}(h:a.length=b.length)(hi:i<a.length)(ht:a.drop (i+1)=b.drop (i+1))(ak:a.getD i 0<b.getD i 0):aW a<aW b:=by
 have h1:=wO a i K0;have h2:=wO b i K0;rw[nV (d:=0) hi]at h1;rw[nV (d:=0) (show i<b.length by omega)]at h2;rw[ht]at h1;simp only[aW]at h1 h2;generalize aW (List.drop (i+1) b)=z at*;have h3:=u6 (ha.take i);have e:(a.take i).length =i:=by grind
 rw[e]at h3;have h4:=mI (hb.take i);have h5:=Qw i;have h6:pw i*(a.getD i 0+1+1000000000*z)<=pw i*(b.getD i 0+1000000000*z):=XH K0 K0
 grind
def sK (a b:List Int):Nat->Int
 |0=>0
 |i+1=>(a.getD i 0+b.getD i 0+sK a b i)/1000000000
def ZK (a b:List Int)(i:Nat):Int:=(a.getD i 0+b.getD i 0+sK a b i)%1000000000
def rL {a b:List Int}(ha:Dg a)(hb:Dg b): ∀i,0<=sK a b i/\sK a b i<=1
 |0=>by simp[sK]
 |i+1=>by
  have h1:=rL ha hb i;have h2:=ha.get i;have h3:=hb.get i
  grind[sK]
def BX (a b:List Int)(n:Nat):List Int:=(List.range n).map (ZK a b)
def HZ (a b:List Int)(n:Nat):BX a b (n+1)=BX a b n++[ZK a b n]:=vW
def Ed (a b:List Int)(n:Nat):(BX a b n).length =n:=by simp[BX]
def ac0 {a b:List Int}(n:Nat):Dg (BX a b n):=by
 intro x hx;obtain⟨k,_,rfl⟩:=dS.1 hx
 grind[ZK]
def Nc (a b:List Int): ∀n,aW (BX a b n)+pw n*sK a b n=aW (a.take n)+aW (b.take n)
 |0=>by simp[BX,aW,sK]
 |n+1=>by
  have h:=Nc a b n;rw[HZ,u5,Ed,fW,fW,pq];have e:a.getD n 0+b.getD n 0+sK a b n=ZK a b n+1000000000*sK a b (n+1):=by grind[ZK,sK]
  grind
def rM (a b:List Int):Nat:=max a.length b.length+(if sK a b (max a.length b.length)>0 then 1 else 0)
def H3 {a b:List Int}(ha:Dg a)(hb:Dg b){i:Nat}(hi:i<=rM a b):(i<a.length\/i<b.length\/sK a b i>0)↔i<rM a b:=by
 have xA:=rL ha hb (max a.length b.length);unfold rM at hi ⊢;by_cases h:i<max a.length b.length;omega
 ·by_cases hm:i=max a.length b.length
  grind
  ·split at hi<;>rename_i hc
   ·have hi2:i=max a.length b.length+1:=by omega
    have e1:a.getD (max a.length b.length) 0=0:=by grind
    have e2:b.getD (max a.length b.length) 0=0:=by grind
    have e3:sK a b i=0:=by grind[sK]
    grind
   ·omega
def ZL {a b:List Int}(ha:Dg a)(hb:Dg b):aW (BX a b (rM a b))=aW a+aW b:=by
 have h1:=Nc a b (rM a b);have h2:=(H3 ha hb (dz _)).1;have h3:=rL ha hb (rM a b);have h4:sK a b (rM a b)=0:=by omega
 rw[h4,Int.mul_zero,Int.add_zero]at h1
 grind[List.take_of_length_le]
def FR (a b:List Int):Nat->Int
 |0=>0
 |i+1=>if a.getD i 0 -b.getD i 0 -FR a b i<0 then 1 else 0
def sbD (a b:List Int)(i:Nat):Int:=if a.getD i 0 -b.getD i 0 -FR a b i<0 then a.getD i 0 -b.getD i 0 -FR a b i+1000000000 else a.getD i 0 -b.getD i 0 -FR a b i
def Ao (a b:List Int): ∀i,0<=FR a b i/\FR a b i<=1
 |0=>by simp[FR]
 |i+1=>by grind[FR]
def Xs (a b:List Int)(n:Nat):List Int:=(List.range n).map (sbD a b)
def Nd (a b:List Int)(n:Nat):Xs a b (n+1)=Xs a b n++[sbD a b n]:=vW
theorem Cp (a b:List Int)(n:Nat):(Xs a b n).length =n:=by simp[Xs]
def ZM {a b:List Int}(ha:Dg a)(hb:Dg b)(n:Nat):Dg (Xs a b n):=by
 intro x hx;obtain⟨k,_,rfl⟩:=dS.1 hx;have:=ha.get k;have:=hb.get k;have:=Ao a b k
 grind[sbD]
def TL (a b:List Int): ∀n,aW (Xs a b n)=aW (a.take n) -aW (b.take n)+pw n*FR a b n
 |0=>by simp[Xs,aW,FR]
 |n+1=>by
  have h:=TL a b n;rw[Nd,u5,Cp,fW,fW,pq,h];have e:sbD a b n=a.getD n 0 -b.getD n 0 -FR a b n+1000000000*FR a b (n+1):=by grind[sbD,FR]
  grind
def ac1 {a b:List Int}(ha:Dg a)(hb:Dg b)(hl:b.length<=a.length)(h:aW b<=aW a):aW (Xs a b a.length)=aW a -aW b:=by
 have h1:=TL a b a.length;rw[mW,o0 hl]at h1;have h2:=u6 (ZM ha hb a.length);rw[Cp]at h2;have h3:=Ao a b a.length;have h4:FR a b a.length=0\/FR a b a.length=1:=by omega
 grind
def gv {x y:Nat}(h:y<=x):(be y).length <=(be x).length :=by
 apply Pw;intro hh;have:=Qy (rK x) (rK y) K0
 grind[bp]
def Ef {l:List Int}{j:Nat}(h:j<l.length)(v:Int):aW (l.set j v)=aW l+pw j*(v -l.getD j 0):=by
 induction l generalizing j with
 |nil=>grind
 |cons x l ih=>
  cases j with
  |zero=>simp[aW,pw];omega
  |succ j=>
   have:=ih (j:=j) bq;simp only[XX,aW,this,pq,SE]
   grind
theorem getD_set_ne {l:List Int}{i j:Nat}(h:i≠j)(v:Int):(l.set i v).getD j 0=l.getD j 0:=by grind
theorem Qz {l:List Int}(h:Dg l)(j:Nat){v:Int}(hv:0<=v/\v<1000000000):Dg (l.set j v):=by
 intro x hx;rcases Sh hx with hx|rfl
 ·exact h x hx
 omega
def i6 (out:List Int)(i:Nat)(x:Int)(b:List Int):Nat->List Int × Int
 |0=>(out,0)
 |k+1=>((i6 out i x b k).1.set (i+k) (((i6 out i x b k).1.getD (i+k) 0+x*b.getD k 0+(i6 out i x b k).2)%1000000000),
   ((i6 out i x b k).1.getD (i+k) 0+x*b.getD k 0+(i6 out i x b k).2)/1000000000)
def Eg (out:List Int)(i:Nat)(x:Int)(b:List Int):List Int:=
 (i6 out i x b b.length).1.set (i+b.length) ((i6 out i x b b.length).1.getD (i+b.length) 0+(i6 out i x b b.length).2)
def ia (a b:List Int):Nat->List Int
 |0=>List.replicate (a.length+b.length+1) 0
 |i+1=>Eg (ia a b i) i (a.getD i 0) b
def qB (out:List Int)(i:Nat)(x:Int)(b:List Int): ∀k,(i6 out i x b k).1.length =out.length
 |0=>rfl
 |k+1=>by simp[i6,qB out i x b k]
def rN (a b:List Int): ∀i,(ia a b i).length =a.length+b.length+1
 |0=>by simp[ia]
 |i+1=>by simp[ia,Eg,qB,rN a b i]
def Eh {x y:Int}(hx:0<=x/\x<1000000000)(hy:0<=y/\y<1000000000):0<=x*y/\x*y<=999999998000000001:=
 ⟨CO hx.1 hy.1,by have:=CV (show x<=999999999 by omega) (show y<=999999999 by omega) hy.1 K0;omega⟩
def wR {out b:List Int}{i:Nat}{x:Int}(ho:Dg out)(hb:Dg b)(hx:0<=x/\x<1000000000): ∀k,i+k<=out.length->
  Dg (i6 out i x b k).1/\(0<=(i6 out i x b k).2/\(i6 out i x b k).2<1000000000)/\aW (i6 out i x b k).1+pw (i+k)*(i6 out i x b k).2=aW out+x*(pw i*aW (b.take k))/\
  ∀j,i+k<=j->(i6 out i x b k).1.getD j 0=out.getD j 0
 |0,_=>⟨ho,by simp[i6],by simp[i6,aW],λj _=>rfl⟩
 |k+1,hk=>by
  obtain⟨h1,h2,h3,h4⟩:=wR (i:=i) ho hb hx k K0;have hl:=qB out i x b k;have g1:=h1.get (i+k);have g2:=hb.get k;have g3:=Eh hx g2;refine⟨Qz h1 _ K0,by grind[i6],?_,λj hj=>?_⟩
  ·simp only[i6];rw[Ef K0,fW,<- LQ,pq]
   grind
  grind[i6]
def uc {a b:List Int}(ha:Dg a)(hb:Dg b): ∀i,i<=a.length->Dg (ia a b i)/\aW (ia a b i)=aW (a.take i)*aW b/\∀j,i+b.length<=j->(ia a b i).getD j 0=0
 |0,_=>by
  refine⟨λx hx=>?_,?_,λj _=>?_⟩
  grind[ia]
  ·simp only[ia,LP,aW,Int.zero_mul];generalize a.length+b.length+1=n;exact aj4
  grind[ia]
 |i+1,hi=>by
  obtain⟨h1,h2,h3⟩:=uc ha hb i K0;have hl:=rN a b i;obtain⟨g1,g2,g3,g4⟩:=wR (i:=i) (x:=a.getD i 0) h1 hb (ha.get i) b.length K0;have hl2:=qB (ia a b i) i (a.getD i 0) b b.length;have e0:(i6 (ia a b i) i (a.getD i 0) b b.length).1.getD (i+b.length) 0=0:=by grind
  refine⟨?_,?_,λj hj=>?_⟩
  ·simp only[ia,Eg,e0,Int.zero_add]
   grind[Qz]
  ·simp only[ia,Eg,e0,Int.zero_add];rw[Ef K0,e0,Int.sub_zero,g3,h2,fW,mW,Int.add_mul,<- LS,Int.mul_comm (pw i)]
  grind[ia,Eg,getD_set_ne]
def nY (a:List Int)(i:Nat):Int:=aW (a.drop i)
def VR (a:List Int)(y:Int)(i:Nat):Int:=(a.getD i 0+1000000000*(nY a (i+1)%y))/y
def qS (a:List Int)(y:Int):Nat->List Int
 |0=>List.replicate a.length 0
 |t+1=>(qS a y t).set (a.length -1 -t) (VR a y (a.length -1 -t))
def Ej (a:List Int)(y:Int): ∀t,(qS a y t).length =a.length
 |0=>by simp[qS]
 |t+1=>by simp[qS,Ej a y t]
def Nh {a:List Int}{i:Nat}(h:i<a.length):nY a i=a.getD i 0+1000000000*nY a (i+1):=by unfold nY;rw[nV (d:=0) h];rfl
def TN (a:List Int):nY a a.length=0:=by unfold nY;rw[LI];rfl
def Ni (a:List Int):nY a 0=aW a:=rfl
def Nj {p r y:Int}(hy:0<y):(r+1000000000*p)/y=1000000000*(p/y)+(r+1000000000*(p%y))/y/\(r+1000000000*p)%y=(r+1000000000*(p%y))%y:=by
 have e:r+1000000000*p=(r+1000000000*(p%y))+y*(1000000000*(p/y)):=by
  have:=Ss p y
  grind
 constructor
 ·rw[e,Int.add_mul_ediv_left _ _ K0];omega
 simp_all
def QA {a:List Int}{y:Int}(h:Dg a)(hy:0<y)(i:Nat):0<=VR a y i/\VR a y i<1000000000:=by
 have h1:=h.get i;have h2:=CN (nY a (i+1)) (show y≠0 by omega);have h3:=Ly (nY a (i+1)) hy;unfold VR;constructor
 ·exact LN K0 K0
 ·exact Int.ediv_lt_of_lt_mul hy K0
def TO {a:List Int}{y:Int}(h:Dg a)(hy:0<y): ∀t,t<=a.length->Dg (qS a y t)/\aW (qS a y t)=pw (a.length -t)*(nY a (a.length -t)/y)/\∀j,j<a.length -t->(qS a y t).getD j 0=0
 |0,_=>by
  refine⟨λx hx=>?_,?_,λj _=>?_⟩
  grind[qS]
  ·simp only[qS,G4,TN,Int.zero_ediv,Int.mul_zero];generalize a.length=n;exact aj4
  grind[qS]
 |t+1,ht=>by
  obtain⟨h1,h2,h3⟩:=TO h hy t K0;have hl:=Ej a y t;have e1:a.length -(t+1)=a.length -1 -t:=by omega
  have e2:a.length -t=a.length -1 -t+1:=by omega
  have hj:a.length -1 -t<a.length:=by omega
  refine⟨Qz h1 _ (QA h hy _),?_,λj hjj=>?_⟩
  ·simp only[qS];rw[Ef K0,h3 _ K0,Int.sub_zero,h2,e1,e2,pq];have hs:=(Nj (p:=nY a (a.length -1 -t+1)) (r:=a.getD (a.length -1 -t) 0) hy).1;rw[Nh hj,hs,Int.mul_add,<- LS];rfl
  grind[qS,getD_set_ne]
theorem VS {a:List Int}{y:Int}(hy:0<y){i:Nat}(h:i<a.length):nY a i%y=(a.getD i 0+1000000000*(nY a (i+1)%y))%y:=by rw[Nh h,(Nj hy).2]
def VT {x y:Int}(hy:0<y):(-x)/y=if x%y=0 then -(x/y)else -(x/y) -1:=by
 have h1:=Ss x y;have h2:=CN x (show y≠0 by omega);have h3:=Ly x hy;split
 ·rename_i h;refine((LD (r:=0) (q:= -(x/y)) hy).2 ⟨?_,by omega,hy⟩).1
  grind
 ·rename_i h;refine((LD (r:=y -x%y) (q:= -(x/y) -1) hy).2 ⟨?_,by omega,by omega⟩).1
  grind
end Go.Plain
namespace Go.Proofs.Tryz
open Go Go.RowKit Go.Shelf Go.Fw Go.Plain
attribute [local go_sem] Oper.semAt_some
set_option maxRecDepth 100000 in
set_option maxHeartbeats 4000000 in
def VZ (mr:Mem)(a:Option Addr)(n cap bc ob:Nat)(f:Nat->Array Value)(hn:n<=1000000)(w:World)(hbc:mr bc ob=some (.slice a n cap))
  (l7: ∀i,i<n->∃b o,a=some ⟨b,o,none⟩/\(f i).size =4/\∀k,k<4->mr b (o+i*4+k)=some ((f i).getD k undef)):
  akH prog 296 #[] #[.pointer (some ⟨bc,ob,none⟩)] ((List.range n).map λj=> #[.int .i64 ((n -1 -j:Nat):Int),.agg (f (n -1 -j))]) mr w:=by
 intro l J Jx W M0 hW hM0 hJ hJx hJm hY h0;refine callsIn_of_wp Tryz.func296 rfl trivial ?_ rfl;simp only[Tryz.ntmps296,List.size_toArray,kF,zR,Nat.reduceAdd,Nat.reduceSub,Array.replicate_succ,Array.replicate_zero,List.push_toArray,List.append_toArray,LO,qR];have c0:W.cell? ⟨bc,ob,none⟩=some (.slice a n cap):=hJm _ _ h0 _ _ _ hbc
 gi_wp2
 gi_loopw [3] (λv wr=>∃j:Nat,j<=n/\v= .int .i64 ((n:Int) -1 -j)/\∃M,J (j,M) wr)
  (λv _=>(intOf v+1).toNat)
 case atStart=>exact⟨0,dM _,by simp,M0,h0⟩
 case round=>
  clear c0 h0;obtain⟨j,hj,rfl,M1,hJj⟩:=hrel;have c1:wr.cell? ⟨bc,ob,none⟩=some (.slice a n cap):=hJm _ _ hJj _ _ _ hbc;by_cases hjn:j<n
  ·have e1:decide ((n:Int) -1 -j>=0)=true:=fG K0;obtain⟨b,o,rfl,hs4,hk4⟩:=l7 (n -1 -j) K0;have hje:((n:Int) -1 -j).toNat =n -1 -j:=by omega
   have e2:(Instr.indexAt 41 (.slice (some ⟨b,o,none⟩) n cap) (.int .i64 ((n:Int) -1 -j))).run prog wr= .ok (.pointer (some ⟨b,o+(n -1 -j)*4,none⟩)) wr:=by
    have:=HK (C:=cx) (w:=wr) (b:=b) (o:=o) (n:=n) (cap:=cap) (k:=(n:Int) -1 -j) lH (T:=41) rfl rfl rfl K0 K0;rw[hje]at this;exact this
   obtain⟨v0,v1,v2,v3,FC⟩: ∃v0 v1 v2 v3,f (n -1 -j)= #[v0,v1,v2,v3]:=by
    generalize f (n -1 -j)=g at hs4;obtain⟨l⟩:=g
    match l,hs4 with
    | [v0,v1,v2,v3],_=>exact⟨v0,v1,v2,v3,rfl⟩
   rw[FC]at hk4;have k0:wr.cell? ⟨b,o+(n -1 -j)*4,none⟩=some v0:=hJm _ _ hJj _ _ _ (hk4 0 K0);have k1:wr.cell? ⟨b,o+(n -1 -j)*4+1,none⟩=some v1:=hJm _ _ hJj _ _ _ (hk4 1 K0);have k2:wr.cell? ⟨b,o+(n -1 -j)*4+2,none⟩=some v2:=hJm _ _ hJj _ _ _ (hk4 2 K0);have k3:wr.cell? ⟨b,o+(n -1 -j)*4+3,none⟩=some v3:=hJm _ _ hJj _ _ _ (hk4 3 K0)
   have hx:((List.range n).map λj=> #[Value.int .i64 ((n -1 -j:Nat):Int),Value.agg (f (n -1 -j))])[j]? =some #[.int .i64 ((n:Int) -1 -j),.agg #[v0,v1,v2,v3]]:=by
    rw[gq,List.getElem?_range hjn];simp only[xJ,lL];rw[show((n -1 -j:Nat):Int)=(n:Int) -1 -j by omega,FC]
   obtain⟨fn,tmps,assign,body,hy,hR⟩:=hY _ _ _ wr hx hJj
   gi_wp2
   refine⟨rfl,hR.mono ?_⟩;rintro e W3 (⟨rfl,M3,hJ3,hs3,hl3,hk3⟩|⟨rfl,hJx3⟩)
   ·gi_wp2
    refine⟨⟨j+1,by omega,by congr 1;omega,M3,hJ3⟩,by simp only[intOf];omega⟩
   ·gi_wp2
    refine bodyPost_ret (results_none rfl _ _ _) rfl ?_;exact⟨⟨_,rfl⟩,.inr hJx3⟩
  ·have e1:decide ((n:Int) -1 -j>=0)=false:=eU K0;obtain rfl:j=n:=by omega
   gi_wp2
   go_end0
   refine⟨⟨_,rfl⟩,.inl ⟨M1,?_⟩⟩;rw[jf,List.length_range];exact hJj
def ac3 (es:List (List SC))(hn:es.length<=1000000)(h4: ∀e∈es,e.length=4):
  Ti cx.P cx.gl 296 [] [[.view es]] ((List.range es.length).map λj=>[(false,[.lit (.int .i64 ((es.length -1 -j:Nat):Int))]),(true,es.getD (es.length -1 -j) [])]):=by
 refine⟨by kernel_rfl,λmv mr w fb cv wu hmr hgl hfb hcv=>?_⟩;have anU:fb= #[]:=Array.eq_empty_of_size_eq_zero hfb.1;subst anU;obtain⟨v,rfl,hv⟩:=yw hcv
 cases hv with
 |empty _ _ hv=>simp[SC.ao]at hv
 |view _ _ _ _ _ hv=>simp[SC.ao]at hv
 |ref bc ob g hc hr=>
  have hbc:mr bc ob=some (g 0):=hc 0 (by simp);have hg:=hr 0 _ rfl;generalize g 0=hv at hbc hg
  obtain⟨a,cap,rfl,l7⟩: ∃a cap,hv= .slice a es.length cap/\∃f:Nat->Array Value,∀i,i<es.length->∃b o,a=some ⟨b,o,none⟩/\(f i).size =4/\(∀k,k<4->mr b (o+i*4+k)=some ((f i).getD k undef))/\
    ∀(k:Nat) (x:SC),(es.getD i [])[k]? =some x->dw mv eV ((f i).getD k undef) x:=by
   cases hg with
   |empty a cap hv h0=>exact⟨a,cap,by rw[show es.length=0 from h0],λ_=> #[],λi hi=>by rw[show es.length=0 from h0]at hi;omega⟩
   |view b o cap z f hv fN hz fX hl hc hr=>
    have fN:0<es.length:=fN;have hz4:z=4:=by rw[<- hl 0 es[0] (by simp[SC.elem,fN])];exact h4 _ (pH fN)
    subst hz4;refine⟨_,cap,rfl,λi=> #[f (i*4),f (i*4+1),f (i*4+2),f (i*4+3)],λi hi=>⟨b,o,rfl,rfl,λk hk=>?_,λk x hx=>?_⟩⟩
    ·have:=wu _ _ _ (hc (i*4+k) (by show _<es.length*4;omega));rw[show o+i*4+k=o+(i*4+k)by omega,this]
     match k,hk with
     |0,_=>rfl
     |1,_=>rfl
     |2,_=>rfl
     |3,_=>rfl
    ·have he:(SC.view es).elem i=some (es.getD i []):=by simp[SC.elem,jP,hi]
     have hk:=(kp.1 hx).1;rw[hl i _ he]at hk;have:=hr i _ k x he hx
     match k,hk with
     |0,_=>exact this
     |1,_=>exact this
     |2,_=>exact this
     |3,_=>exact this
  obtain⟨f,hf⟩:=l7;refine⟨(List.range es.length).map λj=> #[.int .i64 ((es.length -1 -j:Nat):Int),.agg (f (es.length -1 -j))],by simp,λi x r hx Cb=>?_,?_⟩
  ·rw[gq,my]at hx Cb;obtain⟨j,hj,rfl⟩:=hx;obtain⟨j',hj',rfl⟩:=Cb;rw[hj]at hj';cases hj'
   have hjl:j<es.length:=by
    have:=(kp.1 hj);obtain⟨q1,q2⟩:=this;simp at q1 q2;omega
   obtain⟨b,o,_,q2,_,q4⟩:=hf (es.length -1 -j) K0;refine⟨rfl,λk x hk=>?_⟩
   match k,hk with
   |0,hk=>simp at hk;subst hk;exact⟨_,rfl,.lit rfl⟩
   |1,hk=>
    simp at hk;subst hk;refine⟨_,rfl,?_,q4⟩;rw[q2];have ak:es.length -1 -j<es.length:=by omega
    simp only[jP,oX ak,sZ];exact(h4 _ (pH ak)).symm
   |k+2,hk=>simp at hk
  ·exact VZ mr a es.length cap bc ob f hn w hbc λi hi=>let⟨b,o,h1,h2,h3,_⟩:=hf i hi;⟨b,o,h1,h2,h3⟩
end Go.Proofs.Tryz
namespace Go.Fw
open Go.RowKit (Below)
open Classical
section
variable {C:bN}{F:gN}{β:Nat->Option Nat}{N:Nat->Prop}{H:HF}{fid:Nat}{w:World}
def ZV (hR:ad F β N H w)(hf: ¬N fid){z id b cap:Nat}{c c':SC}{arr arr':Array Value}{T:TypeId}(hb:H id=some (.row true z c))(xp:β id=some b)(lC:w.heap[b]? =some (.cells arr T))(np:arr.size=cap*z)(Pg:arr'.size=arr.size)
  (hv:c'.ao=true)(eB:c'.len<=cap)(iF: ∀i e,c'.elem i=some e->e.length=z)(hc: ∀i e j x,c'.elem i=some e->e[j]? =some x->dw eV eV (arr'.getD (i*z+j) undef) x):
  ∃cM,Tr F β N H w cM (bf N fid) (Hp.on [(fid,some (.row true z c')),(id,none)] H) (w.setRow b arr')/\ad F cM (bf N fid) (Hp.on [(fid,some (.row true z c')),(id,none)] H) (w.setRow b arr')/\
   cj F cM (bf N fid) (Hp.on [(fid,some (.row true z c')),(id,none)] H) (w.setRow b arr') (.slice (some ⟨b,0,none⟩) c'.len cap) (bm (.own fid)):=by
 obtain⟨hn,⟨hz,XB,sC⟩,gE⟩:=hR.rel id _ hb
 rcases gE with⟨q,_⟩|⟨b',jG,q1,q2,xm,T0,q3,q4,q5⟩
 ·grind
 rw[xp]at q1;cases q1;rw[lC]at q3;cases q3;have Xj:id≠fid:=λe=>hf (e▸hn);have uE:(w.setRow b arr').heap[b]? =some (.cells arr' T):=IV w b arr _ T (0,0) lC
 show ∃cM,Tr F β N H w cM (bf N fid) (bn (bn H id none) fid (some (.row true z c'))) (w.setRow b arr')/\ad F cM (bf N fid) (bn (bn H id none) fid (some (.row true z c'))) (w.setRow b arr')/\
   cj F cM (bf N fid) (bn (bn H id none) fid (some (.row true z c'))) (w.setRow b arr') (.slice (some ⟨b,0,none⟩) c'.len cap) (bm (.own fid))
 have live: ∀ {k:Nat} {b0:cB},k≠fid->bn (bn H id none) fid (some (.row true z c')) k=some b0->k≠id/\H k=some b0:=by grind[az,am]
 have hT:Tr F β N H w (cQ β fid (some b)) (Fw.bf N fid) (bn (bn H id none) fid (some (.row true z c'))) (w.setRow b arr'):=by
  refine⟨jx.setRow (hR.fY hb xp).2 _,λb' o v _ hs e=>⟨λiP bx e' jV=>?_,?_⟩,λ_ h=>.inl h,λiP Lk=>it _ _ _ λe=>hf (e▸Lk),λiP blk' Lk e=>?_,λ_ _ _ b' xm T0 _ _ _ _ _ e=>?_,mf ⟨_,_,lC⟩ _⟩
  ·by_cases hk:iP=fid
   ·subst hk;rw[jy]at jV;cases jV;have:=hs id _ hb xp
    grind[cB.sU]
   ·exact afS
  ·by_cases hk:b'=b
   ·subst hk;have:=hs id _ hb xp
    grind[cB.sU]
   exact ab4
  ·exact afG
  grind[setRow_other]
 have hH:ad F (cQ β fid (some b)) (Fw.bf N fid) (bn (bn H id none) fid (some (.row true z c'))) (w.setRow b arr'):=by
  refine hR.step hT (λi=>i=fid) (λi bx hi e=>?_) (λi bx hi e=>?_) (λi j x y y' hi hj bi bj=>?_)
  ·exact K73
  ·subst hi;rw[am]at e;cases e;exact⟨.inr rfl,⟨hz,hv,iF⟩,.inr ⟨b,cap,by simp[cQ],q2,arr',T,uE,by omega,hz,hv,eB,iF,λi e' j x he hx=>(hc i e' j x he hx).mono (ec _) (Mem.le_refl _)⟩⟩
  ·exact K21
 refine⟨_,hT,hH,cH ⟨.inr rfl,rfl,λnL z' n' jV wt=>?_⟩⟩;have:bn (bn H id none) fid (some (.row true z c')) fid=some nL:=jV;exact afD
theorem Nv {f:FuncId}(fC:iH C.P f=true)(zs:List (List UInt8))(i j:Nat)(Lh:i<j)(hj:j<=zs.length)
  (bB: ∀(b cap:Nat) (arr:Array Value) (T:TypeId) (w:World),w.heap[b]? =some (.cells arr T)->arr.size=cap->zs.length<=cap->(∀k,k<zs.length->arr[k]? =some (.string (B (zs.getD k []))))->
   Calls C.P f #[.slice (some ⟨b,0,none⟩) zs.length cap,.int .i64 i,.int .i64 j] w λe w'=>e= .returned (.slice (some ⟨b,0,none⟩) (i+(zs.length -j)) cap)/\
    ∃arr',w'=w.drew.setRow b arr'/\arr'.size=arr.size/\∀k,k<i+(zs.length -j)->arr'[k]? =some (.string (B ((zs.take i++zs.drop j).getD k []))))
  {id:Nat}(hb:H id=some (.row true 1 (.view (ab zs)))):
  bW C fid f [(false,[.own id]),(false,[.st (.lit (.int .i64 i))]),(false,[.st (.lit (.int .i64 j))])] H (bm (.own fid)) [(fid,some (.row true 1 (.view (ab (zs.take i++zs.drop j))))),(id,none)] [id]:=by
 refine⟨fC,λF β N H' w vs hH hG hR hf np hv=>?_⟩;have jV:H' id=some (.row true 1 (.view (ab zs))):=by grind
 obtain⟨hn,h1,h2⟩:co F β N H' w (vs.getD 0 undef) (.own id):=(hv 0 _ rfl).al;have e1:vs.getD 1 undef= .int .i64 i:=(co.bw ((hv 1 _ rfl).al)).1;have e2:vs.getD 2 undef= .int .i64 j:=(co.bw ((hv 2 _ rfl).al)).1;have bA:(SC.view (ab zs)).len =zs.length:=by simp[SC.len]
 rcases h2 _ _ _ jV rfl with⟨_,h0,_⟩|⟨b,cap,arr,T,a1,a2,a3,a4⟩
 ·omega
 rw[bA]at a2
 have xi:vs= #[.slice (some ⟨b,0,none⟩) zs.length cap,.int .i64 i,.int .i64 j]:=by
  have h3:vs.size=3:=np;apply AV;omega
  ·intro k hk _;rw[h3]at hk;have hg: ∀k (hk:k<vs.size),vs[k]=vs.getD k undef:=λk hk=>by simp[Array.getD,hk]
   grind
 obtain⟨_,⟨hz,XB,iF⟩,gE⟩:=hR.rel id _ jV
 rcases gE with⟨q,_⟩|⟨b',jG,q1,q2,arr',T',p1,p2,p3,p4,p5,p6,p7⟩
 ·omega
 rw[a1]at q1;cases q1;rw[a3]at p1;cases p1;have hcc:cap=jG:=by omega
 subst hcc;rw[bA]at p5
 have iQ: ∀k,k<zs.length->arr[k]? =some (.string (B (zs.getD k []))):=λk hk=>by
  have:=p7 k [.lit (.string (B (zs.getD k [])))] 0 (.lit (.string (B (zs.getD k [])))) (by simp[SC.elem,ab,jP,hk]) rfl;simp only[AT,CQ]at this;have ak:k<arr.size:=by omega
  have e:=(co.bw (F:=F) (β:=β) (N:=N) (H:=H') (w:=w) (dw.mono (Mem.le_refl _) (ec _) this)).1;simp_all
 rw[xi];refine(bB b cap arr T w a3 K0 p5 iQ).mono λe w1 he=>?_;obtain⟨rfl,aei,rfl,s1,s2⟩:=he;have hB:Below w.heap.size w w.drew:=(Below.refl _ _).drew;have Xl:=hR.grow hB;have t1:=Tr.grow hR hB;have hl2:(SC.view (ab (zs.take i++zs.drop j))).len =i+(zs.length -j):=by grind[SC.len]
 obtain⟨cM,g1,g2,g3⟩:=ZV (c':=.view (ab (zs.take i++zs.drop j))) Xl (λh=>hf _ h rfl) jV a1 (show w.drew.heap[b]? =some (.cells arr T)from a3) a4 s1 rfl K0 (λk e he=>by grind[nR]) λk e m x he hx=>by
  obtain⟨s,hs,rfl⟩:=nR he;have hk:k<i+(zs.length -j):=by grind
  cases m with
  |succ m=>grind
  |zero=>
   simp at hx;subst hx;have:=s2 k hk;rw[jP,hs,sZ]at this;rw[AT,CQ,sE,this];exact .lit rfl
 rw[hl2]at g3;exact⟨_,cM,rfl,t1.trans g1,g2,g3⟩
end
end Go.Fw
namespace Go.Proofs.Tryz
open Go Go.RowKit Go.Fw Go.Lib
def yS {w:World}{b off:Nat}{arr:Array Value}{T:TypeId}{vs:List Value}(hb:w.heap[b]? =some (.cells arr T))(hf:off+vs.length<=arr.size)(h1: ∀v∈vs,v.oneCell'=true):w.setCells b off vs=w.setRow b (aO arr off vs):=by
 have e1:=Sv (default:Program) b off T vs 0 arr w hb (by simpa using hf) h1;have e2:=run_storeCells_cells (P:=default) b off vs 0 w (λj hj=>by simp[World.cell?,hb];omega) (λj hj=>by simp[World.frozen?,hb]) h1;rw[e1]at e2;simp only[CQ,Result.ok.injEq,CY]at e2;rw[<- e2];rfl
set_option maxHeartbeats 4000000 in
set_option maxRecDepth 1000000 in
def ac5 (zs:List (List UInt8))(i j:Nat)(Lh:i<j)(hj:j<=zs.length)(b cap:Nat)(arr:Array Value)(T:TypeId)(w:World)(hb:w.heap[b]? =some (.cells arr T))(np:arr.size=cap)(fX:zs.length<=cap)
  (iQ: ∀k,k<zs.length->arr[k]? =some (.string (B (zs.getD k [])))):
  Calls prog 202 #[.slice (some ⟨b,0,none⟩) zs.length cap,.int .i64 i,.int .i64 j] w λe w'=>e= .returned (.slice (some ⟨b,0,none⟩) (i+(zs.length -j)) cap)/\
   ∃arr',w'=w.drew.setRow b arr'/\arr'.size=arr.size/\∀k,k<i+(zs.length -j)->arr'[k]? =some (.string (B ((zs.take i++zs.drop j).getD k []))):=by
 have hbd:w.drew.heap[b]? =some (.cells arr T):=hb;have mixed:=lH.mixed;obtain⟨n,hn⟩: ∃n,n=zs.length:=⟨_,rfl⟩;obtain⟨news,O0⟩: ∃news,news=(zs.drop j).map λs=>Value.string (B s):=⟨_,rfl⟩;have bA:news.length=n -j:=by rw[O0,hn];simp
 have sQ: ∀u∈news,u.oneCell'=true:=by intro u hu;rw[O0]at hu;obtain⟨x,_,rfl⟩:=dS.1 hu;rfl
 obtain⟨A,hA,aof⟩: ∃A:Addr,(if cap=j then(some ⟨b,0,none⟩:Option Addr)else some ⟨b,j,none⟩)=some A/\Hid (∀t u,news[t]? =some u->w.drew.cell? (A.add t)=some u):=by
  have hc: ∀t u,news[t]? =some u->w.drew.cell? ⟨b,j+t,none⟩=some u:=by
   intro t u hu;rw[O0,gq,PC,my]at hu;obtain⟨x,hx,rfl⟩:=hu;have ak:=(kp.1 hx).1;have:=iQ _ ak;rw[jP,hx]at this;simp[World.cell?,hbd,this]
  by_cases h:cap=j
  ·refine⟨⟨b,0,none⟩,by simp[h],λt u hu=>?_⟩;have:t<news.length:=(kp.1 hu).1;omega
  ·refine⟨⟨b,j,none⟩,by simp[h],λt u hu=>?_⟩;rw[Fw.addr_add];exact hc t u hu
 have s1:Hid (news.length=(n -j)*1):=by show _=_;omega
 have s2:Hid (∀u∈news,u.oneCell'=true):=sQ
 have s3:Hid (∀t,t<news.length->(w.drew.cell? ⟨b,0+i*1+t,none⟩).isSome =true/\w.drew.frozen? ⟨b,0+i*1+t,none⟩=false):=by
  intro t ht;constructor
  ·simp[World.cell?,hbd];omega
  ·simp[World.frozen?,hbd]
 obtain⟨tf,td,tz,hT⟩:=bN.Ok.get lH (t:=9) (i:=(cx.ti 9).getD default) dl;have hu:prog.underlying 23=some (.slice 9):=by kernel_rfl
 obtain⟨W1,hW1⟩: ∃W1,W1=w.drew.setCells b (0+i*1) news:=⟨_,rfl⟩
 have ahu:Hid (W1=w.drew.setRow b (aO arr i news)):=by
  have:=yS (off:=i) hbd K0 sQ;rw[<- this,hW1,j8,AT];exact rfl
 have hz: ∀w:World,(zeroValue 9).run prog w= .ok (.string ByteArray.empty) w:=λw=>by
  have:(prog.info? 9).bind (·.zero)=some (.string ByteArray.empty):=by kernel_rfl
  have h2:=hT.od;rw[show cx.P=prog from rfl]at h2;rw[h2]at this;simp only[LJ]at this;simp[zeroValue,typeInfo,h2,this]
 have xA:Hid (W1.heap[b]? =some (.cells (aO arr i news) T)):=by
  show _=_;rw[ahu.out];exact IV w.drew b arr _ T (0,0) hbd
 have hs1:(aO arr i news).size =arr.size:=fk K0
 have jd: ∀ty,(Builtin.clear_ #[23] ty #[.slice (some ⟨b,i+(n -j),none⟩) (n -(i+(n -j))) (cap -(i+(n -j)))]).run prog W1= .ok (.tuple #[]) (W1.setCells b (i+(n -j)) (List.replicate (n -(i+(n -j))) (.string ByteArray.empty))):=
  λty=>Lib.run_clear_slice W1 _ _ ty _ hu hz rfl rfl b _ _ _ K0 (λt ht=>by simp[World.cell?,xA.out,hs1];omega) (λt ht=>by simp[World.frozen?,xA.out])
 have hW:Hid (W1=w.drew.setCells b (0+i*1) news):=hW1;have Uz:i+(n -j)+(List.replicate (n -(i+(n -j))) (Value.string ByteArray.empty)).length <=(aO arr i news).size :=by rw[hs1];simp;omega
 have R7:Hid (∃arr',W1.setCells b (i+(n -j)) (List.replicate (n -(i+(n -j))) (.string ByteArray.empty))=w.drew.setRow b arr'/\arr'.size=arr.size/\∀k,k<i+(n -j)->arr'[k]? =some (.string (B ((zs.take i++zs.drop j).getD k [])))):=by
  refine⟨aO (aO arr i news) (i+(n -j)) (List.replicate (n -(i+(n -j))) (.string ByteArray.empty)),?_,by rw[fk Uz,hs1],λk hk=>?_⟩
  ·rw[yS (arr:=aO arr i news) xA.out Uz (λv hv=>by rw[List.eq_of_mem_replicate hv];rfl),ahu.out,setRow_setRow]
  ·rw[gb Uz,if_pos hk,gb (arr:=arr) (off:=i) (vs:=news) K0];by_cases h1:k<i
   ·rw[if_pos h1,iQ k K0];have e0:(zs.take i++zs.drop j).getD k []=zs.getD k []:=by rw[jP,UK wA,GY,if_pos h1,jP]
    rw[e0]
   ·rw[if_neg h1,if_pos K0,O0,gq,PC];have ak:j+(k -i)<zs.length:=by omega
    rw[oX ak,xJ];congr 3;have e1: ¬k< (zs.take i).length :=by simp;omega
    simp only[jP,Su,if_neg e1,LL,PC];have e2: ¬k<min i zs.length:=by omega
    rw[show j+(k -min i zs.length)=j+(k -i)by omega,oX ak,if_neg e2,sZ]
 have hic:i<=cap:=by omega
 have hjc:j<=cap:=by omega
 have fh: ¬i=j:=by omega
 have eB:i<=j:=by omega
 subst hn;clear O0 sQ bA hW1 ahu Uz xA hs1 hz hb hbd iQ
 go_enter Tryz.func202,Tryz.ntmps202
 go_wp2_with fail
 go_region_law_o (refine step_append_room rfl (.tmp 22) (.tmp 25) 23 rfl 9 tf 1 hu hT.od hT.size b 0 i cap (by simp[Act.eval,Act.put]) A (zs.length -j) (cap -j) news (by simp[Act.eval,Act.put]) s1.out aof.out s2.out K0 s3.out ?_;rw[<- hW.out])
 go_wp2
 go_ret
 exact⟨rfl,R7.out⟩
end Go.Proofs.Tryz
namespace Go.Fw
open Go.RowKit (Below)
open Go.Shelf
variable {P:Program}{gl:s7}
def IM (n:Nat)(s:List UInt8)(c:UInt8):List (List UInt8):=Lib.splitK [c] 0 (min n (s.length+1) -1) s
theorem QG {ρ:Ren}(L:Proofs.Lays.n147 P ρ)(fC:iH P (ρ.f 147)=true)(hi9:(P.info? (ρ.t 9)).map (λi=>(i.zero,i.size,i.bytes))=some (some (.string ByteArray.empty),1,16))
  (hg:(ρ.g 1,[SC.num .i64])∈gl)(s:List UInt8)(c:UInt8)(n:Nat)(hl:s.length<=1000000)(h1:1<=n)(hn:n<=1000000):nN P gl (ρ.f 147) [SS s,SS [c],(false,[.lit (.int .i64 n)])] (.own 1 (.view (ab (IM n s c)))):=by
 refine .inl ⟨fC,λmv w vs _ hG xi=>?_⟩;obtain⟨np,hx⟩:=xi
 have xi:vs= #[.string (B s),.string (B [c]),.int .i64 n]:=by
  obtain⟨c0,g0,r0⟩:=hx 0 _ rfl;cases g0;have a0:=gd r0;obtain⟨c1,g1,r1⟩:=hx 1 _ rfl;cases g1;have a1:=gd r1;obtain⟨c2,g2,r2⟩:=hx 2 _ rfl;cases g2;have a2:=gd r2;apply AV
  ·rw[np];rfl
  ·intro i q1 q2;have q2:i<3:=q2;have hg:vs.getD i undef=vs[i]:=by simp[sE,q1]
   match i,q2 with
   |0,_=>rw[<- hg];exact a0
   |1,_=>rw[<- hg];exact a1
   |2,_=>rw[<- hg];exact a2
 rw[xi];obtain⟨ev,e1,h2⟩:=(hG _ _ hg).1 0 _ rfl;have oW: ∃m,ev= .int .i64 m:=aiI;obtain⟨m,rfl⟩:=oW;refine(Proofs.Any.strings_SplitN L hi9 (B s) (B [c]) n m w (by rw[lT];omega) e1 (by rw[lT];exact dz 1) h1 K0).mono λe w' he=>?_;obtain⟨rfl,rfl⟩:=he;rw[lT]
 have Xu:(Lib.splitB (B [c]) 0 (min n (s.length+1) -1) (B s))=(IM n s c).map B:=by
  have h:=Lib.splitB_data (B [c]) 0 (min n (s.length+1) -1) (B s);rw[jK,jK]at h;have:(IM n s c).map B=((Lib.splitB (B [c]) 0 (min n (s.length+1) -1) (B s)).map (·.data.toList)).map B:=by rw[h];rfl
  rw[this,zS];have e:(B ∘ λx:ByteArray=>x.data.toList)=id:=by funext x;exact acI x
  rw[e,LV]
 have eB:(IM n s c).length <=min n (s.length+1):=by
  have:=Lib.splitB_length_le (B [c]) 0 (min n (s.length+1) -1) (B s);rw[Xu,jf]at this;omega
 rw[Xu];generalize min n (s.length+1)=N at*;refine⟨_,rfl,Below.oc _ _,.inr ⟨w.heap.size,N,by simp[SC.len],dz _,_,_,gO w _,by rw[Lib.cellsOf_size (by simpa using eB)];simp,by decide,rfl,by simpa [SC.len]using eB,λi e he=>?_,λi e j x he hx=>?_⟩⟩
 ·obtain⟨u,_,rfl⟩:=nR he;rfl
 ·obtain⟨u,hu,rfl⟩:=nR he;have ak:=(kp.1 hu).1
  cases j with
  |zero=>
   simp at hx;subst hx;rw[show i*1+0=i by omega,sE]
   have:(Lib.cellsOf ((IM n s c).map B) N)[i]? =some (.string (B u)):=by
    simp only[Lib.cellsOf,Lz];rw[UK (by simpa using ak)];simp[hu]
   exact agb
  |succ j=>simp at hx
end Go.Fw
namespace Go.Plain
open Go.Lib
def Ez: ∀(k:Nat) (s:av),splitK [32] 0 k s=if(ar 32 s).length <=k+1 then ar 32 s else(ar 32 s).take k++[bP k s]
 |0,s=>by
  rcases kw 32 s with⟨h1,h2⟩|⟨i,h1,h2,h3⟩
  ·have h2:ar 32 s= [s]:=h2;rw[h2];rfl
  ·have h3:ar 32 s=s.take i::ar 32 (s.drop (i+1)):=h3
   rw[if_neg (by
    rw[h3,kF]
    grind[lU])]
   rfl
 |k+1,s=>by
  rcases kw 32 s with⟨h1,h2⟩|⟨i,h1,h2,h3⟩
  ·have h2:ar 32 s= [s]:=h2;rw[<- index_one]at h1;rw[h2,if_pos (by simp)];exact ajR
  ·have h3:ar 32 s=s.take i::ar 32 (s.drop (i+1)):=h3;rw[<- index_one]at h2;have e:splitK [32] 0 (k+1) s=s.take i::splitK [32] 0 k (s.drop (i+1)):=ajR;have hd:bP (k+1) s=bP k (s.drop (i+1)):=by grind[bP]
   rw[e,Ez k,h3,kF,hd]
   grind
def ND (n:Nat)(s:av)(h1:1<=n):Go.Fw.IM n s 32=if(ar 32 s).length <=n then ar 32 s else(ar 32 s).take (n -1)++[bP (n -1) s]:=by
 unfold Go.Fw.IM;have hl:=(cd 32 s).1;rw[Ez]
 grind
theorem NE: ∀(k:Nat) (s:av),(ar 32 s).length =k+1->ar 32 s=(ar 32 s).take k++[bP k s]
 |0,s,h=>by
  rcases kw 32 s with⟨h1,h2⟩|⟨i,h1,h2,h3⟩
  ·have h2:ar 32 s= [s]:=h2;rw[h2];rfl
  grind[lU]
 |k+1,s,h=>by
  rcases kw 32 s with⟨h1,h2⟩|⟨i,h1,h2,h3⟩
  grind
  ·have h3:ar 32 s=s.take i::ar 32 (s.drop (i+1)):=h3;have hd:bP (k+1) s=bP k (s.drop (i+1)):=by grind[bP]
   rw[hd,h3,XU,qR,<- NE k _ bq]
def J4 (n:Nat)(s:av)(h1:1<=n)(h:n<=(ar 32 s).length):Go.Fw.IM n s 32=(ar 32 s).take (n -1)++[bP (n -1) s]:=by
 rw[ND n s h1];by_cases h2:(ar 32 s).length <=n
 ·rw[if_pos h2]
  grind[NE]
 grind
def lJ (c:Nat):Nat:=if c=121 then 0 else if c=100 then 1 else if c=122 then 2 else 3
structure Pv where
 k:Int
 t:Int
 s:Int
 r:Bool
def wdE (w:Pv):Int:=if 0<=w.k/\w.k<=2 then(if(1<=w.t/\w.t<=2000)/\0<=w.s/\w.s<=2 then 0 else 2)else 15
def Bz (s:aj):Prop:=s.length<2\/((s.getD 1 0).toNat ≠43/\(s.getD 1 0).toNat ≠45)\/lJ (s.getD 0 0).toNat =3
instance (s:aj):Decidable (Bz s):=by unfold Bz;infer_instance
def As (s:aj):Option Pv:=if Bz s then none else(uS (s.drop 2)).map λp=>⟨(lJ (s.getD 0 0).toNat :Nat),p.2,p.1,decide ((s.getD 1 0).toNat =45)⟩
def stE (n:Int):Int:=if 0<=n/\n<=100 then 0 else 2
def NF (a b:Pv)(c:Int):Int:=jr (wdE a) (jr (wdE b) (stE c))
def puE (a b:Pv)(c:Int):Win × Int:=if NF a b c=0 then(⟨a.k,a.t,a.s,a.r,b.k,b.t,b.s,b.r,c⟩,0)else(wi0,NF a b c)
def puO:Option Pv->Option Pv->Option Int->Win × Int
 |some a,some b,some c=>puE a b c
 |_,_,_=>(wi0,7)
def NG (s:aj):Win × Int:=if(ar 32 s).length =3 then puO (As ((ar 32 s).getD 0 [])) (As ((ar 32 s).getD 1 [])) (wN false 4 ((ar 32 s).getD 2 []))else(wi0,7)
abbrev Pu:Type:=Int × Int × Int
def Lf (s:aj):Option Pu:=if(ar 32 s).length =3 then(wN false 13 ((ar 32 s).getD 0 [])).bind λa=>(wN true 13 ((ar 32 s).getD 1 [])).bind λb=>(wN false 13 ((ar 32 s).getD 2 [])).map λc=>(a,b,c)else none
def pS (s:aj):Option (Int × Int):=DW 47 (wN false 13) (wN false 13) s
structure Gq where
 name:aj
 per:Int
 least:Int
 lo:Int × Int
 hi:Int × Int
 ps:List Pu
def Gr:Gq:=⟨[],0,0,(0,0),(0,0),[]⟩
def sq (w:List aj):Option (Int × Int × (Int × Int) × (Int × Int)):=(wN false 13 (w.getD 1 [])).bind λa=>(wN false 13 (w.getD 2 [])).bind λb=>(pS (w.getD 3 [])).bind λc=>(pS (w.getD 4 [])).map λd=>(a,b,c,d)
def ada (nm:aj):Option (Int × Int × (Int × Int) × (Int × Int))->Option (List Pu)->Option Gq
 |some (a,b,c,d),some l=>some ⟨nm,a,b,c,d,l⟩
 |_,_=>none
def EA (s:aj):Option Gq:=let w:=ar 32 ((ar 59 s).getD 0 [])
 if w.length=5 then ada (w.getD 0 []) (sq w) (fQ Lf ((ar 59 s).drop 1))else none
def NH (c d:Int × Int):Int:=if(0<c.2/\Int.gcd c.1 c.2=1)/\0<d.2/\Int.gcd d.1 d.2=1 then
 (if((1<=c.1/\c.1<=1000000000)/\1<=c.2/\c.2<=1000000000)/\(1<=d.1/\d.1<=1000000000)/\1<=d.2/\d.2<=1000000000 then(if c.1*d.2<=d.1*c.2 then 0 else 9)else 2)else 3
def yV (l:List Pu)(i:Nat):Int:=if(0<=(l.getD i (0,0,0)).1/\(l.getD i (0,0,0)).1<=1000000000000)/\(-4096<=(l.getD i (0,0,0)).2.1/\(l.getD i (0,0,0)).2.1<=4096)/\1<=(l.getD i (0,0,0)).2.2/\(l.getD i (0,0,0)).2.2<=100 then
 (if(l.getD i (0,0,0)).2.1=0 then 11 else if i=0\/(l.getD (i -1) (0,0,0)).1< (l.getD i (0,0,0)).1 then 0 else 9)else 2
noncomputable def H9 (x:Gq):Int:=jr (jI x.name) (jr (if(1<=x.per/\x.per<=1000000)/\1<=x.least/\x.least<=60 then 0 else 2) (jr (NH x.lo x.hi) (if x.ps.length<=60 then 0 else 8)))
noncomputable def mM (x:Gq):Int × Int:=oV (0,H9 x) (cN (yV x.ps) x.ps.length)
noncomputable def Cr (s:aj):Gq × Int:=match EA s with
 |none=>(Gr,7)
 |some x=>if(mM x).2=0 then(x,0)else(Gr,(mM x).2)
def rO (l:List Pu)(q:Nat):Nat:=(l.filter λp=>decide ((q:Int)<=p.2.1.natAbs)).length
def qE (l:List Pu)(n:Int):Nat->Nat
 |0=>0
 |q+1=>if n<=rO l (q+1)then q+1 else qE l n q
noncomputable def TT (x:Gq):(Int × Int) × Int:=if(mM x).2=0 then(if x.least<=x.ps.length then(((qE x.ps x.least 4096:Nat)*x.lo.1/x.lo.2,-(-((qE x.ps x.least 4096:Nat)*x.hi.1)/x.hi.2)),0)else((0,0),12))else((0,0),(mM x).2)
end Go.Plain
namespace Go.Fw
open Go.RowKit (Below)
def EG {E:dT}{Hh:Hp}{nx:Nat}(id i k z:Nat)(c:SC){zr:Nat}{l:List (List DC)}{el:List DC}(hz:0<z)(hv:c.ao=true)(h0:c.len=0)(hB:Hh.get id=some (.aG zr l))(hi:l[i]? =some el)(hk:el[k]? =some .nil):
  bs ⟨E,Hh,nx⟩ ⟨E,(id,some (.aG zr (l.set i (el.set k (.own (2*nx))))))::((2*nx),some (.row true z c))::Hh,nx+1⟩:=by
 rintro F nt a w ⟨N,⟨q1,q2,q0,β,q3,q4⟩,q5⟩;have hf: ¬N (2*nx):=λh=>by have:=q5 _ h;rw[jQ]at this;exact Nat.lt_irrefl _ this
 have hu: ∀i e,c.elem i=some e->e.length=z:=λi e he=>by exact ab1
 have t2:=Tr.new q4 (Below.refl _ w) hf none (by simp) (.row true z c);have hN:=ad.new q4 (Below.refl _ w) hf none (by simp) (.row true z c) ⟨⟨hz,hv,hu⟩,.inl ⟨by simp[cQ],h0⟩⟩;rw[<- Hp.au]at t2 hN;have hid:N id:=(q4.rel id _ hB).1;have fh:id≠(2*nx):=λe=>hf (e▸hid);have KT:Hp.get (((2*nx),some (.row true z c))::Hh) id=some (.aG zr l):=by rw[Hp.au,az _ _ _ fh];exact hB
 generalize xy:Hp.get (((2*nx),some (.row true z c))::Hh)=H1 at*;have iU:H1 (2*nx)=some (.row true z c):=by rw[<- xy,Hp.au,am]
 have t3:Tr F (cQ β (2*nx) none) (Fw.bf N (2*nx)) H1 w (cQ β (2*nx) none) (Fw.bf N (2*nx)) (bn H1 id (some (.aG zr (l.set i (el.set k (.own (2*nx))))))) w:={
  below:=jx.refl _ _
  ax:=λ_ _ h=>h
  mem:=λb o v _ hs e=>⟨λiP bx e' hb=>by
   by_cases h:iP=id
   ·subst h;exact(hs iP _ KT hb).elim
   ·rw[az _ _ _ h]at e'
    exact hs iP bx e' hb,e⟩
  used:=λ_ h=>h
  kK:=λ_ _=>rfl
  keep:=λiP blk' _ e=>by
   by_cases h:iP=id
   ·subst h;rw[am]at e;cases e;exact⟨_,KT,by simp[cB.zO]⟩
   ·exact ajQ
  size:=λ_ _ _ _ arr _ _ _ _ _ _ h=>⟨arr,h,rfl⟩}
 have h3:ad F (cQ β (2*nx) none) (Fw.bf N (2*nx)) (bn H1 id (some (.aG zr (l.set i (el.set k (.own (2*nx))))))) w:=by
  refine hN.step t3 (λi=>i=id) (λi b0 hi e=>?_) (λi' b0 kH e=>?_) (λp q b x y hi hj bi bj=>?_)
  ·exact ajs
  ·subst kH;rw[am]at e;cases e;obtain⟨hn,⟨fN,hall⟩,sB⟩:=hN.rel i' _ KT;have ak:i<l.length:=(kp.1 hi).1;refine⟨hn,⟨fN,λj e' CC=>?_⟩,?_⟩
   ·by_cases hj:i=j
    ·subst hj;rw[IT ak]at CC;cases CC;rw[CM];exact hall i el hi
    ·rw[Pz hj]at CC;exact hall j e' CC
   ·rcases sB with⟨h1,h2⟩|⟨b,cap,arr,T,h1,h2,h3,h4,h5,h6⟩
    ·omega
    ·refine .inr ⟨b,cap,arr,T,h1,h2,h3,h4,by rw[CM];exact h5,λj e' j' x CC hx=>?_⟩;by_cases hj:i=j
     ·subst hj;rw[IT ak]at CC;cases CC;by_cases pF:k=j'
      ·subst pF;rw[IT (kp.1 hk).1]at hx;cases hx;have Ca:arr.getD (i*zr+k) undef= .slice none 0 0:=h6 i el k _ hi hk;exact aia
      ·rw[Pz pF]at hx;exact t3.ju hN (h6 i el j' x hi hx)
     ·rw[Pz hj]at CC;exact t3.ju hN (h6 j e' j' x CC hx)
  ·have live: ∀ {k':Nat} {b0:cB},bn H1 id (some (.aG zr (l.set i (el.set k (.own (2*nx)))))) k'=some b0->∃b1,H1 k'=some b1:=by
    intro k' b0 h;by_cases pF:k'=id
    ·subst pF;exact⟨_,KT⟩
    ·rw[az _ _ _ pF]at h;exact⟨b0,h⟩
   obtain⟨b1,h1⟩:=live hi;obtain⟨b2,h2⟩:=live hj;exact hN.inj p q b b1 b2 h1 h2 bi bj
 refine⟨Fw.bf N (2*nx),⟨q1,q2,q0,cQ β (2*nx) none,?_,?_⟩,λiP h=>?_⟩
 ·exact akh
 ·rw[Hp.au,xy];exact h3
 ·rcases h with h|h
  ·exact Nat.lt_succ_of_lt (q5 _ h)
  ·rw[h,jQ];exact Nat.lt_succ_self _
def Cs {E E':dT}{hp Lj:Hp}{nx n':Nat}{m:List (Nat × Nat)}{ks:List Nat}(fC:cW m hp.get Lj.get)(hn: ∀q∈m,tag q.2<n')(hE:e8 m E.get ks=some E'):bs ⟨E,hp,nx⟩ ⟨E',Lj,n'⟩:=by
 rintro F nt a w ⟨N,⟨q1,q2,q0,β,q3,q4⟩,q5⟩;refine⟨ym m,⟨q1,q2,q0,pJ m β,λs d' e=>?_,fC.nv q4⟩,?_⟩
 ·exact abL
 ·rintro n ⟨o,ho⟩;exact hn _ ho
def cW.aet {un:Nat}{m:List (Nat × Nat)}{H:HF}{Y R:Hp}{z:Nat}{l l':List (List DC)}(hT:BT R)(hm:IQ ((un,9)::m)=true)(h9:H un=some (.aG z l))(hl:fH ((un,9)::m++mT R) l=some l')
  (hY:jW ((un,9)::m++mT R) H m=some Y)(hYk:(ah Y).all JH=true)(hR: ∀k∈ah R,H k=R.get k):cW ((un,9)::m++mT R) H (Hp.get ((9,some (.aG z l'))::Y++R)):=by
 have:=cW.tail (Y:=(9,some (.aG z l'))::Y) (H:=H) hT hm (λn b' e=>?_) (λn hn=>?_) hR
 ·exact this
 ·rw[Hp.au]at e;by_cases hn:n=9
  ·subst hn;rw[am]at e;cases e;refine⟨un,_,ja,h9,?_⟩;show(match fH ((un,9)::m++mT R) l with|some l'=>some (cB.aG z l')|none=>none)=_;rw[hl]
  ·rw[az _ _ _ hn]at e;obtain⟨o,b,g1,g2,g3⟩:=pf hY e;exact⟨o,b,i8 _ g1,g2,g3⟩
 ·rcases dh.1 hn with rfl|hn
  ·rfl
  ·exact ww.1 hYk n hn
end Go.Fw
namespace Go.Fw
section
variable {F:gN}{β:Nat->Option Nat}{N:Nat->Prop}{H H':HF}{w:World}
structure mP (β:Nat->Option Nat)(H H':HF):Prop where
 st: ∀b o,fS β H b o->fS β H' b o
 sz: ∀id blk' z n,H' id=some blk'->blk'.sz=some (z,n)->∃bx,H id=some bx/\bx.sz=some (z,n)
def mP.mv (h:mP β H H'):(MV F β H w).le (MV F β H' w):=by
 intro b o v e;unfold MV at e ⊢;split at e
 ·rename_i hm;rw[if_pos hm];split at e
  ·rename_i hs;rw[if_pos (h.st b o hs)];exact e
  grind
 grind
def mP.mr (h:mP β H H'):(MR F β H w).le (MR F β H' w):=by
 intro b o v e;unfold MR at e ⊢;split at e
 ·rename_i hm;rw[if_pos hm];exact h.mv b o v e
 grind
theorem mP.ju (h:mP β H H'){v:Value}{d:DC}(hr:co F β N H w v d):co F β N H' w v d:=by
 cases d with
 |st c=>exact dw.mono h.mv h.mr hr
 |nil=>exact hr
 |ptr=>exact hr
 |own id=>
  obtain⟨a,b,c⟩:=hr;exact⟨a,b,λbx z n e hz=>by obtain⟨nL,e0,z0⟩:=h.sz id bx z n e hz;grind⟩
 |cE=>exact hr
 |mp=>exact hr
 |sD=>exact hr
def mP.sj (h:mP β H H'){v:Value}{x:DX}(hr:aq F β N H w v x):aq F β N H' w v x:=by
 unfold aq at hr ⊢;split at hr
 ·rename_i hx;rw[if_pos hx];obtain⟨arr,h1,h2,h3⟩:=hr;exact⟨arr,h1,h2,λk c hc=>h.ju (h3 k c hc)⟩
 ·rename_i hx;rw[if_neg hx];obtain⟨c,h1,h2⟩:=hr;exact⟨c,h1,h.ju h2⟩
theorem mP.vK (h:mP β H H'){v:Value}{d:DV}(hr:cj F β N H w v d):cj F β N H' w v d:=by
 cases d with
 |val x=>exact h.sj hr
 |aJ l=>
  obtain⟨arr,h1,h2,h3⟩:=hr;exact⟨arr,h1,h2,λk c hc=>h.sj (h3 k c hc)⟩
theorem mP.heap (hR:ad F β N H w){id:Nat}{b b':cB}(hB:H id=some b)(hs:mP β H (bn H id (some b')))(hb:ir F β N (bn H id (some b')) w id b'):ad F β N (bn H id (some b')) w:=by
 refine⟨λi bx e=>?_,λp q b1 x y hi hj bi bj=>?_,hR.below,λb o v e=>?_⟩
 ·by_cases hi:i=id
  ·subst hi;rw[am]at e;cases e;exact⟨(hR.rel i b hB).1,hb⟩
  ·rw[az _ _ _ hi]at e;obtain⟨hn,hb⟩:=hR.rel i bx e;refine⟨hn,?_⟩
   cases bx with
   |box ty cs=>
    obtain⟨b,arr,T',h1,h2,h3,h4,h5⟩:=hb;exact⟨b,arr,T',h1,h2,h3,h4,λk x hx=>hs.ju (h5 k x hx)⟩
   |dZ cs=>
    obtain⟨b,arr,T',h1,h2,h3,h4,h5⟩:=hb;exact⟨b,arr,T',h1,h2,h3,h4,λk x hx=>(h5 k x hx).mono hs.mv hs.mr⟩
   |row m z c=>
    obtain⟨h0,h1|⟨b,cap,h1,h2,arr,T',q1,q2,q3,q4,q5,q6,q7⟩⟩:=hb
    ·exact⟨h0,.inl h1⟩
    ·exact⟨h0,.inr ⟨b,cap,h1,h2,arr,T',q1,q2,q3,q4,q5,q6,λi e j x he hx=>(q7 i e j x he hx).mono hs.mv (Mem.le_refl _)⟩⟩
   |aG z l=>
    obtain⟨h0,h1|⟨b,cap,arr,T',h1,h2,q1,q2,q3,q4⟩⟩:=hb
    ·exact⟨h0,.inl h1⟩
    ·exact⟨h0,.inr ⟨b,cap,arr,T',h1,h2,q1,q2,q3,λi e j x he hx=>hs.ju (q4 i e j x he hx)⟩⟩
   |map es=>
    obtain⟨b,arr,ck,h1,h2,h3,h4,h5⟩:=hb;exact⟨b,arr,ck,h1,h2,h3,h4,λi k x e hi he=>let⟨a1,a2⟩:=h5 i k x e hi he;⟨a1,a2.mono hs.mv hs.mr⟩⟩
 ·have live: ∀ {k':Nat} {b0:cB},bn H id (some b') k'=some b0->∃b1,H k'=some b1:=by
   grind[az]
  obtain⟨b2,h1⟩:=live hi;obtain⟨b3,h2⟩:=live hj;exact hR.inj p q b1 b2 b3 h1 h2 bi bj
 ·obtain⟨e1,e2⟩:=hR.sT b o v e;exact⟨e1,λhm=>hs.st b o (e2 hm)⟩
end
def NM {β:Nat->Option Nat}{H:HF}{id:Nat}{b b':cB}(hB:H id=some b)(h1: ∀o,¬b.sU o)(h2:b'.sz=b.sz):mP β H (bn H id (some b')):=by
 refine⟨λc o hs i bx e hb=>?_,λi bx z n e hz=>?_⟩
 ·by_cases hi:i=id
  ·subst hi;exact(h1 o (hs i b hB hb)).elim
  ·rw[az _ _ _ hi]at e;exact hs i bx e hb
 grind[am,az]
def NN {E:dT}{Hh:Hp}{nx:Nat}(id:Nat){z:Nat}{V:List (List SC)}(hB:Hh.get id=some (.row true z (.view V))):bs ⟨E,Hh,nx⟩ ⟨E,(id,some (.aG z (V.map λe=>e.map .st)))::Hh,nx⟩:=by
 rintro F nt a w ⟨N,⟨q1,q2,q0,β,q3,q4⟩,q5⟩;have hs:mP β Hh.get (bn Hh.get id (some (.aG z (V.map λe=>e.map .st)))):=NM hB (λo h=>by cases h.1) (by simp[cB.sz,SC.len]);refine⟨N,⟨q1,q2,q0,β,?_,?_⟩,q5⟩
 ·exact aiV
 ·rw[Hp.au];refine mP.heap q4 hB hs ?_;obtain⟨_,⟨h1,h2,h3⟩,hc⟩:=q4.rel id _ hB;refine⟨⟨h1,λi e he=>?_⟩,?_⟩
  ·rw[gq,my]at he;obtain⟨e0,RP,rfl⟩:=he;rw[jf];exact h3 i e0 RP
  ·rcases hc with⟨a1,a2⟩|⟨b,cap,a1,a2,arr,T,b1,b2,b3,b4,b5,b6,b7⟩
   ·exact .inl ⟨a1,by rw[jf];exact a2⟩
   ·refine .inr ⟨b,cap,arr,T,a1,a2,b1,b2,by rw[jf];exact b5,λi e k x he hx=>?_⟩;rw[gq,my]at he;obtain⟨e0,RP,rfl⟩:=he;rw[gq,my]at hx;obtain⟨x0,RW,rfl⟩:=hx;exact(b7 i e0 k x0 RP RW).mono hs.mv (ec _)
section
variable {C:bN}{f:FuncId}{fid nx:Nat}{xs:List DX}{T T':Hp}{r:DV}{H:HF}
def Ia (h:bt C f nx xs T [] r T')(hT:MH T)(fj:MH T')(iU:1<=nx)(hs: ∀id∈ah T,T.get id=H id)(B9: ∀x∈xs,ee (· ∈ah T) x)(hr:lG (· ∈ah T') r):
  bW C fid f xs H (Lc (fresh (Fw.tag fid) 0) r) (cI T (cS (fresh (Fw.tag fid) 0) T')) (ah T):=by
 have hi:=fj.inj (Fw.tag fid);have hg:=h.out (m8.new fj hi) hr λid hid=>by grind
 have l6: ∀k∈ah T',fresh (Fw.tag fid) 0 k∈([]:List Nat)\/Fw.tag (fresh (Fw.tag fid) 0 k)=Fw.tag fid:=λk hk=>.inr (fj.tag hk);refine gu hg (λid hid=>by rw[(hT.lt id hid).2.2];omega) hs hT.dQ B9 (λid hid=>by grind) (λid hid=>?_) (λid b e=>?_) (yv (rC l6 hr))
 ·exact ajo
 ·exact afy
end
end Go.Fw
namespace Go.Plain
open Go.Lib
variable {α β γ δ ε:Type}
def Wg {x:Option α}{y:Option β}{z:Option γ}:(x.bind λa=>y.bind λb=>z.map λc=>(a,b,c)).isSome =((x.isSome&&y.isSome)&&z.isSome):=by cases x<;>cases y<;>cases z<;>rfl
def adf {x:Option α}{y:Option β}{z:Option γ}{a:α}{b:β}{c:γ}(h:(x.bind λa=>y.bind λb=>z.map λc=>(a,b,c))=some (a,b,c)):x=some a/\y=some b/\z=some c:=by
 cases x<;>cases y<;>cases z<;>simp at h
 grind
def Ib {x:Option α}{y:Option β}{z:Option γ}{w:Option δ}:(x.bind λa=>y.bind λb=>z.bind λc=>w.map λd=>(a,b,c,d)).isSome =(((x.isSome&&y.isSome)&&z.isSome)&&w.isSome):=by cases x<;>cases y<;>cases z<;>cases w<;>rfl
def J5 {x:Option α}{y:Option β}{z:Option γ}{w:Option δ}{a:α}{b:β}{c:γ}{d:δ}(h:(x.bind λa=>y.bind λb=>z.bind λc=>w.map λd=>(a,b,c,d))=some (a,b,c,d)):x=some a/\y=some b/\z=some c/\w=some d:=by
 cases x<;>cases y<;>cases z<;>cases w<;>simp at h
 grind
def Ic {s x y z:aj}(h:ar 32 s= [x,y,z]):Lf s=(wN false 13 x).bind λa=>(wN true 13 y).bind λb=>(wN false 13 z).map λc=>(a,b,c):=by grind[Lf]
def TU {s:aj}(h:(ar 32 s).length ≠3):Lf s=none:=by unfold Lf;grind
def Wh {f:aj->Option α}{l:List aj}{i:Nat}(h:i<l.length):(fQ f (l.take (i+1))).isSome =((fQ f (l.take i)).isSome &&(f (l.getD i [])).isSome):=by
 rw[wJ h [],yF,DY];cases fQ f (l.take i)<;>cases f (l.getD i [])<;>rfl
theorem Z4 {f:aj->Option α}{l:List aj}{i:Nat}(h:i<l.length){xs:List α}{n:α}(hx: ∀x,fQ f (l.take i)=some x->x=xs)(hn: ∀x,f (l.getD i [])=some x->x=n): ∀x,fQ f (l.take (i+1))=some x->x=xs++[n]:=by
 intro x e;rw[wJ h [],yF,DY]at e
 cases h1:fQ f (l.take i)with
 |none=>grind
 |some y=>
  rw[h1]at e
  cases h2:f (l.getD i [])with
  |none=>grind
  |some z=>
   grind
def TV {s:aj}{p:aj}{ps:List aj}(h:ar 59 s=p::ps)(h5:(ar 32 p).length =5):EA s=ada ((ar 32 p).getD 0 []) (sq (ar 32 p)) (fQ Lf ps):=by unfold EA;grind
def TW {s:aj}{p:aj}{ps:List aj}(h:ar 59 s=p::ps)(h5:(ar 32 p).length ≠5):EA s=none:=by unfold EA;grind
theorem yX {nm:aj}{x:Option (Int × Int × (Int × Int) × (Int × Int))}{y:Option (List Pu)}(h:(x.isSome&&y.isSome)=false):ada nm x y=none:=by
 cases x with
 |none=>rfl
 |some a=>cases y with
  |none=>rfl
  |some b=>cases h
theorem jU {s:aj}(h:EA s=none):Cr s=(Gr,7):=by grind[Cr]
def EH {s:aj}{x:Gq}(h:EA s=some x):Cr s=if(mM x).2=0 then(x,0)else(Gr,(mM x).2):=by grind[Cr]
end Go.Plain
namespace Go.Plain
open Go.Lib
def Wi {nm:aj}{o:Option (Int × Int × (Int × Int) × (Int × Int))}{q:Option (List Pu)}{x:Gq}(h:ada nm o q=some x): ∃a b c d l,o=some (a,b,c,d)/\q=some l/\x=⟨nm,a,b,c,d,l⟩:=by
 cases o with
 |none=>cases q<;>cases h
 |some v=>
  obtain⟨a,b,c,d⟩:=v
  cases q with
  |none=>cases h
  |some l=>cases h;grind
theorem yY {s:aj}{p:Int × Int}(h:pS s=some p):DR p.1/\DR p.2:=by
 obtain⟨⟨a,ha⟩,b,hb⟩:=Ag h;exact⟨HM K9 ha,HM K9 hb⟩
theorem Z5 {w:List aj}{a b:Int}{c d:Int × Int}(h:sq w=some (a,b,c,d)):(DR c.1/\DR c.2)/\DR d.1/\DR d.2:=by grind[sq,Option.bind_eq_some_iff,Option.map_eq_some_iff,yY]
def yZ {α:Type}{l:List α}{i:Nat}{d:α}(h:i<l.length):l.getD i d∈l:=by grind
def Z6 (s:aj):((Cr s).1.name.length <=s.length/\(Cr s).1.ps.length <=s.length+1)/\(DR (Cr s).1.lo.1 /\DR (Cr s).1.lo.2)/\DR (Cr s).1.hi.1 /\DR (Cr s).1.hi.2 :=by
 have z:DR 0:=by grind[DR]
 have h0:(Gr.name.length<=s.length/\Gr.ps.length<=s.length+1)/\(DR Gr.lo.1/\DR Gr.lo.2)/\DR Gr.hi.1/\DR Gr.hi.2:=⟨⟨dM _,dM _⟩,⟨z,z⟩,z,z⟩
 cases e:EA s with
 |none=>grind[jU]
 |some x=>
  rw[EH e];by_cases h:(mM x).2=0
  ·rw[if_pos h];unfold EA at e;dsimp only at e;by_cases h5:(ar 32 ((ar 59 s).getD 0 [])).length =5
   ·rw[if_pos h5]at e;obtain⟨a,b,c,d,l,h1,h2,rfl⟩:=Wi e
    grind[Z5,yG,cd,List.length_drop]
   grind
  grind
end Go.Plain
namespace Go.Plain
def fF (p:Int->Bool)(l:List Int)(a:Nat):Int:=if(l.drop a).any p then(a:Int)+((l.drop a).findIdx p:Nat)else -1
def vg {p:Int->Bool}{l:List Int}{j:Nat}(h:j<l.length):fF p l j=if p (l.getD j 0)then(j:Int)else fF p l (j+1):=by
 unfold fF;rw[XK h]
 grind
theorem J8 (p:Int->Bool)(l:List Int):fF p l l.length= -1:=by grind[fF]
def adg {p:Int->Bool}{l:List Int}: ∀ {n a:Nat},l.length -a=n->a<=l.length->(fF p l a= -1/\∀j,a<=j->j<l.length->p (l.getD j 0)=false)\/(∃k:Nat,fF p l a=k/\a<=k/\k<l.length/\p (l.getD k 0)=true/\∀j,a<=j->j<k->p (l.getD j 0)=false):=by
 intro n
 induction n with
 |zero=>
  intro a hn ha;have:a=l.length:=by omega
  grind[J8]
 |succ n ih=>
  intro a hn ha;have ak:a<l.length:=by omega
  rw[vg ak];by_cases hp:p (l.getD a 0)=true
  grind
  ·rw[if_neg hp];have hp:p (l.getD a 0)=false:=by grind
   rcases ih (a:=a+1) K0 K0 with⟨h1,h2⟩|⟨k,h1,h2,h3,h4,h5⟩
   grind
   grind
def Z8 (p:Int->Bool)(l:List Int){a:Nat}(ha:a<=l.length): -1<=fF p l a/\fF p l a<l.length:=by rcases adg (p:=p) rfl ha with⟨h,_⟩|⟨k,h,_,h2,_⟩<;>omega
def Ct (l:List Int):Nat->Nat
 |0=>0
 |i+1=>if l.getD i 0>l.getD (Ct l i) 0 then i else Ct l i
def Av {l:List Int}: ∀ {i:Nat},0<i->Ct l i<i
 |1,_=>by grind[Ct]
 |i+2,_=>by
  have:=Av (l:=l) (i:=i+1) K0
  grind[Ct]
def TX {l:List Int}: ∀ {i:Nat} {j:Nat},j<i->l.getD j 0<=l.getD (Ct l i) 0
 |i+1,j,hj=>by
  unfold Ct;by_cases e:j=i
  grind
  ·have:=TX (l:=l) (i:=i) (j:=j) K0
   grind
def If {l:List Int}: ∀ {i:Nat} {j:Nat},j<Ct l i->l.getD j 0<l.getD (Ct l i) 0
 |0,j,hj=>by grind[Ct]
 |i+1,j,hj=>by
  unfold Ct at hj ⊢;split
  ·rename_i h;rw[if_pos h]at hj;have:=TX (l:=l) (i:=i) (j:=j) hj;omega
  ·rename_i h;rw[if_neg h]at hj;exact If hj
def pk (l:List Int):Nat:=Ct l l.length
def py (l:List Int):Int:=l.getD (pk l) 0
abbrev Qn:Type:=Int × Int
def pT (x y:Qn):Prop:=x.1*y.2<y.1*x.2
instance (x y:Qn):Decidable (pT x y):=by unfold pT;infer_instance
def zf (x y:Qn):Qn:=if pT x y then y else x
def zg (x y:Qn):Qn:=if pT y x then y else x
abbrev Iv:Type:=Qn × Qn
def sO (s o:Iv):Iv:=(zf s.1 o.1,zg s.2 o.2)
def ki (s:Iv):Prop:=pT s.2 s.1
instance (s:Iv):Decidable (ki s):=by unfold ki;infer_instance
def lB (n d:Int):Qn:=(fu n d,eE n d)
def agJ:Iv:=((1,1),(0,1))
def oL (s:Iv)(n m:Int):Iv:=if n>0 then(s.1,zg s.2 (lB m n))else if n<0 then(zf s.1 (lB (-m) (-n)),s.2)else if m<0 then agJ else s
def atS (F:Iv)(e x y:Int):Iv:=oL (oL F (x -e) (y+e)) (-x -e) (e -y)
def QS (s:Iv)(n m:Int):Option Iv:=if n=0/\m<0 then none else if ki (oL s n m)then none else some (oL s n m)
def Ih (s:Iv)(e x y:Int):Option Iv:=(QS s (x -e) (y+e)).bind λs=>QS s (-x -e) (e -y)
abbrev ng (x:Qn):Prop:=0<x.2
abbrev nI (s:Iv):Prop:=ng s.1/\ng s.2
def uj {x y z:Qn}(hx:ng x)(hy:ng y)(hz:ng z)(h1: ¬pT y x)(h2:pT y z):pT x z:=by
 unfold pT at*;obtain⟨a,b⟩:=x;obtain⟨c,d⟩:=y;obtain⟨p,q⟩:=z;simp only at*;refine aew (a:=d) ?_ K0;have e1:a*d*q<=c*b*q:=XG K0 K0;have e2:c*q*b<p*d*b:=Sd h2 hx
 grind
def pB {x y z:Qn}(hx:ng x)(hy:ng y)(hz:ng z)(h1:pT x y)(h2: ¬pT z y):pT x z:=by
 unfold pT at*;obtain⟨a,b⟩:=x;obtain⟨c,d⟩:=y;obtain⟨p,q⟩:=z;simp only at*;refine aew (a:=d) ?_ K0;have e1:a*d*q<c*b*q:=Sd h1 hz;have e2:c*q*b<=p*d*b:=XG K0 K0
 grind
theorem Az (x:Qn): ¬pT x x:=by grind[pT]
theorem Cu {x y:Qn}(h:pT x y): ¬pT y x:=by grind[pT]
def le_trans' {x y z:Qn}(hx:ng x)(hy:ng y)(hz:ng z)(h1: ¬pT y x)(h2: ¬pT z y): ¬pT z x:=λh=>h2 (pB hz hx hy h h1)
def aad {x y:Qn}(hx:ng x)(hy:ng y):ng (zf x y):=by grind[zf]
def aae {x y:Qn}(hx:ng x)(hy:ng y):ng (zg x y):=by grind[zg]
def alH {x y:Qn}: ¬pT (zf x y) x:=by grind[zf,Cu]
def anA {x y:Qn}: ¬pT (zf x y) y:=by grind[zf,Az]
def alI {x y:Qn}: ¬pT x (zg x y):=by grind[zg,Cu]
def anB {x y:Qn}: ¬pT y (zg x y):=by grind[zg,Az]
theorem aaf {x y z:Qn}(hx:ng x)(hy:ng y)(hz:ng z):zf (zf x y) z=zf x (zf y z):=by
 by_cases h1:pT x y
 ·rw[show zf x y=y from if_pos h1];by_cases h2:pT y z
  ·rw[show zf y z=z from if_pos h2,show zf x z=z from if_pos (uj hx hy hz (Cu h1) h2)]
  ·rw[show zf y z=y from if_neg h2,show zf x y=y from if_pos h1]
 ·rw[show zf x y=x from if_neg h1];by_cases h2:pT y z
  ·rw[show zf y z=z from if_pos h2]
  ·rw[show zf y z=y from if_neg h2,show zf x y=x from if_neg h1];exact if_neg (λh=>h2 (uj hy hx hz h1 h))
theorem aag {x y z:Qn}(hx:ng x)(hy:ng y)(hz:ng z):zg (zg x y) z=zg x (zg y z):=by
 by_cases h1:pT y x
 ·rw[show zg x y=y from if_pos h1];by_cases h2:pT z y
  ·rw[show zg y z=z from if_pos h2,show zg x z=z from if_pos (pB hz hy hx h2 (Cu h1))]
  ·rw[show zg y z=y from if_neg h2,show zg x y=y from if_pos h1]
 ·rw[show zg x y=x from if_neg h1];by_cases h2:pT z y
  ·rw[show zg y z=z from if_pos h2]
  ·rw[show zg y z=y from if_neg h2,show zg x y=x from if_neg h1];exact if_neg (λh=>h2 (pB hz hx hy h h1))
theorem zh {n d:Int}(h:0<d):ng (lB n d):=wM h
theorem adj:nI agJ:=⟨by decide,by decide⟩
theorem oM {s:Iv}{n m:Int}(h:nI s):nI (oL s n m):=by
 unfold oL;split
 ·exact⟨h.1,aae h.2 (zh K0)⟩
 ·split
  ·exact⟨aad h.1 (zh K0),h.2⟩
  grind[adj]
def Cv {s o:Iv}(h:nI s)(k:nI o):nI (sO s o):=⟨aad h.1 k.1,aae h.2 k.2⟩
def aah {F:Iv}{e x y:Int}(h:nI F):nI (atS F e x y):=oM (oM h)
def kj (o s:Iv):Prop:=¬pT o.1 s.1/\¬pT s.2 o.2
theorem rT {o s:Iv}(ho:nI o)(hs:nI s)(h:kj o s)(he:ki s):ki o:=by
 unfold ki at*;exact pB ho.2 hs.1 ho.1 (uj ho.2 hs.2 hs.1 h.2 he) h.1
def uk (s:Iv):kj s s:=⟨Az _,Az _⟩
theorem rU {a b c:Iv}(ha:nI a)(hb:nI b)(hc:nI c)(h:kj a b)(k:kj b c):kj a c:=
 ⟨le_trans' hc.1 hb.1 ha.1 k.1 h.1,le_trans' ha.2 hb.2 hc.2 h.2 k.2⟩
def Kg (s o:Iv):kj (sO s o) s:=⟨alH,alI⟩
def zi (s o:Iv):kj (sO s o) o:=⟨anA,anB⟩
theorem AA {s:Iv}{n m:Int}(h: ¬(n=0/\m<0)):kj (oL s n m) s:=by
 unfold oL;split
 ·exact⟨Az _,alI⟩
 ·split
  ·exact⟨alH,Az _⟩
  ·rw[if_neg K0];exact uk s
theorem aai {s:Iv}{n m:Int}(hp:nI s)(h:ki s):ki (oL s n m):=by
 by_cases k:n=0/\m<0
 ·unfold oL;rw[if_neg K0,if_neg K0,if_pos k.2];decide
 grind[rT,oM,AA]
def NW {s F:Iv}(h:kj s F):sO s F=s:=by
 unfold sO zf zg;rw[if_neg h.1,if_neg h.2]
theorem aaj {s F:Iv}{n m:Int}(hs:nI s)(hF:nI F)(h: ¬(n=0/\m<0)):oL (sO s F) n m=sO s (oL F n m):=by
 unfold oL;by_cases h1:n>0
 ·rw[if_pos h1,if_pos h1]
  grind[sO,aag,zh]
 ·rw[if_neg h1,if_neg h1];by_cases h2:n<0
  ·rw[if_pos h2,if_pos h2]
   grind[sO,aaf,zh]
  grind
def adk {s F:Iv}{e x y:Int}(hs:nI s)(hF:nI F)(hw:kj s F)(aot: ¬ki s):
  (∃o,Ih s e x y=some o/\sO s (atS F e x y)=o/\¬ki o/\kj o s)\/(Ih s e x y=none/\ki (sO s (atS F e x y))):=by
 unfold Ih atS;by_cases k1:x -e=0/\y+e<0
 ·right;have hn:ki (oL F (x -e) (y+e)):=by unfold oL;rw[if_neg K0,if_neg K0,if_pos k1.2];decide
  have hp:=oM (n:=x -e) (m:=y+e) hF;refine⟨by unfold QS;grind,rT (Cv hs (oM hp)) (oM hp) (zi _ _) (aai hp hn)⟩
 ·have e1:sO s (oL F (x -e) (y+e))=oL s (x -e) (y+e):=by rw[<- aaj hs hF k1,NW hw]
  have hp1:=oM (n:=x -e) (m:=y+e) hs;have hpF:=oM (n:=x -e) (m:=y+e) hF;have w1:kj (oL s (x -e) (y+e)) s:=AA k1;by_cases k2: -x -e=0/\e -y<0
  ·right
   have hn:ki (oL (oL F (x -e) (y+e)) (-x -e) (e -y)):=by
    generalize oL F (x -e) (y+e)=G;unfold oL;rw[if_neg K0,if_neg K0,if_pos k2.2];decide
   refine⟨?_,rT (Cv hs (oM hpF)) (oM hpF) (zi _ _) hn⟩;unfold QS
   grind
  ·have e2:sO s (oL (oL F (x -e) (y+e)) (-x -e) (e -y))=oL (oL s (x -e) (y+e)) (-x -e) (e -y):=by grind[aaj]
   rw[e2];have hp2:=oM (n:= -x -e) (m:=e -y) hp1;have w2:kj (oL (oL s (x -e) (y+e)) (-x -e) (e -y)) (oL s (x -e) (y+e)):=AA k2;unfold QS;rw[if_neg k1];by_cases h1:ki (oL s (x -e) (y+e))
   ·right;rw[if_pos h1]
    grind[aai]
   ·rw[if_neg h1];simp only[LJ];rw[if_neg k2];by_cases h2:ki (oL (oL s (x -e) (y+e)) (-x -e) (e -y))
    grind
    ·left;rw[if_neg h2]
     grind[rU]
def um (F:Iv)(e:Int):List (Int × Int)->Iv->Iv
 | [],s=>s
 |p::l,s=>um F e l (sO s (atS F e p.1 p.2))
def rV (e:Int):List (Int × Int)->Option Iv->Option Iv
 | [],s=>s
 |p::l,s=>rV e l (s.bind λs=>Ih s e p.1 p.2)
theorem zj (e:Int): ∀l,rV e l none=none
 | []=>rfl
 |_::l=>zj e l
theorem ER {F:Iv}{e:Int}(hF:nI F): ∀(l:List (Int × Int)) {s:Iv},nI s->kj (um F e l s) s/\nI (um F e l s)
 | [],_,hs=>⟨uk _,hs⟩
 |p::l,s,hs=>by
  have hp:=Cv hs (aah (e:=e) (x:=p.1) (y:=p.2) hF);obtain⟨h1,h2⟩:=ER hF l hp;exact⟨rU h2 hp hs h1 (Kg _ _),h2⟩
def TZ {F:Iv}{e:Int}(hF:nI F): ∀(l:List (Int × Int)) {s:Iv},nI s->kj s F->¬ki s->(∃o,rV e l (some s)=some o/\um F e l s=o/\¬ki o)\/(rV e l (some s)=none/\ki (um F e l s))
 | [],s,_,_,fh=>.inl ⟨s,rfl,rfl,fh⟩
 |p::l,s,hs,hw,fh=>by
  have hp:=Cv hs (aah (e:=e) (x:=p.1) (y:=p.2) hF)
  rcases adk (e:=e) (x:=p.1) (y:=p.2) hs hF hw fh with⟨o,h1,h2,h3,h4⟩|⟨h1,h2⟩
  ·rw[h2]at hp;have:=TZ (e:=e) hF l hp (rU hp hs hF h4 hw) h3
   grind[rV,um]
  grind[rV,um,ER,zj,rT]
def QW (l:List Pu)(q:Nat):rO l q=(l.map λp=>(p.2.1.natAbs:Int)).countP λx=>decide ((q:Int)<=x):=by
 unfold rO;rw[List.countP_map,List.countP_eq_length_filter];rfl
def T5 {l:List Pu}{n:Int}{v:Nat}(h0:0<v)(h:n<=rO l v): ∀ {Q:Nat},v<=Q->(∀q,v<q->q<=Q->¬n<=rO l q)->qE l n Q=v
 |0,hv,_=>by omega
 |Q+1,hv,h'=>by
  unfold qE;by_cases e:v=Q+1
  grind
  ·rw[if_neg (h' (Q+1) K0 (dz _))];exact T5 h0 h K0 λq h1 h2=>h' q h1 K0
def srt (l:List Int):List Int:=l.mergeSort λx y=>decide (x<=y)
def Ob (l:List Int):(srt l).Perm l:=List.mergeSort_perm l _
def agQ (l:List Int):(srt l).Pairwise λx y=>x<=y:=by
 have:=List.pairwise_mergeSort (le:=λx y:Int=>decide (x<=y)) (λa b c h1 h2=>by grind) (λa b=>by grind) l;exact this.imp λh=>by grind
def QX {l:List Pu}{n:Nat}(h1:1<=n)(h2:n<=l.length)(hb: ∀p∈l,1<=p.2.1.natAbs/\p.2.1.natAbs<=4096):
  (srt (l.map λp=>(p.2.1.natAbs:Int))).getD (l.length -n) 0=(qE l n 4096:Nat):=by
 have hc:=QW l;have hp:=Ob (l.map λp=>(p.2.1.natAbs:Int));have hs:=agQ (l.map λp=>(p.2.1.natAbs:Int));have hm: ∀x∈srt (l.map λp=>(p.2.1.natAbs:Int)),1<=x/\x<=4096:=λx hx=>by grind
 have hl:=hp.length_eq;rw[jf]at hl;have abt: ∀q:Nat,rO l q=(srt (l.map λp=>(p.2.1.natAbs:Int))).countP λx=>decide ((q:Int)<=x):=λq=>by rw[hc,hp.countP_eq]
 generalize srt (l.map λp=>(p.2.1.natAbs:Int))=ss at*;have hk:l.length -n<ss.length:=by omega
 obtain⟨k,hke⟩: ∃k,k=l.length -n:=⟨_,rfl⟩;rw[<- hke]at hk ⊢;have hg:ss.getD k 0=ss[k]:=by grind
 have hv:=hm _ (pH hk);rw[hg];obtain⟨v,hve⟩: ∃v:Nat,ss[k]=v:=⟨ss[k].toNat,by omega⟩;rw[hve]at hv ⊢
 have hge: ∀j (hj:j<ss.length),k<=j->(v:Int)<=ss[j]:=λj hj hkj=>by
  rw[<- hve];rcases Nat.lt_or_eq_of_le hkj with h|rfl
  ·exact aez.1 hs k j hk hj h
  omega
 have eB: ∀j (hj:j<ss.length),j<=k->ss[j]<=(v:Int):=λj hj hkj=>by
  rw[<- hve];rcases Nat.lt_or_eq_of_le hkj with h|rfl
  ·exact aez.1 hs j k hj hk h
  omega
 congr 1;symm;refine T5 K0 ?_ K0 λq hq1 hq2=>?_
 ·rw[abt];have e:ss=ss.take k++ss.drop k:=(LA k ss).symm
  have hd:(ss.drop k).countP (λx=>decide ((v:Int)<=x))=(ss.drop k).length :=by
   rw[List.countP_eq_length];intro a ha;obtain⟨j,hj,rfl⟩:=XT ha;rw[List.getElem_drop];simp only[SR]at hj;simpa using hge (k+j) K0 K0
  grind
 ·rw[abt];have e:ss=ss.take (k+1)++ss.drop (k+1):=(LA (k+1) ss).symm
  have hd:(ss.take (k+1)).countP (λx=>decide ((q:Int)<=x))=0:=by
   rw[List.countP_eq_zero];intro a ha;obtain⟨j,hj,rfl⟩:=XT ha
   grind
  grind
def aao {a b:Int × Int}(h:(oV a b).2=0):a.2=0/\b.2=0:=by
 unfold oV at h
 grind
def Cw {x:Gq}(h:(mM x).2=0):(1<=x.least/\x.least<=60)/\x.ps.length<=60/\(∀p∈x.ps,1<=p.2.1.natAbs/\p.2.1.natAbs<=4096)/\
  ((1<=x.lo.1/\x.lo.1<=1000000000)/\1<=x.lo.2/\x.lo.2<=1000000000)/\(1<=x.hi.1/\x.hi.1<=1000000000)/\1<=x.hi.2/\x.hi.2<=1000000000:=by
 obtain⟨h1,h2⟩:=aao h;obtain⟨_,h3⟩:=vU.1 h1;obtain⟨a1,h4⟩:=vU.1 h3;obtain⟨a2,a3⟩:=vU.1 h4;have b1:(1<=x.per/\x.per<=1000000)/\1<=x.least/\x.least<=60:=by omega
 have b3:x.ps.length<=60:=by omega
 refine⟨b1.2,b3,λp hp=>?_,?_⟩
 grind[List.getElem_of_mem,oF,yV]
 grind[NH]
noncomputable def adn (x:Gq):Int × Int:=if(mM x).2=0 then(if x.least<=x.ps.length then((qE x.ps x.least 4096:Nat),0)else(0,12))else(0,(mM x).2)
def Km (l:List Pu)(n:Int): ∀Q:Nat,qE l n Q<=Q
 |0=>dz _
 |Q+1=>by
  unfold qE;split;omega
  ·exact Nat.le_succ_of_le (Km l n Q)
end Go.Plain
namespace Go.Fw
open Go.RowKit (Below)
open Go.Shelf
variable {P:Program}{gl:s7}
theorem aap {ρ:Ren}(L:Proofs.Lays.n189 P ρ)(fC:iH P (ρ.f 189)=true)(xs:List Int)(h0:0<xs.length)(hl:xs.length<4611686018427387904):nN P gl (ρ.f 189) [(false,[.ints xs])] (.uK 1 (.ints (xs.mergeSort λx y=>decide (x<=y)))):=by
 have bA:(xs.mergeSort λx y=>decide (x<=y)).length =xs.length:=List.length_mergeSort _;refine .inr ⟨.ints xs,rfl,fC,rfl,by simp[SC.len],?_,?_,?_⟩
 ·intro i e he;simp[SC.elem]at he;obtain⟨a,_,rfl⟩:=he;rfl
 ·intro h;exact absurd h (by show xs.length≠0;omega)
 ·intro mv w b cap arr T hb np fX hr;have fX:xs.length<=cap:=fX;have np:arr.size=cap:=by omega
  have iQ: ∀j,j<xs.length->arr[j]? =some (.int .i64 (xs.getD j 0)):=by
   intro j hj;have h2:=hr j [.lit (.int .i64 (xs.getD j 0))] 0 (.lit (.int .i64 (xs.getD j 0))) (by simp[SC.elem,oX hj,jP]) rfl;simp only[AT,CQ]at h2;have hj':j<arr.size:=by omega
   have e:arr.getD j undef=arr[j]:=by simp[sE,hj']
   rw[e]at h2;rw[aeA hj',gd h2]
  have hH:Sort.Holds (Value.int .i64) w b 0 xs.toArray:=by
   intro j hj;have hj:j<xs.length:=by simpa using hj
   constructor
   ·simp only[World.cell?,hb,j8];rw[iQ j hj];simp[jP,hj]
   ·simp[World.frozen?,hb]
  have hbl:b<w.heap.size:=(FT.1 hb).1;refine(Proofs.Any.slices_Sort_int L b 0 cap xs w hH hbl hl).mono λe w' he=>?_;generalize (xs.mergeSort λx y=>decide (x<=y))=ys at*;obtain⟨rfl,n,os,rfl⟩:=he;have xA:(Sort.ahead w n).heap[b]? =some (.cells arr T):=hb
  have hb2:(Sort.grow (Sort.ahead w n) os).heap[b]? =some (.cells arr T):=by
   show(w.heap++os)[b]? =_;rw[XI hbl];exact hb
  refine⟨rfl,Sort.grow (Sort.ahead w n) os,Sort.putCells (Value.int .i64) 0 ys.toArray arr,?_,?_,by simp[Sort.putCells],?_⟩
  ·refine⟨rfl,rfl,rfl,?_,λc hc=>?_⟩
   ·show w.heap.size<=(w.heap++os).size;simp
   ·show(w.heap++os)[c]? =w.heap[c]?;rw[XI hc]
  ·rw[pK xA,<- pK hb2];rw[<- pK xA];unfold Sort.putRow Sort.mapBlock Sort.grow;congr 1;show(w.heap.modify b _)++os=(w.heap++os).modify b _;apply AV
   ·simp
   ·intro i h1 h2;by_cases hi:i<w.heap.size
    ·rw[aeB abW,Sy,Sy,aeB hi]
    ·rw[aex abW,Sy,if_neg K0,aex K0];simp
  intro i e j x he hx;simp only[SC.elem,my]at he;obtain⟨a,ha,rfl⟩:=he;have hi:i<xs.length:=by have:=(kp.1 ha).1;omega
  cases j with
  |zero=>
   simp at hx;subst hx;have kH:i<arr.size:=by omega
   have hg:(Sort.putCells (Value.int .i64) 0 ys.toArray arr)[i]? =some (.int .i64 a):=by
    simp only[Sort.putCells,Array.getElem?_mapIdx,aeA kH,xJ,dM,CY,j8,G4];rw[if_pos (by simpa [bA]using hi)]
    have:ys.toArray[i]! =a:=by
     have:=(kp.1 ha);obtain⟨q1,q2⟩:=this;simp[q1,q2]
    rw[this]
   exact am6
  |succ j=>simp at hx
end Go.Fw
namespace Go.Plain
open Go.Lib
def AG:List aj->Nat->Nat
 |_,0=>0
 | [],_=>0
 |w::r,k+1=>w.length+1+AG r k
def It: ∀ {l:List aj} {k:Nat},k<l.length->AG l (k+1)=AG l k+(l.getD k []).length +1
 | [],k,h=>by grind
 |w::r,0,h=>by simp[AG]
 |w::r,k+1,h=>by
  have:=It (l:=r) (k:=k) bq
  grind[AG]
def Iu: ∀(k:Nat) (s:aj),k< (ar 32 s).length ->AG (ar 32 s) k<=s.length/\s.drop (AG (ar 32 s) k)=bP k s
 |0,s,_=>⟨by simp[AG],by simp[AG,bP]⟩
 |k+1,s,h=>by
  rcases kw 32 s with⟨h1,h2⟩|⟨i,h1,h2,h3⟩
  grind
  ·have h3:ar 32 s=s.take i::ar 32 (s.drop (i+1)):=h3;have hi:(s.take i).length =i:=by grind
   have hd:bP (k+1) s=bP k (s.drop (i+1)):=by grind[bP]
   rw[h3]at h ⊢;obtain⟨a,b⟩:=Iu k (s.drop (i+1)) bq;rw[hd,<- b];show(s.take i).length +1+AG _ k<=_/\s.drop ((s.take i).length +1+AG _ k)=_;rw[hi,Yb]
   grind
end Go.Plain
namespace Go.Fw
def Oy (d d':DC):Prop:=d'=d\/d'= .st .any
def AK {F:gN}{β:Nat->Option Nat}{N:Nat->Prop}{H:HF}{w:World}{v:Value}{d d':DC}(h:Oy d d')(hr:co F β N H w v d):co F β N H w v d':=by
 rcases h with rfl|rfl
 ·exact hr
 ·exact dw.any hr.one_cell
def Fp {E:dT}{Hh:Hp}{nx:Nat}(id i:Nat){z:Nat}{l:List (List DC)}{e e':List DC}(hB:Hh.get id=some (.aG z l))(hi:l[i]? =some e)(hl:e'.length=e.length)(hc: ∀(k:Nat) (d d':DC),e[k]? =some d->e'[k]? =some d'->Oy d d'):
  bs ⟨E,Hh,nx⟩ ⟨E,(id,some (.aG z (l.set i e')))::Hh,nx⟩:=by
 rintro F nt a w ⟨N,⟨q1,q2,q0,β,q3,q4⟩,q5⟩;have ak:i<l.length:=(kp.1 hi).1;have hs:mP β Hh.get (bn Hh.get id (some (.aG z (l.set i e')))):=NM hB (λo h=>h.elim) (by simp[cB.sz]);refine⟨N,⟨q1,q2,q0,β,?_,?_⟩,q5⟩
 ·exact aiV
 ·rw[Hp.au];refine mP.heap q4 hB hs ?_;obtain⟨_,⟨h1,h3⟩,sB⟩:=q4.rel id _ hB;refine⟨⟨h1,λj x hx=>?_⟩,?_⟩
  ·by_cases hj:i=j
   ·subst hj;rw[IT ak]at hx;cases hx;rw[hl];exact h3 i e hi
   ·rw[Pz hj]at hx;exact h3 j x hx
  ·rcases sB with⟨a1,a2⟩|⟨b,cap,arr,T,a1,a2,b1,b2,b3,b4⟩
   ·exact .inl ⟨a1,by rw[CM];exact a2⟩
   ·refine .inr ⟨b,cap,arr,T,a1,a2,b1,b2,by rw[CM];exact b3,λj x k d hx hd=>?_⟩;by_cases hj:i=j
    ·subst hj;rw[IT ak]at hx;cases hx;have hk:k<e.length:=by rw[<- hl];exact(kp.1 hd).1
     have hd0:e[k]? =some e[k]:=oX hk;exact AK (hc k e[k] d hd0 hd) (hs.ju (b4 i e k e[k] hi hd0))
    ·rw[Pz hj]at hx;exact hs.ju (b4 j x k d hx hd)
theorem bW.Pt {C:bN}{fid:Nat}{f:FuncId}{xs xs':List DX}{H:HF}{r:DV}{u:Hp}{R:List Nat}(h:bW C fid f xs H r u R)(hl:xs'.length=xs.length)
  (hx: ∀(k:Nat) (x x':DX),xs[k]? =some x->xs'[k]? =some x'->x.1=x'.1/\x.2.length=x'.2.length/\∀(j:Nat) (d d':DC),x'.2[j]? =some d->x.2[j]? =some d'->Oy d d'):bW C fid f xs' H r u R:=by
 refine⟨h.1,λF β N H' w vs hR hG hH hf np hv=>h.2 F β N H' w vs hR hG hH hf (by rw[np,hl]) λk x hk=>?_⟩;have ak:=(kp.1 hk).1;have hd:xs'[k]? =some (xs'[k]'K0):=oX _;obtain⟨h1,h2,h3⟩:=hx k x _ hk hd;have hr:=hv k _ hd;generalize xs'[k]'K0=x' at*;obtain⟨g,ds⟩:=x;obtain⟨g',ds'⟩:=x';simp only at h1 h2 h3;subst h1;unfold aq at hr ⊢;cases g
 ·obtain⟨c,R3,hr⟩:=hr;simp only at R3;subst R3;obtain⟨c',rfl⟩:=xG.1 (by simpa using h2);exact⟨c',rfl,AK (h3 0 c c' rfl rfl) hr⟩
 ·obtain⟨arr,g1,g2,g3⟩:=hr;refine⟨arr,g1,by simp only at g2 ⊢;omega,λk c hk=>?_⟩;simp only at hk;have ak:=(kp.1 hk).1;have hd:ds'[k]? =some (ds'[k]'K0):=oX _;exact AK (h3 k _ c hd hk) (g3 k _ hd)
def adS (m:List (Nat × Nat))(H:HF):Hp->Prop
 | []=>True
 |(n,b)::r=>(∃o b0,(o,n)∈m/\H o=some b0/\fp m b0=b)/\adS m H r
def Fq {m:List (Nat × Nat)}{H:HF}: ∀ {X:Hp},adS m H X->∀n b',X.get n=some b'->∃o b,(o,n)∈m/\H o=some b/\fp m b=some b'
 | [],_,n,b',e=>by simp[Hp.get]at e
 |(j,b)::X,⟨⟨o,b0,h1,h2,h3⟩,h4⟩,n,b',e=>by
  rw[Hp.au]at e;by_cases hn:n=j
  ·subst hn;rw[am]at e;subst e;exact⟨o,b0,h1,h2,h3⟩
  ·rw[az _ _ _ hn]at e;exact Fq h4 n b' e
def vn {E E':dT}{Hh X:Hp}{nx n':Nat}{m:List (Nat × Nat)}{ks:List Nat}(hd:(eM (m.map Prod.fst)&&eM (m.map Prod.snd))=true)(hX:adS m Hh.get X)(hn:(m.all λq=>Nat.blt (tag q.2) n')=true)(hE:e8 m E.get ks=some E'):bs ⟨E,Hh,nx⟩ ⟨E',X,n'⟩:=by
 simp only[sG]at hd;refine Cs (m:=m) ⟨bX hd.1,bX hd.2,Fq hX⟩ (λq hq=>?_) hE;have:=ww.1 hn q hq;rwa [AU]at this
def nJ {m:List (Nat × Nat)}{H:HF}{X:Hp}(hd:(eM (m.map Prod.fst)&&eM (m.map Prod.snd))=true)(hX:adS m H X):cW m H X.get:=by
 simp only[sG]at hd;exact⟨bX hd.1,bX hd.2,Fq hX⟩
abbrev stL (V:List (List SC)):List (List DC):=V.map λ(e:List SC)=>e.map DC.st
def Fr (m:List (Nat × Nat)): ∀(e:List SC),eZ m (e.map .st)=some (e.map .st)
 | []=>rfl
 |c::e=>by
  show(match m7 m (.st c)with|some c'=>(match eZ m (e.map .st)with|some xk=>some (c'::xk)|none=>none)|none=>none)=_;rw[Fr m e];rfl
def KH (m:List (Nat × Nat)): ∀(V:List (List SC)),fH m (stL V)=some (stL V)
 | []=>rfl
 |e::V=>by
  show(match eZ m (e.map .st)with|some e'=>(match fH m (stL V)with|some l'=>some (e'::l')|none=>none)|none=>none)=_;rw[Fr m e,KH m V];rfl
theorem kl {m:List (Nat × Nat)}{V:List (List SC)}{i:Nat}{e e':List DC}(he:eZ m e=some e'):fH m ((stL V).set i e)=some ((stL V).set i e'):=by
 by_cases hi:i<V.length
 ·refine Y6 abW he λj x _ hx=>?_;rw[gq,my]at hx;obtain⟨x0,_,rfl⟩:=hx;exact Fr m x0
 ·have h: ∀x:List DC,(stL V).set i x=stL V:=λx=>List.set_eq_of_length_le abW;rw[h,h];exact KH m V
def unz (n id:Nat):Nat:=id/2 -n*4294967296
def W0 {n k:Nat}(h:0<k):unz n (fresh n 0 k)=k:=by rw[qj K0];unfold unz;omega
def DC.Lr {ρ σ:Nat->Nat}{ok:Nat->Prop}(h: ∀k,ok k->σ (ρ k)=k){d:DC}(hd:d.dQ ok):(d.rn ρ).rn σ=d:=by cases d<;>first|rfl|(have hd:ok _:=hd;simp only[DC.rn,h _ hd])
def adT {ρ σ:Nat->Nat}{ok:Nat->Prop}(h: ∀k,ok k->σ (ρ k)=k){x:DX}(hx:ee ok x):Gi σ (Gi ρ x)=x:=by
 obtain⟨g,ds⟩:=x;unfold Gi;simp only[zS,gr,CY];conv=>rhs;rw[<- LV ds]
 exact Lw λd hd=>DC.Lr h (hx d hd)
def cB.Lr {ρ σ:Nat->Nat}{ok:Nat->Prop}(h: ∀k,ok k->σ (ρ k)=k){b:cB}(hb:b.dQ ok):(b.rn ρ).rn σ=b:=by
 have hd: ∀ds:List DC,(∀d∈ds,d.dQ ok)->(ds.map (DC.rn ρ)).map (DC.rn σ)=ds:=λds h'=>by
  rw[zS];conv=>rhs;rw[<- LV ds]
  exact Lw λd hm=>DC.Lr h (h' d hm)
 cases b with
 |box t cs=>simp only[cB.rn];rw[hd cs hb]
 |aG z l=>
  simp only[cB.rn];congr 1;rw[zS];conv=>rhs;rw[<- LV l]
  exact Lw λe he=>hd e (hb e he)
 |_=>rfl
section
variable {C:bN}{f:FuncId}{fid nx n:Nat}{xs:List DX}{T T':Hp}{r:DV}{H:HF}
def w7 (h:bt C f 1 xs T [] r T')(hT:MH T)(fj:MH T')(hs: ∀id∈ah T,(T.get id).map (cB.rn (fresh n 0))=H (fresh n 0 id))(B9: ∀x∈xs,ee (· ∈ah T) x)(hr:lG (· ∈ah T') r):
  bW C fid f (xs.map (Gi (fresh n 0))) H (Lc (fresh (Fw.tag fid) 0) r) (cI (cS (fresh n 0) T) (cS (fresh (Fw.tag fid) 0) T')) (ah (cS (fresh n 0) T)):=by
 have hi:=fj.inj (Fw.tag fid);have zG:=hT.inj n;have fN: ∀k∈ah T,unz n (fresh n 0 k)=k:=λk hk=>W0 (hT.lt k hk).1;have B8: ∀o b,(cS (fresh n 0) T).get o=some b->∃k b0,k∈ah T/\o=fresh n 0 k/\T.get k=some b0/\b=b0.rn (fresh n 0):=(m8.new hT zG).heap
 have hR:m8 (ah (cS (fresh n 0) T)) (unz n) (cS (fresh n 0) T).get T.get:=by
  refine⟨?_,λi h1 j h2 e=>?_,λk b e=>?_,λk b e=>?_⟩
  ·rw[dn];have AR:=(m8.new hT zG).ok.news;have:(sn (ah T) (fresh n 0)).map Prod.snd=(ah T).map (fresh n 0):=by exact Yf
   rwa [this]at AR
  ·rw[dn]at h1 h2;obtain⟨a,ha,rfl⟩:=dS.1 h1;obtain⟨c,hc,rfl⟩:=dS.1 h2;rw[fN a ha,fN c hc]at e;rw[e]
  ·obtain⟨o,b0,h1,rfl,h3,rfl⟩:=B8 k b e;exact JF (cB.dL (λx hx=>by rw[dn];exact dS.2 ⟨x,hx,rfl⟩) (hT.dQ o b0 h3))
  ·have hk:=Hp.dV e;refine⟨fresh n 0 k,b.rn (fresh n 0),by rw[dn];exact dS.2 ⟨k,hk,rfl⟩,(fN k hk).symm,?_,(cB.Lr fN (hT.dQ k b e)).symm⟩;rw[jR zG k hk,e];rfl
 have h':bt C f 1 ((xs.map (Gi (fresh n 0))).map (Gi (unz n))) T [] r T':=by
  rw[zS]
  have:xs.map (Gi (unz n) ∘ Gi (fresh n 0))=xs:=by
   conv=>rhs;rw[<- LV xs]
   exact Lw λx hx=>adT fN (B9 x hx)
  rw[this];exact h
 have RW: ∀x∈xs.map (Gi (fresh n 0)),ee (· ∈ah (cS (fresh n 0) T)) x:=λx hx=>by
  obtain⟨x0,h0,rfl⟩:=dS.1 hx;exact DF (λd hd=>DC.dL (λk hk=>by rw[dn];exact dS.2 ⟨k,hk,rfl⟩) (B9 x0 h0 d hd))
 have h2:bt C f (n+1) (xs.map (Gi (fresh n 0))) (cS (fresh n 0) T) [] r T':=by
  refine h'.inn hR (λo b e=>?_) (λk hk=>?_) RW λid hid=>by cases hid
  ·obtain⟨k,b0,h1,rfl,h3,rfl⟩:=B8 o b e;exact⟨Hp.dV e,by rw[fN k h1,h3,cB.Lr fN (hT.dQ k b0 h3)]⟩
  ·rw[dn]at hk;obtain⟨a,ha,rfl⟩:=dS.1 hk;rw[fN a ha,(hT.lt a ha).2.2];omega
 have hg:=h2.out (m8.new fj hi) hr λid hid=>by cases hid
 have l6: ∀k∈ah T',fresh (Fw.tag fid) 0 k∈([]:List Nat)\/Fw.tag (fresh (Fw.tag fid) 0 k)=Fw.tag fid:=λk hk=>.inr (fj.tag hk);refine gu hg (λid hid=>?_) (λid hid=>?_) hR.dQ RW (λid hid=>by cases hid) (λid hid=>?_) (λid b e=>?_) (yv (rC l6 hr))
 ·have hid:id∈ah (cS (fresh n 0) T):=hid;rw[dn]at hid;obtain⟨k,hk,rfl⟩:=dS.1 hid;rw[hT.tag hk];omega
 ·have hid:id∈ah (cS (fresh n 0) T):=hid;rw[dn]at hid;obtain⟨k,hk,rfl⟩:=dS.1 hid;rw[<- hs k hk,jR zG k hk]
 ·have hid:id∈ah (cS (fresh (Fw.tag fid) 0) T'):=hid;exact ajk
 ·exact afy
end
end Go.Fw
namespace Go.Plain
structure LK (p:Pl) (s:bQ):Prop where
 volt:s.volt=true->s.opens= []/\s.earth=false
 earth:s.opens≠[]->s.earth=true
 gate: ∀x∈s.opens,x∈p.ap
 nd:s.opens.Nodup
def LK.begin (p:Pl):LK p gm:=⟨(by intro h;cases h),(by intro h;exact absurd rfl h),(by intro x h;cases h),G3⟩
theorem LK.len {p:Pl}{s:bQ}(h:LK p s):s.opens.length<=p.ap.length:=by
 have: ∀(l m:List aj),l.Nodup->(∀x∈l,x∈m)->l.length<=m.length:=by
  intro l
  induction l with
  |nil=>grind
  |cons a l ih=>
   intro m hn hm;obtain⟨h1,h2⟩:=zP.1 hn;have ha:=hm a ja
   have:=ih (m.erase a) h2 (λx hx=>by
    grind)
   grind
 exact this _ _ h.nd h.gate
def Iz {E:qp}{p:Pl}{log:List En}{s:bQ}{u:Un}{k:Nat}{a:List aj}{n:List Int}{q:aj}(hk:k=10\/k=11)(h:(aI E p log s u k a n q).2=0):s.opens≠[]:=by
 intro ho;rcases hk with rfl|rfl
 ·have e:aI E p log s u 10 a n q=if u.rel then(u,20)else if s.hall= []then(if s.opens= []then(u,24)else(u,0))else(u,17):=rfl
  grind
 ·have e:aI E p log s u 11 a n q=if s.hall=u.name then(if s.opens= []then(u,24)else(u,0))else(u,20):=rfl
  grind
open Go.Lib
def OT: ∀s:av,join (ar 32 s) [32]=s
 | []=>rfl
 |b::r=>by
  have ih:=OT r;have fh:=lU 32 r;unfold ar;split
  ·rename_i h;have hb:b=32:=CU.1 h;subst hb
   cases hs:ar 32 r with
   |nil=>exact absurd hs fh
   |cons w ws=>
    rw[hs]at ih;rw[join_cons];exact aju
  ·cases hs:ar 32 r with
   |nil=>exact absurd hs fh
   |cons w ws=>
    rw[hs]at ih;dsimp only;exact aju
def GN (x y:aj):aj:=[117,115,101,32]++x++[32]++y
def OU {x:aj}(h:eK x): ∀b∈x,b.toNat≠32:=by
 intro b hb;obtain⟨i,hi,rfl⟩:=CI.1 hb;have:=h.2 i hi;unfold okc at this;rw[jP,oX hi,sZ]at this;omega
def IA (x y:aj):GN x y=join [[117,115,101],x,y] [32]:=by
 unfold GN;simp[join_cons,joinTail]
def Fy {x y:aj}(hx:eK x)(hy:eK y):ar 32 (GN x y)= [[117,115,101],x,y]:=by
 rw[IA];refine MQ _ _ λw hw=>?_;simp only[dh,mV,mY]at hw;rcases hw with rfl|rfl|rfl
 ·decide
 ·exact OU hx
 ·exact OU hy
structure Ent (tx:aj) (k:Nat) (a:List aj) (r:aj):Prop where
 no:jJ ((ar 32 tx).getD 0 [])=k
 lt:k<19
 args:a=((ar 32 tx).take ((vb k).words +1)).drop 1
 len:(vb k).words +1<=(ar 32 tx).length
 all:(vb k).rest =false->(ar 32 tx).length =(vb k).words +1
 rest:r=if(vb k).rest then bP ((vb k).words +1) tx else []
def IB {tx:aj}{k:Nat}{a:List aj}{n:List Int}{r:aj}(RV:k<19)(hk:jJ ((ar 32 tx).getD 0 [])=k)(h:dU (vb k) tx=some (a,n,r)):Ent tx k a r:=by
 unfold dU at h;dsimp only at h;split at h
 ·cases h
 ·rename_i hc
  cases hn:jl (((ar 32 tx).take ((vb k).words +1)).drop ((vb k).words +1 -(vb k).pZ))with
  |none=>rw[hn]at h;cases h
  |some m=>
   rw[hn]at h;cases h;have h2:(vb k).rest =false->(ar 32 tx).length =(vb k).words +1:=λhr=>XO λhl=>hc (.inr (.inl ⟨hr,hl⟩));refine⟨hk,RV,rfl,?_,h2,rfl⟩
   cases hr:(vb k).rest with
   |false=>rw[h2 hr];exact dz _
   |true=>
    have: ¬(ar 32 tx).length < (vb k).words +2:=λhl=>hc (.inl ⟨hr,hl⟩);omega
def Ent.arg {tx:aj}{k:Nat}{a:List aj}{r:aj}(h:Ent tx k a r){i:Nat}(hi:i< (vb k).words):a.getD i []=(ar 32 tx).getD (i+1) []:=by
 have:=h.len;rw[h.args,jP,jP,PC,GY,if_pos K0,Nat.add_comm]
def KQ {w:aj}{k:Nat}(h:jJ w=k)(RV:k<19):w=(kf.getD k ([],⟨0,0,0,false⟩)).1:=by
 subst h;have h':jJ w< (kf.map Prod.fst).length :=RV;have e:(kf.map Prod.fst)[jJ w]=w:=SI h';have hv:jJ w<kf.length:=RV;exact ajS
def Ent.use {tx:aj}{a:List aj}{r:aj}(h:Ent tx 3 a r):tx=GN (a.getD 0 []) (a.getD 1 []):=by
 have hl:(ar 32 tx).length =3:=h.all rfl;have hw:(ar 32 tx).getD 0 []= [117,115,101]:=KQ h.no h.lt;rw[h.arg (i:=0) K9,h.arg (i:=1) K9,IA,<- hw];conv=>lhs;rw[<- OT tx]
 congr 1
 match hs:ar 32 tx,hl with
 | [_,_,_],_=>rfl
def ag7 {x y:aj}(hx:eK x)(hy:eK y):jJ ((ar 32 (GN x y)).getD 0 [])=3:=by rw[Fy hx hy];rfl
def Ent.UF {tx:aj}{k:Nat}{a:List aj}{r:aj}(h:Ent tx k a r){x y:aj}(hx:eK x)(hy:eK y)(e:tx=GN x y):k=3/\a.getD 0 []=x/\a.getD 1 []=y:=by
 subst e;obtain rfl:k=3:=h.no.symm.trans (ag7 hx hy);refine⟨rfl,?_,?_⟩
 ·rw[h.arg (i:=0) K9,Fy hx hy];rfl
 ·rw[h.arg (i:=1) K9,Fy hx hy];rfl
def BJ {E:qp}{p:Pl}{log:List En}{s:bQ}{u:Un}{k:Nat}{a:List aj}{n:List Int}{r:aj}(h:(aI E p log s u k a n r).2=0):
  (aI E p log s u k a n r).1.name =u.name/\(aI E p log s u k a n r).1.win =u.win/\(aI E p log s u k a n r).1.lots =(if k=3 then u.lots++[a.getD 1 []]else u.lots)/\(k=3->a.getD 1 []∈s.lots):=by
 revert h
 unfold aI;split;all_goals((try dsimp only);repeat' split)
 all_goals intro h
 all_goals first|exact absurd h (by decide)|exact⟨rfl,rfl,rfl,λh=>absurd h (by decide)⟩|exact⟨rfl,rfl,rfl,λ_=>by assumption⟩|grind
def abd {l:List aj}{x:aj}(h:0<=aZ l x): ∃j:Nat,aZ l x=(j:Nat)/\l[j]? =some x:=by
 unfold aZ at h ⊢;by_cases hx:x∈l
 ·rw[if_pos hx];have hl:=Se hx;exact⟨_,rfl,by rw[oX hl,SI hl]⟩
 ·rw[if_neg hx]at h;exact absurd h K9
def AN {E:qp}{p:Pl}{log:List En}{s s':bQ}{k:Nat}{a:List aj}{n:List Int}{r:aj}(h:ba E p log s k a n r=(s',0)):
  (s'.lots=s.lots\/k=1/\eK (a.getD 0 [])/\s'.lots=s.lots++[a.getD 0 []])/\
  ((k=2/\eK (a.getD 0 [])/\a.getD 0 []∉cT s/\(E.pu r).2=0/\s'.units=s.units++[{pX with name:=a.getD 0 [],win:=(E.pu r).1}])\/
  (k≠2/\k≠3/\k<10/\s'.units=s.units)\/
  (k≠2/\∃(i:Nat) (u:Un),gY s (a.getD 0 [])=(i:Nat)/\s.units[i]? =some u/\u.name=a.getD 0 []/\(aI E p log s u k a n r).2=0/\s'.units=s.units.set i (aI E p log s u k a n r).1)):=by
 unfold ba at h;split at h
 case h_10=>
  split at h
  ·rename_i hx;obtain⟨j,hj,hjx⟩:=abd hx;have hj:gY s (a.getD 0 [])=(j:Nat):=hj;unfold cT at hjx;rw[gq,my]at hjx;obtain⟨u,hu,hn⟩:=hjx;dsimp only at h;have hg:s.units.getD j pX=u:=by rw[jP,hu,sZ]
   rw[hj,p8,hg]at h;simp only[gr]at h;obtain⟨rfl,hz⟩:=h;exact⟨.inl rfl,.inr (.inr ⟨by assumption,j,u,hj,hu,hn,hz,rfl⟩)⟩
  ·simp only[gr]at h;exact absurd h.2 K9
 all_goals(try dsimp only at h)
 all_goals repeat' split at h
 all_goals(simp only[gr]at h;obtain⟨rfl,h⟩:=h)
 all_goals first|exact absurd h (by decide)|contradiction|exact⟨.inl rfl,.inr (.inl ⟨by decide,by decide,by decide,rfl⟩)⟩|exact⟨.inr ⟨rfl,by assumption,rfl⟩,.inr (.inl ⟨by decide,by decide,by decide,rfl⟩)⟩|exact⟨.inl rfl,.inl ⟨rfl,by assumption,by assumption,by assumption,rfl⟩⟩|skip
def IC {us:List Un}{i:Nat}{u v:Un}(Xf:us[i]? =some u)(q1:v.name=u.name):(us.set i v).map Un.name=us.map Un.name:=by
 rw[LU,q1];refine LG λj=>?_;rw[List.getElem?_set];split
 ·rename_i h;subst h;rw[gq,Xf];have:=(kp.1 Xf).1;simp[this]
 ·rfl
def ad0 {us:List Un}{i:Nat}{u v:Un}(AR:(us.map Un.name).Nodup)(Xf:us[i]? =some u){P:Un->Prop}(g1: ∀w∈us,w.name≠u.name->P w)(g2:P v): ∀w∈us.set i v,P w:=λw hw=>by
 obtain⟨j,hj,e1⟩:=CI.1 hw;rw[List.getElem_set]at e1;split at e1
 ·subst e1;exact g2
 ·rename_i Lh;rw[CM]at hj;subst e1;refine g1 _ (pH _) λhnm=>Lh ?_;have Uw:=(kp.1 Xf).1;have lE:us[i]=u:=(kp.1 Xf).2;exact(List.getElem_inj (xs:=us.map Un.name) (i:=i) (j:=j) (h₀:=by simpa using Uw) (h₁:=by simpa using hj) AR).1 (by simp[hnm,lE])
def ad1 {E:qp}{p:Pl}{log:List En}{s s':bQ}{k:Nat}{a:List aj}{n:List Int}{r:aj}(hn:(cT s).Nodup)(h:ba E p log s k a n r=(s',0)):(cT s').Nodup :=by
 unfold cT at hn ⊢
 rcases(AN h).2 with⟨_,_,h2,_,hu⟩|⟨_,_,_,hu⟩|⟨_,i,u,_,Xf,_,hz,hu⟩
 ·rw[hu,wx]
  exact IU.2 ⟨hn,by simp,λx hx y hy e1=>by
   have hy:y=a.getD 0 []:=by simpa using hy
   subst hy;subst e1;exact h2 hx⟩
 ·rw[hu];exact hn
 ·rw[hu,IC Xf (BJ hz).1];exact hn
def zA (x tx:aj):Prop:=jJ ((ar 32 tx).getD 0 [])=2/\(ar 32 tx).getD 1 []=x
structure TI (E:qp) (l:List En) (s:bQ):Prop where
 nd:(cT s).Nodup
 nm: ∀u∈s.units,eK u.name
 ln: ∀x∈s.lots,eK x
 lots: ∀u∈s.units,∀y,eK y->(y∈u.lots↔∃e∈l,e.text=GN u.name y)
 known: ∀e∈l,∀x y,eK x->eK y->e.text=GN x y->x∈cT s
 win: ∀u∈s.units,(∃e∈l,zA u.name e.text)/\∀e∈l,zA u.name e.text->E.pu (bP 2 e.text)=(u.win,0)
 fresh: ∀e∈l,∀x,zA x e.text->x∈cT s
def TI.begin (E:qp):TI E [] gm:=⟨G3,(λ_ h=>by cases h),(λ_ h=>by cases h),(λ_ h=>by cases h),(λ_ h=>by cases h),(λ_ h=>by cases h),(λ_ h=>by cases h)⟩
def lk {α:Type}{l:List α}{x:α}{p:α->Prop}:(∃y∈l++[x],p y)↔(∃y∈l,p y)\/p x:=by
 constructor
 ·rintro⟨y,h,k⟩;rcases gC.1 h with h|h
  ·exact .inl ⟨y,h,k⟩
  ·rw[lz]at h;subst h;exact .inr k
 ·rintro(⟨y,h,k⟩|k)
  ·exact⟨y,Py _ h,k⟩
  ·exact⟨x,by simp,k⟩
def gk {α:Type}{l:List α}{x:α}{p:α->Prop}:(∀y∈l++[x],p y)↔(∀y∈l,p y)/\p x:=by
 constructor
 ·exact λh=>⟨λy hy=>h y (Py _ hy),h x (by simp)⟩
 ·rintro⟨h,k⟩ y hy;rcases gC.1 hy with hy|hy
  ·exact h y hy
  ·rw[lz]at hy;subst hy;exact k
def Ent.unit {tx:aj}{k:Nat}{a:List aj}{r:aj}(h:Ent tx k a r){x:aj}:zA x tx↔k=2/\a.getD 0 []=x:=by
 unfold zA;rw[h.no];constructor
 ·rintro⟨rfl,h2⟩;exact⟨rfl,by rw[h.arg K9,h2]⟩
 ·rintro⟨rfl,h2⟩;exact⟨rfl,by rw[<- h.arg (i:=0) K9,h2]⟩
def TI.step {E:qp}{p:Pl}{log:List En}{s s':bQ}{e:En}{k:Nat}{a:List aj}{n:List Int}{r:aj}(hT:TI E log s)(he:Ent e.text k a r)(h:ba E p log s k a n r=(s',0)):TI E (log++[e]) s':=by
 obtain⟨hl,hu⟩:=AN h
 have hln: ∀x∈s'.lots,eK x:=by
  rcases hl with hl|⟨_,h1,hl⟩
  ·rw[hl];exact hT.ln
  ·rw[hl];exact gk.2 ⟨hT.ln,h1⟩
 rcases hu with⟨rfl,h1,h2,h3,hu⟩|⟨k2,k3,_,hu⟩|⟨k2,i,u,hi,Xf,hun,hz,hu⟩
 ·have hn:cT s'=cT s++[a.getD 0 []]:=by unfold cT;rw[hu,wx];rfl
  have hnu: ∀x y,eK x->eK y->e.text≠GN x y:=λx y hx hy e1=>by have:=(he.UF hx hy e1).1;omega
  refine⟨ad1 hT.nd h,?_,hln,?_,?_,?_,?_⟩
  ·rw[hu];exact gk.2 ⟨hT.nm,h1⟩
  ·rw[hu];refine gk.2 ⟨λu hm y hy=>?_,λy hy=>?_⟩
   ·exact ai1
   ·rw[lk];refine⟨(λh=>by cases h),λo=>?_⟩;rcases o with⟨e1,g1,g2⟩|g
    ·exact absurd (hT.known e1 g1 _ y h1 hy g2) h2
    ·exact absurd g (hnu _ _ h1 hy)
  ·refine gk.2 ⟨λe1 g1 x y hx hy g2=>?_,λx y hx hy g2=>absurd g2 (hnu x y hx hy)⟩;rw[hn];exact Py _ (hT.known e1 g1 x y hx hy g2)
  ·rw[hu];refine gk.2 ⟨λu hm=>?_,?_⟩
   ·obtain⟨g1,g2⟩:=hT.win u hm;refine⟨lk.2 (.inl g1),gk.2 ⟨g2,λg=>?_⟩⟩;have:=(he.unit.1 g).2;exact absurd (by rw[this];exact List.mem_map_of_mem hm) h2
   ·refine⟨lk.2 (.inr (he.unit.2 ⟨rfl,rfl⟩)),gk.2 ⟨λe1 g1 g2=>absurd (hT.fresh e1 g1 _ g2) h2,λ_=>?_⟩⟩;have hr:r=bP 2 e.text:=he.rest;rw[<- hr];exact Prod.ext rfl h3
  ·rw[hn];refine gk.2 ⟨λe1 g1 x g2=>Py _ (hT.fresh e1 g1 x g2),λx g=>?_⟩;rw[<- (he.unit.1 g).2];simp
 ·have hn:cT s'=cT s:=by unfold cT;rw[hu]
  have hnu: ∀x y,eK x->eK y->e.text≠GN x y:=λx y hx hy e1=>k3 (he.UF hx hy e1).1;have fh: ∀x,¬zA x e.text:=λx g=>k2 (he.unit.1 g).1;refine⟨hn▸hT.nd,hu▸hT.nm,hln,?_,?_,?_,?_⟩
  ·rw[hu];intro u hm y hy;exact ai1
  ·rw[hn];exact gk.2 ⟨hT.known,λx y hx hy g2=>absurd g2 (hnu x y hx hy)⟩
  ·rw[hu];exact λu hm=>⟨lk.2 (.inl (hT.win u hm).1),gk.2 ⟨(hT.win u hm).2,λg=>absurd g (fh _)⟩⟩
  ·exact ajE
 ·obtain⟨q1,q2,q3,q4⟩:=BJ hz;generalize (aI E p log s u k a n r).1=v at*;have O2:=jv Xf;have hn:cT s'=cT s:=by unfold cT;rw[hu];exact IC Xf q1
  have fh: ∀x,¬zA x e.text:=λx g=>k2 (he.unit.1 g).1;have lq: ∀ {P:Un->Prop},(∀w∈s.units,w.name≠u.name->P w)->P v->∀w∈s'.units,P w:=λ{P} g1 g2=>hu▸ad0 hT.nd Xf g1 g2;refine⟨hn▸hT.nd,lq (λw hw _=>hT.nm w hw) (q1▸hT.nm u O2),hln,?_,?_,?_,?_⟩
  ·refine lq (λw hw fh y hy=>?_) λy hy=>?_
   ·rw[lk,hT.lots w hw y hy];refine⟨.inl,λo=>o.resolve_right λg=>fh ?_⟩;rw[hun,(he.UF (hT.nm w hw) hy g).2.1]
   ·rw[lk,q1,q3,<- hT.lots u O2 y hy];by_cases h3:k=3
    ·subst h3;rw[if_pos rfl,gC,lz];have ht:=he.use;rw[<- hun]at ht;constructor
     ·rintro(o|rfl)
      ·exact .inl o
      ·exact .inr ht
     ·rintro(o|o)
      ·exact .inl o
      ·exact .inr ((he.UF (hT.nm u O2) hy o).2.2).symm
    ·rw[if_neg h3];exact⟨.inl,λo=>o.resolve_right λg=>h3 (he.UF (hT.nm u O2) hy g).1⟩
  ·rw[hn];refine gk.2 ⟨hT.known,λx y hx hy g2=>?_⟩;have:=(he.UF hx hy g2).2.1;rw[<- this,<- hun];exact List.mem_map_of_mem O2
  ·refine lq (λw hw _=>?_) ?_
   ·exact⟨lk.2 (.inl (hT.win w hw).1),gk.2 ⟨(hT.win w hw).2,λg=>absurd g (fh _)⟩⟩
   ·rw[q1,q2];exact⟨lk.2 (.inl (hT.win u O2).1),gk.2 ⟨(hT.win u O2).2,λg=>absurd g (fh _)⟩⟩
  ·exact ajE
end Go.Plain
namespace Go.Proofs.Tryz
open Go.Fw
def w9 (P:Program)(fn:Func)(s:ChangeSpec)(c:OpenClaim):Bool:=
 (c.kinds==(if c.domain.isEmpty then []else fn.params.toList.map λt=>match P.underlying t with|some (.int k)=>some k|_=>none))&&(c.pinned==c.pinnedBy)&&(c.veiled==(fn.params.toList++s.plain.varTypes P++fn.resultTypes.toList).any (P.veiledRec ·))&&c.veiledFits P fn.params.toList (fn.params.toList++s.plain.varTypes P++fn.resultTypes.toList)
def Xd {P:Program}{f:FuncId}{fn:Func}{s:ChangeSpec}{c:OpenClaim}
  (a:(c.wf (OpenSpec.ofChange s)&&laidOutB P&&mapsRowed P&&fn.params.all (P.readableRec ·)&&namedTie P c.named s.vars&&(c.stops==[])&&(P.stops==[])&&(c.knobs==[])&&(P.stopKnobs==[]))=true)
  (b:(c.inPlace==P.inPlace f)=true)(d:(c.unfollowed==P.unfollowed f)=true)(e:(c.recurses==P.recurses f)=true)(g:(c.named==P.varsNamed f)=true)
  (h:((c.maps==(fn.params.toList++s.plain.varTypes P).any (P.mapsRec ·))&&(c.ifaces==(fn.params.toList++s.plain.varTypes P).any (P.ifacesRec ·))&&(c.mapsOut==P.mapsAmong fn.resultTypes.toList)&&(c.loops==(fn.params.toList++s.plain.varTypes P).any (P.loopsFrom ·))&&(c.wideKeys==(fn.params.toList++s.plain.varTypes P++fn.resultTypes.toList).any (P.wideKeysFrom ·))&&s.vars.all (P.varReadable ·)&&fn.resultTypes.all (λt=>P.readableRec t&&decide (t<P.types.size))&&(c.ifacesOut==fn.resultTypes.toList.any (P.ifacesRec ·))&&(c.loopsOut==fn.resultTypes.toList.any (P.loopsFrom ·)))=true)
  (i:(c.plainKeys==P.plainKeys)=true)
  (j:(c.shortTexts.isNone&&P.stopsHeard&&P.mayEnter&&(c.lifted==P.liftsFinal)&&(P.make==some c.make))=true)
  (k:w9 P fn s c=true):
  joinedFacts P f fn s c=true:=by
 unfold joinedFacts;simp only[w9,sG]at a h j k ⊢;obtain⟨⟨⟨⟨⟨⟨⟨⟨a1,a2⟩,a3⟩,a4⟩,a5⟩,a6⟩,a7⟩,a8⟩,a9⟩:=a;obtain⟨⟨⟨⟨⟨⟨⟨⟨h1,h2⟩,h3⟩,h4⟩,h5⟩,h6⟩,h7⟩,h8⟩,h9⟩:=h;obtain⟨⟨⟨⟨j1,j2⟩,j3⟩,j4⟩,j5⟩:=j;obtain⟨⟨⟨k1,k2⟩,k3⟩,k4⟩:=k;exact⟨⟨⟨⟨⟨⟨⟨⟨⟨⟨⟨⟨⟨⟨⟨⟨⟨⟨⟨⟨⟨⟨⟨⟨⟨⟨⟨⟨⟨⟨⟨a1,a2⟩,a3⟩,a4⟩,a5⟩,a6⟩,a7⟩,a8⟩,a9⟩,b⟩,d⟩,e⟩,g⟩,h1⟩,h2⟩,h3⟩,h4⟩,h5⟩,h6⟩,h7⟩,h8⟩,h9⟩,i⟩,j1⟩,j2⟩,j3⟩,j4⟩,j5⟩,k1⟩,k2⟩,k3⟩,k4⟩
def Xe {P:Program}(h:P.funcs.toList.any Func.goes=false)(f:FuncId):P.goes f=false:=by
 have h1:P.funcs.any Func.goes=false:=by rw[<- Array.any_toList];exact h
 unfold Program.goes;rw[h1,Bool.and_false,LR];rw[X3];intro g _
 cases hg:P.funcs[g]? with
 |none=>simp
 |some fn=>
  have hm:fn∈P.funcs.toList:=by simpa using XQ hg
  simpa using X3.1 h fn hm
def OW {P:Program}(h:P.funcs.toList.any Func.goes=false)(c:OpenClaim):false=c.goesBy P:=by
 unfold OpenClaim.goesBy Program.goesAt Program.goesFrom;have hf:=Xe h;have h2:P.inits.toList.any P.goes=false:=X3.2 λf _=>by rw[hf];decide
 rw[h2];cases P.funcNamed c.func<;>cases c.start<;>simp[hf]
def ad4:prog.funcs.toList.any Func.goes=false:=by kernel_rfl
open Go.ChangeShapes Go.WideShapes Go.ChangeAt Go.RowKit
abbrev oT:List (String × DataW Unit):=[("math/bits.deBruijn32tab",Go.Proofs.YtackacoaaihcjaaGreatDoor.Rows.laid_math_bits_deBruijn32tab),("math/bits.deBruijn64tab",Go.Proofs.YtackacoaaihcjaaGreatDoor.Rows.laid_math_bits_deBruijn64tab),("internal/strconv.uint64pow10",Go.Proofs.YtackacoaaihcjaaGreatDoor.Rows.laid_internal_strconv_uint64pow10),("unicode/utf8.acceptRanges",Go.Proofs.YtackacoaaihcjaaGreatDoor.Rows.laid_unicode_utf8_acceptRanges),("strconv.ErrRange",Go.Proofs.YtackacoaaihcjaaGreatDoor.Rows.laid_strconv_ErrRange),("strconv.ErrSyntax",Go.Proofs.YtackacoaaihcjaaGreatDoor.Rows.laid_strconv_ErrSyntax),("buchholz/group.patterns",Go.Proofs.YtackacoaaihcjaaGreatDoor.Rows.laid_buchholz_group_patterns),("buchholz/wave.never",Go.Proofs.YtackacoaaihcjaaGreatDoor.Rows.laid_buchholz_wave_never),("unicode/utf8.first",Go.Proofs.YtackacoaaihcjaaGreatDoor.Rows.laid_unicode_utf8_first)]
def own:ownKnob prog.godebug=none:=by kernel_rfl
def ad5:laidOutB prog=true:=by kernel_rfl
def ahd {W:World}(h:laidMet prog oT W):laidMetH prog oT W:=by
 unfold laidMetH;rw[show(oT.filter λx=>x.2.handleName?.isSome)= []by kernel_rfl];exact h
def abk (os:Os)(args:Array Value):laidMetH prog oT ((World.laidAll prog os oT).forCall (λ_ _=>0) ⟨#[],args,[]⟩).memory :=
 ahd (laidMet_laidAll _ (by kernel_rfl) (by kernel_rfl))
def RO {W:World}(h:laidMetH prog oT W):laidMet prog oT W:=(laidMetH_iff.1 h).1
def Uo {w:World}{m:Nat}{l:List Value}{i j:Int}{x:DataW Unit × List MemPlace}
  (hd:DataW.trod (λ_=>()) prog w 0 (λ_=>true) false m 159 l=some x)(hx:x.1= .agg [.lit (.int .i64 i),.lit (.int .i64 j)]):l= [.int .i64 i,.int .i64 j]:=by
 obtain⟨xs,n,rfl,rfl,bA,hxl,iF⟩:=Sx underlying159 hd;have c2:prog.cellsOf 159=2:=by kernel_rfl
 have c3:prog.cellsOf 3=1:=by kernel_rfl
 rw[c2]at bA;simp only[GZ]at hx
 match l,bA,xs,hx with
 | [v0,v1],_,[x0,x1],hx=>
  simp only[jw,CP,BL,sl]at hx;have h0:=iF 0 _ rfl;have h1:=iF 1 _ rfl;change DataW.trod (λ_=>()) prog w 0 (λ_=>true) false n 3 (List.take (prog.cellsOf 3) (List.drop 0 [v0,v1]))=some x0 at h0;change DataW.trod (λ_=>()) prog w 0 (λ_=>true) false n 3 (List.take (prog.cellsOf 3) (List.drop 1 [v0,v1]))=some x1 at h1;rw[c3]at h0 h1;simp only[IW,XU,LP,XS]at h0 h1;obtain⟨d0,q0⟩:=x0;obtain⟨d1,q1⟩:=x1;obtain⟨rfl,rfl⟩:=hx;obtain⟨k0,e0,f0,_⟩:=CR underlying3 h0;obtain⟨k1,e1,f1,_⟩:=CR underlying3 h1;simp only[BL,sl]at e0 e1;simp only[gr,SJ,Lit.int.injEq,CY]at f0 f1;rw[e0,e1,<- f0.1,<- f1.1]
def abl {W:World}(h:laidMet prog oT W):rd W 9 0=some (.int .i64 1)/\rd W 9 1=some (.int .i64 1)/\rd W 9 2=some (.int .i64 0)/\rd W 9 3=some (.int .i64 1)/\rd W 9 4=none:=by
 have h1:laidMet prog [("buchholz/wave.never",Go.Proofs.YtackacoaaihcjaaGreatDoor.Rows.laid_buchholz_wave_never)] W:=(h.filter λx=>x.1=="buchholz/wave.never");obtain⟨ps,⟨g,t,cs,AQ,p,q,hg,ht,hv,hd,_,_⟩,_,_⟩:=h1;obtain rfl:=wz ((show prog.globalNamed "buchholz/wave.never" =some 9 by kernel_rfl).symm.trans hg);obtain rfl:=wz ((show(prog.globals[9]?).map (·.type)=some 394 by kernel_rfl).symm.trans ht);obtain⟨xs,m,rfl,hx,bA,hxl,iF⟩:=Sx underlying394 hd;have c4:prog.cellsOf 394=4:=by kernel_rfl
 have c2:prog.cellsOf 159=2:=by kernel_rfl
 rw[c4]at bA;have GW:DataW.agg (xs.map (·.1))=DataW.agg [_,_]:=(aP Prod.fst hx).symm;simp only[GZ]at GW;obtain⟨l⟩:=cs
 match xs,GW,l,bA with
 | [x0,x1],GW,[v0,v1,v2,v3],_=>
  simp only[jw,CP,BL,sl]at GW;obtain⟨y0,y1⟩:=GW;have h0:=iF 0 _ rfl;have h1:=iF 1 _ rfl;change DataW.trod (λ_=>()) prog W 0 (λ_=>true) false m 159 (List.take (prog.cellsOf 159) (List.drop 0 [v0,v1,v2,v3]))=some x0 at h0;change DataW.trod (λ_=>()) prog W 0 (λ_=>true) false m 159 (List.take (prog.cellsOf 159) (List.drop 2 [v0,v1,v2,v3]))=some x1 at h1;rw[c2]at h0 h1;have k0:=Uo h0 y0;have k1:=Uo h1 y1;simp at k0 k1;obtain⟨rfl,rfl⟩:=k0;obtain⟨rfl,rfl⟩:=k1;exact⟨CJ hg hv 0,CJ hg hv 1,CJ hg hv 2,CJ hg hv 3,CJ hg hv 4⟩
def ahe {W:World}(h:laidMet prog oT W):(∀k z,Lib.pow10Tab[k]? =some z->rd W 6 k=some (.int .u64 z))/\rd W 6 20=none:=by
 have h1:laidMet prog [("internal/strconv.uint64pow10",Go.Proofs.YtackacoaaihcjaaGreatDoor.Rows.laid_internal_strconv_uint64pow10)] W:=(h.filter λx=>x.1=="internal/strconv.uint64pow10");obtain⟨ps,⟨g,t,cs,AQ,p,q,hg,ht,hv,hd,_,_⟩,_,_⟩:=h1;obtain rfl:=wz ((show prog.globalNamed "internal/strconv.uint64pow10" =some 6 by kernel_rfl).symm.trans hg);obtain rfl:=wz ((show(prog.globals[6]?).map (·.type)=some 375 by kernel_rfl).symm.trans ht);obtain⟨xs,m,rfl,hx,bA,hxl,iF⟩:=SD underlying375 hd;have c1:prog.cellsOf 330=1:=by kernel_rfl
 have c20:prog.cellsOf 375=20:=by kernel_rfl
 rw[c20]at bA;simp only[c1]at iF;have GW:DataW.agg (xs.map (·.1))=DataW.agg (Lib.pow10Tab.map λz=>DataW.lit (.int .u64 z)):=(aP Prod.fst hx).symm;simp only[GZ]at GW
 have key: ∀(k:Nat) (z:Int),Lib.pow10Tab[k]? =some z->cs.toList[k]? =some (Value.int .u64 z):=by
  intro k z hz
  have hk:k<20:=by
   have:=(kp.1 hz).1;rwa [Lib.pow10Tab_length]at this
  have hy:(xs[k]?).map (·.1)=some (DataW.lit (.int .u64 z)):=by rw[<- gq,GW,gq,hz];rfl
  cases hxk:xs[k]? with
  |none=>rw[hxk]at hy;cases hy
  |some y=>
   rw[hxk]at hy;have e:=iF k hk;obtain⟨d,r⟩:=y;simp only[xJ,lL]at hy;subst hy;rw[hxk]at e;obtain⟨n,e1,e2,_⟩:=CR underlying330 e;simp only[gr,SJ,Lit.int.injEq,CY]at e2;have e3:(List.take 1 (List.drop (k*1) cs.toList))[0]? =cs.toList[k]? :=by simp
   rw[<- e3,e1,<- e2.1];rfl
 refine⟨λk z hz=>?_,?_⟩
 ·show W.cell? ⟨6,k,none⟩=_;rw[CJ hg hv k,<- UN];exact key k z hz
 ·show W.cell? ⟨6,20,none⟩=_;rw[CJ hg hv 20,<- UN,List.getElem?_eq_none (by omega)]
def abm {w:World}{m:Nat}{l:List Value}{i j k:Int}{x:DataW Unit × List MemPlace}
  (hd:DataW.trod (λ_=>()) prog w 0 (λ_=>true) false m 96 l=some x)(hx:x.1= .agg [.lit (.int .i64 i),.lit (.int .i64 j),.lit (.int .i64 k)]):l= [.int .i64 i,.int .i64 j,.int .i64 k]:=by
 obtain⟨xs,n,rfl,rfl,bA,hxl,iF⟩:=SD underlying96 hd;have c3:prog.cellsOf 96=3:=by kernel_rfl
 have c1:prog.cellsOf 3=1:=by kernel_rfl
 rw[c3]at bA;simp only[c1]at iF;simp only[GZ]at hx
 match l,bA,xs,hx with
 | [v0,v1,v2],_,[x0,x1,x2],hx=>
  simp only[jw,CP,BL,sl]at hx;have h0:=iF 0 (by decide);have h1:=iF 1 (by decide);have h2:=iF 2 (by decide);obtain⟨d0,q0⟩:=x0;obtain⟨d1,q1⟩:=x1;obtain⟨d2,q2⟩:=x2;obtain⟨rfl,rfl,rfl⟩:=hx;change DataW.trod (λ_=>()) prog w 0 (λ_=>true) false n 3 [v0]=some _ at h0;change DataW.trod (λ_=>()) prog w 0 (λ_=>true) false n 3 [v1]=some _ at h1;change DataW.trod (λ_=>()) prog w 0 (λ_=>true) false n 3 [v2]=some _ at h2;obtain⟨k0,e0,f0,_⟩:=CR underlying3 h0;obtain⟨k1,e1,f1,_⟩:=CR underlying3 h1;obtain⟨k2,e2,f2,_⟩:=CR underlying3 h2;simp only[BL,sl]at e0 e1 e2;simp only[gr,SJ,Lit.int.injEq,CY]at f0 f1 f2;rw[e0,e1,e2,<- f0.1,<- f1.1,<- f2.1]
def xb {w:World}{m:Nat}{l:List Value}{c:UInt8}{i j k:Int}{x:DataW Unit × List MemPlace}
  (hd:DataW.trod (λ_=>()) prog w 0 (λ_=>true) false m 196 l=some x)(hx:x.1= .agg [.lit (.string [c]),.agg [.lit (.int .i64 i),.lit (.int .i64 j),.lit (.int .i64 k)]]):
  l= [.string ⟨#[c]⟩,.int .i64 i,.int .i64 j,.int .i64 k]:=by
 obtain⟨xs,n,rfl,rfl,bA,hxl,iF⟩:=Sx underlying196 hd;have c4:prog.cellsOf 196=4:=by kernel_rfl
 have c1:prog.cellsOf 9=1:=by kernel_rfl
 have c3:prog.cellsOf 96=3:=by kernel_rfl
 rw[c4]at bA;simp only[GZ]at hx
 match l,bA,xs,hx with
 | [v0,v1,v2,v3],_,[x0,x1],hx=>
  simp only[jw,CP,BL,sl]at hx;have h0:=iF 0 _ rfl;have h1:=iF 1 _ rfl;change DataW.trod (λ_=>()) prog w 0 (λ_=>true) false n 9 (List.take (prog.cellsOf 9) (List.drop 0 [v0,v1,v2,v3]))=some x0 at h0;change DataW.trod (λ_=>()) prog w 0 (λ_=>true) false n 96 (List.take (prog.cellsOf 96) (List.drop 1 [v0,v1,v2,v3]))=some x1 at h1;rw[c1]at h0;rw[c3]at h1;simp only[IW,XU,LP,XS]at h0 h1;have e1:=abm h1 hx.2;obtain⟨s,e0,f0,_⟩:=DataW.trod_string underlying9 h0;simp only[BL,sl]at e0 e1;have f1:=hx.1;rw[f0]at f1;simp only[SJ,Lit.string.injEq]at f1
  have es:s=⟨#[c]⟩:=by
   obtain⟨s⟩:=s;have:s= #[c]:=G7 f1;rw[this]
  rw[e0,es,e1.1,e1.2.1,e1.2.2]
def ad6 {W:World}(h:laidMet prog oT W):(∀(k:Nat) (v:Value),[Value.string ⟨#[121]⟩,.int .i64 1,.int .i64 (-1),.int .i64 0,.string ⟨#[100]⟩,.int .i64 1,.int .i64 0,.int .i64 0,.string ⟨#[122]⟩,.int .i64 1,.int .i64 (-2),.int .i64 1][k]? =some v->rd W 0 k=some v)/\rd W 0 12=none:=by
 have h1:laidMet prog [("buchholz/group.patterns",Go.Proofs.YtackacoaaihcjaaGreatDoor.Rows.laid_buchholz_group_patterns)] W:=(h.filter λx=>x.1=="buchholz/group.patterns");obtain⟨ps,⟨g,t,cs,AQ,p,q,hg,ht,hv,hd,_,_⟩,_,_⟩:=h1;obtain rfl:=wz ((show prog.globalNamed "buchholz/group.patterns" =some 0 by kernel_rfl).symm.trans hg);obtain rfl:=wz ((show(prog.globals[0]?).map (·.type)=some 197 by kernel_rfl).symm.trans ht);obtain⟨xs,m,rfl,hx,bA,hxl,iF⟩:=SD underlying197 hd;have c4:prog.cellsOf 196=4:=by kernel_rfl
 have c12:prog.cellsOf 197=12:=by kernel_rfl
 rw[c12]at bA;simp only[c4]at iF;have GW:DataW.agg (xs.map (·.1))=DataW.agg [_,_,_]:=(aP Prod.fst hx).symm;simp only[GZ]at GW;obtain⟨l⟩:=cs
 match xs,GW,l,bA with
 | [x0,x1,x2],GW,[v0,v1,v2,v3,v4,v5,v6,v7,v8,v9,v10,v11],_=>
  simp only[jw,CP,BL,sl]at GW;obtain⟨y0,y1,y2⟩:=GW;have h0:=iF 0 (by decide);have h1:=iF 1 (by decide);have h2:=iF 2 (by decide);change DataW.trod (λ_=>()) prog W 0 (λ_=>true) false m 196 [v0,v1,v2,v3]=some x0 at h0;change DataW.trod (λ_=>()) prog W 0 (λ_=>true) false m 196 [v4,v5,v6,v7]=some x1 at h1;change DataW.trod (λ_=>()) prog W 0 (λ_=>true) false m 196 [v8,v9,v10,v11]=some x2 at h2;have k0:=xb h0 y0;have k1:=xb h1 y1;have k2:=xb h2 y2;simp only[BL,sl]at k0 k1 k2;obtain⟨rfl,rfl,rfl,rfl⟩:=k0;obtain⟨rfl,rfl,rfl,rfl⟩:=k1;obtain⟨rfl,rfl,rfl,rfl⟩:=k2;refine⟨λk v hk=>?_,CJ hg hv 12⟩;show W.cell? ⟨0,k,none⟩=_;rw[CJ hg hv k,<- UN];exact hk
def abn {W:World}{n:String}{b:DataW Unit}{g0:Nat}(h1:laidMet prog [(n,.iface "*errors.errorString" b)] W)(hg0:prog.globalNamed n=some g0)(ht0:(prog.globals[g0]?).map (·.type)=some 201):
  (∃u v,rd W g0 0=some (.iface u v))/\rd W g0 1=none:=by
 obtain⟨ps,⟨g,t,cs,AQ,p,q,hg,ht,hv,hd,_,_⟩,_,_⟩:=h1;obtain rfl:=wz (hg0.symm.trans hg);obtain rfl:=wz (ht0.symm.trans ht);obtain⟨ms,hu⟩: ∃ms,prog.underlying 201=some (.interface ms):=⟨_,underlying201⟩;obtain⟨_,u,v,e,_,_⟩:=iface_of_trod hu hd;refine⟨⟨u,v,?_⟩,?_⟩
 ·show W.cell? ⟨g0,0,none⟩=_;rw[CJ hg hv 0,<- UN,e];rfl
 ·show W.cell? ⟨g0,1,none⟩=_;rw[CJ hg hv 1,<- UN,e];rfl
def max_zero:((Go.begin prog (λ_ _=>0) default).world.heap[1]?).bind Obj.row?=some (#[.int .i64 0],3):=by kernel_rfl
def ahf {W:World}(h:W.ShapedOpen prog):(∃m,rd W 1 0=some (.int .i64 m))/\rd W 1 1=none:=by
 refine⟨cell_of_shapedOpen_int h (by decide) max_zero rfl (by kernel_rfl) (by kernel_rfl) (by kernel_rfl),?_⟩;obtain⟨cs,hh,hs,_⟩:=h.1 1 _ _ (by decide) max_zero;have h1:cs.size=1:=hs;show W.cell? ⟨1,1,none⟩=none;simp[World.cell?,hh,h1]
def ad7 {W:World}(h:laidMetH prog oT W)(hs:W.ShapedOpen prog):eQ cx.gl (rd W):=by
 have h':=RO h;have hp:=ahe h';have hq:=ad6 h';have hm:=ahf hs;have hy:=abn (W:=W) (h'.filter λx=>x.1=="strconv.ErrSyntax") (g0:=2) (by kernel_rfl) (by kernel_rfl);have hz:=abn (W:=W) (h'.filter λx=>x.1=="strconv.ErrRange") (g0:=3) (by kernel_rfl) (by kernel_rfl);intro g cs O2
 have hm1:(g,cs)=(0,[SC.lit (.string ⟨#[121]⟩),SC.lit (.int .i64 1),SC.lit (.int .i64 (-1)),SC.lit (.int .i64 0),SC.lit (.string ⟨#[100]⟩),SC.lit (.int .i64 1),SC.lit (.int .i64 0),SC.lit (.int .i64 0),SC.lit (.string ⟨#[122]⟩),SC.lit (.int .i64 1),SC.lit (.int .i64 (-2)),SC.lit (.int .i64 1)])\/(g,cs)=(1,[SC.num .i64])\/(g,cs)=(2,[SC.err])\/(g,cs)=(3,[SC.err])\/(g,cs)=(6,Lib.pow10Tab.map λz=>SC.lit (.int .u64 z))\/(g,cs)=(9,[SC.lit (.int .i64 1),SC.lit (.int .i64 1),SC.lit (.int .i64 0),SC.lit (.int .i64 1)]):=by
  rw[show cx.gl= [(0,[SC.lit (.string ⟨#[121]⟩),SC.lit (.int .i64 1),SC.lit (.int .i64 (-1)),SC.lit (.int .i64 0),SC.lit (.string ⟨#[100]⟩),SC.lit (.int .i64 1),SC.lit (.int .i64 0),SC.lit (.int .i64 0),SC.lit (.string ⟨#[122]⟩),SC.lit (.int .i64 1),SC.lit (.int .i64 (-2)),SC.lit (.int .i64 1)]),(1,[SC.num .i64]),(2,[SC.err]),(3,[SC.err]),(6,Lib.pow10Tab.map λz=>SC.lit (.int .u64 z)),(9,[SC.lit (.int .i64 1),SC.lit (.int .i64 1),SC.lit (.int .i64 0),SC.lit (.int .i64 1)])]by kernel_rfl]at O2;simpa only[dh,mV,mY]using O2
 rcases hm1 with e|e|e|e|e|e;all_goals simp only[gr]at e
 all_goals obtain⟨rfl,rfl⟩:=e
 ·refine⟨λk x hk=>?_,λ_=>hq.2⟩
  match k,hk with
  |0,hk=>cases hk;exact⟨_,hq.1 0 _ rfl,.lit rfl⟩
  |1,hk=>cases hk;exact⟨_,hq.1 1 _ rfl,.lit rfl⟩
  |2,hk=>cases hk;exact⟨_,hq.1 2 _ rfl,.lit rfl⟩
  |3,hk=>cases hk;exact⟨_,hq.1 3 _ rfl,.lit rfl⟩
  |4,hk=>cases hk;exact⟨_,hq.1 4 _ rfl,.lit rfl⟩
  |5,hk=>cases hk;exact⟨_,hq.1 5 _ rfl,.lit rfl⟩
  |6,hk=>cases hk;exact⟨_,hq.1 6 _ rfl,.lit rfl⟩
  |7,hk=>cases hk;exact⟨_,hq.1 7 _ rfl,.lit rfl⟩
  |8,hk=>cases hk;exact⟨_,hq.1 8 _ rfl,.lit rfl⟩
  |9,hk=>cases hk;exact⟨_,hq.1 9 _ rfl,.lit rfl⟩
  |10,hk=>cases hk;exact⟨_,hq.1 10 _ rfl,.lit rfl⟩
  |11,hk=>cases hk;exact⟨_,hq.1 11 _ rfl,.lit rfl⟩
  |k+12,hk=>cases hk
 ·obtain⟨⟨m,e⟩,e2⟩:=hm;refine⟨λk x hk=>?_,λ_=>e2⟩
  match k,hk with
  |0,hk=>cases hk;exact⟨_,e,.num ⟨m,rfl⟩⟩
  |k+1,hk=>cases hk
 ·obtain⟨⟨u,v,e⟩,e2⟩:=hy;refine⟨λk x hk=>?_,λ_=>e2⟩
  match k,hk with
  |0,hk=>cases hk;exact⟨_,e,.err ⟨u,v,rfl⟩⟩
  |k+1,hk=>cases hk
 ·obtain⟨⟨u,v,e⟩,e2⟩:=hz;refine⟨λk x hk=>?_,λ_=>e2⟩
  match k,hk with
  |0,hk=>cases hk;exact⟨_,e,.err ⟨u,v,rfl⟩⟩
  |k+1,hk=>cases hk
 ·refine⟨λk x hk=>?_,λ_=>by rw[jf,Lib.pow10Tab_length];exact hp.2⟩;rw[gq]at hk
  cases hz:Lib.pow10Tab[k]? with
  |none=>rw[hz]at hk;cases hk
  |some z=>
   rw[hz]at hk;cases hk;exact⟨_,hp.1 k z hz,.lit rfl⟩
 ·obtain⟨e0,e1,e2,e3,e4⟩:=abl h';refine⟨λk x hk=>?_,λ_=>e4⟩
  match k,hk with
  |0,hk=>cases hk;exact⟨_,e0,.lit rfl⟩
  |1,hk=>cases hk;exact⟨_,e1,.lit rfl⟩
  |2,hk=>cases hk;exact⟨_,e2,.lit rfl⟩
  |3,hk=>cases hk;exact⟨_,e3,.lit rfl⟩
  |k+4,hk=>cases hk
end Go.Proofs.Tryz
