import Derived.Test.YtolnfpljgjpbpaaGreatDoorPk1
import Derived.Shelf.Strconv.Itoa3
import Derived.Shelf.Strconv.AtoiAll
import Derived.Shelf.Strings.Split
import Derived.Shelf.Strings.OnBuilder
import Derived.Shelf.Strings.Prefix
import Derived.Lib.AppendIntMem
import Derived.Lib.SmallJoins
import Derived.Shelf.Strings.Cut
import Derived.Lib.AtoiAll
import Derived.Lib.ItoaNum
import Derived.Lib.Strings
import Derived.Lib.Split
import Derived.Lib.Join
import Derived.Lib.AtoiAllCases
import Derived.Test.YtolnfpljgjpbpaaGreatDoorProg
import Derived.KernelRfl
import Derived.IntWalk
import Derived.Shelf.Sort.Plain
import Derived.JoinedOf
import GoSem.ClaimGoes
set_option linter.all false
namespace Go.Fw
open Go.RowKit (Below)
open Go.Shelf
variable {P:Program}{gl:tR}
abbrev SS (l:List UInt8):SV:=(false,[.lit (.string (B l))])
def Ed {mv mr:Mem}{vs:Array Value}{c d:SC}(h:pg mv mr vs [(false,[c]),(false,[d])]): ∃v u,vs= #[v,u]/\dw mv mr v c/\dw mv mr u d:=by
 obtain⟨h1,h2⟩:=h;obtain⟨c',e,hr⟩:=h2 0 _ rfl;obtain⟨d',e',Cx⟩:=h2 1 _ rfl;simp at e e';subst e e';refine⟨vs.getD 0 undef,vs.getD 1 undef,?_,hr,Cx⟩;have h1:vs.size=2:=h1;apply Bk;omega
 ·intro i hi _;rcases(show i=0\/i=1 by omega)with rfl|rfl<;>simp[sT,h1]
def acW {w:World}{b o:Nat}{v:Value}(h:rd w b o=some v): ∃arr T fr,w.heap[b]? =some (.cells arr T fr)/\arr[o]? =some v:=by grind[rd,World.cell?]
def agj {w:World}{name:String}{g:Nat}{k:IntKind}{zs:List Int}(hn:P.globalNamed name=some g)(hg:(g,zs.map λz=>.lit (.int k z))∈gl)(hG:eQ gl (rd w))(h0:0<zs.length):Lib.TabIs P w name k zs:=by
 obtain⟨h1,h2⟩:=hG _ _ hg;have h2:=h2 bw;rw[jf]at h2;obtain⟨v0,hv0,_⟩:=h1 0 (.lit (.int k zs[0])) bw;obtain⟨arr,T,fr,hb,_⟩:=acW hv0;unfold Lib.TabIs World.var?;rw[hn];simp only[Ma,hb];congr 1;have iR: ∀o,rd w g o=arr[o]? :=λo=>by grind[rd,World.cell?]
 apply HJ;rw[List.toList_toArray];apply SX;intro i;rw[U0,gA];by_cases hi:i<zs.length
 ·obtain⟨v,hv,hr⟩:=h1 i (.lit (.int k zs[i])) bw
  grind[ge]
 grind
def Zp {ρ:Ren}(L:Proofs.LaysM.n171 P ρ)(e8:iI P (ρ.f 171)=true){g:Nat}(hn:P.globalNamed "internal/strconv.uint64pow10" =some g)(hg:(g,Lib.pow10Tab.map λz=>.lit (.int .u64 z))∈gl)
  (n:Int)(h: -9223372036854775808<=n/\n<=9223372036854775807):nR P gl (ρ.f 171) [(false,[.lit (.int .i64 n)])] (.one (SS (Lib.itoa n))):=by
 refine .inl ⟨e8,λmv w vs _ hG xN=>?_⟩;obtain⟨v,rfl,hr⟩:=yO xN;rw[ge hr];refine(Proofs.Any.strconv_Itoa L n h.1 h.2 w (agj hn hg hG (by grind[Lib.pow10Tab_length]))).mono λe w' he=>?_;obtain⟨rfl,k,os,rfl⟩:=he;exact⟨_,rfl,Lib.below_grow _ w (dG _) k os,⟨_,rfl,.lit rfl⟩⟩
theorem acX {ρ:Ren}(L:Proofs.LaysC.n172 P ρ)(e8:iI P (ρ.f 172)=true)(s:List UInt8)(hl:s.length<=1000000){v:Int}(h:Lib.atoiAll s= .ok v):nR P gl (ρ.f 172) [SS s] (.aI [(false,[.lit (.int .i64 v)]),(false,[.lit .nilIface])]):=by
 refine .inl ⟨e8,λmv w vs _ hG xN=>?_⟩;obtain⟨x,rfl,hr⟩:=yO xN;rw[ge hr];refine(Proofs.Any.strconv_Atoi_ok L (B s) afU v ajX w).mono λe w' he=>?_;obtain⟨rfl,hw⟩:=he;refine⟨_,rfl,?_,#[.int .i64 v,.nilIface],rfl,rfl,λk x hk=>?_⟩
 grind[Below.refl,Lib.bytesWorld_below]
 ·match k,hk with
  |0,hk=>simp at hk;subst hk;exact⟨_,rfl,.lit rfl⟩
  |1,hk=>simp at hk;subst hk;exact⟨_,rfl,.lit rfl⟩
  |k+2,hk=>grind
theorem Zr {ρ:Ren}(L:Proofs.LaysC.n172 P ρ)(e8:iI P (ρ.f 172)=true)(h15:(ρ.g 15,[SC.err])∈gl)(h16:(ρ.g 16,[SC.err])∈gl)(s:List UInt8)(hl:s.length<=1000000)(h: ∀v,Lib.atoiAll s≠ .ok v):
  ∃v,nR P gl (ρ.f 172) [SS s] (.aI [(false,[.lit (.int .i64 v)]),(false,[.err])]):=by
 have key: ∀(v:Int) (g:Nat),(g,[SC.err])∈gl->(∀(ev:Value) (w:World),w.cell? ⟨g,0,none⟩=some ev->(ev= .nilIface \/∃te pe,ev= .iface te pe)->Calls P (ρ.f 172) #[.string (B s)] w λe w'=>∃N,e= .returned (.tuple #[.int .i64 v,.iface (ρ.t 168) (.pointer (some ⟨N,0,none⟩))])/\w.heap.size<=N/\w'.heap[N]? =some (.cells #[.string ⟨#[65,116,111,105]⟩,.string (B s),ev] (ρ.t 210) (0,0))/\Below w.heap.size w w')->
   nR P gl (ρ.f 172) [SS s] (.aI [(false,[.lit (.int .i64 v)]),(false,[.err])]):=by
  intro v g hg hc;refine .inl ⟨e8,λmv w vs _ hG xN=>?_⟩;obtain⟨x,rfl,hr⟩:=yO xN;rw[ge hr];obtain⟨ev,h1,h2⟩:=(hG _ _ hg).1 0 _ rfl
  have pb: ∃T x,ev= .iface T x:=by
   cases h2 with
   |err h=>exact h
   |empty a cap hv=>grind[SC.ao]
   |view _ _ _ _ _ hv=>grind[SC.ao]
  refine(hc ev w h1 (.inr pb)).mono λe w' he=>?_;obtain⟨N,rfl,_,_,hb⟩:=he;refine⟨_,rfl,hb,_,rfl,rfl,λk x hk=>?_⟩
  match k,hk with
  |0,hk=>simp at hk;subst hk;exact⟨_,rfl,.lit rfl⟩
  |1,hk=>simp at hk;subst hk;exact⟨_,rfl,.err ⟨_,_,rfl⟩⟩
  |k+2,hk=>grind
 rcases hs:Lib.atoiAll s with v|_|_
 grind
 ·exact⟨0,key 0 _ h15 λev w h1 h2=>Proofs.Any.strconv_Atoi_syntax L (B s) afU ajX ev w h1 h2⟩
 ·refine⟨Lib.atoiSat s,key _ _ h16 λev w h1 h2=>?_⟩
  grind[Proofs.Any.strconv_Atoi_range,lU,jG]
def Ef {ρ:Ren}(L:Proofs.Lays.n101 P ρ)(e8:iI P (ρ.f 101)=true)(s p:List UInt8):nR P gl (ρ.f 101) [SS s,SS p] (.one (SS (Lib.trimPrefix s p))):=by
 refine .inl ⟨e8,λmv w vs _ hG xN=>?_⟩;obtain⟨x,y,rfl,hr,Cx⟩:=Ed xN;rw[ge hr,ge Cx];refine(Proofs.Any.strings_TrimPrefix L (B s) (B p) w).mono λe w' he=>?_;obtain⟨rfl,rfl⟩:=he;rw[jG,jG];exact amx
def C6 (s:List UInt8)(c:UInt8):List (List UInt8):=Lib.splitK [c] 0 (Lib.countB (B s) (B [c])) s
abbrev ab (l:List (List UInt8)):List (List SC):=l.map λw=>[.lit (.string (B w))]
theorem nY {l:List (List UInt8)}{i:Nat}{e:List SC}(h:(SC.view (ab l)).elem i=some e): ∃w,l[i]? =some w/\e= [.lit (.string (B w))]:=by grind[SC.elem]
theorem Il {ρ:Ren}(L:Proofs.Lays.n146 P ρ)(e8:iI P (ρ.f 146)=true)(hi9:(P.info? (ρ.t 9)).map (λi=>(i.zero,i.size,i.bytes))=some (some (.string ByteArray.empty),1,16))
  (hg:(ρ.g 1,[SC.num .i64])∈gl)(s:List UInt8)(c:UInt8)(hl:s.length<=1000000)(bD:(C6 s c).length =Lib.countB (B s) (B [c])+1):nR P gl (ρ.f 146) [SS s,SS [c]] (.own 1 (.view (ab (C6 s c)))):=by
 refine .inl ⟨e8,λmv w vs _ hG xN=>?_⟩;obtain⟨x,y,rfl,hr,Cx⟩:=Ed xN;rw[ge hr,ge Cx];obtain⟨ev,h1,h2⟩:=(hG _ _ hg).1 0 _ rfl;have pb: ∃m,ev= .int .i64 m:=ams;obtain⟨m,rfl⟩:=pb;refine(Proofs.Any.strings_Split L hi9 (B s) (B [c]) m w afU h1 (by rw[lU];grind)).mono λe w' he=>?_;obtain⟨rfl,rfl⟩:=he
 have Xy:(Lib.splitB (B [c]) 0 (Lib.countB (B s) (B [c])) (B s))=(C6 s c).map B:=by
  have h:=Lib.splitB_data (B [c]) 0 (Lib.countB (B s) (B [c])) (B s);rw[jG,jG]at h;have:(C6 s c).map B=((Lib.splitB (B [c]) 0 (Lib.countB (B s) (B [c])) (B s)).map (·.data.toList)).map B:=by rw[h];rfl
  exact amq
 rw[Xy];refine⟨_,rfl,Below.ot _ _,.inr ⟨w.heap.size,_,by rw[show(SC.view (ab (C6 s c))).len =Lib.countB (B s) (B [c])+1 by grind[SC.len]],dG _,_,_,gK w _,by grind,by decide,rfl,by grind[SC.len],λi e he=>?_,λi e j x he hx=>?_⟩⟩
 grind[nY]
 ·obtain⟨u,hu,rfl⟩:=nY he
  cases j with
  |zero=>
   simp at hx;subst hx;rw[show i*1+0=i by omega,sT];have:(((C6 s c).map B).map Value.string).toArray[i]? =some (.string (B u)):=by grind
   exact af1
  |succ j=>grind
end Go.Fw
namespace Go.Fw
open Go.IntWalk Go.RowKit
variable {C:bS}{fid:Nat}{o:Oper}{E:dS}{H:Hp}{t:bn}{k:dS->Hp->bn->Prop}{T:TypeId}{x y:Operand}
def nZ (l:List (List UInt8)):(SC.view (ab l)).Ag 1:=by
 intro e he
 grind
def akH {i:TI}{e:TypeId}{ie:TI}{l:List (List UInt8)}{zz:Int}{n:Nat}{k':IntKind} [nz:dJ zz n](ho:o.op= .slice T x none (some y) none)(hx:C.ev E.get x=some (.val (false,[.st (.view (ab l))])))(hy:C.ev E.get y=some (.val (false,[.st (.lit (.int k' zz))])))
  (hi:C.ti T=some i)(hc:i.b8= .slice e)(he:C.ti e=some ie)(hs:ie.size=1)(hb:n<=l.length)
  (h2:eh o.dst (bh (.st (.view (ab (l.take n))))) E λE'=>k E' H (([],[])::t)):cS C fid o E H t k:=by
 refine rG (r:=bh (.st (.view (ab (l.take n))))) (u:=[]) (R:=[]) (λK hK=>?_) h2;have e0:zz.toNat=n:=by rw[nz.eq];simp
 have u:=nZ l;unfold fk;rw[ho];simp only[hx,Option.map];unfold gm;simp only[hi,hc,he,bO,bz,hy,SC.ao,Gz,SC.len,SC.sub,GF];exact aiW
def akI {i:TI}{e:TypeId}{ie:TI}{l:List (List UInt8)}{zz:Int}{n:Nat}{k':IntKind} [nz:dJ zz n](ho:o.op= .slice T x (some y) none none)(hx:C.ev E.get x=some (.val (false,[.st (.view (ab l))])))(hy:C.ev E.get y=some (.val (false,[.st (.lit (.int k' zz))])))
  (hi:C.ti T=some i)(hc:i.b8= .slice e)(he:C.ti e=some ie)(hs:ie.size=1)(hb:n<=l.length)
  (h2:eh o.dst (bh (.st (.view (ab (l.drop n))))) E λE'=>k E' H (([],[])::t)):cS C fid o E H t k:=by
 refine rG (r:=bh (.st (.view (ab (l.drop n))))) (u:=[]) (R:=[]) (λK hK=>?_) h2;have e0:zz.toNat=n:=by rw[nz.eq];simp
 have u:=nZ l;unfold fk;rw[ho];simp only[hx,Option.map];unfold gm;simp only[hi,hc,he,bO,bz,hy,SC.ao,Gz,SC.len,SC.sub,mB];exact aiX
def akJ {i:TI}{e:TypeId}{ie:TI}{l:List (List UInt8)}{id:Nat}{zz:Int}{n:Nat}{k':IntKind} [nz:dJ zz n](ho:o.op= .slice T x none (some y) none)(hx:C.ev E.get x=some (.val (false,[.own id])))(hy:C.ev E.get y=some (.val (false,[.st (.lit (.int k' zz))])))
  (hi:C.ti T=some i)(hc:i.b8= .slice e)(he:C.ti e=some ie)(hs:ie.size=1)(hH:H.get id=some (.row false 1 (.view (ab l))))(hb:n<=l.length)
  (h2:eh o.dst (bh (.st (.view (ab (l.take n))))) E λE'=>k E' H (([id],[])::t)):cS C fid o E H t k:=by
 refine rG (r:=bh (.st (.view (ab (l.take n))))) (u:=[]) (R:=[id]) (λK hK=>?_) h2;have e0:zz.toNat=n:=by rw[nz.eq];simp
 have u:=nZ l;unfold fk;rw[ho];simp only[hx,Option.map];unfold gm;simp only[hi,hc,he,bO,bz,hH,hy,SC.ao,Gz,SC.len,SC.sub,GF,yb];exact aiW
def akK {i:TI}{e:TypeId}{ie:TI}{l:List (List UInt8)}{id:Nat}{zz:Int}{n:Nat}{k':IntKind} [nz:dJ zz n](ho:o.op= .slice T x (some y) none none)(hx:C.ev E.get x=some (.val (false,[.own id])))(hy:C.ev E.get y=some (.val (false,[.st (.lit (.int k' zz))])))
  (hi:C.ti T=some i)(hc:i.b8= .slice e)(he:C.ti e=some ie)(hs:ie.size=1)(hH:H.get id=some (.row false 1 (.view (ab l))))(hb:n<=l.length)
  (h2:eh o.dst (bh (.st (.view (ab (l.drop n))))) E λE'=>k E' H (([id],[])::t)):cS C fid o E H t k:=by
 refine rG (r:=bh (.st (.view (ab (l.drop n))))) (u:=[]) (R:=[id]) (λK hK=>?_) h2;have e0:zz.toNat=n:=by rw[nz.eq];simp
 have u:=nZ l;unfold fk;rw[ho];simp only[hx,Option.map];unfold gm;simp only[hi,hc,he,bO,bz,hH,hy,SC.ao,Gz,SC.len,SC.sub,mB,yb];exact aiX
def amI {i:TI}{id n:Nat}{m:Bool}{l:List (List SC)}{v:Value}(ho:o.op= .load T x)(hx:C.ev E.get x=some (.val (false,[.cK id 1 n 0])))(hi:C.ti T=some i)(hg:cL i.b8=false)(hs:i.size=1)
  (hH:H.get id=some (.row m 1 (.view l)))(hb:l[n]? =some [.lit v])
  (h2:eh o.dst (lit v) E λE'=>k E' H (([id],[])::t)):cS C fid o E H t k:=by
 refine rG (r:=lit v) (u:=[]) (R:=[id]) (λK hK=>?_) h2;unfold fk;rw[ho];simp only[hx];unfold oA;simp only[hi,hH,hs,hg];refine⟨[.lit v],?_,hK⟩
 grind[SC.elem]
def iL {E:dS}{Hh:Hp}{nx:Nat}(id k z:Nat)(c:SC){T:TypeId}{cs:List DC}(hz:0<z)(hv:c.ao=true)(h0:c.len=0)(hB:Hh.get id=some (.box T cs))(hk:cs[k]? =some .nil):
  bu ⟨E,Hh,nx⟩ ⟨E,(id,some (.box T (cs.set k (.own (2*nx)))))::((2*nx),some (.row true z c))::Hh,nx+1⟩:=by
 rintro F nt a w ⟨N,⟨q1,q2,q0,β,q3,q4⟩,q5⟩;have hf: ¬N (2*nx):=λh=>by have:=q5 _ h;rw[jP]at this;grind
 have hu: ∀i e,c.elem i=some e->e.length=z:=λi e he=>by exact ace
 have t2:=Tr.new q4 (Below.refl _ w) hf none (by simp) (.row true z c);have hN:=ad.new q4 (Below.refl _ w) hf none (by simp) (.row true z c) ⟨⟨hz,hv,hu⟩,.inl ⟨by simp[cW],h0⟩⟩;rw[<- Hp.au]at t2 hN;have hid:N id:=(q4.rel id _ hB).1;have gk:id≠(2*nx):=λe=>hf (e▸hid);have Ly:Hp.get (((2*nx),some (.row true z c))::Hh) id=some (.box T cs):=by rw[Hp.au,aG _ _ _ gk];exact hB
 generalize xS:Hp.get (((2*nx),some (.row true z c))::Hh)=H1 at*;have io:H1 (2*nx)=some (.row true z c):=by rw[<- xS,Hp.au,an]
 have t3:Tr F (cW β (2*nx) none) (Fw.bg N (2*nx)) H1 w (cW β (2*nx) none) (Fw.bg N (2*nx)) (br H1 id (some (.box T (cs.set k (.own (2*nx)))))) w:={
  below:=jv.refl _ _
  av:=λ_ _ h=>h
  mem:=λb o v _ hs e=>⟨λiQ bC e' hb=>by
   by_cases h:iQ=id
   ·subst h;exact(hs iQ _ Ly hb).elim
   ·rw[aG _ _ _ h]at e'
    exact hs iQ bC e' hb,e⟩
  used:=λ_ h=>h
  kJ:=λ_ _=>rfl
  keep:=λiQ blk' _ e=>by
   by_cases h:iQ=id
   ·subst h;rw[an]at e;cases e;exact⟨_,Ly,trivial⟩
   ·exact ajt
  size:=λ_ _ _ _ arr _ _ _ _ _ _ h=>⟨arr,h,rfl⟩}
 have h3:ad F (cW β (2*nx) none) (Fw.bg N (2*nx)) (br H1 id (some (.box T (cs.set k (.own (2*nx)))))) w:=by
  refine hN.step t3 (λi=>i=id) (λi b0 hi e=>?_) (λi b0 hi e=>?_) (λi j b x y hi hj bi bj=>?_)
  ·exact ai6
  ·subst hi;rw[an]at e;cases e;obtain⟨hn,b,arr,T',h1,h2,h3,h4,h5⟩:=hN.rel i _ Ly;refine⟨hn,b,arr,T',h1,h2,h3,by grind,λj x hx=>?_⟩;by_cases hj:j=k
   ·subst hj;have al:j<cs.length:=(kF.1 hk).1;have:x= .own (2*nx):=by grind
    subst this;have Ct:arr.getD j undef= .slice none 0 0:=h5 j _ hk;exact ahS
   ·rw[P1 (ox hj)]at hx;exact t3.jr hN (h5 j x hx)
  ·have live: ∀ {k':Nat} {b0:cC},br H1 id (some (.box T (cs.set k (.own (2*nx))))) k'=some b0->∃b1,H1 k'=some b1:=by
    grind[aG]
   obtain⟨b1,h1⟩:=live hi;obtain⟨b2,h2⟩:=live hj;exact hN.inj i j b b1 b2 h1 h2 bi bj
 refine⟨Fw.bg N (2*nx),⟨q1,q2,q0,cW β (2*nx) none,?_,?_⟩,λiQ h=>?_⟩
 ·exact ajR
 grind[Hp.au]
 ·exact ajQ
end Go.Fw
namespace Go.Fw
section
variable {C:bS}{fid:Nat}{o:Oper}{E:dS}{H:Hp}{t:bn}{k:dS->Hp->bn->Prop}{T:TypeId}{x y:Operand}
def akL {i:TI}{e:TypeId}{ie:TI}{l:List (List UInt8)}{id:Nat}{zz:Int}{n:Nat}{k':IntKind} [nz:dJ zz n](ho:o.op= .slice T x (some y) none none)(hx:C.ev E.get x=some (.val (false,[.own id])))(hy:C.ev E.get y=some (.val (false,[.st (.lit (.int k' zz))])))
  (hi:C.ti T=some i)(hc:i.b8= .slice e)(he:C.ti e=some ie)(hs:ie.size=1)(hH:H.get id=some (.row true 1 (.view (ab l))))(hb:n<=l.length)
  (h2:DL [(id,some (.row false 1 (.view (ab l))))] H λH'=>eh o.dst (bh (.st (.view (ab (l.drop n))))) E λE'=>k E' H' (([id],[id])::t)):cS C fid o E H t k:=by
 refine rG (r:=bh (.st (.view (ab (l.drop n))))) (u:=[(id,some (.row false 1 (.view (ab l))))]) (R:=[id]) (λK hK=>?_) h2;have e0:zz.toNat=n:=by rw[nz.eq];simp
 have u:=nZ l;unfold fk;rw[ho];simp only[hx,Option.map];unfold gm;simp only[hi,hc,he,bO,bz,hH,hy,SC.ao,Gz,SC.len,SC.sub,mB,yb];rw[hs];refine⟨by rw[nz.eq];omega,⟨by rw[e0];simpa using hb,by omega⟩,u,?_⟩;rw[e0,<- List.map_drop];exact hK
def akM {i:TI}{e:TypeId}{ie:TI}{l:List (List UInt8)}{id:Nat}{zz:Int}{n:Nat}{k':IntKind} [nz:dJ zz n](ho:o.op= .slice T x none (some y) none)(hx:C.ev E.get x=some (.val (false,[.own id])))(hy:C.ev E.get y=some (.val (false,[.st (.lit (.int k' zz))])))
  (hi:C.ti T=some i)(hc:i.b8= .slice e)(he:C.ti e=some ie)(hs:ie.size=1)(hH:H.get id=some (.row true 1 (.view (ab l))))(hb:n<=l.length)
  (h2:DL [(id,some (.row false 1 (.view (ab l))))] H λH'=>eh o.dst (bh (.st (.view (ab (l.take n))))) E λE'=>k E' H' (([id],[id])::t)):cS C fid o E H t k:=by
 refine rG (r:=bh (.st (.view (ab (l.take n))))) (u:=[(id,some (.row false 1 (.view (ab l))))]) (R:=[id]) (λK hK=>?_) h2;have e0:zz.toNat=n:=by rw[nz.eq];simp
 have u:=nZ l;unfold fk;rw[ho];simp only[hx,Option.map];unfold gm;simp only[hi,hc,he,bO,bz,hH,hy,SC.ao,Gz,SC.len,SC.sub,mB,yb,GF];rw[hs];refine⟨by rw[nz.eq];omega,⟨by omega,by rw[e0];simpa using hb⟩,u,?_⟩;rw[e0,<- HG];exact hK
end
def jR {l:List (List DC)}{i:Nat}{X:List DC}(h:i<l.length):(l.set i X)[i]? =some X:=by simp[h]
def oa {C:bS}{fid:Nat}{o:Oper}{E:dS}{H:Hp}{t:bn}{k:dS->Hp->bn->Prop}{r:DV}{u:Hp}{R:List Nat}(h1: ∀K:ka,K r u R->hcA C fid o (C.ev E.get) H.get K)
  (h2:eh o.dst r E λE'=>k E' (u++H) ((R,u.map Prod.fst)::t)):cS C fid o E H t k:=gu h1 (DM.2 h2)
open Go.RowKit (Below)
variable {P:Program}{gl:tR}
def nR.call {f:FuncId}{args:List SV}{x:SV}(h:nR P gl f args (.one x)){mv:Mem}{w:World}{vs:Array Value}(hm:mv.le (rd w))(hG:eQ gl (rd w))(ha:pg mv (rd w) vs args):
  Calls P f vs w λe w'=>∃v,e= .returned v/\Below w.heap.size w w'/\er (dV mv w.heap.size w') eU v x:=by
 exact amv
end Go.Fw
namespace Go.Fw
abbrev CL:=FuncId->List SV->Sum (List Nat) mc
def jd (i:TI)(cs:List DC)(off:Nat):Option GL:=
 match Nat.ble (off+i.size) cs.length&&(act i || Nat.beq i.size 1)with
 |true=>some (.val (act i,(cs.drop off).take i.size),[],[])
 |false=>none
abbrev CH:=Nat->FuncId->List DX->Hp->Sum (List Nat) GL
structure TK where
 cl:CL
 ch:CH
structure TK.Ok (C:bS) (q:TK):Prop where
 cl: ∀f a r,q.cl f a= .inr r->nR C.P C.gl f a r
 ch: ∀fid f xs (H:Hp) e,q.ch fid f xs H= .inr e->bI C fid f xs H.get e.1 e.2.1 e.2.2
def CF (C:bS)(S:St)(x:Operand):St:=match S with
 |⟨E,H,nx⟩=>match C.ev E.get x with
  |some (.val (false,[.ptr id 0]))=>match H.get id with
   |some (.box t cs)=>match bO H.get (C.kinds t) cs with
    |some (l,u,_)=>⟨E,((id,some (.dX l))::u)++H,nx⟩
    |none=>⟨E,H,nx⟩
   |_=>⟨E,H,nx⟩
  |_=>⟨E,H,nx⟩
def BF (C:bS)(S:St)(x:Operand):bu S (CF C S x):=by
 unfold CF;repeat' split
 all_goals first|exact bu.refl _|(exact Za C _ HL HL)
def J6 (C:bS):List Operand->St->St
 | [],S=>S
 |x::l,S=>J6 C l (CF C S x)
def Nb (C:bS)(l:List Operand): ∀S,bu S (J6 C l S):=by
 induction l with
 |nil=>exact λS=>bu.refl S
 |cons x l ih=>exact λS=>(BF C S x).trans (ih _)
def Zu (C:bS)(S:St)(o:Oper):St:=match o.op with
 | .slice T x none none none=>match C.ti T with
  |some i=>match i.b8 with
   | .array _ _=>CF C S x
   |_=>S
  |none=>S
 | .makeFunc _ _ bM=>J6 C bM.toList S
 |_=>S
def VH (C:bS)(S:St)(o:Oper):bu S (Zu C S o):=by
 unfold Zu;repeat' split
 all_goals first|exact bu.refl _|exact BF C _ _|exact Nb C _ _
def Nc {E:dS}{Hh:Hp}{nx:Nat}(id:Nat){m:Bool}{z:Nat}{c:SC}(hb:Hh.get id=some (.row m z c)):bu ⟨E,Hh,nx⟩ ⟨E,(id,some (.row false z c))::Hh,nx⟩:=K38
def aeU (all:List Oper):Nat->Tmp->Tmp
 |0,s=>s
 |n+1,s=>match all.find? λo=>match o.dst with|some d=>Nat.beq d s|none=>false with
  |some o=>match o.op with
   | .move (.tmp s')=>aeU all n s'
   |_=>s
  |none=>s
def J7 (_C:bS)(all:List Oper)(S:St)(o:Oper):St:=match S with
 |⟨E,H,nx⟩=>match o.op with
  | .slice _ (.tmp s) _ _ none=>match E.get (aeU all 4 s)with
   |some (.val (false,[.own id]))=>match H.get id with
    |some (.row true z c)=>⟨E,(id,some (.row false z c))::H,nx⟩
    |_=>⟨E,H,nx⟩
   |_=>⟨E,H,nx⟩
  |_=>⟨E,H,nx⟩
def Nd (C:bS)(all:List Oper)(S:St)(o:Oper):bu S (J7 C all S o):=by
 unfold J7;repeat' split
 all_goals first|exact bu.refl _|exact Nc _ HL
def Eg (C:bS)(all:List Oper):List Oper->St->St
 | [],S=>S
 |o::l,S=>Eg C all l (J7 C all S o)
def J8 (C:bS)(all l:List Oper): ∀S,bu S (Eg C all l S):=by
 induction l with
 |nil=>exact λS=>bu.refl S
 |cons o l ih=>exact λS=>(Nd C all S o).trans (ih _)
def Qy (C:bS):List Oper->St->St
 | [],S=>S
 |o::l,S=>Qy C l (Zu C S o)
def Qz (C:bS)(l:List Oper): ∀S,bu S (Qy C l S):=by
 induction l with
 |nil=>exact λS=>bu.refl S
 |cons o l ih=>exact λS=>(VH C S o).trans (ih _)
def aeV (C:bS)(l:List Oper)(S:St):St:=Eg C l l (Qy C l S)
def VI (C:bS)(l:List Oper)(S:St):bu S (aeV C l S):=(Qz C l S).trans (J8 C l l _)
def yP:Code->List Oper
 | .region _ cB _=>cB.toList
 | .seq x _=>yP x
 | .scope c=>yP c
 | .block _ c=>yP c
 |_=>[]
def aSs {C:bS}{S:St}{kn:St->Prop}{kx:Nat->St->Prop}{kr:St->Prop}{x y:Code}(h:m9 C x S (λS=>m9 C y (aeV C (yP y) S) kn kx kr) kx kr):m9 C (.seq x y) S kn kx kr:=
 aM ⟨mF h.out (λS' h=>⟨_,VI C _ S',h⟩) (λ_ _ h=>h) λ_ h=>h⟩
inductive EO where
 |norm (S:St)
 |exit (id:Nat) (S:St)
 |ret (S:St)
 |bad (p:List Nat)
def EO.loops (C:bS)(c:Code)(S:St):EO->Prop
 | .norm _=>True
 | .exit id S'=>∀ {kx:Nat->St->Prop} {kr:St->Prop},kx id S'->Tx (λZ S=>rF C c S Z kx kr) S
 | .ret S'=>∀ {kx:Nat->St->Prop} {kr:St->Prop},kr S'->Tx (λZ S=>rF C c S Z kx kr) S
 | .bad _=>True
open Go.RowKit (Below)
def aF {C:bS}{g:Operand}{ps:Array Tmp}{x y:Code}{E:dS}{H:Hp}{n0:Nat}{kn:St->Prop}{kx:Nat->St->Prop}{kr:St->Prop}{gf:FuncId}{first:List SV}{bM:List (List SC)}
  (hg:C.ev E.get g=some (.val (false,[.st (.fn gf first bM)])))(xs:List (List SV))(Hs:Nat->Hp)(nx:Nat)(Inv:Nat->Prop)(hit:Tw C.P C.gl gf first bM xs)(bD: ∀r∈xs,r.length=ps.size)
  (ov:(mE x&&(mE y&&(aJ (ke E) x&&(aJ (ke E) y&&qt (ke E) ps.toList))))=true)(hm: ∀i,rE (Hs i)=true)(h0:bu ⟨E,H,n0⟩ ⟨E,Hs 0,nx⟩)(hi:Inv 0)
  (hb: ∀i r,xs[i]? =some r->Inv i->m9 C x ⟨params ps.toList r E,Hs i,nx⟩ (λS1=>m9 C y S1 (λS2=>Inv (i+1)/\bu S2 ⟨E,Hs (i+1),nx⟩) (λ_ _=>False) (λS2=>∃Hr nr,rE Hr=true/\bu S2 ⟨E,Hr,nr⟩/\kr ⟨E,Hr,nr⟩)) (λ_ _=>False) (λ_=>False))
  (hd:Inv xs.length->kn ⟨E,Hs xs.length,nx⟩):m9 C (.rangeFunc g ps x y) ⟨E,H,n0⟩ kn kx kr:=by
 refine⟨?_⟩;unfold rF;simp only[hg];obtain⟨f1,ov⟩:=aD ov;obtain⟨f2,ov⟩:=aD ov;obtain⟨f3,ov⟩:=aD ov;obtain⟨f4,f5⟩:=aD ov;exact⟨xs,Hs,nx,Inv,hit,bD,⟨f1,f2,f3,f4,f5⟩,hm,h0,hi,λi r hr hv=>mF (hb i r hr hv).out (λS1 h=>⟨S1,bu.refl _,h.out⟩) (λ_ _ h=>h) λ_ h=>h,hd⟩
end Go.Fw
namespace Go.Fw
def Im {C:bS}(hC:C.Ok){T e:TypeId}{i ie:TI}{w:World}{b o n cap:Nat}{k:Int}(hi:C.ti T=some i)(jc:i.b8= .slice e)(he:C.ti e=some ie)(h0:0<=k)(h1:k< (n:Int)):
  (Instr.indexAt T (.slice (some ⟨b,o,none⟩) n cap) (.int .i64 k)).run C.P w= .ok (.pointer (some ⟨b,o+k.toNat*ie.size,none⟩)) w:=by
 obtain⟨tf,d,z,hT⟩:=hC.get hi;obtain⟨ef,ed,ez,hE⟩:=hC.get he;have hd:=dn (hT.b8.trans jc);have h2:0<=k/\k< (n:Int):=⟨h0,h1⟩;exact ai9
structure Hdn (m:Nat) (p:Prop):Prop where
 out:p
inductive Dum (p:Prop):Prop where
 |mk
def akN {n:Nat}{p q:Prop}(_:Hdn n q)(m:p)(_:Dum q):p:=m
def Zm0 {p q:Prop}(_:Hdn 0 q)(m:p):p:=m
def Zm1 {p q:Prop}(_:Hdn 1 q)(m:p):p:=m
def Zm3 {p q:Prop}(_:Hdn 3 q)(m:p):p:=m
def Zd {p:Prop}(h:p:=by(first|omega|decide|rfl|exact lnS (by omega)|exact lnN (by decide)|exact lnN (by omega)|exact lnC (by omega)|exact lvS (by omega)|exact lvN (by decide)|exact lvC (by omega)|exact uvS rfl|exact uvN rfl|((try unfold SC.len);(try unfold SC.Ag);(try unfold xP);(try simp);(try omega);done)|omega)):p:=h
def Zq {p:Prop}(h:p:=by first|omega|decide|exact fM rfl|(dsimp only[SC.len];omega)|(simp;done)|(simp;omega)|omega):p:=h
def Zb {p:Prop}(h:p:=by first|omega|(simp;omega)|(simp only[tH,kH,Ai];omega)|decide):p:=h
def Zc {S S':St}(h:TD (Y9 S'.env) (aeJ S S') S'.nx S=some S':=by kernel_rfl):bu S S':=fA h
def Rq {q p g:Prop}(c:q)(z:g)(h:q->g->p:=by(intro a b;refine rG (λ_ z=>⟨_,a,z⟩) ?_;exact b)):p:=h c z
def Rh {q p g:Prop}(c:q)(z:g)(h:q->g->p:=by(intro a b;refine gu (λ_ z=>⟨_,_,_,a,z⟩) ?_;exact b)):p:=h c z
def Rw {q p g:Prop}(c:q)(z:g)(h:q->g->p:=by(intro a b;refine oa (λ_ z=>⟨_,_,_,a,z⟩) ?_;exact b)):p:=h c z
def amJ:Op->Bool
 | .convert .. =>true
 |_=>false
section
variable {C:bS}{all:List Oper}{n0 i fid:Nat}{o:Oper}{l:List Oper}{E:dS}{H:Hp}{t:bn}{K:dS->Hp->Nat->bn->Prop}{k:dS->Hp->bn->Prop}
def rS {f:FuncId}{args:List SV}{r':mc}{u0 u:Hp}{rs R:List Nat}{r:DV}(h0: ∀K,fk C fid o (C.ev E.get) H.get K=aew C f args (i8 fid u0 rs K))(hs:nR C.P C.gl f args r')(h3: ∀K:ka,K r u R->i8 fid u0 rs K r')
  (h2:DL u H λH'=>eh o.dst r E λE'=>k E' H' ((R,u.map Prod.fst)::t)):cS C fid o E H t k:=rG (λK z=>by rw[h0];exact⟨r',hs,h3 K z⟩) h2
def cvO (_:amJ o.op=true)(g:cS C fid o E H t k):cS C fid o E H t k:=g
def dR (g:cS C fid o E H t k):cS C fid o E H t k:=g
def dO (g:jx C all n0 l i E H t K):jx C all n0 l i E H t K:=g
def dA {c:Code}{S:St}{kn:St->Prop}{kx:Nat->St->Prop}{kr:St->Prop}(g:m9 C c S kn kx kr):m9 C c S kn kx kr:=g
def dB {b:Bool}{X Y:Prop}(g:Brn b X Y):Brn b X Y:=g
end
def tX (m:Nat){p q:Prop}(z:q)(h:Hdn m q->p:=by(intro zz;refine akN (q:=_) zz ?_ ?_;(try conv=>whnf);(repeat1' ((first|(refine dR ?_;first|(refine kO 0 rfl ?_;first|(refine cvO rfl ?_;first|refine TH rfl rfl rfl rfl rfl rfl (cvI (by omega)) ?_|refine TH rfl rfl rfl rfl rfl rfl (cv8 (by omega)) ?_)|(refine Zm3 zz ?_;refine amH rfl rfl rfl ?_)|refine rP rfl (λ_ z=>z) ?_|refine rGX rfl trivial ?_|refine rGX rfl Zd ?_|refine rG (λ_ z=>⟨Zd,z⟩) ?_|refine rG (λ_ z=>⟨Zd,Zd,z⟩) ?_)|(refine kO 3 rfl ?_;first|refine amI rfl rfl rfl rfl rfl rfl (by assumption) ?_|refine akw rfl rfl rfl rfl rfl ?_|refine akx rfl rfl rfl rfl rfl rfl rfl ?_|refine akt rfl rfl rfl rfl rfl rfl Zq ?_|refine rG (λ_ z=>z) ?_|refine rG (λ_ z=>⟨_,rfl,z⟩) ?_|refine rG (λ_ z=>⟨_,(by assumption),z⟩) ?_|refine rG (λ_ z=>⟨_,jR (by first|assumption|(simp only[GD];assumption)),z⟩) ?_)|(refine kO 1 rfl ?_;first|refine aeK rfl rfl rfl Zb ?_|refine akE rfl rfl rfl ?_|refine akF rfl rfl rfl ?_|refine aeQ rfl rfl rfl (by omega) ?_|refine akn rfl rfl rfl (by omega) ?_|refine ako rfl rfl rfl (by omega) ?_|refine akp rfl rfl rfl (by omega) ?_|refine akq rfl rfl rfl (by omega) ?_|refine akr rfl rfl rfl (by omega) ?_|refine aeC rfl rfl rfl (by omega) ?_|refine aeD rfl rfl rfl (by omega) ?_|refine rG (λ_ z=>z) ?_)|(refine kO 4 rfl ?_;first|refine aku rfl rfl rfl rfl rfl rfl Zq ?_|refine rG (λ_ z=>z) ?_|refine rG (λ_ z=>⟨_,(by assumption),z⟩) ?_|refine rG (λ_ z=>⟨_,jR (by first|assumption|(simp only[GD];assumption)),z⟩) ?_)|(refine kO 5 rfl ?_;first|refine akv rfl rfl rfl rfl rfl rfl rfl Zq ?_|refine agf rfl rfl rfl rfl rfl rfl rfl Zq ?_|refine aeE rfl rfl rfl rfl rfl rfl rfl rfl Zq ?_|refine agh rfl rfl rfl rfl rfl rfl rfl rfl Zq ?_|refine aeF rfl rfl rfl rfl rfl rfl (by first|assumption|rfl) rfl ?_)|(refine kO 8 rfl ?_;first|refine aeM rfl rfl rfl rfl rfl Zb ?_|refine aeP rfl rfl rfl rfl rfl rfl Zb ?_|refine aeN rfl rfl rfl rfl rfl Zb ?_|refine aeO rfl rfl rfl rfl rfl Zb ?_|refine akH rfl rfl rfl rfl rfl rfl rfl Zb ?_|refine akI rfl rfl rfl rfl rfl rfl rfl Zb ?_|refine akJ rfl rfl rfl rfl rfl rfl rfl rfl Zb ?_|refine akK rfl rfl rfl rfl rfl rfl rfl rfl Zb ?_|refine akL rfl rfl rfl rfl rfl rfl rfl rfl Zb ?_|refine akM rfl rfl rfl rfl rfl rfl rfl rfl Zb ?_|refine akz rfl rfl rfl rfl rfl rfl rfl (by omega) ?_|refine akA rfl rfl rfl rfl rfl rfl rfl (by omega) ?_|refine rG (λ_ z=>z) ?_)|(refine kO 6 rfl ?_;first|refine aeL rfl rfl rfl rfl rfl rfl ?_|refine aky rfl rfl rfl rfl rfl rfl ?_|refine aeG rfl rfl rfl rfl rfl rfl ?_|refine aeH rfl rfl rfl rfl rfl rfl rfl ?_|refine Y6 rfl rfl rfl rfl rfl rfl rfl ?_|refine aeR rfl rfl rfl (by omega) ?_|refine aeS rfl rfl rfl (by omega) ?_|refine rG (λ_ z=>z) ?_)|(refine kO 2 rfl ?_;first|refine aks rfl rfl (by omega) ?_|refine rG (λ_ z=>z) ?_)|(refine kO 7 rfl ?_;first|(apply rS (λ_=>rfl);assumption;exact λ_ z=>z)|refine Rq (aeX _) ?_|refine Rq (aeW _) ?_|refine Rq (ak6 _) ?_|refine Rq (Nl _ _ _) ?_)|refine rGX rfl trivial ?_|refine rGX rfl Zd ?_|refine rG (λ_ z=>⟨Zd,z⟩) ?_|refine rG (λ_ z=>⟨Zd,Zd,z⟩) ?_)|(refine dO ?_;first|refine oP rfl ?_|refine oN ?_|refine oY rfl rfl rfl ?_|refine oZ rfl rfl rfl ?_|refine oO rfl rfl rfl ?_|refine oIt rfl rfl rfl (by omega) ?_|refine oIf rfl rfl rfl (by omega) ?_|refine oUt rfl rfl rfl (by omega) ?_|refine oUf rfl rfl rfl (by omega) ?_)|((first|refine Zm0 zz ?_|refine Zm3 zz ?_);(refine dA ?_;first|refine aS ?_|refine aR ?_|refine aC rfl ?_|refine aK ?_|refine aT ?_|refine aB ?_|refine aX ?_|refine aL ?_|refine aE ?_))|(refine Zm1 zz ?_;(refine dA ?_;first|refine aSs ?_|refine aR ?_|refine aC rfl ?_|refine aK ?_|refine aT ?_|refine aB ?_|refine aX ?_|refine aL ?_|refine aE ?_))|(refine dB ?_;first|refine bT ?_|refine bF ?_|refine bPt (by omega) ?_|refine bPf (by omega) ?_)|refine dI (by kernel_rfl) ?_);(try conv=>whnf)));(try exact zz.out);first|exact(Dum.mk:Dum True)|exact Dum.mk)):p:=h ⟨z⟩
def tB (m:Nat){p q:Prop}(z:q)(h:Hdn m q->p:=by(intro zz;refine akN (q:=_) zz ?_ ?_;(try conv=>whnf);(repeat1' ((first|(refine dA ?_;first|refine aC rfl ?_|refine aK ?_|refine aT ?_|refine aB ?_|refine aX ?_|refine aL ?_|refine aE ?_)|(refine dB ?_;first|refine bT ?_|refine bF ?_|refine bPt (by omega) ?_|refine bPf (by omega) ?_));(try conv=>whnf)));(try exact zz.out);first|exact(Dum.mk:Dum True)|exact Dum.mk)):p:=h ⟨z⟩
def bR {p q r:Prop}(z1:q)(z2:r)(h:Hdn 0 q->Hdn 0 r->p:=by(intro x y;(first|refine brp ?_ ?_|refine yJ rfl rfl rfl ?_ ?_|refine nG rfl rfl rfl ?_ ?_);exact x.out;exact y.out)):p:=h ⟨z1⟩ ⟨z2⟩
def Zt:True:=True.intro
def Zo {p:Prop}(h:p:=by(exfalso;omega)):p:=h
def Ze {p:Prop}(h:p:=by first|(exfalso;omega)|contradiction):p:=h
def Zs {p:Prop}(h:p:=by first|(exfalso;omega)|contradiction|(exfalso;simp_all;done)|omega):p:=h
def Z0 {p:Prop}(h:p:=by first|(exfalso;omega)|rfl):p:=h
def Zf {p:Prop}(h:p:=by first|(exfalso;omega)|contradiction|rfl):p:=h
def Zg {p:Prop}(h:p:=by first|(exfalso;omega)|(exfalso;simp_all;done)|omega):p:=h
def tA {p:Prop}(h:p:=by(repeat' ((first|refine tX 0 ?_|exact Zt|refine bR ?_ ?_<;>intro h)<;>(try conv=>whnf)));(all_goals exact Z0)):p:=h
def tB0 {p:Prop}(h:p:=by(repeat' ((first|refine tX 0 ?_|exact Zt|refine bR ?_ ?_<;>intro h)<;>(try conv=>whnf)));(all_goals exact Zf)):p:=h
def tL {p:Prop}(h:p:=by((repeat' ((first|refine tX 0 ?_|(refine kO 7 rfl ?_;first|refine rG (λ_ z=>⟨_,dt _ _ _,z⟩) ?_|refine rG (λ_ z=>⟨_,eo _ _ _,z⟩) ?_|refine rG (λ_ z=>⟨_,wF rfl,z⟩) ?_|refine rG (λ_ z=>⟨_,wF (E:=0) rfl,z⟩) ?_|refine rG (λ_ z=>⟨_,bZ _ _,z⟩) ?_|refine rG (λ_ z=>⟨_,iT _,z⟩) ?_|refine rG (λ_ z=>⟨_,oe _,z⟩) ?_|refine rG (λ_ z=>⟨_,jC _,z⟩) ?_|refine rG (λ_ z=>⟨_,AM _,z⟩) ?_|refine rG (λ_ z=>⟨_,unless_p _,z⟩) ?_|refine rG (λ_ z=>⟨_,gW _ (fM rfl),z⟩) ?_|refine rG (λ_ z=>⟨_,first_fs _ (fM rfl),z⟩) ?_|refine rG (λ_ z=>⟨_,Nn (by decide),z⟩) ?_|refine rG (λ_ z=>⟨_,eF _ _ _,z⟩) ?_|refine rG (λ_ z=>⟨_,mS _ _ _,z⟩) ?_|refine rG (λ_ z=>⟨_,pH _ _ _,z⟩) ?_|refine rG (λ_ z=>⟨_,eO _ _ _,z⟩) ?_|refine rG (λ_ z=>⟨_,gj _,z⟩) ?_|refine rG (λ_ z=>⟨_,o0 _ _ (by decide),z⟩) ?_|refine rG (λ_ z=>⟨_,kY _ _ (by omega),z⟩) ?_|refine rG (λ_ z=>⟨_,nJ _ _,z⟩) ?_|refine rG (λ_ z=>⟨_,Ns _ _,z⟩) ?_|refine rG (λ_ z=>⟨_,aaR _ _,z⟩) ?_|refine rG (λ_ z=>⟨_,NM _ _ _,z⟩) ?_|refine rG (λ_ z=>⟨_,Fp _,z⟩) ?_|refine rG (λ_ z=>⟨_,OB _,z⟩) ?_|refine rG (λ_ z=>⟨_,BO _,z⟩) ?_|refine rG (λ_ z=>⟨_,within52_sat _ _ _,z⟩) ?_|refine rG (λ_ z=>⟨_,wF C3,z⟩) ?_|refine rG (λ_ z=>⟨_,mJ _ _,z⟩) ?_|refine rG (λ_ z=>⟨_,both_sat _ _,z⟩) ?_|refine rG (λ_ z=>⟨_,aN (by assumption) _,z⟩) ?_|refine rG (λ_ z=>⟨_,bJ (by assumption) _,z⟩) ?_|refine rG (λ_ z=>⟨_,aN (by(simp[ab]<;>fail "")) _,z⟩) ?_|refine rG (λ_ z=>⟨_,bJ (by(simp[ab]<;>fail "")) _,z⟩) ?_|refine rG (λ_ z=>⟨_,aN (by simp only[ab,ju,Dh,kH,Ai,jf];omega) _,z⟩) ?_|refine rG (λ_ z=>⟨_,bJ (by simp only[ab,ju,Dh,kH,Ai,jf];omega) _,z⟩) ?_|refine gu (λ_ z=>⟨_,_,_,c0 _ _ ⟨_,_,rfl,rfl⟩ rfl,z⟩) ?_|refine gu (λ_ z=>⟨_,_,_,c3 _ _ ⟨_,_,rfl,rfl⟩ rfl,z⟩) ?_|refine gu (λ_ z=>⟨_,_,_,c2 _ _,z⟩) ?_|refine gu (λ_ z=>⟨_,_,_,kl _ _,z⟩) ?_|refine gu (λ_ z=>⟨_,_,_,cv _ _ _ _ _ _ _ rfl (jR (by assumption)) rfl rfl rfl,z⟩) ?_|refine gu (λ_ z=>⟨_,_,_,cr _ _ _ _ _ _ _ rfl (jR (by assumption)) rfl rfl rfl,z⟩) ?_|refine gu (λ_ z=>⟨_,_,_,cv _ _ _ _ _ rfl rfl rfl,z⟩) ?_|refine gu (λ_ z=>⟨_,_,_,cr _ _ _ _ _ rfl rfl rfl,z⟩) ?_|refine gu (λ_ z=>⟨_,_,_,cu _ _ rfl rfl rfl,z⟩) ?_|refine gu (λ_ z=>⟨_,_,_,cu _ _ rfl rfl rfl rfl,z⟩) ?_|refine gu (λ_ z=>⟨_,_,_,cm _ _ _ _ _ rfl rfl rfl,z⟩) ?_|refine gu (λ_ z=>⟨_,_,_,vH hM hp hr rfl rfl rfl (jR (by assumption)) rfl rfl rfl,z⟩) ?_)|exact Zt|refine bR ?_ ?_<;>intro h)<;>(try conv=>whnf)));(all_goals first|exact Zf|exact Ei|exact Ew|exact rfl|exact⟨m0,bq rfl rfl,_,rfl,rfl⟩|exact⟨m3,bq rfl rfl,_,rfl,rfl⟩|exact⟨[],IG _,_,rfl,rfl⟩|exact⟨rfl,rfl,_,rfl,rfl⟩|exact⟨i+1,al,by omega,Zc⟩|exact⟨i+1,⟨al,by assumption⟩,by omega,Zc⟩|exact⟨i+1,⟨al,io (by omega)⟩,by omega,Zc⟩|exact⟨i+1,⟨al,l6 (by omega)⟩,by omega,Zc⟩|exact⟨i+1,⟨al,λhm=>(Gt.1 hm).elim dm λe=>hx e.symm⟩,by omega,Zc⟩|exact⟨i+1,al,by omega,ai (by rw[xR,lW];kernel_rfl)⟩|exact⟨i+1,al,by omega,ai (by rw[xR];kernel_rfl)⟩|exact⟨k+1,⟨al,io⟩,by omega,Zc⟩|exact gS (by simp;omega)|exact gS (by simp)|exact gS (eJ (dm (by omega))).symm |exact gS (fh ⟨by assumption,by assumption⟩).symm |exact gS (eJ λh=>h0 h.1).symm |exact qb _ _ 7 (by decide)|exact qb _ _ 18 (by decide)|exact absurd (by assumption) hx|exact absurd hx (by assumption)|exact absurd Lt (dm (by omega))|exact oR (by simp)|exact Zg))):p:=h
open Go.RowKit (Below)
open Go.Shelf
variable {P:Program}{gl:tR}
theorem acY {ρ:Ren}(L:Proofs.Lays.n145 P ρ)(e8:iI P (ρ.f 145)=true)(hg:(ρ.g 1,[SC.num .i64])∈gl)(s:List UInt8)(c:UInt8)(hl:s.length<=1000000):
  nR P gl (ρ.f 145) [SS s,SS [c]] (.aI [SS (Lib.cut s [c]).1,SS (Lib.cut s [c]).2.1,(false,[.lit (.bool (Lib.cut s [c]).2.2)])]):=by
 refine .inl ⟨e8,λmv w vs _ hG xN=>?_⟩;obtain⟨x,y,rfl,hr,Cx⟩:=Ed xN;rw[ge hr,ge Cx];obtain⟨ev,h1,h2⟩:=(hG _ _ hg).1 0 _ rfl;have pb: ∃m,ev= .int .i64 m:=aip;obtain⟨m,rfl⟩:=pb;refine(Proofs.Any.strings_Cut L (B s) (B [c]) m w (by rw[lU];omega) h1).mono λe w' he=>?_;obtain⟨rfl,n,rfl⟩:=he;rw[jG,jG];refine⟨_,rfl,(Below.refl w.heap.size w).trans ⟨rfl,rfl,rfl,dG _,λ_ _=>rfl⟩,_,rfl,rfl,λk x hk=>?_⟩
 match k,hk with
 |0,hk=>simp at hk;subst hk;exact⟨_,rfl,.lit rfl⟩
 |1,hk=>simp at hk;subst hk;exact⟨_,rfl,.lit rfl⟩
 |2,hk=>simp at hk;subst hk;exact⟨_,rfl,.lit rfl⟩
 |k+3,hk=>simp at hk
end Go.Fw
namespace Go.Plain
open Go.Lib
abbrev aw:=List UInt8
def dq (b:UInt8):Prop:=48<=b.toNat/\b.toNat<=57
instance (b:UInt8):Decidable (dq b):=inferInstanceAs (Decidable (_/\_))
def fD (acc:Nat):aw->Nat
 | []=>acc
 |b::r=>fD (10*acc+(b.toNat -48)) r
def Eh (acc:Nat)(a b:aw):fD acc (a++b)=fD (fD acc a) b:=by
 induction a generalizing acc with
 |nil=>rfl
 |cons x a ih=>exact ih _
def Ay {acc:Nat}{l:aw}:acc<=fD acc l:=by
 induction l generalizing acc with
 |nil=>exact dG _
 |cons x l ih=>exact pf K0 (ih (acc:=10*acc+(x.toNat -48)))
def J9: ∀(l:aw) (acc:Nat),(∀b∈l,dq b)->fD acc l< (acc+1)*10^l.length
 | [],acc,_=>by
  show acc< (acc+1)*1;omega
 |b::l,acc,h=>by
  have h1:=h b (je ..);have:=J9 l (10*acc+(b.toNat -48)) λx hx=>h x (jt _ hx);have h0:10*acc+(b.toNat -48)+1<=(acc+1)*10:=by grind[dq]
  have h2:(10*acc+(b.toNat -48)+1)*10^l.length<=(acc+1)*10*10^l.length:=kG _ h0;rw[kH,Nat.pow_succ];have e:(acc+1)*(10^l.length*10)=(acc+1)*10*10^l.length:=by ac_rfl
  rw[e];exact X6 this h2
theorem yQ {d:Nat}(h:d<10):(UInt8.ofNat (48+d)).toNat =48+d:=by simp[UInt8.toNat_ofNat];omega
def Nf {b:UInt8}(h:dq b):UInt8.ofNat (48+(b.toNat -48))=b:=by
 unfold dq at h;simp_all
def TL: ∀(u:Nat),∀b∈decDigits u,dq b:=by
 intro u
 induction u using Nat.strongRecOn with
 |_ u ih=>
  grind[decDigits,dq,yQ]
def TM: ∀(u:Nat),fD 0 (decDigits u)=u:=by
 intro u
 induction u using Nat.strongRecOn with
 |_ u ih=>
  rw[decDigits];split
  ·rename_i h;show 10*0+((UInt8.ofNat (48+u)).toNat -48)=u
   grind[yQ]
  ·rename_i h;rw[Eh,ih _ K0];show 10*(u/10)+((UInt8.ofNat (48+u%10)).toNat -48)=u
   grind[yQ]
def agk (u:Nat):decDigits u≠[]:=by rw[decDigits];split<;>simp
theorem Ng: ∀ {u:Nat},0<u->∃b r,decDigits u=b::r/\b.toNat≠48:=by
 intro u
 induction u using Nat.strongRecOn with
 |_ u ih=>
  intro h0;rw[decDigits];split
  grind[yQ]
  ·rename_i h;obtain⟨b,r,e,hb⟩:=ih (u/10) K0 K0
   grind
theorem Zv: ∀(l:aw) (b:UInt8) (r:aw),l=b::r->(∀x∈l,dq x)->(b.toNat≠48\/r= [])->decDigits (fD 0 l)=l:=by
 intro l
 induction h:l.length using Nat.strongRecOn generalizing l with
 |_ n ih=>
  intro b r e hd hb;subst e;rcases List.eq_nil_or_concat r with rfl|⟨m,x,hr⟩
  ·have jW:=hd b (je ..);have e:fD 0 [b]=b.toNat -48:=by show 10*0+(b.toNat -48)=_;omega
   rw[e,decDigits,dif_pos (by grind[dq]),Nf jW]
  ·rw[List.concat_eq_append]at hr;subst hr;have hx:dq x:=hd x (by simp)
   have hm: ∀y∈b::m,dq y:=λy hy=>hd y (by
    grind)
   have xQ:b.toNat≠48:=by grind
   have i1:=ih (b::m).length bw (b::m) rfl b m rfl hm (.inl xQ);have hv:fD 0 (b::(m++[x]))=10*fD 0 (b::m)+(x.toNat -48):=by rw[show b::(m++[x])=(b::m)++[x]from rfl,Eh];rfl
   have fL:0<fD 0 (b::m):=by
    have h1:=hm b (je ..);have:10*0+(b.toNat -48)<=fD 0 (b::m):=Ay (acc:=10*0+(b.toNat -48)) (l:=m)
    grind[dq]
   unfold dq at hx;show decDigits (fD 0 (b::(m++[x])))=_;rw[hv,decDigits,dif_neg K0,show(10*fD 0 (b::m)+(x.toNat -48))/10=fD 0 (b::m)by omega,show(10*fD 0 (b::m)+(x.toNat -48))%10=x.toNat -48 by omega,i1,Nf hx];rfl
def Cl (s:aw):Nat:=if(s.getD 0 0).toNat =45 then 1 else 0
def Cm (d:Nat)(s:aw):Prop:=s.length=Cl s\/d<s.length -Cl s\/((s.getD (Cl s) 0).toNat =48/\1<s.length)
instance (d:Nat)(s:aw):Decidable (Cm d s):=inferInstanceAs (Decidable (_\/_\/_))
def fN (d:Nat)(s:aw):Option Int:=
 if Cm d s then none else if ∀b∈s.drop (Cl s),dq b then some (if Cl s=1 then -(fD 0 (s.drop (Cl s)):Int)else(fD 0 (s.drop (Cl s)):Int))else none
def agl (s:aw):Cl s<=s.length:=by
 unfold Cl
 cases s with
 |nil=>simp
 |cons b s=>grind
def Ej {s:aw}{a i:Nat}(h1:a<=i)(h2:i<s.length):(s.take (i+1)).drop a=(s.take i).drop a++[s.getD i 0]:=by grind[List.take_succ_eq_append_getElem]
def Nh {s:aw}{a i:Nat}(h1:a<=i)(h2:i<s.length)(h3:dq (s.getD i 0)):((fD 0 ((s.take (i+1)).drop a):Nat):Int)=10*((fD 0 ((s.take i).drop a):Nat):Int)+(((s.getD i 0).toNat :Nat) -48:Int):=by
 rw[Ej h1 h2,Eh];unfold dq at h3;show((10*fD 0 _+((s.getD i 0).toNat -48):Nat):Int)=_;omega
def oL {l:aw}(h: ∀b∈l,dq b)(hl:l.length<=18):(fD 0 l:Int)<1000000000000000000:=by
 have h1:=J9 l 0 h
 have h2:(0+1)*10^l.length<=10^18:=by
  rw[j9,Nat.one_mul];exact X0 bX hl
 omega
def BG {l:aw}(h: ∀b∈l,dq b)(hl:l.length<=17):(fD 0 l:Int)<100000000000000000:=by
 have h1:=J9 l 0 h
 have h2:(0+1)*10^l.length<=10^17:=by
  rw[j9,Nat.one_mul];exact X0 bX hl
 omega
def ja (s:aw)(c:Nat):Nat->List aw × Nat
 |0=>([],0)
 |i+1=>if(s.getD i 0).toNat =c then((ja s c i).1++[(s.take i).drop (ja s c i).2],i+1)else ja s c i
def agm (s:aw)(c:Nat):List aw:=(ja s c s.length).1++[s.drop (ja s c s.length).2]
def Ka (s:aw)(c:Nat): ∀i,(ja s c i).2<=i/\(ja s c i).1.length <=i
 |0=>⟨dG _,dG _⟩
 |i+1=>by
  obtain⟨h1,h2⟩:=Ka s c i;unfold ja
  grind
def be (l:List aw)(x:aw):Int:=if x∈l then(l.idxOf x:Int)else -1
theorem dW {l:List aw}{x:aw}(h:x∉l):be l x= -1:=by unfold be;rw[if_neg h]
def TN {l:List aw}{x:aw}{i:Nat}(h:i<l.length)(e:l[i]=x)(dm:x∉l.take i):be l x=i:=by
 have hm:x∈l:=by rw[<- e];exact pd h
 unfold be;rw[if_pos hm]
 have:l.idxOf x=i:=by
  have hs:l=l.take i++x::l.drop (i+1):=by rw[<- e,List.getElem_cons_drop h,L2]
  rw[hs,List.idxOf_append,if_neg dm,List.idxOf_cons_self];simp;omega
 rw[this]
def Zw: ∀(l:aw) (acc:Nat),(∀b∈l,dq b)->fD acc l<1000000000000000000->parseUint10 acc l= .ok (fD acc l)
 | [],_,_,_=>rfl
 |c::r,acc,h,hl=>by
  have hc:=h c (je ..);have h1:10*acc+(c.toNat -48)<=fD (10*acc+(c.toNat -48)) r:=Ay;have h2:fD (10*acc+(c.toNat -48)) r<1000000000000000000:=hl;have ih:=Zw r (10*acc+(c.toNat -48)) (λb hb=>h b (jt _ hb)) h2;unfold dq at hc;show(if 48<=c.toNat/\c.toNat<=57 then if 1844674407370955162<=acc then _ else if 18446744073709551616<=acc*10+(c.toNat -48)then _ else parseUint10 (acc*10+(c.toNat -48)) r else _)=_;rw[if_pos hc,if_neg K0,if_neg K0,Nat.mul_comm acc 10,ih];rfl
def Zx {l:aw}(h0:l≠[])(h: ∀b∈l,dq b)(hl:l.length<=18):parseMag l= .ok (fD 0 l):=by
 unfold parseMag;rw[if_neg h0];exact Zw l 0 h (by have:=oL h hl;omega)
def b45 {c:UInt8}(h:c.toNat=45):c=45:=HE.1 h
theorem Ni (r:aw):trimPrefix (45::r) [45]=r:=by simp[trimPrefix,hasPrefix]
theorem Ek {c:UInt8}(h:c.toNat≠45)(r:aw):trimPrefix (c::r) [45]=c::r:=by
 have: ¬(45:UInt8)=c:=λe=>h (by rw[<- e];rfl)
 grind[trimPrefix,hasPrefix]
def fV {d:Nat}{s:aw}{n:Int}(hd:d<=18)(h:fN d s=some n):atoiAll s= .ok n/\itoa n=s/\(trimPrefix s [45]).length <=d/\ -9223372036854775808<=n/\n<=9223372036854775807:=by
 unfold fN at h;split at h
 ·cases h
 rename_i hb;split at h
 ·rename_i xF
  cases s with
  |nil=>exact absurd (.inl rfl) hb
  |cons c r=>
   by_cases Lv:c.toNat=45
   ·have hc:=b45 Lv;subst hc;have ea:Cl (45::r)=1:=rfl;unfold Cm at hb;rw[ea]at h hb xF;simp only[kH,X3,GF]at hb xF h;simp only[if_true]at h;have hn:n= -(fD 0 r:Int):=by grind
    cases r with
    |nil=>grind
    |cons b r'=>
     have ane:b.toNat≠48:=by grind
     have bD:(b::r').length <=d:=by omega
     have xQ:=xF b (je ..);have fL:0<fD 0 (b::r'):=air;have hsm:=oL xF K0;refine⟨?_,?_,?_,?_⟩
     ·rw[atoiAll_minus,Zx (by simp) xF K0,hn];unfold signed
      grind
     ·unfold itoa;rw[if_pos K0,hn];have:(-(fD 0 (b::r'):Int)).natAbs =fD 0 (b::r'):=by omega
      grind[Zv]
     grind[Ni]
     ·omega
   ·have ea:Cl (c::r)=0:=by unfold Cl;grind
    unfold Cm at hb;rw[ea]at h hb xF;simp only[kH,GF]at hb xF h;simp only[Nat.zero_ne_one,kM]at h;have hn:n=(fD 0 (c::r):Int):=by grind
    have hc1:=xF c (je ..);have anW:c.toNat≠48\/r= []:=by grind
    have bD:(c::r).length <=d:=by grind
    have hsm:=oL xF K0;refine⟨?_,?_,?_,?_⟩
    ·rw[atoiAll_plain c r (by grind[dq]) Lv,Zx (by simp) xF K0,hn];unfold signless
     grind
    ·unfold itoa;rw[if_neg K0,hn];have:((fD 0 (c::r):Nat):Int).toNat =fD 0 (c::r):=by omega
     grind[Zv]
    grind[Ek]
    ·omega
 grind
def vn {d:Nat}{n:Int}(h2:(trimPrefix (itoa n) [45]).length <=d):fN d (itoa n)=some n:=by
 unfold itoa at*;split at h2
 ·rename_i h;rw[Ni]at h2;obtain⟨b,r,e,hb⟩:=Ng (u:=n.natAbs) K0;have xF:=TL n.natAbs;have hv:=TM n.natAbs;rw[if_pos h];have ea:Cl (45::decDigits n.natAbs)=1:=rfl;have ma: ¬Cm d (45::decDigits n.natAbs):=by grind[Cm]
  unfold fN
  grind
 ·rename_i h;have xF:=TL n.toNat;have hv:=TM n.toNat;rw[if_neg h];have gk:=agk n.toNat
  obtain⟨b,r,e⟩: ∃b r,decDigits n.toNat=b::r:=by
   cases hh:decDigits n.toNat with
   |nil=>grind
   |cons b r=>grind
  have xQ:=xF b bw;have Lv:b.toNat≠45:=by grind[dq]
  rw[e,Ek Lv,<- e]at h2;have ea:Cl (decDigits n.toNat)=0:=by rw[e];unfold Cl;grind
  have ma: ¬Cm d (decDigits n.toNat):=by
   unfold Cm;rw[ea];rintro(h1|h1|⟨h1,h3⟩)
   grind
   ·omega
   ·rw[e]at h1 h3;by_cases h0:0<n.toNat
    grind[Ng]
    grind[decDigits]
  unfold fN
  grind
def El (n:Int):Prop:= -9223372036854775808<=n/\n<=9223372036854775807
theorem xf {α:Type}{l:List α}{i:Nat}(h:i<l.length)(d:α):l.take (i+1)=l.take i++[l.getD i d]:=by
 rw[Db,o8 h];exact aiS
def jA {l:List Int}{P:Int->Prop}(hl: ∀n∈l,P n){i:Nat}(h:i<l.length):P (l.getD i 0):=by
 rw[show l.getD i 0=l[i]by simp[jX,h]];exact hl _ (pd h)
def aH (c:Nat):aw->List aw
 | []=>[[]]
 |b::r=>if b.toNat=c then []::aH c r else match aH c r with
  |w::ws=>(b::w)::ws
  | []=>[[b]]
theorem ng (c:Nat): ∀s,aH c s≠[]
 | []=>by simp[aH]
 |b::r=>by grind[aH]
def ky (c:UInt8): ∀s:aw,(indexByte s c= -1/\aH c.toNat s= [s])\/∃i:Nat,i<s.length/\indexByte s c=i/\aH c.toNat s=s.take i::aH c.toNat (s.drop (i+1))
 | []=>.inl ⟨rfl,rfl⟩
 |b::r=>by
  by_cases hb:b=c
  ·subst hb;refine .inr ⟨0,by simp,?_,?_⟩
   ·unfold indexByte;grind
   ·show(if b.toNat=b.toNat then _ else _)=_
    grind
  ·have jW: ¬b.toNat=c.toNat:=λe=>hb (HE.1 e)
   rcases ky c r with⟨h1,h2⟩|⟨i,h1,h2,h3⟩
   ·refine .inl ⟨?_,?_⟩
    ·unfold indexByte;grind
    ·unfold aH;grind
   ·refine .inr ⟨i+1,by grind,?_,?_⟩
    ·unfold indexByte;grind
    ·show(if b.toNat=c.toNat then _ else match aH c.toNat r with|w::ws=>(b::w)::ws| []=>[[b]])=_
     grind
def Em (c:UInt8): ∀(n:Nat) (s:aw),s.length<=n->splitK [c] 0 (count s [c]) s=aH c.toNat s/\(aH c.toNat s).length =count s [c]+1
 |n,s,hn=>by
  rcases ky c s with⟨h1,h2⟩|⟨i,h1,h2,h3⟩
  ·rw[<- index_one]at h1;rw[count_miss h1,h2];exact⟨rfl,rfl⟩
  ·rw[<- index_one]at h2;rw[count_hit (by simp) h2,h3,Nat.add_comm 1];have hl:(s.drop (i+1)).length <s.length:=by grind
   cases n with
   |zero=>omega
   |succ n=>
    have ih:=Em c n (s.drop (i+1)) K0;simp only[kH,Ai,j9];refine⟨?_,by omega⟩;show(if(index s [c]== -1)=true then _ else _)=_
    grind
def uw (s:aw)(c:UInt8):Go.Fw.C6 s c=aH c.toNat s/\(Go.Fw.C6 s c).length =countB (Go.Fw.B s) (Go.Fw.B [c])+1:=by
 have e:countB (Go.Fw.B s) (Go.Fw.B [c])=count s [c]:=by grind[Go.Fw.jG]
 have h:=Em c s.length s (dG _)
 grind[Go.Fw.C6]
def yR (c:Nat)(b:UInt8): ∀(t:aw) (ps:List aw) (w:aw),aH c t=ps++[w]->aH c (t++[b])=if b.toNat=c then ps++[w]++[[]]else ps++[w++[b]]
 | [],ps,w,h=>by
  have h': [[]]=ps++[w]:=h
  have:ps= []/\w= []:=by
   cases ps with
   |nil=>grind
   |cons p ps=>simp at h'
  obtain⟨rfl,rfl⟩:=this;show(if b.toNat=c then []::[[]]else _)=_
  grind
 |x::t,ps,w,h=>by
  by_cases hx:x.toNat=c
  ·have h1: []::aH c t=ps++[w]:=by rw[<- h];exact(if_pos hx).symm
   cases ps with
   |nil=>
    grind[ng]
   |cons p ps=>
    have h2:p= []/\aH c t=ps++[w]:=by grind
    have ih:=yR c b t ps w h2.2;show(if x.toNat=c then []::aH c (t++[b])else _)=_
    grind
  ·have gk:=ng c t
   cases hs:aH c t with
   |nil=>grind
   |cons w0 ws=>
    have h1:(x::w0)::ws=ps++[w]:=by
     rw[<- h];show _=(if x.toNat=c then _ else match aH c t with|w::ws=>(x::w)::ws| []=>[[x]])
     grind
    have go: ∀u us,aH c (t++[b])=u::us->aH c (x::t++[b])=(x::u)::us:=by
     intro u us e;show(if x.toNat=c then _ else match aH c (t++[b])with|w::ws=>(x::w)::ws| []=>[[x]])=_
     grind
    cases ps with
    |nil=>
     have h2:x::w0=w/\ws= []:=by grind
     obtain⟨rfl,rfl⟩:=h2;have ih:=yR c b t [] w0 bw
     grind
    |cons p ps=>
     have h2:x::w0=p/\ws=ps++[w]:=by grind
     obtain⟨rfl,rfl⟩:=h2;have ih:=yR c b t (w0::ps) w bw
     grind
def Nj (s:aw)(c:Nat): ∀i,i<=s.length->aH c (s.take i)=(ja s c i).1++[(s.take i).drop (ja s c i).2]
 |0,_=>by simp[aH,ja]
 |i+1,h=>by
  have ih:=Nj s c i K0;have h2:=(Ka s c i).1
  have e:s.take (i+1)=s.take i++[s.getD i 0]:=by
   have:=Ej (s:=s) (a:=0) (i:=i) (dz _) K0
   grind
  have hs:=yR c (s.getD i 0) (s.take i) _ _ ih;rw[e,hs];show _=(if(s.getD i 0).toNat =c then((ja s c i).1++[(s.take i).drop (ja s c i).2],i+1)else ja s c i).1++[(s.take i++[s.getD i 0]).drop (if(s.getD i 0).toNat =c then((ja s c i).1++[(s.take i).drop (ja s c i).2],i+1)else ja s c i).2]
  grind
theorem iM (s:aw)(c:Nat):agm s c=aH c s:=by
 have:=Nj s c s.length (dG _);rw[mB]at this;exact this.symm
theorem cj (c:Nat): ∀s:aw,(aH c s).length <=s.length+1/\∀w∈aH c s,w.length<=s.length
 | []=>by simp[aH]
 |b::r=>by
  have ih:=cj c r
  grind[aH]
end Go.Plain
namespace Go.Fw
open Go.RowKit (Below)
open Go.Shelf Go.Plain
structure amK where
 split:Nat
 splitN:Nat
 cut:Nat
 atoi:Nat
 itoa:Nat
 trim:Nat
def amL (l:List (List UInt8)):mc:=.own 1 (.view (ab l))
end Go.Fw
namespace Go.Proofs.Tryz
open Go.Fw
namespace Ty
abbrev i0:ZC:=.lit (.int .i64 0)
abbrev b0:ZC:=.lit (.bool false)
abbrev s0:ZC:=.lit (.string (ByteArray.mk #[]))
abbrev w0:ZC:=.lit (.int .u64 0)
abbrev y0:ZC:=.lit (.int .u8 0)
abbrev v0:ZC:=.lit (.int .u32 0)
abbrev z0:ZC:=.lit .nilFunc
abbrev p0:ZC:=.lit (.pointer none)
abbrev n0:ZC:=.lit .nilIface
abbrev F:=false
abbrev eI:Bl:=.int .i64
abbrev eY:Bl:=.int .u8
abbrev eW:Bl:=.int .u64
abbrev tF:TI:=⟨.func,1,8,[z0],[F],none⟩
abbrev tI:TI:=⟨eI,1,8,[i0],[F],some [eI]⟩
abbrev tB:TI:=⟨.bool,1,1,[b0],[F],some [.bool]⟩
abbrev tS:TI:=⟨.str,1,16,[s0],[F],some [.str]⟩
abbrev tY:TI:=⟨eY,1,1,[y0],[F],some [eY]⟩
abbrev tW:TI:=⟨eW,1,8,[w0],[F],some [eW]⟩
abbrev tL(n:TypeId)(k:=false):TI:=⟨.slice n,1,24,[.nil],[k],none⟩
abbrev tP(n:TypeId):TI:=⟨.ptr n,1,8,[p0],[F],none⟩
abbrev tN:TI:=⟨.iface,1,16,[n0],[F],none⟩
abbrev u7:TI:=⟨.struct [(0,2),(1,3),(2,4),(3,6)],4,24,[i0,i0,b0,y0],[F,F,F,F],some [eI,eI,.bool,eY]⟩
abbrev u13:TI:=⟨.struct [(0,9),(1,12)],2,24,[s0,w0],[F,F],none⟩
abbrev u18:TI:=⟨.struct [(0,17)],1,8,[p0],[F],none⟩
abbrev u21:TI:=⟨.int .i32,1,4,[.lit (.int .i32 0)],[F],some [.int .i32]⟩
abbrev u26:TI:=⟨.struct [(0,22),(1,23),(2,24),(3,25),(4,3),(5,3)],6,112,[.nil,.nil,.nil,.nil,i0,i0],[F,F,F,F,F,F],none⟩
abbrev u34:TI:=⟨.struct [(0,4),(1,4),(2,23),(3,9),(4,23),(5,33)],6,96,[b0,b0,.nil,s0,.nil,.nil],[F,F,F,F,F,F],none⟩
abbrev u50:TI:=⟨.struct [(0,3),(1,9),(2,9)],3,40,[i0,s0,s0],[F,F,F],some [eI,.str,.str]⟩
abbrev u64:TI:=⟨.struct [(0,3),(1,3),(2,3),(3,3),(4,3)],5,40,[i0,i0,i0,i0,i0],[F,F,F,F,F],some [eI,eI,eI,eI,eI]⟩
abbrev u68:TI:=⟨.struct [(0,9),(1,3)],2,24,[s0,i0],[F,F],some [.str,eI]⟩
abbrev u70:TI:=⟨.struct [(0,3),(1,3)],2,16,[i0,i0],[F,F],some [eI,eI]⟩
abbrev u72:TI:=⟨.struct [(0,9),(1,3),(2,23),(3,9),(4,71)],6,80,[s0,i0,.nil,s0,i0,i0],[F,F,F,F,F,F],none⟩
abbrev u75:TI:=⟨.struct [(0,9),(1,23)],2,40,[s0,.nil],[F,F],none⟩
abbrev u80:TI:=⟨.struct [(0,27),(6,28),(7,35)],13,232,[.nil,.nil,.nil,.nil,i0,i0,.nil,b0,b0,.nil,s0,.nil,.nil],(List.replicate 13 false),none⟩
abbrev u87:TI:=⟨.struct [(0,3),(1,3),(2,3),(3,4)],4,32,[i0,i0,i0,b0],[F,F,F,F],some [eI,eI,eI,.bool]⟩
abbrev u89:TI:=⟨.struct [(0,88),(4,88),(8,3)],9,72,[i0,i0,i0,b0,i0,i0,i0,b0,i0],[F,F,F,F,F,F,F,F,F],some [eI,eI,eI,.bool,eI,eI,eI,.bool,eI]⟩
abbrev u93:TI:=⟨.struct [(0,9),(1,90),(10,23),(11,91),(12,4),(13,4),(14,4),(15,3),(16,92)],17,176,[s0,i0,i0,i0,b0,i0,i0,i0,b0,i0,.nil,.nil,b0,b0,b0,i0,.nil],(List.replicate 17 false),none⟩
abbrev acZ:TI:=⟨.struct [(0,9),(1,3),(2,3),(3,4)],4,40,[s0,i0,i0,b0],[F,F,F,F],some [.str,eI,eI,.bool]⟩
abbrev akO:TI:=⟨.struct [(0,3),(1,3),(2,3),(3,4),(4,120)],5,40,[i0,i0,i0,b0,z0],[F,F,F,F,F],none⟩
abbrev akP:TI:=⟨.struct [(0,23),(1,127),(2,9)],3,64,[.nil,.nil,s0],[F,true,F],none⟩
abbrev agn:TI:=⟨.struct [(0,176),(2,176)],4,32,[i0,i0,i0,i0],[F,F,F,F],some [eI,eI,eI,eI]⟩
abbrev akQ:TI:=⟨.struct [(0,3),(1,178),(5,179)],6,64,[i0,i0,i0,i0,i0,.nil],[F,F,F,F,F,F],none⟩
abbrev akR:TI:=⟨.struct [(0,9),(1,3),(2,3),(3,178),(7,241)],8,88,[s0,i0,i0,i0,i0,i0,i0,.nil],[F,F,F,F,F,F,F,F],none⟩
abbrev ac0:TI:=⟨.struct [(0,3),(1,127)],2,32,[i0,.nil],[F,true],none⟩
abbrev akS:TI:=⟨.struct [(0,3),(1,71),(3,71),(5,71),(7,71)],9,72,[i0,i0,i0,i0,i0,i0,i0,i0,i0],[F,F,F,F,F,F,F,F,F],some [eI,eI,eI,eI,eI,eI,eI,eI,eI]⟩
abbrev akT:TI:=⟨.struct [(0,9),(1,61)],4,40,[s0,i0,i0,i0],[F,F,F,F],some [.str,eI,eI,eI]⟩
abbrev akU:TI:=⟨.struct [(0,4)],1,1,[b0],[F],some [.bool]⟩
abbrev ac1:TI:=⟨.struct [(0,3),(1,3),(2,3)],3,24,[i0,i0,i0],[F,F,F],some [eI,eI,eI]⟩
abbrev akV:TI:=⟨.struct [(0,127),(1,3)],2,32,[.nil,i0],[true,F],none⟩
abbrev akW:TI:=⟨.struct [(0,243)],8,88,[s0,i0,i0,i0,i0,i0,i0,.nil],[F,F,F,F,F,F,F,F],none⟩
abbrev akX:TI:=⟨.struct [(0,349),(4,3),(5,127),(6,127)],7,88,[i0,i0,i0,i0,i0,.nil,.nil],[F,F,F,F,F,true,true],none⟩
abbrev akY:TI:=⟨.struct [(0,9),(1,9),(2,213)],3,48,[s0,s0,n0],[F,F,F],none⟩
abbrev akZ:TI:=⟨.struct [(0,5),(1,5)],2,2,[y0,y0],[F,F],some [eY,eY]⟩
abbrev ak0:TI:=⟨.struct [(0,9)],1,16,[s0],[F],some [.str]⟩
abbrev ak1:TI:=⟨.struct [(0,408),(2,408)],4,64,[i0,.nil,i0,.nil],[F,true,F,true],none⟩
abbrev ak2:TI:=⟨.struct [(0,17),(1,17),(2,17),(3,9)],4,40,[p0,p0,p0,s0],[F,F,F,F],none⟩
abbrev ak3:TI:=⟨.struct [(0,449)],0,0,[],[],none⟩
abbrev ak4:TI:=⟨.struct [(0,12),(1,12),(2,276),(3,452),(4,5),(5,5),(6,453),(7,454),(8,398),(9,455),(10,456)],11,48,[w0,w0,v0,y0,y0,y0,y0,z0,p0,.lit (.int .i32 0),.lit (.int .i32 0)],[F,F,F,F,F,F,F,F,F,F,F],none⟩
end Ty
open Ty in
noncomputable def cx:bS:={P:=prog,gl:=[(0,[.num .i64]),(1,[.lit (.string ⟨#[121]⟩),.lit (.int .i64 1),.lit (.int .i64 (-1)),.lit (.int .i64 0),.lit (.string ⟨#[100]⟩),.lit (.int .i64 1),.lit (.int .i64 0),.lit (.int .i64 0),.lit (.string ⟨#[122]⟩),.lit (.int .i64 1),.lit (.int .i64 (-2)),.lit (.int .i64 1)]),(2,[.err]),(3,[.err]),(6,Lib.pow10Tab.map λz=>.lit (.int .u64 z)),(7,[.lit (.int .i64 1),.lit (.int .i64 1),.lit (.int .i64 0),.lit (.int .i64 1)])],deep:=[94],fx:=[176,123,125,63,37,46,142,143,182],sx:=[(62,"record.go:493")],mz:=[(122,true),(4,false)],hx:=[30,36,48,59,101,35,62,46,146,41,102,103,104,105,106,107,108,109,110,111,112,113,114,115,116,117,118,119,140],ty:=[
(1,tF),
(2,tI),
(3,tI),
(4,tB),
(5,tY),
(6,tY),
(7,u7),
(8,u7),
(9,tS),
(10,tS),
(11,tS),
(12,tW),
(13,u13),
(14,u13),
(15,tP 448),
(16,tP 451),
(17,tP 458),
(18,u18),
(19,u18),
(20,tN),
(21,u21),
(22,tL 69),
(23,tL 9),
(24,tL 73),
(25,tL 76),
(26,u26),
(27,u26),
(28,tL 51),
(29,tF),
(30,tF),
(31,tF),
(32,tF),
(33,tL 94),
(34,u34),
(35,u34),
(36,tI),
(38,tF),
(39,tF),
(40,tF),
(41,tF),
(42,tF),
(44,tF),
(45,tF),
(47,tF),
(48,tF),
(49,tF),
(50,u50),
(51,u50),
(53,tF),
(54,tF),
(55,tF),
(57,tF),
(58,tF),
(59,tF),
(60,tF),
(61,⟨.array 3 3,3,24,[i0,i0,i0],[F,F,F],some [eI,eI,eI]⟩),
(63,tF),
(64,u64),
(65,u64),
(66,tF),
(67,tF),
(68,u68),
(69,u68),
(70,u70),
(71,u70),
(72,u72),
(73,u72),
(74,tF),
(75,u75),
(76,u75),
(77,tP 81),
(79,tF),
(80,u80),
(81,u80),
(82,tF),
(83,tF),
(85,tF),
(86,tF),
(87,u87),
(88,u87),
(89,u89),
(90,u89),
(91,tL 115),
(92,tL 65),
(93,u93),
(94,u93),
(95,tF),
(96,tP 94),
(98,tF),
(99,tF),
(100,tF),
(101,tF),
(102,tF),
(103,tI),
(104,tF),
(105,tF),
(106,tF),
(107,tF),
(108,tF),
(109,tF),
(110,tF),
(111,tF),
(113,tF),
(114,acZ),
(115,acZ),
(116,tF),
(117,tF),
(119,tF),
(120,tF),
(121,akO),
(122,akO),
(124,⟨.map 9 122,1,8,[.lit (.map none)],[F],none⟩),
(125,tF),
(126,tF),
(127,tL 3 true),
(128,akP),
(129,akP),
(131,tF),
(132,tF),
(133,tF),
(134,⟨.array 5 3,5,40,[i0,i0,i0,i0,i0],[F,F,F,F,F],some [eI,eI,eI,eI,eI]⟩),
(135,tP 103),
(136,tL 5),
(137,tL 36 true),
(138,tF),
(139,tF),
(140,tF),
(141,tF),
(142,tF),
(143,tF),
(144,tF),
(145,tF),
(146,tF),
(147,tF),
(148,tF),
(149,tF),
(150,tF),
(151,tF),
(152,⟨.array 9 139,9,72,[z0,z0,z0,z0,z0,z0,z0,z0,z0],[F,F,F,F,F,F,F,F,F],none⟩),
(153,tF),
(154,tF),
(155,tF),
(156,tF),
(158,tF),
(159,acZ),
(160,acZ),
(161,tL 160),
(162,tF),
(163,tF),
(164,tF),
(165,tF),
(166,tF),
(167,tF),
(169,tF),
(170,tF),
(171,tF),
(173,tF),
(174,⟨.map 9 4,1,8,[.lit (.map none)],[F],none⟩),
(175,u70),
(176,u70),
(177,agn),
(178,agn),
(179,tL 178),
(180,akQ),
(181,akQ),
(183,tF),
(184,tF),
(186,tF),
(187,tF),
(189,tF),
(190,tF),
(192,tF),
(193,tF),
(195,tF),
(196,tF),
(197,tF),
(199,tF),
(200,tP 35),
(201,tF),
(203,tF),
(204,tF),
(205,tF),
(207,tF),
(208,tF),
(210,tF),
(211,tF),
(212,tN),
(213,tN),
(215,tF),
(216,tF),
(217,tF),
(218,tF),
(219,tF),
(220,tF),
(222,tF),
(223,tF),
(224,tF),
(225,tF),
(226,tF),
(228,tF),
(229,tF),
(230,tF),
(231,tF),
(232,tF),
(233,tF),
(234,tF),
(235,tW),
(236,tF),
(237,tF),
(238,tF),
(239,tF),
(240,tF),
(241,tL 295),
(242,akR),
(243,akR),
(245,tF),
(247,tF),
(248,ac0),
(249,ac0),
(251,tF),
(252,tF),
(253,akS),
(254,akS),
(256,tF),
(257,tF),
(258,tF),
(259,tF),
(260,tF),
(261,tF),
(262,tF),
(264,tF),
(265,tF),
(266,tF),
(268,tF),
(269,tF),
(270,tF),
(271,tF),
(272,tF),
(273,tF),
(274,tF),
(275,tF),
(276,⟨.int .u32,1,4,[v0],[F],some [.int .u32]⟩),
(278,tF),
(279,tF),
(280,tL 282),
(281,akT),
(282,akT),
(283,⟨.array 3 282,12,120,[s0,i0,i0,i0,s0,i0,i0,i0,s0,i0,i0,i0],[F,F,F,F,F,F,F,F,F,F,F,F],some [.str,eI,eI,eI,.str,eI,eI,eI,.str,eI,eI,eI]⟩),
(284,tF),
(285,tF),
(286,tF),
(287,tF),
(288,tF),
(289,tP 291),
(290,akU),
(291,akU),
(292,tF),
(293,tF),
(294,ac1),
(295,ac1),
(296,tF),
(297,tF),
(298,tF),
(299,akV),
(300,akV),
(302,tF),
(304,tF),
(305,tF),
(307,tF),
(308,tF),
(309,tF),
(310,u70),
(311,u70),
(312,tF),
(314,tF),
(315,tI),
(317,tF),
(318,tP 365),
(319,tF),
(320,tF),
(321,tF),
(323,tF),
(324,tF),
(325,tF),
(326,tF),
(327,tF),
(329,tF),
(330,tF),
(332,tF),
(334,tF),
(336,tF),
(337,tF),
(338,tF),
(340,tF),
(341,tF),
(342,tF),
(343,tF),
(344,akW),
(345,akW),
(347,tF),
(348,tF),
(349,agn),
(350,akX),
(351,akX),
(353,tF),
(354,tF),
(355,tF),
(356,tF),
(357,tF),
(358,tF),
(359,⟨.array 3 71,6,48,[i0,i0,i0,i0,i0,i0],[F,F,F,F,F,F],some [eI,eI,eI,eI,eI,eI]⟩),
(360,tF),
(361,tW),
(363,tF),
(364,akY),
(365,akY),
(366,tF),
(367,⟨.array 24 5,24,24,(List.replicate 24 y0),(List.replicate 24 false),some (List.replicate 24 eY)⟩),
(368,tF),
(369,tF),
(371,tF),
(372,tF),
(373,tF),
(374,tF),
(375,tF),
(376,tF),
(377,tF),
(378,tF),
(379,tF),
(380,tF),
(381,tF),
(382,tF),
(383,tF),
(384,tF),
(385,tF),
(386,tF),
(387,tF),
(388,tF),
(389,tF),
(390,tF),
(391,tF),
(392,tF),
(393,⟨.array 256 5,256,256,(List.replicate 256 y0),(List.replicate 256 false),some (List.replicate 256 eY)⟩),
(394,akZ),
(395,akZ),
(396,⟨.array 16 395,32,32,(List.replicate 32 y0),(List.replicate 32 false),some (List.replicate 32 eY)⟩),
(397,tF),
(398,tP 5),
(399,tP 401),
(400,ak0),
(401,ak0),
(402,tF),
(403,⟨.array 20 361,20,160,(List.replicate 20 w0),(List.replicate 20 false),some (List.replicate 20 eW)⟩),
(404,⟨.array 65 5,65,65,(List.replicate 65 y0),(List.replicate 65 false),some (List.replicate 65 eY)⟩),
(405,tF),
(406,tF),
(407,ac0),
(408,ac0),
(409,ak1),
(410,ak1),
(411,tF),
(412,tF),
(413,tF),
(414,tF),
(415,tL 71),
(416,tF),
(417,tI),
(419,tF),
(420,tF),
(421,tF),
(422,tF),
(423,tF),
(424,tF),
(425,tF),
(426,tF),
(427,tF),
(428,tF),
(429,tF),
(430,tW),
(431,tF),
(432,tF),
(433,tF),
(434,tP 3),
(435,tF),
(436,⟨.array 32 5,32,32,(List.replicate 32 y0),(List.replicate 32 false),some (List.replicate 32 eY)⟩),
(437,⟨.array 64 5,64,64,(List.replicate 64 y0),(List.replicate 64 false),some (List.replicate 64 eY)⟩),
(438,tF),
(439,tF),
(440,tF),
(441,tF),
(442,tP 430),
(443,tF),
(444,tF),
(445,tF),
(446,tF),
(447,ak2),
(448,ak2),
(449,⟨.array 0 16,0,0,[],[],none⟩),
(450,ak3),
(451,ak3),
(452,tY),
(453,tY),
(454,tF),
(455,u21),
(456,u21),
(457,ak4),
(458,ak4),
(459,tF),
(461,ac1),
(462,ac1)]}
def kz:cx.Ok:=⟨by kernel_rfl,by kernel_rfl,by kernel_rfl⟩
def sF {f:FuncId}{c:Code}{args:List SV}{r:mc}(fn:Func)(h:m9 cx c (entry args) (λS=>acF cx fn S λr'=>r'=r) (λ_ _=>False) (λS=>acF cx fn S λr'=>r'=r))
  (h1:iI cx.P f=true:=by kernel_rfl)(h2:cx.P.funcs[f]? =some fn:=by kernel_rfl)(h3:fn.body=some c:=by rfl)(h4:bQ fn.ntmps c=true:=by kernel_rfl)(h5:args.length<=fn.ntmps:=by exact fM rfl):nR cx.P cx.gl f args r:=
 Qq kz h1 h2 h3 h4 h5 h
abbrev ac:=nR cx.P cx.gl
end Go.Proofs.Tryz
namespace Go.Plain
open Go.Lib
def wN (sg:Bool)(d:Nat)(s:aw):Option Int:=match fN d s with
 |some n=>if sg=true\/0<=n then some n else none
 |none=>none
def yS {d:Nat}{s:aw}{n:Int}(h:fN d s=some n):0<s.length:=by
 unfold fN at h;split at h
 grind
 ·rename_i hb
  cases s with
  |nil=>exact absurd (.inl rfl) hb
  |cons c r=>simp
def qx {d:Nat}{s:aw}{n:Int}(h:fN d s=some n):(s.getD 0 0).toNat =45↔¬0<=n:=by
 unfold fN at h;split at h
 ·cases h
 rename_i hb;split at h
 ·rename_i xF;by_cases Lv:(s.getD 0 0).toNat =45
  ·have ea:Cl s=1:=by unfold Cl;grind
   rw[ea]at h xF;unfold Cm at hb;rw[ea]at hb;rw[if_pos rfl]at h;have hn:n= -(fD 0 (s.drop 1):Int):=by grind
   refine⟨λ_=>?_,λ_=>Lv⟩
   match s,hb,xF,Lv,hn with
   | [],hb,_,Lv,_=>simp_all
   | [c],hb,_,_,_=>grind
   |c::b::r',hb,xF,_,hn=>
    have ane:b.toNat≠48:=λe=>hb (.inr (.inr ⟨e,by simp⟩));have xQ:=xF b (by simp);have fL:0<fD 0 (b::r'):=air
    grind
  ·exact ajZ
 grind
def QA {d:Nat}{s:aw}{n:Int}(h:fN d s=some n): ∀b∈s,b.toNat=45\/dq b:=by
 unfold fN at h;split at h
 grind
 split at h
 ·rename_i xF;intro b hb;by_cases Lv:(s.getD 0 0).toNat =45
  ·have ea:Cl s=1:=by unfold Cl;grind
   rw[ea]at xF
   cases s with
   |nil=>grind
   |cons c r=>
    grind
  ·exact ajZ
 grind
def iA {sg:Bool}{d:Nat}{s:aw}{n:Int}(h:wN sg d s=some n):fN d s=some n/\(sg=true\/0<=n):=by grind[wN]
def QB {d:Nat}{s:aw}{n:Int}(h:fN d s=some n):wN false d s=if(s.getD 0 0).toNat =45 then none else some n:=by
 unfold wN;rw[h];have:=qx h
 grind
def TO {sg:Bool}{d:Nat}{s:aw}(h:fN d s=none):wN sg d s=none:=by grind[wN]
def CG (d:Nat)(s:aw):wN true d s=fN d s:=by grind[wN]
def Eo {sg:Bool}{d:Nat}{s:aw}{n:Int}(h:wN sg d s=some n): ∀b∈s,b.toNat=45\/dq b:=QA (iA h).1
theorem vp (s:aw)(c:UInt8):(cut s [c]=(s,[],false)/\aH c.toNat s= [s])\/∃a b,cut s [c]=(a,b,true)/\aH c.toNat s=a::aH c.toNat b/\a.length<=s.length/\b.length<=s.length:=by
 rcases ky c s with⟨h1,h2⟩|⟨i,h1,h2,h3⟩
 ·rw[<- index_one]at h1;refine .inl ⟨?_,h2⟩;unfold cut;grind
 ·rw[<- index_one]at h2;refine .inr ⟨s.take i,s.drop (i+1),?_,h3,by grind,by simp⟩;unfold cut;grind
def Ep {α β:Type}(f:aw->Option α)(g:aw->Option β):List aw->Option (α × β)
 | [a,b]=>(f a).bind λx=>(g b).map λy=>(x,y)
 |_=>none
def Es {α β:Type}(c:UInt8)(f:aw->Option α)(g:aw->Option β)(s:aw):Option (α × β):=Ep f g (aH c.toNat s)
def vq (s:aw):Option (Int × Int):=Es 47 (wN false 4) (wN false 4) s
def BH (s:aw):Option (Int × Int × Int × Int):=(Es 32 vq vq s).map λp=>(p.1.1,p.1.2,p.2.1,p.2.2)
def Kb {c:Nat}: ∀ {s:aw} {b:UInt8},b∈s->b.toNat≠c->∃w∈aH c s,b∈w
 |x::r,b,hb,hc=>by
  unfold aH;by_cases hx:x.toNat=c
  ·rw[if_pos hx];rcases cF.1 hb with rfl|hb
   grind
   ·obtain⟨w,h1,h2⟩:=Kb hb hc
    grind
  ·rw[if_neg hx]
   cases hs:aH c r with
   |nil=>grind[ng]
   |cons w ws=>
    show ∃w'∈(x::w)::ws,b∈w';rcases cF.1 hb with rfl|hb;simp_all
    ·obtain⟨w',h1,h2⟩:=Kb hb hc
     grind
def TP {c:Nat}: ∀ {s:aw},(∀b∈s,b.toNat≠c)->aH c s= [s]
 | [],_=>rfl
 |x::r,h=>by
  unfold aH;rw[if_neg (h x (by simp)),TP λb hb=>h b bw]
def ac3 {c:Nat}{s:aw}{b:UInt8}(hb:b∈s)(hc:b.toNat=c): ∃x y r,aH c s=x::y::r:=by
 induction s with
 |nil=>grind
 |cons x s ih=>
  unfold aH;by_cases hx:x.toNat=c
  ·rw[if_pos hx]
   cases hs:aH c s with
   |nil=>grind[ng]
   |cons w ws=>grind
  grind
def yU {α β:Type}{c:UInt8}{f:aw->Option α}{g:aw->Option β}{s:aw}(h:aH c.toNat s= [s]):Es c f g s=none:=by unfold Es;rw[h];rfl
def yV {α β:Type}{c:UInt8}{f:aw->Option α}{g:aw->Option β}(hg: ∀s,(∃y∈s,y=c)->g s=none){s a b:aw}(h:aH c.toNat s=a::aH c.toNat b):
  Es c f g s=(f a).bind λx=>(g b).map λy=>(x,y):=by
 unfold Es;rw[h];by_cases hb: ∃y∈b,y=c
 ·obtain⟨y,hy,e⟩:=hb;obtain⟨p,q,r,e2⟩:=ac3 hy (aP UInt8.toNat e);rw[e2,hg b ⟨y,hy,e⟩];cases f a<;>rfl
 ·rw[TP λy hy e=>hb ⟨y,hy,HE.1 e⟩];rfl
def oM {α β:Type}{p:Option α}{q:Option β}:((p.bind λx=>q.map λy=>(x,y)).isSome =(p.isSome&&q.isSome))/\∀z,(p.bind λx=>q.map λy=>(x,y))=some z->p=some z.1/\q=some z.2:=by
 cases p<;>cases q<;>refine⟨rfl,?_⟩<;>rintro⟨z1,z2⟩ h<;>simp at h
 grind
def Kc {s:aw}{c:UInt8}(h:c=47\/c=32\/c=59)(hs: ∃y∈s,y=c):wN false 4 s=none:=by
 obtain⟨y,hy,rfl⟩:=hs
 cases hw:wN false 4 s with
 |none=>rfl
 |some n=>
  have:=Eo hw y hy;unfold dq at this;exfalso;rcases h with rfl|rfl|rfl<;>revert this<;>decide
def ak5 {s:aw}(hs: ∃y∈s,y=(32:UInt8)):vq s=none:=by
 obtain⟨y,hy,rfl⟩:=hs;obtain⟨w,hw,h2⟩:=Kb (c:=47) hy bX;unfold vq Es;rw[show(47:UInt8).toNat =47 from rfl];generalize aH 47 s=l at*
 match l,hw with
 | [],hw=>rfl
 | [a],hw=>rfl
 | [a,b],hw=>
  have hn:=Kc (s:=w) (c:=32) (.inr (.inl rfl)) ⟨32,h2,rfl⟩;simp only[cF,jN,jO]at hw;rcases hw with rfl|rfl
  ·show(wN false 4 w).bind _=none
   grind
  ·show(wN false 4 a).bind (λx=>(wN false 4 w).map λy=>(x,y))=none;simp_all
 |a::b::c::r,hw=>rfl
def fO {α:Type}(f:aw->Option α):List aw->Option (List α)
 | []=>some []
 |s::r=>match f s,fO f r with
  |some n,some t=>some (n::t)
  |_,_=>none
variable {α:Type}{f:aw->Option α}
theorem yW (a b:List aw):fO f (a++b)=match fO f a,fO f b with
  |some x,some y=>some (x++y)
  |_,_=>none:=by
 induction a with
 |nil=>show fO f b=_;cases fO f b<;>rfl
 |cons s a ih=>
  grind[fO]
theorem Et (s:aw):fO f [s]=(f s).map λn=>[n]:=by
 show(match f s,some []with|some n,some t=>some (n::t)|_,_=>none)=_;cases f s<;>rfl
theorem vr {l:List aw}{i:Nat}(h:i<l.length){xs:List α}(hx:fO f (l.take i)=some xs){n:α}(hn:f (l.getD i [])=some n):fO f (l.take (i+1))=some (xs++[n]):=by grind[xf,yW,Et]
theorem ux {l:List aw}{i:Nat}(h:i<l.length)(hn:f (l.getD i [])=none):fO f l=none:=by
 have hs:l=l.take i++([l.getD i []]++l.drop (i+1)):=by simp_all
 grind[yW,fO]
theorem yX: ∀ {l:List aw} {xs:List α},fO f l=some xs->xs.length=l.length
 | [],xs,h=>by grind[fO]
 |s::r,xs,h=>by
  unfold fO at h;split at h
  ·rename_i n t h1 h2;have:xs=n::t:=by grind
   rw[this,kH,kH,yX h2]
  grind
end Go.Plain
namespace Go.Plain
open Go.Lib
def cI:List aw->Option (Int × List Int)
 | []=>some (0,[])
 |w::r=>match wN false 7 w,fO (fN 7) r with
  |some a,some b=>some (a,b)
  |_,_=>none
def BI (w:aw)(r:List aw):cI (w::r)=(wN false 7 w).bind λa=>(fO (fN 7) r).map λb=>(a,b):=by
 show(match wN false 7 w,fO (fN 7) r with|some a,some b=>some (a,b)|_,_=>none)=_;cases wN false 7 w<;>cases fO (fN 7) r<;>rfl
def QC {ws:List aw}{st:Int}{l:List Int}(h:cI ws=some (st,l)):l.length<=ws.length:=by
 unfold cI at h
 grind[yX]
def BJ {ws:List aw}(h:0<ws.length){n:Int}(hn:wN false 7 (ws.getD 0 [])=some n):cI (ws.take 1)=some (n,[]):=by
 cases ws with
 |nil=>grind
 |cons w r=>
  have LG:wN false 7 w=some n:=hn;show cI [w]=_;rw[BI,LG];rfl
def BK {ws:List aw}{i:Nat}(h0:0<i)(h:i<ws.length){st:Int}{l:List Int}(hx:cI (ws.take i)=some (st,l)){n:Int}(hn:fN 7 (ws.getD i [])=some n):cI (ws.take (i+1))=some (st,l++[n]):=by
 cases ws with
 |nil=>grind
 |cons w r=>
  obtain⟨j,rfl⟩: ∃j,i=j+1:=⟨i -1,by omega⟩;have h':j<r.length:=by grind
  have tu:(match wN false 7 w,fO (fN 7) (r.take j)with|some a,some b=>some (a,b)|_,_=>none)=some (st,l):=hx;have LG:fN 7 (r.getD j [])=some n:=by grind
  show(match wN false 7 w,fO (fN 7) (r.take (j+1))with|some a,some b=>some (a,b)|_,_=>none)=_
  grind[vr]
def Eu {ws:List aw}{i:Nat}(h:i<ws.length)(hn:(if i=0 then wN false 7 (ws.getD i [])else fN 7 (ws.getD i []))=none):cI ws=none:=by
 cases ws with
 |nil=>grind
 |cons w r=>
  rw[BI];by_cases h0:i=0
  grind
  ·obtain⟨j,rfl⟩: ∃j,i=j+1:=⟨i -1,by omega⟩;rw[if_neg h0]at hn
   grind[ux,wN]
abbrev Nk:Type:=Int × Int × Int × Int
def eD (ws:List aw):Option (Int × Nk × List Nk):=match wN false 4 (ws.getD 0 []),fO BH (ws.drop 1)with
 |some e,some (q::ch)=>some (e,q,ch)
 |_,_=>none
def In {ws:List aw}(h:wN false 4 (ws.getD 0 [])=none):eD ws=none:=by grind[eD]
def Ev {ws:List aw}(h:fO BH (ws.drop 1)=none):eD ws=none:=by grind[eD]
def Ey {ws:List aw}(h:fO BH (ws.drop 1)=some []):eD ws=none:=by grind[eD]
def BL {ws:List aw}{e:Int}{q:Nk}{ch:List Nk}(h1:wN false 4 (ws.getD 0 [])=some e)(h2:fO BH (ws.drop 1)=some (q::ch)):eD ws=some (e,q,ch):=by grind[eD]
def Io {sg:Bool}{d:Nat}{s:aw}{n:Int}(hd:d<=18)(h:wN sg d s=some n):El n:=by
 obtain⟨_,_,_,h4⟩:=fV hd (iA h).1;exact h4
theorem Az {α β:Type}{c:UInt8}{f:aw->Option α}{g:aw->Option β}{s:aw}{z:α × β}(h:Es c f g s=some z):(∃a,f a=some z.1)/\∃b,g b=some z.2:=by
 unfold Es at h;generalize aH c.toNat s=l at*
 match l,h with
 | [a,b],h=>
  obtain⟨h1,h2⟩:=oM.2 z h
  grind
theorem ago {s:aw}{p:Int × Int}(h:vq s=some p):El p.1/\El p.2:=by
 obtain⟨⟨a,h1⟩,b,h2⟩:=Az h;exact⟨Io bX h1,Io bX h2⟩
def QD {s:aw}{q:Nk}(h:BH s=some q):El q.1/\El q.2.1/\El q.2.2.1/\El q.2.2.2:=by
 obtain⟨z,hz,rfl⟩:=m7.1 h
 grind[Az,ago]
def yY {α:Type}{f:aw->Option α}{P:α->Prop}(hP: ∀s x,f s=some x->P x): ∀ {l:List aw} {xs:List α},fO f l=some xs->∀x∈xs,P x
 | [],xs,h=>by grind[fO]
 |s::r,xs,h=>by
  unfold fO at h;split at h
  ·rename_i n t h1 h2;have:xs=n::t:=by grind
   subst this;intro x hx;rcases cF.1 hx with rfl|hx
   grind
   ·exact yY hP h2 x hx
  grind
def frS (a b:Int):aw:=itoa a++[47]++itoa b
def Kd (q:Nk):aw:=frS q.1 q.2.1++[32]++frS q.2.2.1 q.2.2.2
theorem Zy (s:aw):(trimPrefix s [45]).length <=s.length:=by grind[trimPrefix]
def q4 (q:Nk):Prop:=(0<=q.1/\q.1<=9999)/\(0<=q.2.1/\q.2.1<=9999)/\(0<=q.2.2.1/\q.2.2.1<=9999)/\0<=q.2.2.2/\q.2.2.2<=9999
abbrev aj:=List UInt8
def okc (j:Nat)(c:UInt8):Prop:=((97<=c.toNat/\c.toNat<=122)\/(65<=c.toNat/\c.toNat<=90))\/(j≠0/\(c.toNat=45\/(48<=c.toNat/\c.toNat<=57)))
def QE (s:aj)(i:Nat):Prop:=∀j<i,okc j (s.getD j 0)
def jJ (s:aj):Prop:=(1<=s.length/\s.length<=12)/\QE s s.length
instance (s:aj):Decidable (jJ s):=by unfold jJ QE okc;infer_instance
def AA {s:aj}{i:Nat}(h:QE s i)(k:okc i (s.getD i 0)):QE s (i+1):=λj hj=>by
 by_cases e:j=i
 grind
 ·exact h j K0
def QF {s:aj}{i:Nat}(h:i<s.length)(k: ¬okc i (s.getD i 0)): ¬jJ s:=λn=>k (n.2 i h)
def VJ (f:Nat->Int):Nat->Nat->Int × Int
 |0,_=>(0,0)
 |n+1,i=>if f i≠0 then((i:Int),f i)else VJ f n (i+1)
def cR (f:Nat->Int)(n:Nat):Int × Int:=VJ f n 0
def TQ {f:Nat->Int}: ∀ {n i k:Nat},i<=k->k<i+n->(∀j,i<=j->j<k->f j=0)->f k≠0->VJ f n i=((k:Int),f k)
 |0,i,k,h1,h2,_,_=>by omega
 |n+1,i,k,h1,h2,h3,h4=>by
  unfold VJ;by_cases e:i=k
  grind
  ·rw[if_neg bw];exact TQ K0 K0 (λj h5 h6=>h3 j K0 h6) h4
def TR {f:Nat->Int}: ∀ {n i:Nat},(∀j,i<=j->j<i+n->f j=0)->VJ f n i=(0,0)
 |0,_,_=>rfl
 |n+1,i,h=>by
  unfold VJ;rw[if_neg bw];exact TR λj h1 h2=>h j K0 K0
theorem fG {f:Nat->Int}{n k:Nat}(h:k<n)(h0: ∀j<k,f j=0)(h1:f k≠0):cR f n=((k:Int),f k):=TQ (dz _) K0 (λj _ hj=>h0 j hj) h1
theorem gP {f:Nat->Int}{n:Nat}(h: ∀j<n,f j=0):cR f n=(0,0):=TR λj _ hj=>h j K0
def all_succ {f:Nat->Int}{i:Nat}(h: ∀j<i,f j=0)(k:f i=0): ∀j<i+1,f j=0:=λj hj=>by grind
def uz (f:Nat->Int): ∀n:Nat,(∀j<n,f j=0)\/∃k,k<n/\(∀j<k,f j=0)/\f k≠0
 |0=>.inl λj hj=>by omega
 |n+1=>by
  rcases uz f n with h|⟨k,h1,h2,h3⟩
  grind
  grind
theorem oQ {f:Nat->Int}{n:Nat}(h:(cR f n).2=0): ∀j<n,f j=0:=by
 rcases uz f n with h'|⟨k,h1,h2,h3⟩;omega
 ·rw[fG h1 h2 h3]at h;omega
def jp (a b:Int):Int:=if a≠0 then a else b
theorem jj (b:Int):jp 0 b=b:=by grind[jp]
theorem eS {a:Int}(h:a≠0)(b:Int):jp a b=a:=if_pos h
def wE {a b:Int}:jp a b=0↔a=0/\b=0:=by
 unfold jp
 grind
def o9 (a b:Int × Int):Int × Int:=if a.2≠0 then a else b
noncomputable def jF (s:aj):Int:=if jJ s then 0 else 4
noncomputable def gQ (l:List aj)(i:Nat):Int:=jp (jF (l.getD i [])) (if l.getD i []∈l.take i then 5 else 0)
def Ez (l all:List aj)(k:Nat):Int:=if l.getD k []∈all then(if l.getD k []∈l.take k then 23 else 0)else 6
def jS (l all:List aj):Int:=(cR (Ez l all) l.length).2
structure Ts where
 name:aj
 kind:Int
 bv:List aj
 rules:aj
 lo:Int
 hi:Int
structure Pl where
 ae:List (aj × Int)
 ap:List aj
 aa:List Ts
 parts:List (aj × List aj)
 dY:Int
 eH:Int
def dl:Ts:=⟨[],0,[],[],0,0⟩
def Pl.ax (p:Pl):List aj:=p.ae.map Prod.fst
def Pl.ba (p:Pl):List aj:=p.parts.map Prod.fst
def sI (k:Int):Prop:=k=1\/k=2
instance (k:Int):Decidable (sI k):=by unfold sI;infer_instance
def cU (l:List Ts):List aj:=l.map Ts.name
def Zz (lo hi:Int):Int:=if((-1000000000000000<=lo/\lo<=1000000000000000)/\ -1000000000000000<=hi/\hi<=1000000000000000)then(if lo<=hi then 0 else 9)else 2
def QG (l:List Ts)(t:Ts):Int:=if t.kind=2 then(if t.bv.length=0 then 10 else if(l.getD (be (cU l) (t.bv.getD 0 [])).toNat dl).kind =1 then 0 else 3)else 0
def VK (re:aj->Int)(l:List Ts)(i:Nat):Int:=
 let t:=l.getD i dl
 jp (if 0<=t.kind/\t.kind<=3 then 0 else 15) (jp (jS t.bv ((cU l).take i)) (jp (QG l t) (jp (if sI t.kind then re t.rules else if t.rules= []then 0 else 7) (Zz t.lo t.hi))))
noncomputable def Pl.du (p:Pl)(i:Nat):Int:=jp (gQ p.ax i) (if 0<=(p.ae.getD i ([],0)).2/\(p.ae.getD i ([],0)).2<=3 then 0 else 15)
noncomputable def Pl.gE (re:aj->Int)(p:Pl)(i:Nat):Int:=jp (gQ (cU p.aa) i) (VK re p.aa i)
noncomputable def Pl.jd (p:Pl)(i:Nat):Int:=jp (gQ p.ba i) (jS (p.parts.getD i ([],[])).2 (cU p.aa))
def pT (n ahl:Nat):Int:=if 0<n then(if n<=ahl then 0 else 8)else 10
def kA (n ahl:Nat):Int:=if n<=ahl then 0 else 8
noncomputable def Pl.err (re:aj->Int)(p:Pl):Int × Int:=
 o9 (0,pT p.ae.length 8) (o9 (cR p.du p.ae.length) (o9 (0,pT p.ap.length 4) (o9 (cR (gQ p.ap) p.ap.length)
  (o9 (0,kA p.aa.length 8) (o9 (cR (p.gE re) p.aa.length) (o9 (0,kA p.parts.length 6) (o9 (cR p.jd p.parts.length)
   (0,if(0<=p.dY/\p.dY<=1000)/\0<=p.eH/\p.eH<=1000000000000 then 0 else 2))))))))
def Ip (voids:List aj)(out:List aj)(t:Ts):List aj:=if t.name∈voids\/∃n∈t.bv,n∈out then out++[t.name]else out
def jk (l:List Ts)(voids:List aj):List aj:=l.foldl (Ip voids) []
def BM {l:List Ts}{voids:List aj}{i:Nat}(h:i<l.length):jk (l.take (i+1)) voids=Ip voids (jk (l.take i) voids) (l.getD i dl):=by grind[jk,List.take_add_one]
def rM (l:List Ts)(voids:List aj):(jk l voids).length <=l.length:=by
 have: ∀(l:List Ts) (out:List aj),(l.foldl (Ip voids) out).length <=out.length+l.length:=by
  intro l
  induction l with
  |nil=>grind
  |cons t l ih=>
   grind[Ip]
 have h:=this l [];simp only[Ai,j9]at h;exact h
def getD_at {α:Type}{l:List α}{i:Nat}{d:α}(h:i<l.length):l.getD i d=l[i]:=by grind
def iN {l:List aj}{i:Nat}{x:aj}(h:i<l.length):x∈l.take (i+1)↔x∈l.take i\/x=l.getD i []:=by grind[List.take_add_one]
def rN {l:List Ts}{i:Nat}(h:i<l.length):(cU l).getD i []=(l.getD i dl).name :=by grind[cU]
def ZA (l:List Ts)(i:Nat):cU (l.take i)=(cU l).take i:=by simp[cU,HG]
end Go.Plain
namespace Go.Proofs.Tryz
open Go.Fw Go.IntWalk
abbrev I (n:Int):SV:=(false,[.lit (.int .i64 n)])
abbrev Bo (b:Bool):SV:=(false,[.lit (.bool b)])
abbrev vI (n:Int):Option DV:=some (.val (false,[.st (.lit (.int .i64 n))]))
abbrev J (n:Int):SC:=.lit (.int .i64 n)
abbrev F2 (a b:Int):SV:=(true,[J a,J b])
def VL {l:List Int}{i:Nat}(h:i<l.length):(SC.ints l).elem (i:Int).toNat =some [J l[i]]:=by simp[SC.elem,h]
def wG {a b:Int}(h:a=b):mc.one (I a)= .one (I b):=by rw[h]
def oR {a b:Bool}(h:a=b):mc.one (Bo a)= .one (Bo b):=by rw[h]
def ZB {a b c d:Int}(h:a=c)(h':b=d):mc.one (F2 a b)= .one (F2 c d):=by rw[h,h']
def TS (n:Int):Prop:= -9223372036854775807<=n/\n<=9223372036854775807
def qd (n:Int):Prop:= -9223372036854775808<=n/\n<=9223372036854775807
def TS.i {n:Int}(h:TS n):qd n:=⟨by have:=h.1;omega,h.2⟩
def TS.ne {n:Int}(h:TS n):n≠ -9223372036854775808:=by have:=h.1;omega
def eo (n lo hi:Int):ac 53 [I n,I lo,I hi] (.one (Bo (decide (lo<=n)&&decide (n<=hi)))):=by
 refine sF f53 ?_;repeat(first|refine oP rfl ?_|(refine rG (λ_ h=>h) ?_;conv=>whnf)|(refine oN ?_;conv=>whnf)|refine aS ?_|(refine aR ?_;conv=>whnf))
 refine JL rfl rfl rfl (λh=>?_) (λh=>?_)<;>(try conv=>whnf)<;>(repeat(first|refine oP rfl ?_|(refine rG (λ_ h=>h) ?_;conv=>whnf)|(refine oN ?_;conv=>whnf)|(refine aT ?_;conv=>whnf)|refine oY rfl rfl rfl ?_|(refine oZ rfl rfl rfl ?_;conv=>whnf)))
 ·simp[h,Bo]
 ·simp[h,Bo]
def ZD (n:Int)(h0: -9223372036854775807<=n)(h1:n<=9223372036854775807):ac 335 [I n] (.one (I n.natAbs)):=by
 refine sF f335 ?_;repeat(first|refine oP rfl ?_|(refine rG (λ_ h=>h) ?_;conv=>whnf)|(refine oN ?_;conv=>whnf)|refine aS ?_|(refine aR ?_;conv=>whnf)|(refine aT ?_;conv=>whnf))
 have e:IntKind.i64.wrap (0 -n)= -n:=by rw[i64_in _ K0];omega
 show mc.one (false,[SC.lit (Value.int .i64 (if IntKind.i64.wrap (0 -n)>n then IntKind.i64.wrap (0 -n)else n))])=_;rw[e];have:(if -n>n then -n else n)=n.natAbs:=by split<;>omega
 rw[this]
def Ke (a b:Int)(ha:qd a)(hb:TS b)(R3:a= -9223372036854775808->b≠0):ac 298 [I a,I b] (.one (I (Int.gcd a b))):=by
 refine sF f298 ?_;repeat(first|refine oP rfl ?_|(refine rG (λ_ h=>h) ?_;conv=>whnf)|(refine oN ?_;conv=>whnf)|refine aS ?_|(refine aR ?_;conv=>whnf)|refine aB ?_|refine aL ?_)
 refine af (ι:=Int × Int) (λp=>Int.gcd p.1 p.2=Int.gcd a b/\qd p.1/\TS p.2/\(p.1= -9223372036854775808->p.2≠0)) (λp=>p.2.natAbs) (λp=>⟨[(0,vI p.1),(1,vI p.2)],[],0⟩) (a,b)
  (fA (ks:=[0,1]) (m:=[]) (n:=0) rfl) ⟨rfl,ha,hb,R3⟩ ?_
 rintro⟨x,y⟩ ⟨hg,hx,hy,hxy⟩;simp only at hg hx hy hxy;repeat(first|refine oP rfl ?_|(refine rG (λ_ h=>h) ?_;conv=>whnf)|(refine oN ?_;conv=>whnf)|refine aS ?_|(refine aR ?_;conv=>whnf)|refine aC rfl ?_)
 (refine oF (λh=>?_) (λh=>?_))<;>(try conv=>whnf)<;>(repeat(first|refine oP rfl ?_|(refine rG (λ_ h=>h) ?_;conv=>whnf)|refine aS ?_|(refine aR ?_;conv=>whnf)|(refine aK ?_;conv=>whnf)|(refine aX ?_;conv=>whnf)|refine aB ?_))
 ·have h:(y != 0)=true:=h;have gk:y≠0:=by simpa using h
  refine rG (λ_ h=>⟨gk,h⟩) ?_;(conv=>whnf);repeat(first|refine oP rfl ?_|(refine rG (λ_ h=>h) ?_;conv=>whnf)|(refine oN ?_;conv=>whnf)|(refine dI dy ?_;conv=>whnf))
  have hy1:=hy.1;have hy2:=hy.2;refine⟨(y,x.tmod y),⟨?_,⟨by simp only;omega,hy2⟩,?_,λe=>absurd e afY⟩,?_,fA (ks:=[0,1]) (m:=[]) (n:=0) rfl⟩
  ·exact K55
  ·have h1:(x.tmod y).natAbs =x.natAbs%y.natAbs:=HD _ _;have h2:x.natAbs%y.natAbs<y.natAbs:=tQ _ K0;exact ai1
  ·show(x.tmod y).natAbs <y.natAbs;rw[HD];exact tQ _ K0
 ·have h:(y != 0)=false:=h;have h0:y=0:=by simpa using h
  subst h0;have Hu:=hx.1;have hx2:=hx.2;have hx3:x≠ -9223372036854775808:=λe=>hxy e rfl;refine rG (λ_ h=>⟨_,ZD x K0 hx2,h⟩) ?_;(conv=>whnf);repeat(first|refine oP rfl ?_|(refine rG (λ_ h=>h) ?_;conv=>whnf)|(refine oN ?_;conv=>whnf)|(refine aT ?_;conv=>whnf))
  exact wG (by rw[<- hg];simp)
end Go.Proofs.Tryz
namespace Go.Plain
open Go.Lib
structure Rs where
 test:aj
 ans:Int
 entry:Int
 void:Bool
structure Gs where
 h:Int
 m:Int
 e:Int
 y:Int
 a:Int
structure Win where
 k1:Int
 t1:Int
 s1:Int
 r1:Bool
 k2:Int
 t2:Int
 s2:Int
 r2:Bool
 st:Int
def wi0:Win:=⟨0,0,0,false,0,0,0,false,0⟩
structure Un where
 name:aj
 win:Win
 lots:List aj
 res:List Rs
 failed:Bool
 rel:Bool
 shaken:Bool
 used:Int
 gas:List Gs
def pA:Un:=⟨[],wi0,[],[],false,false,false,0,[]⟩
structure bV where
 volt:Bool
 earth:Bool
 opens:List aj
 hall:aj
 lots:List aj
 units:List Un
structure En where
 t:Int
 lz:aj
 text:aj
def fQ:bV:=⟨false,true,[],[],[],[]⟩
def st0:bV:=⟨false,false,[],[],[],[]⟩
def sY (t:aj)(r:Rs):Bool:=(r.test==t)&& !r.void
def iO (l:List Rs)(t:aj):Option Rs:=l.reverse.find? (sY t)
def AC:Rs:=⟨[],0,0,false⟩
def bK (l:List Rs)(t:aj):Bool:=match iO l t with
 |some r=>r.ans==2
 |none=>false
def uA (p:Pl)(l:List Rs):List aj:=(cU p.aa).filter λt=> !bK l t
def iV (l:List Rs)(t:Ts):Bool:=t.bv.all λn=>bK l n
def jK (s:bV):List aj:=s.units.map Un.name
def iB (s:bV)(n:aj):Int:=be (jK s) n
def TT (s:bV)(lot:aj):List aj:=(s.units.filter λu=>decide (lot∈u.lots)).map Un.name
structure to where
 pu:aj->Win × Int
 ev:List En->Un->Ts->aj->Int × Int
structure Vb where
 role:Int
 words:Nat
 sR:Nat
 rest:Bool
def jL:List (aj × Vb):=[
 ([110,111,116,101],⟨0,0,0,true⟩),
 ([108,111,116],⟨1,1,0,false⟩),
 ([117,110,105,116],⟨1,1,0,true⟩),
 ([117,115,101],⟨1,2,0,false⟩),
 ([111,112,101,110],⟨2,1,0,false⟩),
 ([115,104,117,116],⟨2,1,0,false⟩),
 ([101,97,114,116,104],⟨2,0,0,false⟩),
 ([108,105,102,116],⟨2,0,0,false⟩),
 ([118,111,108,116,97,103,101],⟨2,0,0,false⟩),
 ([111,102,102],⟨2,0,0,false⟩),
 ([101,110,116,101,114],⟨1,1,0,false⟩),
 ([108,101,97,118,101],⟨1,1,0,false⟩),
 ([116,101,115,116],⟨2,2,0,true⟩),
 ([114,101,112,97,105,114],⟨1,2,0,false⟩),
 ([114,101,108,101,97,115,101],⟨3,1,0,false⟩),
 ([115,104,111,99,107],⟨1,2,1,false⟩),
 ([105,110,115,112,101,99,116],⟨2,1,0,false⟩),
 ([108,111,97,100],⟨1,3,2,false⟩),
 ([103,97,115],⟨1,6,5,false⟩)]
def lB (w:aj):Nat:=(jL.map Prod.fst).idxOf w
def vb (k:Nat):Vb:=(jL.getD k ([],⟨0,0,0,false⟩)).2
def ZE (g:Gs):Prop:=((0<=g.h/\g.h<=1000000)/\(0<=g.m/\g.m<=1000000))/\(0<=g.e/\g.e<=1000000)/\(0<=g.y/\g.y<=1000000)/\0<=g.a/\g.a<=1000000
instance (g:Gs):Decidable (ZE g):=by unfold ZE;infer_instance
def ZF (d t:Int):Prop:=(0<=d/\d<=200)/\0<=t/\t<=100000
instance (d t:Int):Decidable (ZF d t):=by unfold ZF;infer_instance
def ZG (d t:Int):Int:=if ZF d t then(if d<80 then 0 else 2^((d -80)/6).toNat *t)else 0
def aQ (E:to)(p:Pl)(log:List En)(s:bV)(u:Un)(k:Nat)(a:List aj)(n:List Int)(rest:aj):Un × Int:=
 match k with
 |3=>if a.getD 1 []∈s.lots then(if u.rel then(u,20)else if a.getD 1 []∈u.lots then(u,23)else({u with lots:=u.lots++[a.getD 1 []]},0))else(u,6)
 |10=>if u.rel then(u,20)else if s.hall= []then(if s.opens= []then(u,24)else(u,0))else(u,17)
 |11=>if s.hall=u.name then(if s.opens= []then(u,24)else(u,0))else(u,20)
 |12=>if 0<=be (cU p.aa) (a.getD 1 [])then
   (let t:=p.aa.getD (be (cU p.aa) (a.getD 1 [])).toNat dl
    if s.hall=u.name/\u.failed=false then(if bK u.res t.name then(u,23)else if iV u.res t=false then(u,14)else if decide (t.kind=0)=s.volt then(u,24)else
     if(E.ev log u t rest).2=0 then({u with res:=u.res++[⟨t.name,(E.ev log u t rest).1,log.length,false⟩],failed:=decide ((E.ev log u t rest).1=0)},0)else(u,(E.ev log u t rest).2))else(u,20))
   else(u,6)
 |13=>if 0<=be p.ba (a.getD 1 [])then(if u.rel then(u,20)else if s.hall=u.name/\s.opens= []then(u,24)else
   ({u with res:=u.res.map λr=>{r with void:=r.void || decide (r.test∈jk p.aa (p.parts.getD (be p.ba (a.getD 1 [])).toNat ([],[])).2)},failed:=false},0))else(u,6)
 |14=>if u.rel then(u,20)else if s.hall=u.name then(u,17)else if uA p u.res= []then({u with rel:=true},0)else(u,14)
 |15=>if u.rel then(if n.getD 0 0<=1000 then({u with shaken:=u.shaken || decide (n.getD 0 0>p.dY)},0)else(u,2))else(u,20)
 |16=>if u.shaken then({u with shaken:=false},0)else(u,20)
 |17=>if u.rel then(if u.shaken then(u,24)else if ZF (n.getD 0 0) (n.getD 1 0)then(if u.used+ZG (n.getD 0 0) (n.getD 1 0)<=p.eH then({u with used:=u.used+ZG (n.getD 0 0) (n.getD 1 0)},0)else(u,22))else(u,2))else(u,20)
 |18=>if u.rel then(let g:Gs:=⟨n.getD 0 0,n.getD 1 0,n.getD 2 0,n.getD 3 0,n.getD 4 0⟩;if ZE g then(if u.gas.length<10 then({u with gas:=u.gas++[g]},0)else(u,16))else(u,2))else(u,20)
 |_=>(u,0)
noncomputable def bm (E:to)(p:Pl)(log:List En)(s:bV)(k:Nat)(a:List aj)(n:List Int)(rest:aj):bV × Int:=
 match k with
 |0=>(s,0)
 |1=>if jJ (a.getD 0 [])then(if a.getD 0 []∈s.lots then(s,5)else if s.lots.length<12 then({s with lots:=s.lots++[a.getD 0 []]},0)else(s,16))else(s,4)
 |2=>if jJ (a.getD 0 [])then(if a.getD 0 []∈jK s then(s,5)else if s.units.length<6 then(if(E.pu rest).2=0 then({s with units:=s.units++[{pA with name:=a.getD 0 [],win:=(E.pu rest).1}]},0)else(s,(E.pu rest).2))else(s,16))else(s,4)
 |4=>if a.getD 0 []∈p.ap then(if a.getD 0 []∈s.opens then(s,20)else if s.volt=false/\s.earth=true then({s with opens:=s.opens++[a.getD 0 []]},0)else(s,24))else(s,6)
 |5=>if a.getD 0 []∈p.ap then(if a.getD 0 []∈s.opens then({s with opens:=s.opens.erase (a.getD 0 [])},0)else(s,20))else(s,6)
 |6=>if s.earth then(s,20)else if s.volt then(s,24)else({s with earth:=true},0)
 |7=>if s.earth then(if s.opens= []then({s with earth:=false},0)else(s,24))else(s,20)
 |8=>if s.volt then(s,20)else if s.opens= []/\s.earth=false then({s with volt:=true},0)else(s,24)
 |9=>if s.volt then({s with volt:=false},0)else(s,20)
 |_=>if 0<=iB s (a.getD 0 [])then
   (let i:=(iB s (a.getD 0 [])).toNat
    let r:=aQ E p log s (s.units.getD i pA) k a n rest
    ({s with units:=s.units.set i r.1,hall:=if r.2=0 then(if k=10 then(s.units.getD i pA).name else if k=11 then []else s.hall)else s.hall},r.2))
   else(s,6)
def jT:List aj->Option (List Int)
 | []=>some []
 |s::r=>match wN false 7 s,jT r with
  |some n,some t=>some (n::t)
  |_,_=>none
def ci:Nat->aj->aj
 |0,s=>s
 |n+1,s=>ci n (s.drop ((aH 32 s).getD 0 []).length.succ)
def fT (v:Vb)(text:aj):Option (List aj × List Int × aj):=
 let ws:=aH 32 text
 if(v.rest=true/\ws.length<v.words+2)\/(v.rest=false/\ws.length≠v.words+1)\/[]∈ws.take (v.words+1)then none
 else(jT ((ws.take (v.words+1)).drop (v.words+1 -v.sR))).map λn=>((ws.take (v.words+1)).drop 1,n,if v.rest then ci (v.words+1) text else [])
def aU (s:aj):Prop:=∀j<s.length,32<=(s.getD j 0).toNat /\(s.getD j 0).toNat <=126
instance (s:aj):Decidable (aU s):=by unfold aU;infer_instance
def im (l:List En):Int:=match l.getLast? with
 |some e=>e.t
 |none=>0
noncomputable def lJ (E:to)(p:Pl)(log:List En)(s:bV)(e:En):bV × Int:=
 if be p.ax e.lz<0 then(s,6)else
 if ¬(0<=e.t/\e.t<=1000000000000)then(s,2)else
 if e.t<im log then(s,9)else
 if 400<e.text.length then(s,8)else
 if ¬aU e.text then(s,3)else
 if 19<=lB ((aH 32 e.text).getD 0 [])then(s,7)else
 if(p.ae.getD (be p.ax e.lz).toNat ([],0)).2< (vb (lB ((aH 32 e.text).getD 0 []))).role then(s,18)else
 match fT (vb (lB ((aH 32 e.text).getD 0 []))) e.text with
 |none=>(s,7)
 |some (a,n,rest)=>bm E p log s (lB ((aH 32 e.text).getD 0 [])) a n rest
end Go.Plain
namespace Go.Proofs.Tryz
open Go.Fw Go.IntWalk
set_option maxRecDepth 100000
set_option maxHeartbeats 4000000
abbrev vL (l:List Int):Option DV:=some (.val (false,[.st (.ints l)]))
def Ki {n g:Int}(hn:TS n)(_:0<g)(hd:g∣n):IntKind.i64.wrap (n.tdiv g)=n/g:=by
 rw[Int.tdiv_eq_ediv_of_dvd hd];have h1:=hn.1;have h2:=hn.2;have:=XN n g;exact i64_in _ K0
def QM (n d:Int)(hn:TS n)(hd:0<d/\d<=9223372036854775807):ac 358 [I n,I d] (.one (F2 (n/Int.gcd n d) (d/Int.gcd n d))):=by
 have hg:(0:Int)<Int.gcd n d:=aje;refine sF f358 ?_;repeat(first|refine oP rfl ?_|(refine rG (λ_ h=>h) ?_;conv=>whnf)|(refine oN ?_;conv=>whnf)|refine aS ?_|(refine aR ?_;conv=>whnf))
 refine rG (λ_ h=>⟨_,Ke n d hn.i ⟨by omega,by omega⟩ (λe=>absurd e hn.ne),h⟩) ?_;(conv=>whnf);repeat(first|refine oP rfl ?_|(refine rG (λ_ h=>h) ?_;conv=>whnf)|(refine oN ?_;conv=>whnf)|refine aS ?_|(refine aR ?_;conv=>whnf)|refine aC rfl ?_)
 (refine oF (λh=>?_) (λh=>?_))<;>(try conv=>whnf)<;>(repeat(first|refine oP rfl ?_|(refine rG (λ_ h=>h) ?_;conv=>whnf)|(refine oN ?_;conv=>whnf)|refine aS ?_|(refine aR ?_;conv=>whnf)|(refine aK ?_;conv=>whnf)))
 ·have h:decide (d<0)=true:=h;simp at h;omega
 ·refine rG (λ_ h=>⟨Tc hg,h⟩) ?_;(conv=>whnf);repeat(first|refine oP rfl ?_|(refine rG (λ_ h=>h) ?_;conv=>whnf))
  refine rG (λ_ h=>⟨Tc hg,h⟩) ?_;(conv=>whnf);repeat(first|refine oP rfl ?_|(refine rG (λ_ h=>h) ?_;conv=>whnf)|(refine oN ?_;conv=>whnf)|(refine aT ?_;conv=>whnf)|(refine dI dy ?_;conv=>whnf))
  exact aiA
def nI (n d:Int)(hn:qd n)(hd:qd d):ac 252 [F2 n d] (.one (Bo (decide (0<d/\Int.gcd n d=1)))):=by
 refine sF f252 ?_;repeat(first|refine oP rfl ?_|(refine rG (λ_ h=>h) ?_;conv=>whnf)|(refine oN ?_;conv=>whnf)|refine aS ?_|(refine aR ?_;conv=>whnf))
 (refine JL rfl rfl rfl (λh=>?_) (λh=>?_))<;>(try conv=>whnf)<;>(repeat(first|refine oP rfl ?_|(refine rG (λ_ h=>h) ?_;conv=>whnf)|(refine oN ?_;conv=>whnf)|(refine aT ?_;conv=>whnf)|refine oY rfl rfl rfl ?_|(refine oZ rfl rfl rfl ?_;conv=>whnf)))
 ·have h:decide (d>0)=true:=h;simp at h;have:=hd.2;refine rG (λ_ h=>⟨_,Ke n d hn ⟨by omega,by omega⟩ (λ_=>by omega),h⟩) ?_;(conv=>whnf);repeat(first|refine oP rfl ?_|(refine rG (λ_ h=>h) ?_;conv=>whnf)|(refine oN ?_;conv=>whnf)|(refine aT ?_;conv=>whnf)|refine oY rfl rfl rfl ?_)
  exact oR (by rw[vY];simp[h];omega)
 ·have h:decide (d>0)=false:=h;simp at h;exact oR wY
abbrev F4 (a b c d:Int):SV:=(true,[J a,J b,J c,J d])
end Go.Proofs.Tryz
namespace Go.Fw
open Go.IntWalk
end Go.Fw
namespace Go.Proofs.Tryz
open Go.Fw Go.IntWalk
set_option maxRecDepth 100000
set_option maxHeartbeats 4000000
end Go.Proofs.Tryz
namespace Go.Plain
theorem AD {α:Type}{l:List α}{i:Nat}{d:α}(h:i<l.length):l.take (i+1)=l.take i++[l.getD i d]:=by simp_all
def qD {α:Type}{l:List α}{i:Nat}{d:α}(h:i<l.length):l.getD i d∈l:=by grind
theorem od {α:Type}{l:List α}{i:Nat}{d:α}(h:i<l.length):l.drop i=l.getD i d::l.drop (i+1):=by simp_all
def wH {α:Type}{n:Nat}{f:Nat->α}:(List.range (n+1)).map f=(List.range n).map f++[f n]:=by simp[List.range_succ]
def ak8 (l:List Int)(k:Nat):Int:=(l.take k).sum
def rs (a b:List Int)(k:Nat):Int:=ak8 a k+ak8 b k
def i6 (l:List Int)(lo hi:Int):Prop:=∀n∈l,lo<=n/\n<=hi
instance (l:List Int)(lo hi:Int):Decidable (i6 l lo hi):=inferInstanceAs (Decidable (∀n∈l,lo<=n/\n<=hi))
def Iu (a b:List Int):Int:=
 if 0<a.length/\a.length=b.length then if a.length<=15 then if i6 a (-100) 100 then if i6 b (-100) 100 then if a.sum+b.sum=0 then 0 else 13 else 2 else 2 else 8 else 10
structure VW (a b:List Int):Prop where
 len:b.length=a.length
 pos:0<a.length
 le:a.length<=15
 ra: ∀n∈a,-100<=n/\n<=100
 rb: ∀n∈b,-100<=n/\n<=100
 sum:a.sum+b.sum=0
def EB {a b:List Int}:Iu a b=0↔VW a b:=by
 unfold Iu;constructor
 ·intro h
  (repeat' split at h)<;>first|omega|skip
  rename_i h1 h2 h3 h4 h5;exact⟨by omega,by omega,by omega,h3,h4,by omega⟩
 ·intro h;have:=h.len;have:=h.pos;have:=h.le;rw[if_pos K0,if_pos K0,if_pos (show i6 a (-100) 100 from h.ra),if_pos (show i6 b (-100) 100 from h.rb),if_pos h.sum]
instance (a b:List Int):Decidable (VW a b):=decidable_of_iff _ EB
def mx (a b:Int):Int:=if b>a then b else a
end Go.Plain
namespace Go.Proofs.Tryz
open Go.Fw Go.IntWalk
set_option maxRecDepth 100000
set_option maxHeartbeats 4000000
def y8 (a b:Int)(ha:qd a)(hb:TS b)(R3:a= -9223372036854775808->b≠0):ac 249 [I a,I b] (.one (I (Int.gcd a b))):=by
 refine sF f249 ?_;repeat(first|refine oP rfl ?_|(refine rG (λ_ h=>h) ?_;conv=>whnf)|(refine oN ?_;conv=>whnf)|refine aS ?_|(refine aR ?_;conv=>whnf)|refine aB ?_|refine aL ?_)
 refine af (ι:=Int × Int) (λp=>Int.gcd p.1 p.2=Int.gcd a b/\qd p.1/\TS p.2/\(p.1= -9223372036854775808->p.2≠0)) (λp=>p.2.natAbs) (λp=>⟨[(0,vI p.1),(1,vI p.2)],[],0⟩) (a,b)
  (fA (ks:=[0,1]) (m:=[]) (n:=0) rfl) ⟨rfl,ha,hb,R3⟩ ?_
 rintro⟨x,y⟩ ⟨hg,hx,hy,hxy⟩;simp only at hg hx hy hxy;repeat(first|refine oP rfl ?_|(refine rG (λ_ h=>h) ?_;conv=>whnf)|(refine oN ?_;conv=>whnf)|refine aS ?_|(refine aR ?_;conv=>whnf)|refine aC rfl ?_)
 (refine oF (λh=>?_) (λh=>?_))<;>(try conv=>whnf)<;>(repeat(first|refine oP rfl ?_|(refine rG (λ_ h=>h) ?_;conv=>whnf)|(refine oN ?_;conv=>whnf)|refine aS ?_|(refine aR ?_;conv=>whnf)|(refine aK ?_;conv=>whnf)|(refine aX ?_;conv=>whnf)|refine aB ?_|(refine aT ?_;conv=>whnf)))
 ·have h:(y != 0)=true:=h;have gk:y≠0:=by simpa using h
  refine rG (λ_ h=>⟨gk,h⟩) ?_;(conv=>whnf);repeat(first|refine oP rfl ?_|(refine rG (λ_ h=>h) ?_;conv=>whnf)|(refine oN ?_;conv=>whnf)|(refine dI dy ?_;conv=>whnf))
  have hy1:=hy.1;have hy2:=hy.2;refine⟨(y,x.tmod y),⟨?_,⟨by simp only;omega,hy2⟩,?_,λe=>absurd e afY⟩,?_,fA (ks:=[0,1]) (m:=[]) (n:=0) rfl⟩
  ·exact K55
  ·have h1:(x.tmod y).natAbs =x.natAbs%y.natAbs:=HD _ _;have h2:x.natAbs%y.natAbs<y.natAbs:=tQ _ K0;exact ai1
  ·show(x.tmod y).natAbs <y.natAbs;rw[HD];exact tQ _ K0
 ·have h:(y != 0)=false:=h;have h0:y=0:=by simpa using h
  subst h0;have Hu:=hx.1;have hx2:=hx.2;have hx3:x≠ -9223372036854775808:=λe=>hxy e rfl;have e:IntKind.i64.wrap (0 -x)= -x:=by rw[i64_in _ K0];omega
  show mc.one (I (if IntKind.i64.wrap (0 -x)>x then IntKind.i64.wrap (0 -x)else x))=mc.one (I (Int.gcd a b));refine wG ?_;rw[<- hg,e];have:(if -x>x then -x else x)=x.natAbs:=by split<;>omega
  rw[this];simp
def mJ (b:Bool)(e:Int):ac 199 [Bo b,I e] (.one (I (if b then 0 else e))):=by
 refine sF f199 ?_;repeat(first|refine oP rfl ?_|(refine rG (λ_ h=>h) ?_;conv=>whnf)|(refine oN ?_;conv=>whnf)|refine aS ?_|(refine aR ?_;conv=>whnf)|refine aC rfl ?_)
 (refine oF (λh=>?_) (λh=>?_))<;>(try conv=>whnf)<;>(repeat(first|refine oP rfl ?_|(refine rG (λ_ h=>h) ?_;conv=>whnf)|(refine oN ?_;conv=>whnf)|refine aS ?_|(refine aR ?_;conv=>whnf)|(refine aK ?_;conv=>whnf)|(refine aT ?_;conv=>whnf)))
 ·exact wG U8
 ·exact wG U8
def QO (l:List Int)(hl:l.length<=1000000):ac 198 [(false,[.ints l])] (.one (I ((l.find? (· ≠0)).getD 0))):=by
 refine sF f198 ?_;repeat(first|refine oP rfl ?_|(refine rG (λ_ h=>h) ?_;conv=>whnf)|(refine oN ?_;conv=>whnf)|refine aS ?_|(refine aR ?_;conv=>whnf)|refine aB ?_|refine aL ?_)
 refine af (ι:=Nat) (λi=>i<=l.length/\l.find? (· ≠0)=(l.drop i).find? (· ≠0)) (λi=>l.length -i) (λi=>⟨[(5,vL l),(6,vI l.length),(7,vI i)],[],0⟩) 0
  (fA (ks:=[5,6,7]) (m:=[]) (n:=0) rfl) ⟨dz _,rfl⟩ ?_
 rintro i ⟨hi,hf⟩;repeat(first|refine oP rfl ?_|(refine rG (λ_ h=>h) ?_;conv=>whnf)|(refine oN ?_;conv=>whnf)|refine aS ?_|(refine aR ?_;conv=>whnf)|refine aC rfl ?_)
 (refine oF (λh=>?_) (λh=>?_))<;>(try conv=>whnf)<;>(repeat(first|refine oP rfl ?_|(refine rG (λ_ h=>h) ?_;conv=>whnf)|(refine oN ?_;conv=>whnf)|refine aS ?_|(refine aR ?_;conv=>whnf)|(refine aK ?_;conv=>whnf)|(refine aX ?_;conv=>whnf)|refine aB ?_|(refine aT ?_;conv=>whnf)))
 ·have al:i<l.length:=by simpa using h
  have hd:l.drop i=l[i]::l.drop (i+1):=XM al;refine rG (λ_ h=>⟨Int.natCast_nonneg i,[J l[i]],VL al,rfl,h⟩) ?_;(conv=>whnf);repeat(first|refine oP rfl ?_|(refine rG (λ_ h=>h) ?_;conv=>whnf)|(refine oN ?_;conv=>whnf)|refine aS ?_|(refine aR ?_;conv=>whnf)|refine aC rfl ?_)
  (refine oF (λh=>?_) (λh=>?_))<;>(try conv=>whnf)<;>(repeat(first|refine oP rfl ?_|(refine rG (λ_ h=>h) ?_;conv=>whnf)|(refine oN ?_;conv=>whnf)|refine aS ?_|(refine aR ?_;conv=>whnf)|(refine aK ?_;conv=>whnf)|(refine aT ?_;conv=>whnf)))
  ·have h:(l[i] != 0)=true:=h;exact wG (by simp at h;rw[hf,hd,List.find?_cons_of_pos U6];rfl)
  ·have h:(l[i] != 0)=false:=h;refine⟨i+1,⟨al,?_⟩,by omega,fA (ks:=[5,6,7]) (m:=[]) (n:=0) ?_⟩
   ·rw[hf,hd];simp at h;simp[h]
   ·have e:IntKind.i64.wrap (i+1)=((i+1:Nat):Int):=by rw[i64_in _ K0];simp
    rw[<- e];rfl
 ·have h:decide ((i:Int)<l.length)=false:=h;have:i=l.length:=by simp at h;omega
  subst this;exact wG (by rw[hf];simp)
def BN (n d:Int)(hn:TS n)(hd:0<d/\d<=9223372036854775807):ac 327 [I n,I d] (.one (F2 (n/Int.gcd n d) (d/Int.gcd n d))):=by
 have hg:(0:Int)<Int.gcd n d:=aje;refine sF f327 ?_;repeat(first|refine oP rfl ?_|(refine rG (λ_ h=>h) ?_;conv=>whnf)|(refine oN ?_;conv=>whnf)|refine aS ?_|(refine aR ?_;conv=>whnf))
 refine rG (λ_ h=>⟨_,y8 n d hn.i ⟨by omega,by omega⟩ (λe=>absurd e hn.ne),h⟩) ?_;(conv=>whnf);repeat(first|refine oP rfl ?_|(refine rG (λ_ h=>h) ?_;conv=>whnf)|(refine oN ?_;conv=>whnf)|refine aS ?_|(refine aR ?_;conv=>whnf))
 refine rG (λ_ h=>⟨Tc hg,h⟩) ?_;(conv=>whnf);repeat(first|refine oP rfl ?_|(refine rG (λ_ h=>h) ?_;conv=>whnf))
 refine rG (λ_ h=>⟨Tc hg,h⟩) ?_;(conv=>whnf);repeat(first|refine oP rfl ?_|(refine rG (λ_ h=>h) ?_;conv=>whnf)|(refine oN ?_;conv=>whnf)|(refine aT ?_;conv=>whnf)|(refine dI dy ?_;conv=>whnf))
 exact aiA
end Go.Proofs.Tryz
namespace Go.Plain
def ZN {l:List Int}{lo hi:Int}(h: ∀j<l.length,lo<=l.getD j 0/\l.getD j 0<=hi):i6 l lo hi:=by
 intro n hn;obtain⟨j,hj,rfl⟩:=Jl.1 hn
 grind
def VS {l:List Int}{lo hi:Int}{j:Nat}(hj:j<l.length)(h: ¬(lo<=l.getD j 0/\l.getD j 0<=hi)): ¬i6 l lo hi:=λha=>h (ha _ (qD hj))
def Bal (a b:List Int)(n:Nat):Prop:=∀j<n,a.getD j 0= -b.getD j 0
instance (a b:List Int)(n:Nat):Decidable (Bal a b n):=inferInstanceAs (Decidable (∀j<n,a.getD j 0= -b.getD j 0))
def fu (n d:Int):Int:=n/Int.gcd n d
def eE (n d:Int):Int:=d/Int.gcd n d
def Nr {n d:Int}(hd:0<d):(0:Int)<Int.gcd n d:=by grind[Int.gcd_pos_of_ne_zero_right]
def QP (n d:Int):n=Int.gcd n d*fu n d:=by grind[fu,Int.mul_ediv_cancel',Int.gcd_dvd_left]
def QQ (n d:Int):d=Int.gcd n d*eE n d:=by grind[eE,Int.mul_ediv_cancel',Int.gcd_dvd_right]
def xj {n d:Int}(hd:0<d):0<eE n d:=by
 have h1:=Nr (n:=n) hd;have h2:=QQ n d;rcases Int.lt_or_le 0 (eE n d)with h|h;omega
 ·have:=De (Int.le_of_lt h1) (show 0<= -eE n d by omega)
  grind
def GW {n d:Int}(hn:0<=n):0<=fu n d:=Mc hn K0
def ags {n d:Int}(hn:0<=n)(hd:0<d):fu n d<=n/\eE n d<=d:=by
 unfold fu eE;have h1:=XN n (Int.gcd n d);have h2:=XN d (Int.gcd n d);omega
def QR (p q r s:Int):Int:=if p*s<r*q then -1 else if p*s>r*q then 1 else 0
def EC (a:Int){b:Int}(_hb:0<b):(a.tdiv b).natAbs <=a.natAbs:=by
 rw[Int.natAbs_tdiv];exact Nat.div_le_self _ _
def Nt (a:Int){b:Int}(hb:0<b):a/b=if a.tmod b<0 then a.tdiv b -1 else a.tdiv b:=by
 have h1:=Int.tmod_lt_of_pos a hb;have h2:=Int.lt_tmod_of_pos a hb;have h3:=Int.mul_tdiv_add_tmod a b;split
 ·exact((L5 hb (r:=a.tmod b+b) (q:=a.tdiv b -1)).2 ⟨by grind,by omega,by omega⟩).1
 ·exact((L5 hb (r:=a.tmod b) (q:=a.tdiv b)).2 ⟨by omega,by omega,by omega⟩).1
def ED (a:Int){b:Int}(_hb:0<b): -(a.natAbs:Int)<=a/b/\a/b<=a.natAbs:=by
 have:=XN a b;omega
def ac6 {x:Int}(h:x<0):x.sign= -1:=aep h
def TX (n d:Int):n/d*d=n -n%d:=by grind[Int.ediv_mul_add_emod]
def agt {n d m k:Int}(hd:0<d)(hk:0<k)(h:n/d<m/k):(n*k -m*d).sign = -1:=by
 refine ac6 ?_;have h1:n< (n/d+1)*d:=by rw[Int.add_mul,TX];have:=LY n hd;omega
 have h2:m/k*k<=m:=by rw[TX];have:=Dd m (show k≠0 by omega);omega
 have h3:n*k< (n/d+1)*d*k:=Sr h1 hk;have h4:m/k*k*d<=m*d:=XI h2 K0;have h5:(n/d+1)*(d*k)<=m/k*(d*k):=XI K0 (Int.le_of_lt (Int.mul_pos hd hk))
 grind
def ZP {n d m k:Int}(hd:0<d)(hk:0<k)(h:n/d>m/k):(n*k -m*d).sign =1:=by
 have:=agt hk hd h
 grind
def ac7 (n d:Int):(fu n d).natAbs <=n.natAbs:=by grind[fu,Int.natAbs_ediv_le_natAbs]
def agu {n d:Int}(hd:0<d):eE n d<=d:=by
 unfold eE;have:=XN d (Int.gcd n d:Int);omega
def VY (x:Int):(x.sign=0↔x=0)/\(x.sign=1↔0<x)/\(x.sign= -1↔x<0)/\(x.sign=0\/x.sign=1\/x.sign= -1):=by grind
def aW:List Int->Int
 | []=>0
 |x::l=>x+1000000000*aW l
def Dg (l:List Int):Prop:=∀x∈l,0<=x/\x<1000000000
def bf (n:Nat):List Int:=if h:n=0 then []else((n%1000000000:Nat):Int)::bf (n/1000000000)
termination_by n
decreasing_by omega
theorem di:bf 0= []:=by grind[bf]
theorem qG {n:Nat}(h:n≠0):bf n=((n%1000000000:Nat):Int)::bf (n/1000000000):=by
 conv=>lhs;unfold bf
 grind
abbrev pw (n:Nat):Int:=(1000000000:Int)^n
def ac8:pw 0=1:=rfl
def pE (n:Nat):pw (n+1)=pw n*1000000000:=Int.pow_succ _ _
def QT (n:Nat):0<pw n:=Int.pow_pos bX
theorem bs (n:Nat):aW (bf n)=n:=by
 induction n using Nat.strongRecOn with
 |_ n ih=>
  grind[di,qG,aW]
def df (n:Nat):Dg (bf n):=by
 induction n using Nat.strongRecOn with
 |_ n ih=>
  by_cases h:n=0
  ·subst h;rw[di];intro x hx;grind
  ·rw[qG h];intro x hx;rcases cF.1 hx with rfl|hx
   ·omega
   ·exact ih _ (Nat.div_lt_self K0 bX) x hx
def QU:Dg []:=by intro x hx;grind
def Dg.tail {x:Int}{l:List Int}(h:Dg (x::l)):Dg l:=λy hy=>h y (jt _ hy)
def Dg.take {l:List Int}(h:Dg l)(n:Nat):Dg (l.take n):=λy hy=>h y (Ca hy)
def Dg.drop {l:List Int}(h:Dg l)(n:Nat):Dg (l.drop n):=λy hy=>h y (P2 hy)
theorem Dg.get {l:List Int}(h:Dg l)(i:Nat):0<=l.getD i 0/\l.getD i 0<1000000000:=by
 by_cases hi:i<l.length
 ·exact h _ (qD hi)
 grind
def mK {l:List Int}(h:Dg l):0<=aW l:=by
 induction l with
 |nil=>simp[aW]
 |cons x l ih=>
  have:=h x je;have:=ih h.tail
  grind[aW]
theorem BQ (l l':List Int):aW (l++l')=aW l+pw l.length*aW l':=by
 induction l with
 |nil=>simp[aW,pw]
 |cons x l ih=>
  simp only[qX,aW,ih,kH,pE]
  grind
theorem vC (l:List Int)(x:Int):aW (l++[x])=aW l+pw l.length*x:=by grind[BQ,aW]
def vD {l:List Int}(h:Dg l):aW l<pw l.length:=by
 induction l with
 |nil=>simp[aW,pw]
 |cons x l ih=>
  have h1:=h x je;have h2:=ih h.tail
  grind[aW]
theorem uF {l:List Int}{n:Nat}(h:n<l.length):aW (l.take (n+1))=aW (l.take n)+pw n*l.getD n 0:=by grind[AD,vC]
def xk (l:List Int)(n:Nat)(h:n<=l.length):aW l=aW (l.take n)+pw n*aW (l.drop n):=by grind[BQ,List.take_append_drop]
def wK (l:List Int):Prop:=Dg l/\(l= []\/l.getD (l.length -1) 0≠0)
def wK.tail {x:Int}{l:List Int}(h:wK (x::l))(hl:l≠[]):wK l:=by
 refine⟨h.1.tail,.inr ?_⟩;rcases h.2 with h2|h2
 grind
 grind
def VZ {l:List Int}(h:wK l)(hl:l≠[]):0<aW l:=by
 induction l with
 |nil=>grind
 |cons x l ih=>
  have h1:=h.1 x je;by_cases he:l= []
  ·subst he;rcases h.2 with h2|h2
   grind
   grind[aW]
  ·have:=ih (h.tail he) he
   grind[aW]
theorem ZQ {l:List Int}(h:wK l):l=bf (aW l).toNat :=by
 induction l with
 |nil=>simp[aW,di]
 |cons x l ih=>
  have h1:=h.1 x je;have hp:=VZ h (by simp);have h0:=mK h.1.tail;have hn:(aW (x::l)).toNat ≠0:=by omega
  rw[qG hn];have ed:aW (x::l)=x+1000000000*aW l:=rfl;have e1:(((aW (x::l)).toNat %1000000000:Nat):Int)=x:=by omega
  have e2:(aW (x::l)).toNat /1000000000=(aW l).toNat :=by omega
  rw[e1,e2];by_cases he:l= []
  grind[aW,di]
  ·rw[<- ih (h.tail he)]
def rR (n:Nat):wK (bf n):=by
 refine⟨df n,?_⟩
 induction n using Nat.strongRecOn with
 |_ n ih=>
  grind[bf]
def oT (l:List Int):Nat->Nat
 |0=>0
 |n+1=>if l.getD n 0=0 then oT l n else n+1
def NA (l:List Int): ∀n,oT l n<=n
 |0=>by simp[oT]
 |n+1=>by have:=NA l n;grind[oT]
def trim (l:List Int):List Int:=l.take (oT l l.length)
def EL {l:List Int}: ∀ {n:Nat},n<=l.length->aW (l.take (oT l n))=aW (l.take n)
 |0,_=>rfl
 |n+1,h=>by
  unfold oT;split
  ·rename_i h0;rw[EL (n:=n) K0,uF K0,h0];simp
  ·rfl
def EM {l:List Int}: ∀ {n:Nat},oT l n=0\/l.getD (oT l n -1) 0≠0
 |0=>.inl rfl
 |n+1=>by
  unfold oT;split
  ·exact EM (n:=n)
  grind
def CJ {l:List Int}(h:Dg l):trim l=bf (aW l).toNat :=by
 have h1:aW (trim l)=aW l:=by unfold trim;rw[EL (dG _),mB]
 have h2:wK (trim l):=by
  refine⟨h.take _,?_⟩;have eA:=NA l l.length;unfold trim;rcases EM (l:=l) (n:=l.length)with h3|h3
  grind
  ·by_cases h0:oT l l.length=0
   grind
   grind
 grind[ZQ]
def BR {n k:Nat}(h:(n:Int)<pw k):(bf n).length <=k:=by
 induction k generalizing n with
 |zero=>
  have:n=0:=by grind
  grind[di]
 |succ k ih=>
  by_cases h0:n=0
  grind
  grind[qG]
theorem za {n:Nat}:bf n= []↔n=0:=by grind[qG,di]
def fX (l:List Int)(n:Nat):aW (l.take (n+1))=aW (l.take n)+pw n*l.getD n 0:=by grind[uF,List.take_of_length_le]
def CK {m n:Nat}(h:m<=n):pw m<=pw n:=by
 induction n with
 |zero=>grind
 |succ n ih=>
  grind
def xl (x y:Nat):Int:=if x<y then -1 else if y<x then 1 else 0
def ZR {l:List Int}(h:wK l)(hl:l≠[]):pw (l.length -1)<=aW l:=by
 have fL:0<l.length:=LX.2 hl;have h1:=xk l (l.length -1) K0;have h2:l.drop (l.length -1)= [l.getD (l.length -1) 0]:=by grind[od]
 rw[h2]at h1
 have h3:l.getD (l.length -1) 0≠0:=by
  rcases h.2 with h3|h3
  grind
  omega
 have h4:=h.1.get (l.length -1);have h5:=mK (h.1.take (l.length -1));have h6:=QT (l.length -1);have h7:pw (l.length -1)*1<=pw (l.length -1)*l.getD (l.length -1) 0:=XJ K0 K0;simp only[aW]at h1
 grind
def QV {a b:List Int}(ha:wK a)(hb:wK b)(h:a.length<b.length):aW a<aW b:=by
 have h1:=vD ha.1;have h2:=ZR hb bw;have h3:=CK (show a.length<=b.length -1 by omega);omega
def ZS {a b:List Int}(ha:Dg a)(hb:Dg b){i:Nat}(h:a.length=b.length)(hi:i<a.length)(ht:a.drop (i+1)=b.drop (i+1))(al:a.getD i 0<b.getD i 0):aW a<aW b:=by
 have h1:=xk a i K0;have h2:=xk b i K0;rw[od (d:=0) hi]at h1;rw[od (d:=0) (show i<b.length by omega)]at h2;rw[ht]at h1;simp only[aW]at h1 h2;generalize aW (List.drop (i+1) b)=z at*;have h3:=vD (ha.take i);have e:(a.take i).length =i:=by grind
 rw[e]at h3;have h4:=mK (hb.take i);have h5:=QT i;have h6:pw i*(a.getD i 0+1+1000000000*z)<=pw i*(b.getD i 0+1000000000*z):=XJ K0 K0
 grind
def sZ (a b:List Int):Nat->Int
 |0=>0
 |i+1=>(a.getD i 0+b.getD i 0+sZ a b i)/1000000000
def ZT (a b:List Int)(i:Nat):Int:=(a.getD i 0+b.getD i 0+sZ a b i)%1000000000
def rT {a b:List Int}(ha:Dg a)(hb:Dg b): ∀i,0<=sZ a b i/\sZ a b i<=1
 |0=>by simp[sZ]
 |i+1=>by
  have h1:=rT ha hb i;have h2:=ha.get i;have h3:=hb.get i
  grind[sZ]
def Cn (a b:List Int)(n:Nat):List Int:=(List.range n).map (ZT a b)
def IB (a b:List Int)(n:Nat):Cn a b (n+1)=Cn a b n++[ZT a b n]:=wH
def EN (a b:List Int)(n:Nat):(Cn a b n).length =n:=by simp[Cn]
def ac9 {a b:List Int}(n:Nat):Dg (Cn a b n):=by
 intro x hx;obtain⟨k,_,rfl⟩:=dC.1 hx
 grind[ZT]
def NB (a b:List Int): ∀n,aW (Cn a b n)+pw n*sZ a b n=aW (a.take n)+aW (b.take n)
 |0=>by simp[Cn,aW,sZ]
 |n+1=>by
  have h:=NB a b n;rw[IB,vC,EN,fX,fX,pE];have e:a.getD n 0+b.getD n 0+sZ a b n=ZT a b n+1000000000*sZ a b (n+1):=by grind[ZT,sZ]
  grind
def rU (a b:List Int):Nat:=max a.length b.length+(if sZ a b (max a.length b.length)>0 then 1 else 0)
def IC {a b:List Int}(ha:Dg a)(hb:Dg b){i:Nat}(hi:i<=rU a b):(i<a.length\/i<b.length\/sZ a b i>0)↔i<rU a b:=by
 have xQ:=rT ha hb (max a.length b.length);unfold rU at hi ⊢;by_cases h:i<max a.length b.length;omega
 ·by_cases hm:i=max a.length b.length
  grind
  ·split at hi<;>rename_i hc
   ·have hi2:i=max a.length b.length+1:=by omega
    have e1:a.getD (max a.length b.length) 0=0:=by grind
    have e2:b.getD (max a.length b.length) 0=0:=by grind
    have e3:sZ a b i=0:=by grind[sZ]
    grind
   ·omega
def ZU {a b:List Int}(ha:Dg a)(hb:Dg b):aW (Cn a b (rU a b))=aW a+aW b:=by
 have h1:=NB a b (rU a b);have h2:=(IC ha hb (dG _)).1;have h3:=rT ha hb (rU a b);have h4:sZ a b (rU a b)=0:=by omega
 rw[h4,Int.mul_zero,Int.add_zero]at h1
 grind[List.take_of_length_le]
def GA (a b:List Int):Nat->Int
 |0=>0
 |i+1=>if a.getD i 0 -b.getD i 0 -GA a b i<0 then 1 else 0
def sbD (a b:List Int)(i:Nat):Int:=if a.getD i 0 -b.getD i 0 -GA a b i<0 then a.getD i 0 -b.getD i 0 -GA a b i+1000000000 else a.getD i 0 -b.getD i 0 -GA a b i
def AH (a b:List Int): ∀i,0<=GA a b i/\GA a b i<=1
 |0=>by simp[GA]
 |i+1=>by grind[GA]
def Xq (a b:List Int)(n:Nat):List Int:=(List.range n).map (sbD a b)
def NC (a b:List Int)(n:Nat):Xq a b (n+1)=Xq a b n++[sbD a b n]:=wH
theorem CM (a b:List Int)(n:Nat):(Xq a b n).length =n:=by simp[Xq]
def ZV {a b:List Int}(ha:Dg a)(hb:Dg b)(n:Nat):Dg (Xq a b n):=by
 intro x hx;obtain⟨k,_,rfl⟩:=dC.1 hx;have:=ha.get k;have:=hb.get k;have:=AH a b k
 grind[sbD]
def TY (a b:List Int): ∀n,aW (Xq a b n)=aW (a.take n) -aW (b.take n)+pw n*GA a b n
 |0=>by simp[Xq,aW,GA]
 |n+1=>by
  have h:=TY a b n;rw[NC,vC,CM,fX,fX,pE,h];have e:sbD a b n=a.getD n 0 -b.getD n 0 -GA a b n+1000000000*GA a b (n+1):=by grind[sbD,GA]
  grind
def ada {a b:List Int}(ha:Dg a)(hb:Dg b)(hl:b.length<=a.length)(h:aW b<=aW a):aW (Xq a b a.length)=aW a -aW b:=by
 have h1:=TY a b a.length;rw[mB,pc hl]at h1;have h2:=vD (ZV ha hb a.length);rw[CM]at h2;have h3:=AH a b a.length;have h4:GA a b a.length=0\/GA a b a.length=1:=by omega
 grind
def gt {x y:Nat}(h:y<=x):(bf y).length <=(bf x).length :=by
 apply PY;intro hh;have:=QV (rR x) (rR y) K0
 grind[bs]
def EP {l:List Int}{j:Nat}(h:j<l.length)(v:Int):aW (l.set j v)=aW l+pw j*(v -l.getD j 0):=by
 induction l generalizing j with
 |nil=>grind
 |cons x l ih=>
  cases j with
  |zero=>simp[aW,pw];omega
  |succ j=>
   have:=ih (j:=j) bw;simp only[X8,aW,this,pE,SN]
   grind
theorem getD_set_ne {l:List Int}{i j:Nat}(h:i≠j)(v:Int):(l.set i v).getD j 0=l.getD j 0:=by grind
theorem QW {l:List Int}(h:Dg l)(j:Nat){v:Int}(hv:0<=v/\v<1000000000):Dg (l.set j v):=by
 intro x hx;rcases Sv hx with hx|rfl
 ·exact h x hx
 omega
def i7 (out:List Int)(i:Nat)(x:Int)(b:List Int):Nat->List Int × Int
 |0=>(out,0)
 |k+1=>((i7 out i x b k).1.set (i+k) (((i7 out i x b k).1.getD (i+k) 0+x*b.getD k 0+(i7 out i x b k).2)%1000000000),
   ((i7 out i x b k).1.getD (i+k) 0+x*b.getD k 0+(i7 out i x b k).2)/1000000000)
def EQ (out:List Int)(i:Nat)(x:Int)(b:List Int):List Int:=
 (i7 out i x b b.length).1.set (i+b.length) ((i7 out i x b b.length).1.getD (i+b.length) 0+(i7 out i x b b.length).2)
def gX (a b:List Int):Nat->List Int
 |0=>List.replicate (a.length+b.length+1) 0
 |i+1=>EQ (gX a b i) i (a.getD i 0) b
def qH (out:List Int)(i:Nat)(x:Int)(b:List Int): ∀k,(i7 out i x b k).1.length =out.length
 |0=>rfl
 |k+1=>by simp[i7,qH out i x b k]
def rV (a b:List Int): ∀i,(gX a b i).length =a.length+b.length+1
 |0=>by simp[gX]
 |i+1=>by simp[gX,EQ,qH,rV a b i]
def ER {x y:Int}(hx:0<=x/\x<1000000000)(hy:0<=y/\y<1000000000):0<=x*y/\x*y<=999999998000000001:=
 ⟨De hx.1 hy.1,by have:=Dk (show x<=999999999 by omega) (show y<=999999999 by omega) hy.1 K0;omega⟩
def xn {out b:List Int}{i:Nat}{x:Int}(ho:Dg out)(hb:Dg b)(hx:0<=x/\x<1000000000): ∀k,i+k<=out.length->
  Dg (i7 out i x b k).1/\(0<=(i7 out i x b k).2/\(i7 out i x b k).2<1000000000)/\aW (i7 out i x b k).1+pw (i+k)*(i7 out i x b k).2=aW out+x*(pw i*aW (b.take k))/\
  ∀j,i+k<=j->(i7 out i x b k).1.getD j 0=out.getD j 0
 |0,_=>⟨ho,by simp[i7],by simp[i7,aW],λj _=>rfl⟩
 |k+1,hk=>by
  obtain⟨h1,h2,h3,h4⟩:=xn (i:=i) ho hb hx k K0;have hl:=qH out i x b k;have g1:=h1.get (i+k);have g2:=hb.get k;have g3:=ER hx g2;refine⟨QW h1 _ K0,by grind[i7],?_,λj hj=>?_⟩
  ·simp only[i7];rw[EP K0,fX,<- Mf,pE]
   grind
  grind[i7]
def uG {a b:List Int}(ha:Dg a)(hb:Dg b): ∀i,i<=a.length->Dg (gX a b i)/\aW (gX a b i)=aW (a.take i)*aW b/\∀j,i+b.length<=j->(gX a b i).getD j 0=0
 |0,_=>by
  refine⟨λx hx=>?_,?_,λj _=>?_⟩
  grind[gX]
  ·simp only[gX,Dl,aW,Int.zero_mul];generalize a.length+b.length+1=n;exact ajG
  grind[gX]
 |i+1,hi=>by
  obtain⟨h1,h2,h3⟩:=uG ha hb i K0;have hl:=rV a b i;obtain⟨g1,g2,g3,g4⟩:=xn (i:=i) (x:=a.getD i 0) h1 hb (ha.get i) b.length K0;have hl2:=qH (gX a b i) i (a.getD i 0) b b.length;have e0:(i7 (gX a b i) i (a.getD i 0) b b.length).1.getD (i+b.length) 0=0:=by grind
  refine⟨?_,?_,λj hj=>?_⟩
  ·simp only[gX,EQ,e0,Int.zero_add]
   grind[QW]
  ·simp only[gX,EQ,e0,Int.zero_add];rw[EP K0,e0,Int.sub_zero,g3,h2,fX,mB,Int.add_mul,<- Mh,Int.mul_comm (pw i)]
  grind[gX,EQ,getD_set_ne]
def og (a:List Int)(i:Nat):Int:=aW (a.drop i)
def V0 (a:List Int)(y:Int)(i:Nat):Int:=(a.getD i 0+1000000000*(og a (i+1)%y))/y
def qS (a:List Int)(y:Int):Nat->List Int
 |0=>List.replicate a.length 0
 |t+1=>(qS a y t).set (a.length -1 -t) (V0 a y (a.length -1 -t))
def ES (a:List Int)(y:Int): ∀t,(qS a y t).length =a.length
 |0=>by simp[qS]
 |t+1=>by simp[qS,ES a y t]
def NF {a:List Int}{i:Nat}(h:i<a.length):og a i=a.getD i 0+1000000000*og a (i+1):=by unfold og;rw[od (d:=0) h];rfl
def T1 (a:List Int):og a a.length=0:=by unfold og;rw[L9];rfl
def NG (a:List Int):og a 0=aW a:=rfl
def NH {p r y:Int}(hy:0<y):(r+1000000000*p)/y=1000000000*(p/y)+(r+1000000000*(p%y))/y/\(r+1000000000*p)%y=(r+1000000000*(p%y))%y:=by
 have e:r+1000000000*p=(r+1000000000*(p%y))+y*(1000000000*(p/y)):=by
  have:=SF p y
  grind
 constructor
 ·rw[e,Int.add_mul_ediv_left _ _ K0];omega
 simp_all
def QX {a:List Int}{y:Int}(h:Dg a)(hy:0<y)(i:Nat):0<=V0 a y i/\V0 a y i<1000000000:=by
 have h1:=h.get i;have h2:=Dd (og a (i+1)) (show y≠0 by omega);have h3:=LY (og a (i+1)) hy;unfold V0;constructor
 ·exact Mc K0 K0
 ·exact Int.ediv_lt_of_lt_mul hy K0
def T2 {a:List Int}{y:Int}(h:Dg a)(hy:0<y): ∀t,t<=a.length->Dg (qS a y t)/\aW (qS a y t)=pw (a.length -t)*(og a (a.length -t)/y)/\∀j,j<a.length -t->(qS a y t).getD j 0=0
 |0,_=>by
  refine⟨λx hx=>?_,?_,λj _=>?_⟩
  grind[qS]
  ·simp only[qS,HH,T1,Int.zero_ediv,Int.mul_zero];generalize a.length=n;exact ajG
  grind[qS]
 |t+1,ht=>by
  obtain⟨h1,h2,h3⟩:=T2 h hy t K0;have hl:=ES a y t;have e1:a.length -(t+1)=a.length -1 -t:=by omega
  have e2:a.length -t=a.length -1 -t+1:=by omega
  have hj:a.length -1 -t<a.length:=by omega
  refine⟨QW h1 _ (QX h hy _),?_,λj hjj=>?_⟩
  ·simp only[qS];rw[EP K0,h3 _ K0,Int.sub_zero,h2,e1,e2,pE];have hs:=(NH (p:=og a (a.length -1 -t+1)) (r:=a.getD (a.length -1 -t) 0) hy).1;rw[NF hj,hs,Int.mul_add,<- Mh];rfl
  grind[qS,getD_set_ne]
theorem V2 {a:List Int}{y:Int}(hy:0<y){i:Nat}(h:i<a.length):og a i%y=(a.getD i 0+1000000000*(og a (i+1)%y))%y:=by rw[NF h,(NH hy).2]
def V3 {x y:Int}(hy:0<y):(-x)/y=if x%y=0 then -(x/y)else -(x/y) -1:=by
 have h1:=SF x y;have h2:=Dd x (show y≠0 by omega);have h3:=LY x hy;split
 ·rename_i h;refine((L5 (r:=0) (q:= -(x/y)) hy).2 ⟨?_,by omega,hy⟩).1
  grind
 ·rename_i h;refine((L5 (r:=y -x%y) (q:= -(x/y) -1) hy).2 ⟨?_,by omega,by omega⟩).1
  grind
end Go.Plain
namespace Go.Fw
open Go.RowKit (Below)
open Classical
section
variable {C:bS}{F:gG}{β:Nat->Option Nat}{N:Nat->Prop}{H:HF}{fid:Nat}{w:World}
def Z5 (hR:ad F β N H w)(hf: ¬N fid){z id b cap:Nat}{c c':SC}{arr arr':Array Value}{T:TypeId}(hb:H id=some (.row true z c))(xL:β id=some b)(lF:w.heap[b]? =some (.cells arr T))(nA:arr.size=cap*z)(Pn:arr'.size=arr.size)
  (hv:c'.ao=true)(eA:c'.len<=cap)(iG: ∀i e,c'.elem i=some e->e.length=z)(hc: ∀i e j x,c'.elem i=some e->e[j]? =some x->dw eU eU (arr'.getD (i*z+j) undef) x):
  ∃cQ,Tr F β N H w cQ (bg N fid) (Hp.on [(fid,some (.row true z c')),(id,none)] H) (w.setRow b arr')/\ad F cQ (bg N fid) (Hp.on [(fid,some (.row true z c')),(id,none)] H) (w.setRow b arr')/\
   co F cQ (bg N fid) (Hp.on [(fid,some (.row true z c')),(id,none)] H) (w.setRow b arr') (.slice (some ⟨b,0,none⟩) c'.len cap) (bh (.own fid)):=by
 obtain⟨hn,⟨hz,XB,qe⟩,gC⟩:=hR.rel id _ hb
 rcases gC with⟨q,_⟩|⟨b',jD,q1,q2,xM,T0,q3,q4,q5⟩
 ·grind
 rw[xL]at q1;cases q1;rw[lF]at q3;cases q3;have Xl:id≠fid:=λe=>hf (e▸hn);have tm:(w.setRow b arr').heap[b]? =some (.cells arr' T):=yd w b arr _ T (0,0) lF
 show ∃cQ,Tr F β N H w cQ (bg N fid) (br (br H id none) fid (some (.row true z c'))) (w.setRow b arr')/\ad F cQ (bg N fid) (br (br H id none) fid (some (.row true z c'))) (w.setRow b arr')/\
   co F cQ (bg N fid) (br (br H id none) fid (some (.row true z c'))) (w.setRow b arr') (.slice (some ⟨b,0,none⟩) c'.len cap) (bh (.own fid))
 have live: ∀ {k:Nat} {b0:cC},k≠fid->br (br H id none) fid (some (.row true z c')) k=some b0->k≠id/\H k=some b0:=by grind[aG,an]
 have hT:Tr F β N H w (cW β fid (some b)) (Fw.bg N fid) (br (br H id none) fid (some (.row true z c'))) (w.setRow b arr'):=by
  refine⟨jv.setRow (hR.fY hb xL).2 _,λb' o v _ hs e=>⟨λiQ bC e' jW=>?_,?_⟩,λ_ h=>.inl h,λiQ LG=>it _ _ _ λe=>hf (e▸LG),λiQ blk' LG e=>?_,λ_ _ _ b' xM T0 _ _ _ _ _ e=>?_,mh ⟨_,_,lF⟩ _⟩
  ·by_cases hk:iQ=fid
   ·subst hk;rw[jw]at jW;cases jW;have:=hs id _ hb xL
    grind[cC.tC]
   ·exact afJ
  ·by_cases hk:b'=b
   ·subst hk;have:=hs id _ hb xL
    grind[cC.tC]
   exact ach
  ·exact afz
  grind[setRow_other]
 have hH:ad F (cW β fid (some b)) (Fw.bg N fid) (br (br H id none) fid (some (.row true z c'))) (w.setRow b arr'):=by
  refine hR.step hT (λi=>i=fid) (λi bC hi e=>?_) (λi bC hi e=>?_) (λi j x y y' hi hj bi bj=>?_)
  ·exact K65
  ·subst hi;rw[an]at e;cases e;exact⟨.inr rfl,⟨hz,hv,iG⟩,.inr ⟨b,cap,by simp[cW],q2,arr',T,tm,by omega,hz,hv,eA,iG,λi e' j x he hx=>(hc i e' j x he hx).mono (dZ _) (Mem.le_refl _)⟩⟩
  ·exact K18
 refine⟨_,hT,hH,cM ⟨.inr rfl,rfl,λnQ z' n' jW wV=>?_⟩⟩;have:br (br H id none) fid (some (.row true z c')) fid=some nQ:=jW;exact afw
theorem NS {f:FuncId}(e8:iI C.P f=true)(zs:List (List UInt8))(i j:Nat)(PS:i<j)(hj:j<=zs.length)
  (bE: ∀(b cap:Nat) (arr:Array Value) (T:TypeId) (w:World),w.heap[b]? =some (.cells arr T)->arr.size=cap->zs.length<=cap->(∀k,k<zs.length->arr[k]? =some (.string (B (zs.getD k []))))->
   Calls C.P f #[.slice (some ⟨b,0,none⟩) zs.length cap,.int .i64 i,.int .i64 j] w λe w'=>e= .returned (.slice (some ⟨b,0,none⟩) (i+(zs.length -j)) cap)/\
    ∃arr',w'=w.drew.setRow b arr'/\arr'.size=arr.size/\∀k,k<i+(zs.length -j)->arr'[k]? =some (.string (B ((zs.take i++zs.drop j).getD k []))))
  {id:Nat}(hb:H id=some (.row true 1 (.view (ab zs)))):
  bI C fid f [(false,[.own id]),(false,[.st (.lit (.int .i64 i))]),(false,[.st (.lit (.int .i64 j))])] H (bh (.own fid)) [(fid,some (.row true 1 (.view (ab (zs.take i++zs.drop j))))),(id,none)] [id]:=by
 refine⟨e8,λF β N H' w vs hH hG hR hf nA hv=>?_⟩;have jW:H' id=some (.row true 1 (.view (ab zs))):=by grind
 obtain⟨hn,h1,h2⟩:cw F β N H' w (vs.getD 0 undef) (.own id):=(hv 0 _ rfl).am;have e1:vs.getD 1 undef= .int .i64 i:=(cw.bB ((hv 1 _ rfl).am)).1;have e2:vs.getD 2 undef= .int .i64 j:=(cw.bB ((hv 2 _ rfl).am)).1;have bD:(SC.view (ab zs)).len =zs.length:=by simp[SC.len]
 rcases h2 _ _ _ jW rfl with⟨_,h0,_⟩|⟨b,cap,arr,T,a1,a2,a3,a4⟩
 ·omega
 rw[bD]at a2
 have xN:vs= #[.slice (some ⟨b,0,none⟩) zs.length cap,.int .i64 i,.int .i64 j]:=by
  have h3:vs.size=3:=nA;apply Bk;omega
  ·intro k hk _;rw[h3]at hk;have hg: ∀k (hk:k<vs.size),vs[k]=vs.getD k undef:=λk hk=>by simp[Array.getD,hk]
   grind
 obtain⟨_,⟨hz,XB,iG⟩,gC⟩:=hR.rel id _ jW
 rcases gC with⟨q,_⟩|⟨b',jD,q1,q2,arr',T',p1,p2,p3,p4,p5,p6,p7⟩
 ·omega
 rw[a1]at q1;cases q1;rw[a3]at p1;cases p1;have hcc:cap=jD:=by omega
 subst hcc;rw[bD]at p5
 have iR: ∀k,k<zs.length->arr[k]? =some (.string (B (zs.getD k []))):=λk hk=>by
  have:=p7 k [.lit (.string (B (zs.getD k [])))] 0 (.lit (.string (B (zs.getD k [])))) (by simp[SC.elem,ab,jX,hk]) rfl;simp only[Bi,tO]at this;have al:k<arr.size:=by omega
  have e:=(cw.bB (F:=F) (β:=β) (N:=N) (H:=H') (w:=w) (dw.mono (Mem.le_refl _) (dZ _) this)).1;simp_all
 rw[xN];refine(bE b cap arr T w a3 K0 p5 iR).mono λe w1 he=>?_;obtain⟨rfl,aef,rfl,s1,s2⟩:=he;have hB:Below w.heap.size w w.drew:=(Below.refl _ _).drew;have Xj:=hR.grow hB;have t1:=Tr.grow hR hB;have hl2:(SC.view (ab (zs.take i++zs.drop j))).len =i+(zs.length -j):=by grind[SC.len]
 obtain⟨cQ,g1,g2,g3⟩:=Z5 (c':=.view (ab (zs.take i++zs.drop j))) Xj (λh=>hf _ h rfl) jW a1 (show w.drew.heap[b]? =some (.cells arr T)from a3) a4 s1 rfl K0 (λk e he=>by grind[nY]) λk e m x he hx=>by
  obtain⟨s,hs,rfl⟩:=nY he;have hk:k<i+(zs.length -j):=by grind
  cases m with
  |succ m=>grind
  |zero=>
   simp at hx;subst hx;have:=s2 k hk;rw[jX,hs,vX]at this;rw[Bi,tO,sT,this];exact .lit rfl
 rw[hl2]at g3;exact⟨_,cQ,rfl,t1.trans g1,g2,g3⟩
end
end Go.Fw
namespace Go.Fw
open Go.RowKit (Below)
open Go.Shelf
variable {P:Program}{gl:tR}
def Jg (n:Nat)(s:List UInt8)(c:UInt8):List (List UInt8):=Lib.splitK [c] 0 (min n (s.length+1) -1) s
theorem Q3 {ρ:Ren}(L:Proofs.Lays.n147 P ρ)(e8:iI P (ρ.f 147)=true)(hi9:(P.info? (ρ.t 9)).map (λi=>(i.zero,i.size,i.bytes))=some (some (.string ByteArray.empty),1,16))
  (hg:(ρ.g 1,[SC.num .i64])∈gl)(s:List UInt8)(c:UInt8)(n:Nat)(hl:s.length<=1000000)(h1:1<=n)(hn:n<=1000000):nR P gl (ρ.f 147) [SS s,SS [c],(false,[.lit (.int .i64 n)])] (.own 1 (.view (ab (Jg n s c)))):=by
 refine .inl ⟨e8,λmv w vs _ hG xN=>?_⟩;obtain⟨nA,hx⟩:=xN
 have xN:vs= #[.string (B s),.string (B [c]),.int .i64 n]:=by
  obtain⟨c0,g0,r0⟩:=hx 0 _ rfl;cases g0;have a0:=ge r0;obtain⟨c1,g1,r1⟩:=hx 1 _ rfl;cases g1;have a1:=ge r1;obtain⟨c2,g2,r2⟩:=hx 2 _ rfl;cases g2;have a2:=ge r2;apply Bk
  ·rw[nA];rfl
  ·intro i q1 q2;have q2:i<3:=q2;have hg:vs.getD i undef=vs[i]:=by simp[sT,q1]
   match i,q2 with
   |0,_=>rw[<- hg];exact a0
   |1,_=>rw[<- hg];exact a1
   |2,_=>rw[<- hg];exact a2
 rw[xN];obtain⟨ev,e1,h2⟩:=(hG _ _ hg).1 0 _ rfl;have pb: ∃m,ev= .int .i64 m:=aip;obtain⟨m,rfl⟩:=pb;refine(Proofs.Any.strings_SplitN L hi9 (B s) (B [c]) n m w (by rw[lU];omega) e1 (by rw[lU];exact dG 1) h1 K0).mono λe w' he=>?_;obtain⟨rfl,rfl⟩:=he;rw[lU]
 have Xy:(Lib.splitB (B [c]) 0 (min n (s.length+1) -1) (B s))=(Jg n s c).map B:=by
  have h:=Lib.splitB_data (B [c]) 0 (min n (s.length+1) -1) (B s);rw[jG,jG]at h;have:(Jg n s c).map B=((Lib.splitB (B [c]) 0 (min n (s.length+1) -1) (B s)).map (·.data.toList)).map B:=by rw[h];rfl
  rw[this,Ak];have e:(B ∘ λx:ByteArray=>x.data.toList)=id:=by funext x;exact acR x
  rw[e,Mj]
 have eA:(Jg n s c).length <=min n (s.length+1):=by
  have:=Lib.splitB_length_le (B [c]) 0 (min n (s.length+1) -1) (B s);rw[Xy,jf]at this;omega
 rw[Xy];generalize min n (s.length+1)=N at*;refine⟨_,rfl,Below.ot _ _,.inr ⟨w.heap.size,N,by simp[SC.len],dG _,_,_,gK w _,by rw[Lib.cellsOf_size (by simpa using eA)];simp,by decide,rfl,by simpa [SC.len]using eA,λi e he=>?_,λi e j x he hx=>?_⟩⟩
 ·obtain⟨u,_,rfl⟩:=nY he;rfl
 ·obtain⟨u,hu,rfl⟩:=nY he;have al:=(kF.1 hu).1
  cases j with
  |zero=>
   simp at hx;subst hx;rw[show i*1+0=i by omega,sT]
   have:(Lib.cellsOf ((Jg n s c).map B) N)[i]? =some (.string (B u)):=by
    simp only[Lib.cellsOf,L0];rw[UX (by simpa using al)];simp[hu]
   exact af1
  |succ j=>simp at hx
end Go.Fw
namespace Go.Plain
open Go.Lib
def E4: ∀(k:Nat) (s:aw),splitK [32] 0 k s=if(aH 32 s).length <=k+1 then aH 32 s else(aH 32 s).take k++[ci k s]
 |0,s=>by
  rcases ky 32 s with⟨h1,h2⟩|⟨i,h1,h2,h3⟩
  ·have h2:aH 32 s= [s]:=h2;rw[h2];rfl
  ·have h3:aH 32 s=s.take i::aH 32 (s.drop (i+1)):=h3
   rw[if_neg (by
    rw[h3,kH]
    grind[ng])]
   rfl
 |k+1,s=>by
  rcases ky 32 s with⟨h1,h2⟩|⟨i,h1,h2,h3⟩
  ·have h2:aH 32 s= [s]:=h2;rw[<- index_one]at h1;rw[h2,if_pos (by simp)];exact aju
  ·have h3:aH 32 s=s.take i::aH 32 (s.drop (i+1)):=h3;rw[<- index_one]at h2;have e:splitK [32] 0 (k+1) s=s.take i::splitK [32] 0 k (s.drop (i+1)):=aju;have hd:ci (k+1) s=ci k (s.drop (i+1)):=by grind[ci]
   rw[e,E4 k,h3,kH,hd]
   grind
def N5 (n:Nat)(s:aw)(h1:1<=n):Go.Fw.Jg n s 32=if(aH 32 s).length <=n then aH 32 s else(aH 32 s).take (n -1)++[ci (n -1) s]:=by
 unfold Go.Fw.Jg;have hl:=(cj 32 s).1;rw[E4]
 grind
theorem N6: ∀(k:Nat) (s:aw),(aH 32 s).length =k+1->aH 32 s=(aH 32 s).take k++[ci k s]
 |0,s,h=>by
  rcases ky 32 s with⟨h1,h2⟩|⟨i,h1,h2,h3⟩
  ·have h2:aH 32 s= [s]:=h2;rw[h2];rfl
  grind[ng]
 |k+1,s,h=>by
  rcases ky 32 s with⟨h1,h2⟩|⟨i,h1,h2,h3⟩
  grind
  ·have h3:aH 32 s=s.take i::aH 32 (s.drop (i+1)):=h3;have hd:ci (k+1) s=ci k (s.drop (i+1)):=by grind[ci]
   rw[hd,h3,X4,qX,<- N6 k _ bw]
def Kr (n:Nat)(s:aw)(h1:1<=n)(h:n<=(aH 32 s).length):Go.Fw.Jg n s 32=(aH 32 s).take (n -1)++[ci (n -1) s]:=by
 rw[N5 n s h1];by_cases h2:(aH 32 s).length <=n
 ·rw[if_pos h2]
  grind[N6]
 grind
def lK (c:Nat):Nat:=if c=121 then 0 else if c=100 then 1 else if c=122 then 2 else 3
structure PX where
 k:Int
 t:Int
 s:Int
 r:Bool
def wdE (w:PX):Int:=if 0<=w.k/\w.k<=2 then(if(1<=w.t/\w.t<=2000)/\0<=w.s/\w.s<=2 then 0 else 2)else 15
def BW (s:aj):Prop:=s.length<2\/((s.getD 1 0).toNat ≠43/\(s.getD 1 0).toNat ≠45)\/lK (s.getD 0 0).toNat =3
instance (s:aj):Decidable (BW s):=by unfold BW;infer_instance
def AL (s:aj):Option PX:=if BW s then none else(vq (s.drop 2)).map λp=>⟨(lK (s.getD 0 0).toNat :Nat),p.2,p.1,decide ((s.getD 1 0).toNat =45)⟩
def stE (n:Int):Int:=if 0<=n/\n<=100 then 0 else 2
def N7 (a b:PX)(c:Int):Int:=jp (wdE a) (jp (wdE b) (stE c))
def puE (a b:PX)(c:Int):Win × Int:=if N7 a b c=0 then(⟨a.k,a.t,a.s,a.r,b.k,b.t,b.s,b.r,c⟩,0)else(wi0,N7 a b c)
def puO:Option PX->Option PX->Option Int->Win × Int
 |some a,some b,some c=>puE a b c
 |_,_,_=>(wi0,7)
def N8 (s:aj):Win × Int:=if(aH 32 s).length =3 then puO (AL ((aH 32 s).getD 0 [])) (AL ((aH 32 s).getD 1 [])) (wN false 4 ((aH 32 s).getD 2 []))else(wi0,7)
abbrev Pu:Type:=Int × Int × Int
def LD (s:aj):Option Pu:=if(aH 32 s).length =3 then(wN false 13 ((aH 32 s).getD 0 [])).bind λa=>(wN true 13 ((aH 32 s).getD 1 [])).bind λb=>(wN false 13 ((aH 32 s).getD 2 [])).map λc=>(a,b,c)else none
def pY (s:aj):Option (Int × Int):=Es 47 (wN false 13) (wN false 13) s
structure G1 where
 name:aj
 per:Int
 least:Int
 lo:Int × Int
 hi:Int × Int
 ps:List Pu
def G2:G1:=⟨[],0,0,(0,0),(0,0),[]⟩
def sJ (w:List aj):Option (Int × Int × (Int × Int) × (Int × Int)):=(wN false 13 (w.getD 1 [])).bind λa=>(wN false 13 (w.getD 2 [])).bind λb=>(pY (w.getD 3 [])).bind λc=>(pY (w.getD 4 [])).map λd=>(a,b,c,d)
def adk (nm:aj):Option (Int × Int × (Int × Int) × (Int × Int))->Option (List Pu)->Option G1
 |some (a,b,c,d),some l=>some ⟨nm,a,b,c,d,l⟩
 |_,_=>none
def E5 (s:aj):Option G1:=let w:=aH 32 ((aH 59 s).getD 0 [])
 if w.length=5 then adk (w.getD 0 []) (sJ w) (fO LD ((aH 59 s).drop 1))else none
def N9 (c d:Int × Int):Int:=if(0<c.2/\Int.gcd c.1 c.2=1)/\0<d.2/\Int.gcd d.1 d.2=1 then
 (if((1<=c.1/\c.1<=1000000000)/\1<=c.2/\c.2<=1000000000)/\(1<=d.1/\d.1<=1000000000)/\1<=d.2/\d.2<=1000000000 then(if c.1*d.2<=d.1*c.2 then 0 else 9)else 2)else 3
def zh (l:List Pu)(i:Nat):Int:=if(0<=(l.getD i (0,0,0)).1/\(l.getD i (0,0,0)).1<=1000000000000)/\(-4096<=(l.getD i (0,0,0)).2.1/\(l.getD i (0,0,0)).2.1<=4096)/\1<=(l.getD i (0,0,0)).2.2/\(l.getD i (0,0,0)).2.2<=100 then
 (if(l.getD i (0,0,0)).2.1=0 then 11 else if i=0\/(l.getD (i -1) (0,0,0)).1< (l.getD i (0,0,0)).1 then 0 else 9)else 2
noncomputable def II (x:G1):Int:=jp (jF x.name) (jp (if(1<=x.per/\x.per<=1000000)/\1<=x.least/\x.least<=60 then 0 else 2) (jp (N9 x.lo x.hi) (if x.ps.length<=60 then 0 else 8)))
noncomputable def mO (x:G1):Int × Int:=o9 (0,II x) (cR (zh x.ps) x.ps.length)
noncomputable def CO (s:aj):G1 × Int:=match E5 s with
 |none=>(G2,7)
 |some x=>if(mO x).2=0 then(x,0)else(G2,(mO x).2)
def rW (l:List Pu)(q:Nat):Nat:=(l.filter λp=>decide ((q:Int)<=p.2.1.natAbs)).length
def qK (l:List Pu)(n:Int):Nat->Nat
 |0=>0
 |q+1=>if n<=rW l (q+1)then q+1 else qK l n q
noncomputable def T7 (x:G1):(Int × Int) × Int:=if(mO x).2=0 then(if x.least<=x.ps.length then(((qK x.ps x.least 4096:Nat)*x.lo.1/x.lo.2,-(-((qK x.ps x.least 4096:Nat)*x.hi.1)/x.hi.2)),0)else((0,0),12))else((0,0),(mO x).2)
end Go.Plain
namespace Go.Fw
open Go.RowKit (Below)
def E9 {E:dS}{Hh:Hp}{nx:Nat}(id i k z:Nat)(c:SC){zr:Nat}{l:List (List DC)}{el:List DC}(hz:0<z)(hv:c.ao=true)(h0:c.len=0)(hB:Hh.get id=some (.az zr l))(hi:l[i]? =some el)(hk:el[k]? =some .nil):
  bu ⟨E,Hh,nx⟩ ⟨E,(id,some (.az zr (l.set i (el.set k (.own (2*nx))))))::((2*nx),some (.row true z c))::Hh,nx+1⟩:=by
 rintro F nt a w ⟨N,⟨q1,q2,q0,β,q3,q4⟩,q5⟩;have hf: ¬N (2*nx):=λh=>by have:=q5 _ h;rw[jP]at this;exact Nat.lt_irrefl _ this
 have hu: ∀i e,c.elem i=some e->e.length=z:=λi e he=>by exact ace
 have t2:=Tr.new q4 (Below.refl _ w) hf none (by simp) (.row true z c);have hN:=ad.new q4 (Below.refl _ w) hf none (by simp) (.row true z c) ⟨⟨hz,hv,hu⟩,.inl ⟨by simp[cW],h0⟩⟩;rw[<- Hp.au]at t2 hN;have hid:N id:=(q4.rel id _ hB).1;have gk:id≠(2*nx):=λe=>hf (e▸hid);have Ly:Hp.get (((2*nx),some (.row true z c))::Hh) id=some (.az zr l):=by rw[Hp.au,aG _ _ _ gk];exact hB
 generalize xS:Hp.get (((2*nx),some (.row true z c))::Hh)=H1 at*;have io:H1 (2*nx)=some (.row true z c):=by rw[<- xS,Hp.au,an]
 have t3:Tr F (cW β (2*nx) none) (Fw.bg N (2*nx)) H1 w (cW β (2*nx) none) (Fw.bg N (2*nx)) (br H1 id (some (.az zr (l.set i (el.set k (.own (2*nx))))))) w:={
  below:=jv.refl _ _
  av:=λ_ _ h=>h
  mem:=λb o v _ hs e=>⟨λiQ bC e' hb=>by
   by_cases h:iQ=id
   ·subst h;exact(hs iQ _ Ly hb).elim
   ·rw[aG _ _ _ h]at e'
    exact hs iQ bC e' hb,e⟩
  used:=λ_ h=>h
  kJ:=λ_ _=>rfl
  keep:=λiQ blk' _ e=>by
   by_cases h:iQ=id
   ·subst h;rw[an]at e;cases e;exact⟨_,Ly,by simp[cC.Ae]⟩
   ·exact ajt
  size:=λ_ _ _ _ arr _ _ _ _ _ _ h=>⟨arr,h,rfl⟩}
 have h3:ad F (cW β (2*nx) none) (Fw.bg N (2*nx)) (br H1 id (some (.az zr (l.set i (el.set k (.own (2*nx))))))) w:=by
  refine hN.step t3 (λi=>i=id) (λi b0 hi e=>?_) (λi' b0 lA e=>?_) (λp q b x y hi hj bi bj=>?_)
  ·exact ai6
  ·subst lA;rw[an]at e;cases e;obtain⟨hn,⟨fL,hall⟩,sQ⟩:=hN.rel i' _ Ly;have al:i<l.length:=(kF.1 hi).1;refine⟨hn,⟨fL,λj e' C1=>?_⟩,?_⟩
   ·by_cases hj:i=j
    ·subst hj;rw[C9 al]at C1;cases C1;rw[GD];exact hall i el hi
    ·rw[P1 hj]at C1;exact hall j e' C1
   ·rcases sQ with⟨h1,h2⟩|⟨b,cap,arr,T,h1,h2,h3,h4,h5,h6⟩
    ·omega
    ·refine .inr ⟨b,cap,arr,T,h1,h2,h3,h4,by rw[GD];exact h5,λj e' j' x C1 hx=>?_⟩;by_cases hj:i=j
     ·subst hj;rw[C9 al]at C1;cases C1;by_cases qU:k=j'
      ·subst qU;rw[C9 (kF.1 hk).1]at hx;cases hx;have Ct:arr.getD (i*zr+k) undef= .slice none 0 0:=h6 i el k _ hi hk;exact ahS
      ·rw[P1 qU]at hx;exact t3.jr hN (h6 i el j' x hi hx)
     ·rw[P1 hj]at C1;exact t3.jr hN (h6 j e' j' x C1 hx)
  ·have live: ∀ {k':Nat} {b0:cC},br H1 id (some (.az zr (l.set i (el.set k (.own (2*nx)))))) k'=some b0->∃b1,H1 k'=some b1:=by
    intro k' b0 h;by_cases qU:k'=id
    ·subst qU;exact⟨_,Ly⟩
    ·rw[aG _ _ _ qU]at h;exact⟨b0,h⟩
   obtain⟨b1,h1⟩:=live hi;obtain⟨b2,h2⟩:=live hj;exact hN.inj p q b b1 b2 h1 h2 bi bj
 refine⟨Fw.bg N (2*nx),⟨q1,q2,q0,cW β (2*nx) none,?_,?_⟩,λiQ h=>?_⟩
 ·exact ajR
 ·rw[Hp.au,xS];exact h3
 ·rcases h with h|h
  ·exact Nat.lt_succ_of_lt (q5 _ h)
  ·rw[h,jP];exact Nat.lt_succ_self _
def CP {E E':dS}{hp Gv:Hp}{nx n':Nat}{m:List (Nat × Nat)}{ks:List Nat}(e8:cZ m hp.get Gv.get)(hn: ∀q∈m,tag q.2<n')(hE:eZ m E.get ks=some E'):bu ⟨E,hp,nx⟩ ⟨E',Gv,n'⟩:=by
 rintro F nt a w ⟨N,⟨q1,q2,q0,β,q3,q4⟩,q5⟩;refine⟨yH m,⟨q1,q2,q0,pR m β,λs d' e=>?_,e8.nC q4⟩,?_⟩
 ·exact abW
 ·rintro n ⟨o,ho⟩;exact hn _ ho
def cZ.aen {un:Nat}{m:List (Nat × Nat)}{H:HF}{Y R:Hp}{z:Nat}{l l':List (List DC)}(hT:Cj R)(hm:Jf ((un,9)::m)=true)(h9:H un=some (.az z l))(hl:fC ((un,9)::m++mZ R) l=some l')
  (hY:jY ((un,9)::m++mZ R) H m=some Y)(hYk:(ah Y).all J4=true)(hR: ∀k∈ah R,H k=R.get k):cZ ((un,9)::m++mZ R) H (Hp.get ((9,some (.az z l'))::Y++R)):=by
 have:=cZ.tail (Y:=(9,some (.az z l'))::Y) (H:=H) hT hm (λn b' e=>?_) (λn hn=>?_) hR
 ·exact this
 ·rw[Hp.au]at e;by_cases hn:n=9
  ·subst hn;rw[an]at e;cases e;refine⟨un,_,je,h9,?_⟩;show(match fC ((un,9)::m++mZ R) l with|some l'=>some (cC.az z l')|none=>none)=_;rw[hl]
  ·rw[aG _ _ _ hn]at e;obtain⟨o,b,g1,g2,g3⟩:=pt hY e;exact⟨o,b,jt _ g1,g2,g3⟩
 ·rcases cF.1 hn with rfl|hn
  ·rfl
  ·exact tM.1 hYk n hn
end Go.Fw
namespace Go.Fw
section
variable {F:gG}{β:Nat->Option Nat}{N:Nat->Prop}{H H':HF}{w:World}
structure mR (β:Nat->Option Nat)(H H':HF):Prop where
 st: ∀b o,fR β H b o->fR β H' b o
 sz: ∀id blk' z n,H' id=some blk'->blk'.sz=some (z,n)->∃bC,H id=some bC/\bC.sz=some (z,n)
def mR.mv (h:mR β H H'):(MV F β H w).le (MV F β H' w):=by
 intro b o v e;unfold MV at e ⊢;split at e
 ·rename_i hm;rw[if_pos hm];split at e
  ·rename_i hs;rw[if_pos (h.st b o hs)];exact e
  grind
 grind
def mR.mr (h:mR β H H'):(MR F β H w).le (MR F β H' w):=by
 intro b o v e;unfold MR at e ⊢;split at e
 ·rename_i hm;rw[if_pos hm];exact h.mv b o v e
 grind
theorem mR.jr (h:mR β H H'){v:Value}{d:DC}(hr:cw F β N H w v d):cw F β N H' w v d:=by
 cases d with
 |st c=>exact dw.mono h.mv h.mr hr
 |nil=>exact hr
 |ptr=>exact hr
 |own id=>
  obtain⟨a,b,c⟩:=hr;exact⟨a,b,λbC z n e hz=>by obtain⟨nQ,e0,z0⟩:=h.sz id bC z n e hz;grind⟩
 |cK=>exact hr
 |mp=>exact hr
 |sS=>exact hr
def mR.sD (h:mR β H H'){v:Value}{x:DX}(hr:ar F β N H w v x):ar F β N H' w v x:=by
 unfold ar at hr ⊢;split at hr
 ·rename_i hx;rw[if_pos hx];obtain⟨arr,h1,h2,h3⟩:=hr;exact⟨arr,h1,h2,λk c hc=>h.jr (h3 k c hc)⟩
 ·rename_i hx;rw[if_neg hx];obtain⟨c,h1,h2⟩:=hr;exact⟨c,h1,h.jr h2⟩
theorem mR.wv (h:mR β H H'){v:Value}{d:DV}(hr:co F β N H w v d):co F β N H' w v d:=by
 cases d with
 |val x=>exact h.sD hr
 |aI l=>
  obtain⟨arr,h1,h2,h3⟩:=hr;exact⟨arr,h1,h2,λk c hc=>h.sD (h3 k c hc)⟩
theorem mR.heap (hR:ad F β N H w){id:Nat}{b b':cC}(hB:H id=some b)(hs:mR β H (br H id (some b')))(hb:ir F β N (br H id (some b')) w id b'):ad F β N (br H id (some b')) w:=by
 refine⟨λi bC e=>?_,λp q b1 x y hi hj bi bj=>?_,hR.below,λb o v e=>?_⟩
 ·by_cases hi:i=id
  ·subst hi;rw[an]at e;cases e;exact⟨(hR.rel i b hB).1,hb⟩
  ·rw[aG _ _ _ hi]at e;obtain⟨hn,hb⟩:=hR.rel i bC e;refine⟨hn,?_⟩
   cases bC with
   |box ty cs=>
    obtain⟨b,arr,T',h1,h2,h3,h4,h5⟩:=hb;exact⟨b,arr,T',h1,h2,h3,h4,λk x hx=>hs.jr (h5 k x hx)⟩
   |dX cs=>
    obtain⟨b,arr,T',h1,h2,h3,h4,h5⟩:=hb;exact⟨b,arr,T',h1,h2,h3,h4,λk x hx=>(h5 k x hx).mono hs.mv hs.mr⟩
   |row m z c=>
    obtain⟨h0,h1|⟨b,cap,h1,h2,arr,T',q1,q2,q3,q4,q5,q6,q7⟩⟩:=hb
    ·exact⟨h0,.inl h1⟩
    ·exact⟨h0,.inr ⟨b,cap,h1,h2,arr,T',q1,q2,q3,q4,q5,q6,λi e j x he hx=>(q7 i e j x he hx).mono hs.mv (Mem.le_refl _)⟩⟩
   |az z l=>
    obtain⟨h0,h1|⟨b,cap,arr,T',h1,h2,q1,q2,q3,q4⟩⟩:=hb
    ·exact⟨h0,.inl h1⟩
    ·exact⟨h0,.inr ⟨b,cap,arr,T',h1,h2,q1,q2,q3,λi e j x he hx=>hs.jr (q4 i e j x he hx)⟩⟩
   |map es=>
    obtain⟨b,arr,ck,h1,h2,h3,h4,h5⟩:=hb;exact⟨b,arr,ck,h1,h2,h3,h4,λi k x e hi he=>let⟨a1,a2⟩:=h5 i k x e hi he;⟨a1,a2.mono hs.mv hs.mr⟩⟩
 ·have live: ∀ {k':Nat} {b0:cC},br H id (some b') k'=some b0->∃b1,H k'=some b1:=by
   grind[aG]
  obtain⟨b2,h1⟩:=live hi;obtain⟨b3,h2⟩:=live hj;exact hR.inj p q b1 b2 b3 h1 h2 bi bj
 ·obtain⟨e1,e2⟩:=hR.tD b o v e;exact⟨e1,λhm=>hs.st b o (e2 hm)⟩
end
def Oe {β:Nat->Option Nat}{H:HF}{id:Nat}{b b':cC}(hB:H id=some b)(h1: ∀o,¬b.tC o)(h2:b'.sz=b.sz):mR β H (br H id (some b')):=by
 refine⟨λc o hs i bC e hb=>?_,λi bC z n e hz=>?_⟩
 ·by_cases hi:i=id
  ·subst hi;exact(h1 o (hs i b hB hb)).elim
  ·rw[aG _ _ _ hi]at e;exact hs i bC e hb
 grind[an,aG]
def Of {E:dS}{Hh:Hp}{nx:Nat}(id:Nat){z:Nat}{V:List (List SC)}(hB:Hh.get id=some (.row true z (.view V))):bu ⟨E,Hh,nx⟩ ⟨E,(id,some (.az z (V.map λe=>e.map .st)))::Hh,nx⟩:=by
 rintro F nt a w ⟨N,⟨q1,q2,q0,β,q3,q4⟩,q5⟩;have hs:mR β Hh.get (br Hh.get id (some (.az z (V.map λe=>e.map .st)))):=Oe hB (λo h=>by cases h.1) (by simp[cC.sz,SC.len]);refine⟨N,⟨q1,q2,q0,β,?_,?_⟩,q5⟩
 ·exact aiC
 ·rw[Hp.au];refine mR.heap q4 hB hs ?_;obtain⟨_,⟨h1,h2,h3⟩,hc⟩:=q4.rel id _ hB;refine⟨⟨h1,λi e he=>?_⟩,?_⟩
  ·rw[gA,m7]at he;obtain⟨e0,PW,rfl⟩:=he;rw[jf];exact h3 i e0 PW
  ·rcases hc with⟨a1,a2⟩|⟨b,cap,a1,a2,arr,T,b1,b2,b3,b4,b5,b6,b7⟩
   ·exact .inl ⟨a1,by rw[jf];exact a2⟩
   ·refine .inr ⟨b,cap,arr,T,a1,a2,b1,b2,by rw[jf];exact b5,λi e k x he hx=>?_⟩;rw[gA,m7]at he;obtain⟨e0,PW,rfl⟩:=he;rw[gA,m7]at hx;obtain⟨x0,Sm,rfl⟩:=hx;exact(b7 i e0 k x0 PW Sm).mono hs.mv (dZ _)
section
variable {C:bS}{f:FuncId}{fid nx:Nat}{xs:List DX}{T T':Hp}{r:DV}{H:HF}
def IJ (h:bA C f nx xs T [] r T')(hT:Na T)(eP:Na T')(io:1<=nx)(hs: ∀id∈ah T,T.get id=H id)(Cv: ∀x∈xs,ec (· ∈ah T) x)(hr:lH (· ∈ah T') r):
  bI C fid f xs H (LA (aq (Fw.tag fid) 0) r) (cH T (cT (aq (Fw.tag fid) 0) T')) (ah T):=by
 have hi:=eP.inj (Fw.tag fid);have hg:=h.out (nf.new eP hi) hr λid hid=>by grind
 have mb: ∀k∈ah T',aq (Fw.tag fid) 0 k∈([]:List Nat)\/Fw.tag (aq (Fw.tag fid) 0 k)=Fw.tag fid:=λk hk=>.inr (eP.tag hk);refine gr hg (λid hid=>by rw[(hT.lt id hid).2.2];omega) hs hT.dQ Cv (λid hid=>by grind) (λid hid=>?_) (λid b e=>?_) (yN (rK mb hr))
 ·exact ai3
 ·exact K92
end
end Go.Fw
namespace Go.Plain
open Go.Lib
variable {α β γ δ ε:Type}
def Wp {x:Option α}{y:Option β}{z:Option γ}:(x.bind λa=>y.bind λb=>z.map λc=>(a,b,c)).isSome =((x.isSome&&y.isSome)&&z.isSome):=by cases x<;>cases y<;>cases z<;>rfl
def ado {x:Option α}{y:Option β}{z:Option γ}{a:α}{b:β}{c:γ}(h:(x.bind λa=>y.bind λb=>z.map λc=>(a,b,c))=some (a,b,c)):x=some a/\y=some b/\z=some c:=by
 cases x<;>cases y<;>cases z<;>simp at h
 grind
def IK {x:Option α}{y:Option β}{z:Option γ}{w:Option δ}:(x.bind λa=>y.bind λb=>z.bind λc=>w.map λd=>(a,b,c,d)).isSome =(((x.isSome&&y.isSome)&&z.isSome)&&w.isSome):=by cases x<;>cases y<;>cases z<;>cases w<;>rfl
def Ks {x:Option α}{y:Option β}{z:Option γ}{w:Option δ}{a:α}{b:β}{c:γ}{d:δ}(h:(x.bind λa=>y.bind λb=>z.bind λc=>w.map λd=>(a,b,c,d))=some (a,b,c,d)):x=some a/\y=some b/\z=some c/\w=some d:=by
 cases x<;>cases y<;>cases z<;>cases w<;>simp at h
 grind
def IL {s x y z:aj}(h:aH 32 s= [x,y,z]):LD s=(wN false 13 x).bind λa=>(wN true 13 y).bind λb=>(wN false 13 z).map λc=>(a,b,c):=by grind[LD]
def T8 {s:aj}(h:(aH 32 s).length ≠3):LD s=none:=by unfold LD;grind
def Wq {f:aj->Option α}{l:List aj}{i:Nat}(h:i<l.length):(fO f (l.take (i+1))).isSome =((fO f (l.take i)).isSome &&(f (l.getD i [])).isSome):=by
 rw[xf h [],yW,Et];cases fO f (l.take i)<;>cases f (l.getD i [])<;>rfl
theorem aad {f:aj->Option α}{l:List aj}{i:Nat}(h:i<l.length){xs:List α}{n:α}(hx: ∀x,fO f (l.take i)=some x->x=xs)(hn: ∀x,f (l.getD i [])=some x->x=n): ∀x,fO f (l.take (i+1))=some x->x=xs++[n]:=by
 intro x e;rw[xf h [],yW,Et]at e
 cases h1:fO f (l.take i)with
 |none=>grind
 |some y=>
  rw[h1]at e
  cases h2:f (l.getD i [])with
  |none=>grind
  |some z=>
   grind
def Ua {s:aj}{p:aj}{ps:List aj}(h:aH 59 s=p::ps)(h5:(aH 32 p).length =5):E5 s=adk ((aH 32 p).getD 0 []) (sJ (aH 32 p)) (fO LD ps):=by unfold E5;grind
def Ub {s:aj}{p:aj}{ps:List aj}(h:aH 59 s=p::ps)(h5:(aH 32 p).length ≠5):E5 s=none:=by unfold E5;grind
theorem zj {nm:aj}{x:Option (Int × Int × (Int × Int) × (Int × Int))}{y:Option (List Pu)}(h:(x.isSome&&y.isSome)=false):adk nm x y=none:=by
 cases x with
 |none=>rfl
 |some a=>cases y with
  |none=>rfl
  |some b=>cases h
theorem jU {s:aj}(h:E5 s=none):CO s=(G2,7):=by grind[CO]
def Fa {s:aj}{x:G1}(h:E5 s=some x):CO s=if(mO x).2=0 then(x,0)else(G2,(mO x).2):=by grind[CO]
end Go.Plain
namespace Go.Plain
open Go.Lib
def Wr {nm:aj}{o:Option (Int × Int × (Int × Int) × (Int × Int))}{q:Option (List Pu)}{x:G1}(h:adk nm o q=some x): ∃a b c d l,o=some (a,b,c,d)/\q=some l/\x=⟨nm,a,b,c,d,l⟩:=by
 cases o with
 |none=>cases q<;>cases h
 |some v=>
  obtain⟨a,b,c,d⟩:=v
  cases q with
  |none=>cases h
  |some l=>cases h;grind
theorem zk {s:aj}{p:Int × Int}(h:pY s=some p):El p.1/\El p.2:=by
 obtain⟨⟨a,ha⟩,b,hb⟩:=Az h;exact⟨Io bX ha,Io bX hb⟩
theorem aae {w:List aj}{a b:Int}{c d:Int × Int}(h:sJ w=some (a,b,c,d)):(El c.1/\El c.2)/\El d.1/\El d.2:=by grind[sJ,Option.bind_eq_some_iff,Option.map_eq_some_iff,zk]
def zl {α:Type}{l:List α}{i:Nat}{d:α}(h:i<l.length):l.getD i d∈l:=by grind
def aaf (s:aj):((CO s).1.name.length <=s.length/\(CO s).1.ps.length <=s.length+1)/\(El (CO s).1.lo.1 /\El (CO s).1.lo.2)/\El (CO s).1.hi.1 /\El (CO s).1.hi.2 :=by
 have z:El 0:=by grind[El]
 have h0:(G2.name.length<=s.length/\G2.ps.length<=s.length+1)/\(El G2.lo.1/\El G2.lo.2)/\El G2.hi.1/\El G2.hi.2:=⟨⟨dz _,dz _⟩,⟨z,z⟩,z,z⟩
 cases e:E5 s with
 |none=>grind[jU]
 |some x=>
  rw[Fa e];by_cases h:(mO x).2=0
  ·rw[if_pos h];unfold E5 at e;dsimp only at e;by_cases h5:(aH 32 ((aH 59 s).getD 0 [])).length =5
   ·rw[if_pos h5]at e;obtain⟨a,b,c,d,l,h1,h2,rfl⟩:=Wr e
    grind[aae,yX,cj,List.length_drop]
   grind
  grind
end Go.Plain
namespace Go.Plain
def fF (p:Int->Bool)(l:List Int)(a:Nat):Int:=if(l.drop a).any p then(a:Int)+((l.drop a).findIdx p:Nat)else -1
def vJ {p:Int->Bool}{l:List Int}{j:Nat}(h:j<l.length):fF p l j=if p (l.getD j 0)then(j:Int)else fF p l (j+1):=by
 unfold fF;rw[XM h]
 grind
theorem Kv (p:Int->Bool)(l:List Int):fF p l l.length= -1:=by grind[fF]
def adp {p:Int->Bool}{l:List Int}: ∀ {n a:Nat},l.length -a=n->a<=l.length->(fF p l a= -1/\∀j,a<=j->j<l.length->p (l.getD j 0)=false)\/(∃k:Nat,fF p l a=k/\a<=k/\k<l.length/\p (l.getD k 0)=true/\∀j,a<=j->j<k->p (l.getD j 0)=false):=by
 intro n
 induction n with
 |zero=>
  intro a hn ha;have:a=l.length:=by omega
  grind[Kv]
 |succ n ih=>
  intro a hn ha;have al:a<l.length:=by omega
  rw[vJ al];by_cases hp:p (l.getD a 0)=true
  grind
  ·rw[if_neg hp];have hp:p (l.getD a 0)=false:=by grind
   rcases ih (a:=a+1) K0 K0 with⟨h1,h2⟩|⟨k,h1,h2,h3,h4,h5⟩
   grind
   grind
def aah (p:Int->Bool)(l:List Int){a:Nat}(ha:a<=l.length): -1<=fF p l a/\fF p l a<l.length:=by rcases adp (p:=p) rfl ha with⟨h,_⟩|⟨k,h,_,h2,_⟩<;>omega
def CQ (l:List Int):Nat->Nat
 |0=>0
 |i+1=>if l.getD i 0>l.getD (CQ l i) 0 then i else CQ l i
def AO {l:List Int}: ∀ {i:Nat},0<i->CQ l i<i
 |1,_=>by grind[CQ]
 |i+2,_=>by
  have:=AO (l:=l) (i:=i+1) K0
  grind[CQ]
def Uc {l:List Int}: ∀ {i:Nat} {j:Nat},j<i->l.getD j 0<=l.getD (CQ l i) 0
 |i+1,j,hj=>by
  unfold CQ;by_cases e:j=i
  grind
  ·have:=Uc (l:=l) (i:=i) (j:=j) K0
   grind
def IM {l:List Int}: ∀ {i:Nat} {j:Nat},j<CQ l i->l.getD j 0<l.getD (CQ l i) 0
 |0,j,hj=>by grind[CQ]
 |i+1,j,hj=>by
  unfold CQ at hj ⊢;split
  ·rename_i h;rw[if_pos h]at hj;have:=Uc (l:=l) (i:=i) (j:=j) hj;omega
  ·rename_i h;rw[if_neg h]at hj;exact IM hj
def pk (l:List Int):Nat:=CQ l l.length
def pI (l:List Int):Int:=l.getD (pk l) 0
abbrev Qn:Type:=Int × Int
def pZ (x y:Qn):Prop:=x.1*y.2<y.1*x.2
instance (x y:Qn):Decidable (pZ x y):=by unfold pZ;infer_instance
def zx (x y:Qn):Qn:=if pZ x y then y else x
def zy (x y:Qn):Qn:=if pZ y x then y else x
abbrev Iv:Type:=Qn × Qn
def tg (s o:Iv):Iv:=(zx s.1 o.1,zy s.2 o.2)
def km (s:Iv):Prop:=pZ s.2 s.1
instance (s:Iv):Decidable (km s):=by unfold km;infer_instance
def lD (n d:Int):Qn:=(fu n d,eE n d)
def agz:Iv:=((1,1),(0,1))
def oW (s:Iv)(n m:Int):Iv:=if n>0 then(s.1,zy s.2 (lD m n))else if n<0 then(zx s.1 (lD (-m) (-n)),s.2)else if m<0 then agz else s
def atS (F:Iv)(e x y:Int):Iv:=oW (oW F (x -e) (y+e)) (-x -e) (e -y)
def Rg (s:Iv)(n m:Int):Option Iv:=if n=0/\m<0 then none else if km (oW s n m)then none else some (oW s n m)
def IP (s:Iv)(e x y:Int):Option Iv:=(Rg s (x -e) (y+e)).bind λs=>Rg s (-x -e) (e -y)
abbrev nk (x:Qn):Prop:=0<x.2
abbrev nM (s:Iv):Prop:=nk s.1/\nk s.2
def uM {x y z:Qn}(hx:nk x)(hy:nk y)(hz:nk z)(h1: ¬pZ y x)(h2:pZ y z):pZ x z:=by
 unfold pZ at*;obtain⟨a,b⟩:=x;obtain⟨c,d⟩:=y;obtain⟨p,q⟩:=z;simp only at*;refine aeq (a:=d) ?_ K0;have e1:a*d*q<=c*b*q:=XI K0 K0;have e2:c*q*b<p*d*b:=Sr h2 hx
 grind
def pK {x y z:Qn}(hx:nk x)(hy:nk y)(hz:nk z)(h1:pZ x y)(h2: ¬pZ z y):pZ x z:=by
 unfold pZ at*;obtain⟨a,b⟩:=x;obtain⟨c,d⟩:=y;obtain⟨p,q⟩:=z;simp only at*;refine aeq (a:=d) ?_ K0;have e1:a*d*q<c*b*q:=Sr h1 hz;have e2:c*q*b<=p*d*b:=XI K0 K0
 grind
theorem AT (x:Qn): ¬pZ x x:=by grind[pZ]
theorem CR {x y:Qn}(h:pZ x y): ¬pZ y x:=by grind[pZ]
def le_trans' {x y z:Qn}(hx:nk x)(hy:nk y)(hz:nk z)(h1: ¬pZ y x)(h2: ¬pZ z y): ¬pZ z x:=λh=>h2 (pK hz hx hy h h1)
def aam {x y:Qn}(hx:nk x)(hy:nk y):nk (zx x y):=by grind[zx]
def aan {x y:Qn}(hx:nk x)(hy:nk y):nk (zy x y):=by grind[zy]
def ald {x y:Qn}: ¬pZ (zx x y) x:=by grind[zx,CR]
def amO {x y:Qn}: ¬pZ (zx x y) y:=by grind[zx,AT]
def ale {x y:Qn}: ¬pZ x (zy x y):=by grind[zy,CR]
def amP {x y:Qn}: ¬pZ y (zy x y):=by grind[zy,AT]
theorem aao {x y z:Qn}(hx:nk x)(hy:nk y)(hz:nk z):zx (zx x y) z=zx x (zx y z):=by
 by_cases h1:pZ x y
 ·rw[show zx x y=y from if_pos h1];by_cases h2:pZ y z
  ·rw[show zx y z=z from if_pos h2,show zx x z=z from if_pos (uM hx hy hz (CR h1) h2)]
  ·rw[show zx y z=y from if_neg h2,show zx x y=y from if_pos h1]
 ·rw[show zx x y=x from if_neg h1];by_cases h2:pZ y z
  ·rw[show zx y z=z from if_pos h2]
  ·rw[show zx y z=y from if_neg h2,show zx x y=x from if_neg h1];exact if_neg (λh=>h2 (uM hy hx hz h1 h))
theorem aap {x y z:Qn}(hx:nk x)(hy:nk y)(hz:nk z):zy (zy x y) z=zy x (zy y z):=by
 by_cases h1:pZ y x
 ·rw[show zy x y=y from if_pos h1];by_cases h2:pZ z y
  ·rw[show zy y z=z from if_pos h2,show zy x z=z from if_pos (pK hz hy hx h2 (CR h1))]
  ·rw[show zy y z=y from if_neg h2,show zy x y=y from if_pos h1]
 ·rw[show zy x y=x from if_neg h1];by_cases h2:pZ z y
  ·rw[show zy y z=z from if_pos h2]
  ·rw[show zy y z=y from if_neg h2,show zy x y=x from if_neg h1];exact if_neg (λh=>h2 (pK hz hx hy h h1))
theorem zA {n d:Int}(h:0<d):nk (lD n d):=xj h
theorem ads:nM agz:=⟨by decide,by decide⟩
theorem oX {s:Iv}{n m:Int}(h:nM s):nM (oW s n m):=by
 unfold oW;split
 ·exact⟨h.1,aan h.2 (zA K0)⟩
 ·split
  ·exact⟨aam h.1 (zA K0),h.2⟩
  grind[ads]
def CS {s o:Iv}(h:nM s)(k:nM o):nM (tg s o):=⟨aam h.1 k.1,aan h.2 k.2⟩
def aaq {F:Iv}{e x y:Int}(h:nM F):nM (atS F e x y):=oX (oX h)
def ko (o s:Iv):Prop:=¬pZ o.1 s.1/\¬pZ s.2 o.2
theorem r8 {o s:Iv}(ho:nM o)(hs:nM s)(h:ko o s)(he:km s):km o:=by
 unfold km at*;exact pK ho.2 hs.1 ho.1 (uM ho.2 hs.2 hs.1 h.2 he) h.1
def uN (s:Iv):ko s s:=⟨AT _,AT _⟩
theorem r9 {a b c:Iv}(ha:nM a)(hb:nM b)(hc:nM c)(h:ko a b)(k:ko b c):ko a c:=
 ⟨le_trans' hc.1 hb.1 ha.1 k.1 h.1,le_trans' ha.2 hb.2 hc.2 h.2 k.2⟩
def KD (s o:Iv):ko (tg s o) s:=⟨ald,ale⟩
def zB (s o:Iv):ko (tg s o) o:=⟨amO,amP⟩
theorem AU {s:Iv}{n m:Int}(h: ¬(n=0/\m<0)):ko (oW s n m) s:=by
 unfold oW;split
 ·exact⟨AT _,ale⟩
 ·split
  ·exact⟨ald,AT _⟩
  ·rw[if_neg K0];exact uN s
theorem aar {s:Iv}{n m:Int}(hp:nM s)(h:km s):km (oW s n m):=by
 by_cases k:n=0/\m<0
 ·unfold oW;rw[if_neg K0,if_neg K0,if_pos k.2];decide
 grind[r8,oX,AU]
def Oq {s F:Iv}(h:ko s F):tg s F=s:=by
 unfold tg zx zy;rw[if_neg h.1,if_neg h.2]
theorem aas {s F:Iv}{n m:Int}(hs:nM s)(hF:nM F)(h: ¬(n=0/\m<0)):oW (tg s F) n m=tg s (oW F n m):=by
 unfold oW;by_cases h1:n>0
 ·rw[if_pos h1,if_pos h1]
  grind[tg,aap,zA]
 ·rw[if_neg h1,if_neg h1];by_cases h2:n<0
  ·rw[if_pos h2,if_pos h2]
   grind[tg,aao,zA]
  grind
def adt {s F:Iv}{e x y:Int}(hs:nM s)(hF:nM F)(hw:ko s F)(anM: ¬km s):
  (∃o,IP s e x y=some o/\tg s (atS F e x y)=o/\¬km o/\ko o s)\/(IP s e x y=none/\km (tg s (atS F e x y))):=by
 unfold IP atS;by_cases k1:x -e=0/\y+e<0
 ·right;have hn:km (oW F (x -e) (y+e)):=by unfold oW;rw[if_neg K0,if_neg K0,if_pos k1.2];decide
  have hp:=oX (n:=x -e) (m:=y+e) hF;refine⟨by unfold Rg;grind,r8 (CS hs (oX hp)) (oX hp) (zB _ _) (aar hp hn)⟩
 ·have e1:tg s (oW F (x -e) (y+e))=oW s (x -e) (y+e):=by rw[<- aas hs hF k1,Oq hw]
  have hp1:=oX (n:=x -e) (m:=y+e) hs;have hpF:=oX (n:=x -e) (m:=y+e) hF;have w1:ko (oW s (x -e) (y+e)) s:=AU k1;by_cases k2: -x -e=0/\e -y<0
  ·right
   have hn:km (oW (oW F (x -e) (y+e)) (-x -e) (e -y)):=by
    generalize oW F (x -e) (y+e)=G;unfold oW;rw[if_neg K0,if_neg K0,if_pos k2.2];decide
   refine⟨?_,r8 (CS hs (oX hpF)) (oX hpF) (zB _ _) hn⟩;unfold Rg
   grind
  ·have e2:tg s (oW (oW F (x -e) (y+e)) (-x -e) (e -y))=oW (oW s (x -e) (y+e)) (-x -e) (e -y):=by grind[aas]
   rw[e2];have hp2:=oX (n:= -x -e) (m:=e -y) hp1;have w2:ko (oW (oW s (x -e) (y+e)) (-x -e) (e -y)) (oW s (x -e) (y+e)):=AU k2;unfold Rg;rw[if_neg k1];by_cases h1:km (oW s (x -e) (y+e))
   ·right;rw[if_pos h1]
    grind[aar]
   ·rw[if_neg h1];simp only[Ma];rw[if_neg k2];by_cases h2:km (oW (oW s (x -e) (y+e)) (-x -e) (e -y))
    grind
    ·left;rw[if_neg h2]
     grind[r9]
def uO (F:Iv)(e:Int):List (Int × Int)->Iv->Iv
 | [],s=>s
 |p::l,s=>uO F e l (tg s (atS F e p.1 p.2))
def sc (e:Int):List (Int × Int)->Option Iv->Option Iv
 | [],s=>s
 |p::l,s=>sc e l (s.bind λs=>IP s e p.1 p.2)
theorem zC (e:Int): ∀l,sc e l none=none
 | []=>rfl
 |_::l=>zC e l
theorem Fj {F:Iv}{e:Int}(hF:nM F): ∀(l:List (Int × Int)) {s:Iv},nM s->ko (uO F e l s) s/\nM (uO F e l s)
 | [],_,hs=>⟨uN _,hs⟩
 |p::l,s,hs=>by
  have hp:=CS hs (aaq (e:=e) (x:=p.1) (y:=p.2) hF);obtain⟨h1,h2⟩:=Fj hF l hp;exact⟨r9 h2 hp hs h1 (KD _ _),h2⟩
def Ue {F:Iv}{e:Int}(hF:nM F): ∀(l:List (Int × Int)) {s:Iv},nM s->ko s F->¬km s->(∃o,sc e l (some s)=some o/\uO F e l s=o/\¬km o)\/(sc e l (some s)=none/\km (uO F e l s))
 | [],s,_,_,gk=>.inl ⟨s,rfl,rfl,gk⟩
 |p::l,s,hs,hw,gk=>by
  have hp:=CS hs (aaq (e:=e) (x:=p.1) (y:=p.2) hF)
  rcases adt (e:=e) (x:=p.1) (y:=p.2) hs hF hw gk with⟨o,h1,h2,h3,h4⟩|⟨h1,h2⟩
  ·rw[h2]at hp;have:=Ue (e:=e) hF l hp (r9 hp hs hF h4 hw) h3
   grind[sc,uO]
  grind[sc,uO,Fj,zC,r8]
def Rl (l:List Pu)(q:Nat):rW l q=(l.map λp=>(p.2.1.natAbs:Int)).countP λx=>decide ((q:Int)<=x):=by
 unfold rW;rw[List.countP_map,List.countP_eq_length_filter];rfl
def Uj {l:List Pu}{n:Int}{v:Nat}(h0:0<v)(h:n<=rW l v): ∀ {Q:Nat},v<=Q->(∀q,v<q->q<=Q->¬n<=rW l q)->qK l n Q=v
 |0,hv,_=>by omega
 |Q+1,hv,h'=>by
  unfold qK;by_cases e:v=Q+1
  grind
  ·rw[if_neg (h' (Q+1) K0 (dG _))];exact Uj h0 h K0 λq h1 h2=>h' q h1 K0
def srt (l:List Int):List Int:=l.mergeSort λx y=>decide (x<=y)
def OC (l:List Int):(srt l).Perm l:=List.mergeSort_perm l _
def agG (l:List Int):(srt l).Pairwise λx y=>x<=y:=by
 have:=List.pairwise_mergeSort (le:=λx y:Int=>decide (x<=y)) (λa b c h1 h2=>by grind) (λa b=>by grind) l;exact this.imp λh=>by grind
def Rm {l:List Pu}{n:Nat}(h1:1<=n)(h2:n<=l.length)(hb: ∀p∈l,1<=p.2.1.natAbs/\p.2.1.natAbs<=4096):
  (srt (l.map λp=>(p.2.1.natAbs:Int))).getD (l.length -n) 0=(qK l n 4096:Nat):=by
 have hc:=Rl l;have hp:=OC (l.map λp=>(p.2.1.natAbs:Int));have hs:=agG (l.map λp=>(p.2.1.natAbs:Int));have hm: ∀x∈srt (l.map λp=>(p.2.1.natAbs:Int)),1<=x/\x<=4096:=λx hx=>by grind
 have hl:=hp.length_eq;rw[jf]at hl;have abE: ∀q:Nat,rW l q=(srt (l.map λp=>(p.2.1.natAbs:Int))).countP λx=>decide ((q:Int)<=x):=λq=>by rw[hc,hp.countP_eq]
 generalize srt (l.map λp=>(p.2.1.natAbs:Int))=ss at*;have hk:l.length -n<ss.length:=by omega
 obtain⟨k,hke⟩: ∃k,k=l.length -n:=⟨_,rfl⟩;rw[<- hke]at hk ⊢;have hg:ss.getD k 0=ss[k]:=by grind
 have hv:=hm _ (pd hk);rw[hg];obtain⟨v,hve⟩: ∃v:Nat,ss[k]=v:=⟨ss[k].toNat,by omega⟩;rw[hve]at hv ⊢
 have hge: ∀j (hj:j<ss.length),k<=j->(v:Int)<=ss[j]:=λj hj hkj=>by
  rw[<- hve];rcases Nat.lt_or_eq_of_le hkj with h|rfl
  ·exact XU.1 hs k j hk hj h
  omega
 have eA: ∀j (hj:j<ss.length),j<=k->ss[j]<=(v:Int):=λj hj hkj=>by
  rw[<- hve];rcases Nat.lt_or_eq_of_le hkj with h|rfl
  ·exact XU.1 hs j k hj hk h
  omega
 congr 1;symm;refine Uj K0 ?_ K0 λq hq1 hq2=>?_
 ·rw[abE];have e:ss=ss.take k++ss.drop k:=(L2 k ss).symm
  have hd:(ss.drop k).countP (λx=>decide ((v:Int)<=x))=(ss.drop k).length :=by
   rw[List.countP_eq_length];intro a ha;obtain⟨j,hj,rfl⟩:=SO ha;rw[List.getElem_drop];simp only[S7]at hj;simpa using hge (k+j) K0 K0
  grind
 ·rw[abE];have e:ss=ss.take (k+1)++ss.drop (k+1):=(L2 (k+1) ss).symm
  have hd:(ss.take (k+1)).countP (λx=>decide ((q:Int)<=x))=0:=by
   rw[List.countP_eq_zero];intro a ha;obtain⟨j,hj,rfl⟩:=SO ha
   grind
  grind
def aax {a b:Int × Int}(h:(o9 a b).2=0):a.2=0/\b.2=0:=by
 unfold o9 at h
 grind
def CT {x:G1}(h:(mO x).2=0):(1<=x.least/\x.least<=60)/\x.ps.length<=60/\(∀p∈x.ps,1<=p.2.1.natAbs/\p.2.1.natAbs<=4096)/\
  ((1<=x.lo.1/\x.lo.1<=1000000000)/\1<=x.lo.2/\x.lo.2<=1000000000)/\(1<=x.hi.1/\x.hi.1<=1000000000)/\1<=x.hi.2/\x.hi.2<=1000000000:=by
 obtain⟨h1,h2⟩:=aax h;obtain⟨_,h3⟩:=wE.1 h1;obtain⟨a1,h4⟩:=wE.1 h3;obtain⟨a2,a3⟩:=wE.1 h4;have b1:(1<=x.per/\x.per<=1000000)/\1<=x.least/\x.least<=60:=by omega
 have b3:x.ps.length<=60:=by omega
 refine⟨b1.2,b3,λp hp=>?_,?_⟩
 grind[List.getElem_of_mem,oQ,zh]
 grind[N9]
noncomputable def adw (x:G1):Int × Int:=if(mO x).2=0 then(if x.least<=x.ps.length then((qK x.ps x.least 4096:Nat),0)else(0,12))else(0,(mO x).2)
def KJ (l:List Pu)(n:Int): ∀Q:Nat,qK l n Q<=Q
 |0=>dG _
 |Q+1=>by
  unfold qK;split;omega
  ·exact Nat.le_succ_of_le (KJ l n Q)
end Go.Plain
namespace Go.Fw
open Go.RowKit (Below)
open Go.Shelf
variable {P:Program}{gl:tR}
theorem aay {ρ:Ren}(L:Proofs.Lays.n189 P ρ)(e8:iI P (ρ.f 189)=true)(xs:List Int)(h0:0<xs.length)(hl:xs.length<4611686018427387904):nR P gl (ρ.f 189) [(false,[.ints xs])] (.vh 1 (.ints (xs.mergeSort λx y=>decide (x<=y)))):=by
 have bD:(xs.mergeSort λx y=>decide (x<=y)).length =xs.length:=List.length_mergeSort _;refine .inr ⟨.ints xs,rfl,e8,rfl,by simp[SC.len],?_,?_,?_⟩
 ·intro i e he;simp[SC.elem]at he;obtain⟨a,_,rfl⟩:=he;rfl
 ·intro h;exact absurd h (by show xs.length≠0;omega)
 ·intro mv w b cap arr T hb nA fZ hr;have fZ:xs.length<=cap:=fZ;have nA:arr.size=cap:=by omega
  have iR: ∀j,j<xs.length->arr[j]? =some (.int .i64 (xs.getD j 0)):=by
   intro j hj;have h2:=hr j [.lit (.int .i64 (xs.getD j 0))] 0 (.lit (.int .i64 (xs.getD j 0))) (by simp[SC.elem,o8 hj,jX]) rfl;simp only[Bi,tO]at h2;have hj':j<arr.size:=by omega
   have e:arr.getD j undef=arr[j]:=by simp[sT,hj']
   rw[e]at h2;rw[aet hj',ge h2]
  have hH:Sort.Holds (Value.int .i64) w b 0 xs.toArray:=by
   intro j hj;have hj:j<xs.length:=by simpa using hj
   constructor
   ·simp only[World.cell?,hb,j9];rw[iR j hj];simp[jX,hj]
   ·simp[World.frozen?,hb]
  have hbl:b<w.heap.size:=(GB.1 hb).1;refine(Proofs.Any.slices_Sort_int L b 0 cap xs w hH hbl hl).mono λe w' he=>?_;generalize (xs.mergeSort λx y=>decide (x<=y))=ys at*;obtain⟨rfl,n,os,rfl⟩:=he;have xQ:(Sort.ahead w n).heap[b]? =some (.cells arr T):=hb
  have hb2:(Sort.grow (Sort.ahead w n) os).heap[b]? =some (.cells arr T):=by
   show(w.heap++os)[b]? =_;rw[XK hbl];exact hb
  refine⟨rfl,Sort.grow (Sort.ahead w n) os,Sort.putCells (Value.int .i64) 0 ys.toArray arr,?_,?_,by simp[Sort.putCells],?_⟩
  ·refine⟨rfl,rfl,rfl,?_,λc hc=>?_⟩
   ·show w.heap.size<=(w.heap++os).size;simp
   ·show(w.heap++os)[c]? =w.heap[c]?;rw[XK hc]
  ·rw[pS xQ,<- pS hb2];rw[<- pS xQ];unfold Sort.putRow Sort.mapBlock Sort.grow;congr 1;show(w.heap.modify b _)++os=(w.heap++os).modify b _;apply Bk
   ·simp
   ·intro i h1 h2;by_cases hi:i<w.heap.size
    ·rw[aeu ab8,SK,SK,aeu hi]
    ·rw[aer ab8,SK,if_neg K0,aer K0];simp
  intro i e j x he hx;simp only[SC.elem,m7]at he;obtain⟨a,ha,rfl⟩:=he;have hi:i<xs.length:=by have:=(kF.1 ha).1;omega
  cases j with
  |zero=>
   simp at hx;subst hx;have lA:i<arr.size:=by omega
   have hg:(Sort.putCells (Value.int .i64) 0 ys.toArray arr)[i]? =some (.int .i64 a):=by
    simp only[Sort.putCells,Array.getElem?_mapIdx,aet lA,ya,dz,Do,j9,HH];rw[if_pos (by simpa [bD]using hi)]
    have:ys.toArray[i]! =a:=by
     have:=(kF.1 ha);obtain⟨q1,q2⟩:=this;simp[q1,q2]
    rw[this]
   exact amp
  |succ j=>simp at hx
end Go.Fw
namespace Go.Plain
open Go.Lib
def AZ:List aj->Nat->Nat
 |_,0=>0
 | [],_=>0
 |w::r,k+1=>w.length+1+AZ r k
def IZ: ∀ {l:List aj} {k:Nat},k<l.length->AZ l (k+1)=AZ l k+(l.getD k []).length +1
 | [],k,h=>by grind
 |w::r,0,h=>by simp[AZ]
 |w::r,k+1,h=>by
  have:=IZ (l:=r) (k:=k) bw
  grind[AZ]
def I0: ∀(k:Nat) (s:aj),k< (aH 32 s).length ->AZ (aH 32 s) k<=s.length/\s.drop (AZ (aH 32 s) k)=ci k s
 |0,s,_=>⟨by simp[AZ],by simp[AZ,ci]⟩
 |k+1,s,h=>by
  rcases ky 32 s with⟨h1,h2⟩|⟨i,h1,h2,h3⟩
  grind
  ·have h3:aH 32 s=s.take i::aH 32 (s.drop (i+1)):=h3;have hi:(s.take i).length =i:=by grind
   have hd:ci (k+1) s=ci k (s.drop (i+1)):=by grind[ci]
   rw[h3]at h ⊢;obtain⟨a,b⟩:=I0 k (s.drop (i+1)) bw;rw[hd,<- b];show(s.take i).length +1+AZ _ k<=_/\s.drop ((s.take i).length +1+AZ _ k)=_;rw[hi,Yk]
   grind
end Go.Plain
namespace Go.Fw
def OS (d d':DC):Prop:=d'=d\/d'= .st .any
def A6 {F:gG}{β:Nat->Option Nat}{N:Nat->Prop}{H:HF}{w:World}{v:Value}{d d':DC}(h:OS d d')(hr:cw F β N H w v d):cw F β N H w v d':=by
 rcases h with rfl|rfl
 ·exact hr
 ·exact dw.any hr.one_cell
def sr {E:dS}{Hh:Hp}{nx:Nat}(id i:Nat){z:Nat}{l:List (List DC)}{e e':List DC}(hB:Hh.get id=some (.az z l))(hi:l[i]? =some e)(hl:e'.length=e.length)(hc: ∀(k:Nat) (d d':DC),e[k]? =some d->e'[k]? =some d'->OS d d'):
  bu ⟨E,Hh,nx⟩ ⟨E,(id,some (.az z (l.set i e')))::Hh,nx⟩:=by
 rintro F nt a w ⟨N,⟨q1,q2,q0,β,q3,q4⟩,q5⟩;have al:i<l.length:=(kF.1 hi).1;have hs:mR β Hh.get (br Hh.get id (some (.az z (l.set i e')))):=Oe hB (λo h=>h.elim) (by simp[cC.sz]);refine⟨N,⟨q1,q2,q0,β,?_,?_⟩,q5⟩
 ·exact aiC
 ·rw[Hp.au];refine mR.heap q4 hB hs ?_;obtain⟨_,⟨h1,h3⟩,sQ⟩:=q4.rel id _ hB;refine⟨⟨h1,λj x hx=>?_⟩,?_⟩
  ·by_cases hj:i=j
   ·subst hj;rw[C9 al]at hx;cases hx;rw[hl];exact h3 i e hi
   ·rw[P1 hj]at hx;exact h3 j x hx
  ·rcases sQ with⟨a1,a2⟩|⟨b,cap,arr,T,a1,a2,b1,b2,b3,b4⟩
   ·exact .inl ⟨a1,by rw[GD];exact a2⟩
   ·refine .inr ⟨b,cap,arr,T,a1,a2,b1,b2,by rw[GD];exact b3,λj x k d hx hd=>?_⟩;by_cases hj:i=j
    ·subst hj;rw[C9 al]at hx;cases hx;have hk:k<e.length:=by rw[<- hl];exact(kF.1 hd).1
     have hd0:e[k]? =some e[k]:=o8 hk;exact A6 (hc k e[k] d hd0 hd) (hs.jr (b4 i e k e[k] hi hd0))
    ·rw[P1 hj]at hx;exact hs.jr (b4 j x k d hx hd)
theorem bI.Jh {C:bS}{fid:Nat}{f:FuncId}{xs xs':List DX}{H:HF}{r:DV}{u:Hp}{R:List Nat}(h:bI C fid f xs H r u R)(hl:xs'.length=xs.length)
  (hx: ∀(k:Nat) (x x':DX),xs[k]? =some x->xs'[k]? =some x'->x.1=x'.1/\x.2.length=x'.2.length/\∀(j:Nat) (d d':DC),x'.2[j]? =some d->x.2[j]? =some d'->OS d d'):bI C fid f xs' H r u R:=by
 refine⟨h.1,λF β N H' w vs hR hG hH hf nA hv=>h.2 F β N H' w vs hR hG hH hf (by rw[nA,hl]) λk x hk=>?_⟩;have al:=(kF.1 hk).1;have hd:xs'[k]? =some (xs'[k]'K0):=o8 _;obtain⟨h1,h2,h3⟩:=hx k x _ hk hd;have hr:=hv k _ hd;generalize xs'[k]'K0=x' at*;obtain⟨g,ds⟩:=x;obtain⟨g',ds'⟩:=x';simp only at h1 h2 h3;subst h1;unfold ar at hr ⊢;cases g
 ·obtain⟨c,Sk,hr⟩:=hr;simp only at Sk;subst Sk;obtain⟨c',rfl⟩:=xY.1 (by simpa using h2);exact⟨c',rfl,A6 (h3 0 c c' rfl rfl) hr⟩
 ·obtain⟨arr,g1,g2,g3⟩:=hr;refine⟨arr,g1,by simp only at g2 ⊢;omega,λk c hk=>?_⟩;simp only at hk;have al:=(kF.1 hk).1;have hd:ds'[k]? =some (ds'[k]'K0):=o8 _;exact A6 (h3 k _ c hd hk) (g3 k _ hd)
def adY (m:List (Nat × Nat))(H:HF):Hp->Prop
 | []=>True
 |(n,b)::r=>(∃o b0,(o,n)∈m/\H o=some b0/\fq m b0=b)/\adY m H r
def FU {m:List (Nat × Nat)}{H:HF}: ∀ {X:Hp},adY m H X->∀n b',X.get n=some b'->∃o b,(o,n)∈m/\H o=some b/\fq m b=some b'
 | [],_,n,b',e=>by simp[Hp.get]at e
 |(j,b)::X,⟨⟨o,b0,h1,h2,h3⟩,h4⟩,n,b',e=>by
  rw[Hp.au]at e;by_cases hn:n=j
  ·subst hn;rw[an]at e;subst e;exact⟨o,b0,h1,h2,h3⟩
  ·rw[aG _ _ _ hn]at e;exact FU h4 n b' e
def pM {E E':dS}{Hh X:Hp}{nx n':Nat}{m:List (Nat × Nat)}{ks:List Nat}(hd:(eM (m.map Prod.fst)&&eM (m.map Prod.snd))=true)(hX:adY m Hh.get X)(hn:(m.all λq=>Nat.blt (tag q.2) n')=true)(hE:eZ m E.get ks=some E'):bu ⟨E,Hh,nx⟩ ⟨E',X,n'⟩:=by
 simp only[sU]at hd;refine CP (m:=m) ⟨bY hd.1,bY hd.2,FU hX⟩ (λq hq=>?_) hE;have:=tM.1 hn q hq;rwa [Bj]at this
def ln {m:List (Nat × Nat)}{H:HF}{X:Hp}(hd:(eM (m.map Prod.fst)&&eM (m.map Prod.snd))=true)(hX:adY m H X):cZ m H X.get:=by
 simp only[sU]at hd;exact⟨bY hd.1,bY hd.2,FU hX⟩
abbrev stL (V:List (List SC)):List (List DC):=V.map λ(e:List SC)=>e.map DC.st
def FV (m:List (Nat × Nat)): ∀(e:List SC),eX m (e.map .st)=some (e.map .st)
 | []=>rfl
 |c::e=>by
  show(match na m (.st c)with|some c'=>(match eX m (e.map .st)with|some xO=>some (c'::xO)|none=>none)|none=>none)=_;rw[FV m e];rfl
def KZ (m:List (Nat × Nat)): ∀(V:List (List SC)),fC m (stL V)=some (stL V)
 | []=>rfl
 |e::V=>by
  show(match eX m (e.map .st)with|some e'=>(match fC m (stL V)with|some l'=>some (e'::l')|none=>none)|none=>none)=_;rw[FV m e,KZ m V];rfl
theorem iF {m:List (Nat × Nat)}{V:List (List SC)}{i:Nat}{e e':List DC}(he:eX m e=some e'):fC m ((stL V).set i e)=some ((stL V).set i e'):=by
 by_cases hi:i<V.length
 ·refine Zm ab8 he λj x _ hx=>?_;rw[gA,m7]at hx;obtain⟨x0,_,rfl⟩:=hx;exact FV m x0
 ·have h: ∀x:List DC,(stL V).set i x=stL V:=λx=>List.set_eq_of_length_le ab8;rw[h,h];exact KZ m V
def unz (n id:Nat):Nat:=id/2 -n*4294967296
def W8 {n k:Nat}(h:0<k):unz n (aq n 0 k)=k:=by rw[qu K0];unfold unz;omega
def DC.LR {ρ σ:Nat->Nat}{ok:Nat->Prop}(h: ∀k,ok k->σ (ρ k)=k){d:DC}(hd:d.dQ ok):(d.rn ρ).rn σ=d:=by cases d<;>first|rfl|(have hd:ok _:=hd;simp only[DC.rn,h _ hd])
def ad0 {ρ σ:Nat->Nat}{ok:Nat->Prop}(h: ∀k,ok k->σ (ρ k)=k){x:DX}(hx:ec ok x):GR σ (GR ρ x)=x:=by
 obtain⟨g,ds⟩:=x;unfold GR;simp only[Ak,ii,Do];conv=>rhs;rw[<- Mj ds]
 exact LW λd hd=>DC.LR h (hx d hd)
def cC.LR {ρ σ:Nat->Nat}{ok:Nat->Prop}(h: ∀k,ok k->σ (ρ k)=k){b:cC}(hb:b.dQ ok):(b.rn ρ).rn σ=b:=by
 have hd: ∀ds:List DC,(∀d∈ds,d.dQ ok)->(ds.map (DC.rn ρ)).map (DC.rn σ)=ds:=λds h'=>by
  rw[Ak];conv=>rhs;rw[<- Mj ds]
  exact LW λd hm=>DC.LR h (h' d hm)
 cases b with
 |box t cs=>simp only[cC.rn];rw[hd cs hb]
 |az z l=>
  simp only[cC.rn];congr 1;rw[Ak];conv=>rhs;rw[<- Mj l]
  exact LW λe he=>hd e (hb e he)
 |_=>rfl
section
variable {C:bS}{f:FuncId}{fid nx n:Nat}{xs:List DX}{T T':Hp}{r:DV}{H:HF}
def xC (h:bA C f 1 xs T [] r T')(hT:Na T)(eP:Na T')(hs: ∀id∈ah T,(T.get id).map (cC.rn (aq n 0))=H (aq n 0 id))(Cv: ∀x∈xs,ec (· ∈ah T) x)(hr:lH (· ∈ah T') r):
  bI C fid f (xs.map (GR (aq n 0))) H (LA (aq (Fw.tag fid) 0) r) (cH (cT (aq n 0) T) (cT (aq (Fw.tag fid) 0) T')) (ah (cT (aq n 0) T)):=by
 have hi:=eP.inj (Fw.tag fid);have xJ:=hT.inj n;have fL: ∀k∈ah T,unz n (aq n 0 k)=k:=λk hk=>W8 (hT.lt k hk).1;have Ad: ∀o b,(cT (aq n 0) T).get o=some b->∃k b0,k∈ah T/\o=aq n 0 k/\T.get k=some b0/\b=b0.rn (aq n 0):=(nf.new hT xJ).heap
 have hR:nf (ah (cT (aq n 0) T)) (unz n) (cT (aq n 0) T).get T.get:=by
  refine⟨?_,λi h1 j h2 e=>?_,λk b e=>?_,λk b e=>?_⟩
  ·rw[dp];have Cu:=(nf.new hT xJ).ok.news;have:(sG (ah T) (aq n 0)).map Prod.snd=(ah T).map (aq n 0):=by exact Yo
   rwa [this]at Cu
  ·rw[dp]at h1 h2;obtain⟨a,ha,rfl⟩:=dC.1 h1;obtain⟨c,hc,rfl⟩:=dC.1 h2;rw[fL a ha,fL c hc]at e;rw[e]
  ·obtain⟨o,b0,h1,rfl,h3,rfl⟩:=Ad k b e;exact J2 (cC.dN (λx hx=>by rw[dp];exact dC.2 ⟨x,hx,rfl⟩) (hT.dQ o b0 h3))
  ·have hk:=Hp.dU e;refine⟨aq n 0 k,b.rn (aq n 0),by rw[dp];exact dC.2 ⟨k,hk,rfl⟩,(fL k hk).symm,?_,(cC.LR fL (hT.dQ k b e)).symm⟩;rw[jQ xJ k hk,e];rfl
 have h':bA C f 1 ((xs.map (GR (aq n 0))).map (GR (unz n))) T [] r T':=by
  rw[Ak]
  have:xs.map (GR (unz n) ∘ GR (aq n 0))=xs:=by
   conv=>rhs;rw[<- Mj xs]
   exact LW λx hx=>ad0 fL (Cv x hx)
  rw[this];exact h
 have Sm: ∀x∈xs.map (GR (aq n 0)),ec (· ∈ah (cT (aq n 0) T)) x:=λx hx=>by
  obtain⟨x0,h0,rfl⟩:=dC.1 hx;exact D7 (λd hd=>DC.dN (λk hk=>by rw[dp];exact dC.2 ⟨k,hk,rfl⟩) (Cv x0 h0 d hd))
 have h2:bA C f (n+1) (xs.map (GR (aq n 0))) (cT (aq n 0) T) [] r T':=by
  refine h'.inn hR (λo b e=>?_) (λk hk=>?_) Sm λid hid=>by cases hid
  ·obtain⟨k,b0,h1,rfl,h3,rfl⟩:=Ad o b e;exact⟨Hp.dU e,by rw[fL k h1,h3,cC.LR fL (hT.dQ k b0 h3)]⟩
  ·rw[dp]at hk;obtain⟨a,ha,rfl⟩:=dC.1 hk;rw[fL a ha,(hT.lt a ha).2.2];omega
 have hg:=h2.out (nf.new eP hi) hr λid hid=>by cases hid
 have mb: ∀k∈ah T',aq (Fw.tag fid) 0 k∈([]:List Nat)\/Fw.tag (aq (Fw.tag fid) 0 k)=Fw.tag fid:=λk hk=>.inr (eP.tag hk);refine gr hg (λid hid=>?_) (λid hid=>?_) hR.dQ Sm (λid hid=>by cases hid) (λid hid=>?_) (λid b e=>?_) (yN (rK mb hr))
 ·have hid:id∈ah (cT (aq n 0) T):=hid;rw[dp]at hid;obtain⟨k,hk,rfl⟩:=dC.1 hid;rw[hT.tag hk];omega
 ·have hid:id∈ah (cT (aq n 0) T):=hid;rw[dp]at hid;obtain⟨k,hk,rfl⟩:=dC.1 hid;rw[<- hs k hk,jQ xJ k hk]
 ·have hid:id∈ah (cT (aq (Fw.tag fid) 0) T'):=hid;exact aiZ
 ·exact K92
end
end Go.Fw
namespace Go.Proofs.Tryz
open Go.Fw
def o7 (P:Program)(fn:Func)(s:ChangeSpec)(c:OpenClaim):Bool:=
 (c.kinds==(if c.domain.isEmpty then []else fn.params.toList.map λt=>match P.underlying t with|some (.int k)=>some k|_=>none))&&(c.pinned==c.pinnedBy)&&(c.veiled==(fn.params.toList++s.plain.varTypes P++fn.resultTypes.toList).any (P.veiledRec ·))&&c.veiledFits P fn.params.toList (fn.params.toList++s.plain.varTypes P++fn.resultTypes.toList)
def Bd {P:Program}{f:FuncId}{fn:Func}{s:ChangeSpec}{c:OpenClaim}
  (a:(c.wf (OpenSpec.ofChange s)&&laidOutB P&&mapsRowed P&&fn.params.all (P.readableRec ·)&&namedTie P c.named s.vars&&(c.stops==[])&&(P.stops==[])&&(c.knobs==[])&&(P.stopKnobs==[]))=true)
  (b:(c.inPlace==P.inPlace f)=true)(d:(c.unfollowed==P.unfollowed f)=true)(e:(c.recurses==P.recurses f)=true)(g:(c.named==P.varsNamed f)=true)
  (h:((c.maps==(fn.params.toList++s.plain.varTypes P).any (P.mapsRec ·))&&(c.ifaces==(fn.params.toList++s.plain.varTypes P).any (P.ifacesRec ·))&&(c.mapsOut==P.mapsAmong fn.resultTypes.toList)&&(c.loops==(fn.params.toList++s.plain.varTypes P).any (P.loopsFrom ·))&&(c.wideKeys==(fn.params.toList++s.plain.varTypes P++fn.resultTypes.toList).any (P.wideKeysFrom ·))&&s.vars.all (P.varReadable ·)&&fn.resultTypes.all (λt=>P.readableRec t&&decide (t<P.types.size))&&(c.ifacesOut==fn.resultTypes.toList.any (P.ifacesRec ·))&&(c.loopsOut==fn.resultTypes.toList.any (P.loopsFrom ·)))=true)
  (i:(c.plainKeys==P.plainKeys)=true)
  (j:(c.shortTexts.isNone&&P.stopsHeard&&P.mayEnter&&(c.lifted==P.liftsFinal)&&(P.make==some c.make))=true)
  (k:o7 P fn s c=true):
  joinedFacts P f fn s c=true:=by
 unfold joinedFacts;simp only[o7,sU]at a h j k ⊢;obtain⟨⟨⟨⟨⟨⟨⟨⟨a1,a2⟩,a3⟩,a4⟩,a5⟩,a6⟩,a7⟩,a8⟩,a9⟩:=a;obtain⟨⟨⟨⟨⟨⟨⟨⟨h1,h2⟩,h3⟩,h4⟩,h5⟩,h6⟩,h7⟩,h8⟩,h9⟩:=h;obtain⟨⟨⟨⟨j1,j2⟩,j3⟩,j4⟩,j5⟩:=j;obtain⟨⟨⟨k1,k2⟩,k3⟩,k4⟩:=k;exact⟨⟨⟨⟨⟨⟨⟨⟨⟨⟨⟨⟨⟨⟨⟨⟨⟨⟨⟨⟨⟨⟨⟨⟨⟨⟨⟨⟨⟨⟨⟨a1,a2⟩,a3⟩,a4⟩,a5⟩,a6⟩,a7⟩,a8⟩,a9⟩,b⟩,d⟩,e⟩,g⟩,h1⟩,h2⟩,h3⟩,h4⟩,h5⟩,h6⟩,h7⟩,h8⟩,h9⟩,i⟩,j1⟩,j2⟩,j3⟩,j4⟩,j5⟩,k1⟩,k2⟩,k3⟩,k4⟩
def Xe {P:Program}(h:P.funcs.toList.any Func.goes=false)(f:FuncId):P.goes f=false:=by
 have h1:P.funcs.any Func.goes=false:=by rw[<- Array.any_toList];exact h
 unfold Program.goes;rw[h1,Bool.and_false,Mg];rw[Yc];intro g _
 cases hg:P.funcs[g]? with
 |none=>simp
 |some fn=>
  have hm:fn∈P.funcs.toList:=by simpa using L1 hg
  simpa using Yc.1 h fn hm
def u5 {P:Program}(h:P.funcs.toList.any Func.goes=false)(c:OpenClaim):false=c.goesBy P:=by
 unfold OpenClaim.goesBy Program.goesAt Program.goesFrom;have hf:=Xe h;have h2:P.inits.toList.any P.goes=false:=Yc.2 λf _=>by rw[hf];decide
 rw[h2];cases P.funcNamed c.func<;>cases c.start<;>simp[hf]
def Ln:prog.funcs.toList.any Func.goes=false:=by kernel_rfl
end Go.Proofs.Tryz
namespace Go.Plain
structure LK (p:Pl) (s:bV):Prop where
 volt:s.volt=true->s.opens= []/\s.earth=false
 earth:s.opens≠[]->s.earth=true
 gate: ∀x∈s.opens,x∈p.ap
 nd:s.opens.Nodup
def LK.begin (p:Pl):LK p fQ:=⟨(by intro h;cases h),(by intro h;exact absurd rfl h),(by intro x h;cases h),Me⟩
theorem LK.len {p:Pl}{s:bV}(h:LK p s):s.opens.length<=p.ap.length:=by
 have: ∀(l m:List aj),l.Nodup->(∀x∈l,x∈m)->l.length<=m.length:=by
  intro l
  induction l with
  |nil=>grind
  |cons a l ih=>
   intro m hn hm;obtain⟨h1,h2⟩:=Ah.1 hn;have ha:=hm a je
   have:=ih (m.erase a) h2 (λx hx=>by
    grind)
   grind
 exact this _ _ h.nd h.gate
def A7 {E:to}{p:Pl}{log:List En}{s:bV}{u:Un}{k:Nat}{a:List aj}{n:List Int}{q:aj}(hk:k=10\/k=11)(h:(aQ E p log s u k a n q).2=0):s.opens≠[]:=by
 intro ho;rcases hk with rfl|rfl
 ·have e:aQ E p log s u 10 a n q=if u.rel then(u,20)else if s.hall= []then(if s.opens= []then(u,24)else(u,0))else(u,17):=rfl
  grind
 ·have e:aQ E p log s u 11 a n q=if s.hall=u.name then(if s.opens= []then(u,24)else(u,0))else(u,20):=rfl
  grind
theorem ag3 {E:to}{p:Pl}{log:List En}{s:bV}{k:Nat}{a:List aj}{n:List Int}{q:aj}(h:LK p s):LK p (bm E p log s k a n q).1/\((bm E p log s k a n q).1.hall ≠s.hall->(bm E p log s k a n q).1.opens ≠[]):=by
 obtain⟨volt,earth,opens,hall,lots,units⟩:=s;obtain⟨h1,h2,h3,h4⟩:=h;dsimp only at h1 h2 h3 h4;have same: ∀(ha:aj) (lo:List aj) (us:List Un),LK p ⟨volt,earth,opens,ha,lo,us⟩:=λ_ _ _=>⟨h1,h2,h3,h4⟩;unfold bm;split
 ·grind
 ·grind
 ·grind
 ·split
  ·split
   grind
   ·split
    ·rename_i g1 g2 g3;obtain⟨g3,g4⟩:=g3;dsimp only at g2 g3 g4;refine⟨⟨bw,λ_=>g4,λx hx=>?_,?_⟩,λh=>absurd rfl h⟩
     grind
     grind
    grind
  grind
 ·split
  ·split
   ·refine⟨⟨λh=>?_,λh=>?_,λx hx=>h3 x (List.mem_of_mem_erase hx),h4.erase _⟩,λh=>absurd rfl h⟩
    grind
    grind
   grind
  grind
 ·split
  grind
  ·split
   grind
   ·rename_i g1 g2;exact⟨⟨λh=>absurd h g2,λ_=>rfl,h3,h4⟩,λh=>absurd rfl h⟩
 ·split
  ·split
   ·rename_i g1 g2;dsimp only at g1 g2;exact⟨⟨λh=>⟨g2,rfl⟩,λh=>absurd g2 h,h3,h4⟩,λh=>absurd rfl h⟩
   grind
  grind
 ·split
  grind
  ·split
   ·rename_i g1 g2;exact⟨⟨λ_=>g2,λh=>absurd g2.1 h,h3,h4⟩,λh=>absurd rfl h⟩
   grind
 ·split
  ·exact⟨⟨λh=>ajp,h2,h3,h4⟩,λh=>absurd rfl h⟩
  grind
 ·split
  ·refine⟨same _ _ _,λh=>?_⟩;dsimp only at h ⊢;split at h
   ·rename_i g;by_cases hk:k=10\/k=11
    ·exact A7 (s:=⟨volt,earth,opens,hall,lots,units⟩) hk g
    grind
   grind
  grind
def UE {E:to}{p:Pl}{log:List En}{s:bV}{e:En}(h:LK p s):LK p (lJ E p log s e).1/\((lJ E p log s e).1.hall ≠s.hall->(lJ E p log s e).1.opens ≠[]):=by grind[lJ,ag3]
end Go.Plain
