import Derived.Test.YtolnfpljgjpbpaaGreatDoorPk0
import Derived.MapKept
import Derived.Laws.IdiomStrings
import Derived.Tactics
import Derived.Orders
import Derived.OrdersIn
import Derived.TacticsIn
import Derived.Scope
import Derived.ProofKit
import Derived.OpenShut
import Derived.IntWalk
import Derived.Lib.Strings
import Derived.Shelf.Slices.Reverse
import Derived.Shelf.Slices.Clone
import Derived.Shelf.Spec.SlicesGrow
set_option linter.all false
namespace Go.Fw
section
variable {C:bS}{H H':HF}{fid:Nat}{K:ka}
theorem JA {op:BinOp}{k:IntKind}{a b:Int}{K:Value->Prop}(h:tT op k a b K): ∃v,K v/\∀K':Value->Prop,K' v->tT op k a b K':=by
 cases op<;>simp only[tT]at h ⊢ <;>first
  |grind
  |grind
  |grind
theorem JB {op:BinOp}{a b:ByteArray}{K:Value->Prop}(h:w5 op a b K): ∃v,K v/\∀K':Value->Prop,K' v->w5 op a b K':=by
 cases op<;>simp only[w5]at h ⊢ <;>first
  |grind
  |grind
  |grind
theorem JC {op:BinOp}{x y:Value}{K:Value->Prop}(h:rc op x y K): ∃v,K v/\∀K':Value->Prop,K' v->rc op x y K':=by
 unfold rc at h ⊢;split at h
 grind[JA]
 grind[JB]
 grind
def Vj (nc:Bool)(op:BinOp)(T:TypeId)(x y:DX):mD λ_ K=>Mo C nc op T x y λv=>K v [] []:=by
 refine mD.const λK h=>?_;unfold Mo at h ⊢;split at h
 grind
 grind
 grind
 grind
 grind[JC]
 ·split at h
  ·rename_i i hi;split at h
   grind
   grind
  grind
 grind
def YP (op:UnOp)(x:DX):mD λ_ K=>PM op x λv=>K v [] []:=by
 refine mD.const λK h=>?_;unfold PM at h ⊢
 grind
def Qd (S T:TypeId)(x:DX):mD (yi C S T x):=by
 intro H K h;unfold yi at h;split at h
 ·rename_i i j hi hj;split at h
  grind[yi]
  grind[yi]
  ·rename_i e h1;split at h
   ·rename_i d h2;split at h
    ·rename_i es uu rr hby eG;split at h
     grind[yi,jh]
     grind
    grind
   grind
  grind
 grind
def DI (f:FuncId)(a b:List (Option DV)):mD (cJ C f a b):=by
 intro H K h;unfold cJ at h;split at h
 ·rename_i fs u r h1;split at h
  grind[cJ,yu,po]
  grind
 grind
def Cg (T:TypeId)(x y:DX):mD λ_ K=>lP C fid T x y K:=by
 refine mD.const λK h=>?_;unfold lP at h;split at h
 ·grind
 rename_i i hi;split at h
 ·rename_i e k1 n k2 m bW;split at h
  ·grind
  rename_i ie l5;split at h
  ·rename_i hb;obtain⟨h0,h⟩:=h;split at h
   ·exact aj2
   ·exact aj2
  grind
 grind
def JD (T:TypeId)(x y:DX):mD (rg C fid T x y):=by
 intro H K h;unfold rg at h;split at h
 ·grind
 rename_i i hi;split at h
 ·rename_i e yc bW;split at h
  ·grind
  rename_i ie l5;split at h
  ·grind
  rename_i hb;split at h
  ·grind
  rename_i cy uy ry eG;split at h
  ·split at h
   grind[rg,jh]
   grind
  ·rename_i id;split at h
   ·rename_i m z c hbk;split at h
    ·rename_i c' qf z8;obtain⟨h1,h2,h⟩:=h;refine⟨_,_,_,h,λH' K' hH hK=>?_⟩;simp only[rg,hi,bW,l5,hb,jh eG λj hj=>hH j bw,hH id (by simp),hbk,qf,z8]
     grind
    grind
   grind
  grind
 grind
def GI (T:TypeId)(x y:DX):mD (qh C fid T x y):=by
 intro H K h;unfold qh at h;split at h
 ·grind
 rename_i i hi;split at h
 ·rename_i e k n bW;split at h
  ·grind
  rename_i ie l5;split at h
  ·grind
  rename_i hb;obtain⟨h0,h⟩:=h;split at h
  ·grind
  rename_i cy hz;split at h
  ·rename_i id;split at h
   ·rename_i m z c hid;split at h
    ·rename_i c' qf z8;obtain⟨h1,h⟩:=h;exact⟨_,_,_,h,λH' K' hH hK=>by grind[qh]⟩
    grind
   grind
  grind
 grind
theorem rx {mx:Bool}{k:IntKind}: ∀ {xs:List DX} {a:Int} {K:Value->Prop},tV mx k a xs K->∃v,K v/\∀K':Value->Prop,K' v->tV mx k a xs K'
 | [],a,K,h=>⟨_,h,λ_ hK=>hK⟩
 |x::xs,a,K,h=>by
  unfold tV at h ⊢;split at h
  grind
  ·rename_i k' b r wt;cases wt;split at h
   ·rename_i hk;obtain⟨v,h1,h2⟩:=rx h
    grind
   grind
  grind
def GJ (b:Builtin)(R5:List TypeId)(args:List (Option DV)):mD (eV C fid b R5 args):=by
 intro H K h;unfold eV at h;split at h
 ·split at h
  ·grind
  rename_i i hi;split at h
  grind[eV]
  grind[eV]
  grind[eV]
  grind[eV]
  grind[eV]
  grind
 ·split at h
  ·rename_i i' lA;split at h
   ·rename_i bW;obtain⟨r,u,R,h1,h2⟩:=JD _ _ _ _ _ h
    grind[eV]
   ·rename_i bW;obtain⟨r,u,R,h1,h2⟩:=GI _ _ _ _ _ h
    grind[eV]
   grind
  grind
 grind[rx,eV]
 grind[rx,eV]
 grind
def kR {f:FuncId}{xs:List DX}(e8:okN xs=true)(h: ∃r,ake C.P C.gl f xs r/\i8 fid [] [] K r):w6 C fid f [] [] xs K:=by grind[w6]
theorem GK (fv:Option DV)(args:List (Option DV))(R5:List TypeId):mD (jg C fid fv args R5):=by
 intro H K h;unfold jg at h;split at h
 ·rename_i f first bM xs hv
  split at h
  ·rename_i l u rs eG;obtain⟨r,iY,h⟩:=h
   cases r with
   |one x=>exact⟨_,_,_,h,λH' K' hH hK=>by simp only[jg,hv,ji eG hH];exact⟨.one x,iY,hK⟩⟩
   |aI x=>exact⟨_,_,_,h,λH' K' hH hK=>by simp only[jg,hv,ji eG hH];exact⟨.aI x,iY,hK⟩⟩
   |own z c=>exact⟨_,_,_,h,λH' K' hH hK=>by simp only[jg,hv,ji eG hH];exact⟨.own z c,iY,hK⟩⟩
   |mix t x z c=>
    cases t
    ·match x,iY,h with
     | [y],iY,h=>exact⟨_,_,_,h,λH' K' hH hK=>by simp only[jg,hv,ji eG hH];exact⟨.mix false [y] z c,iY,hK⟩⟩
     | [],_,h=>exact h.elim
     |_::_::_,_,h=>exact h.elim
    ·exact⟨_,_,_,h,λH' K' hH hK=>by simp only[jg,hv,ji eG hH];exact⟨.mix true x z c,iY,hK⟩⟩
   |vh z c=>
    simp only[i8]at h;split at h
    ·rename_i id z' c' iQ;split at h
     ·rename_i hb
      exact⟨_,_,_,h,λH' K' hH hK=>by
       have hH': ∀i∈[iQ],H' i=H i:=λi hi=>by simp_all
       simp only[jg,hv,ji eG hH']
       exact⟨.vh z c,iY,by grind[i8]⟩⟩
     grind
    grind
  grind
 grind
theorem JE (nx:Bool)(fv:Option DV)(args:List (Option DV))(R5:List TypeId):mD (rh C fid nx fv args R5):=by
 cases nx
 ·exact GK fv args R5
 intro H K h;unfold rh at h;simp only at h;split at h
 ·rename_i f first bM xs hv
  have key: ∀K':ka,w6 C fid f first bM xs K'->∀H',rh C fid true (some (.val (false,[.st (.fn f first bM)]))) args R5 H' K':=λK' hK H'=>by simp only[rh,hv];exact hK
  unfold w6 at h;split at h;case h_2=>grind
  rename_i e8;obtain⟨r,iY,h⟩:=h
  cases r with
  |one x=>exact⟨_,_,_,h,λH' K' hH hK=>key K' (kR K0 ⟨.one x,iY,hK⟩) H'⟩
  |aI x=>exact⟨_,_,_,h,λH' K' hH hK=>key K' (kR K0 ⟨.aI x,iY,hK⟩) H'⟩
  |own z c=>exact⟨_,_,_,h,λH' K' hH hK=>key K' (kR K0 ⟨.own z c,iY,hK⟩) H'⟩
  |mix t x z c=>
   cases t
   ·match x,iY,h with
    | [y],iY,h=>exact⟨_,_,_,h,λH' K' hH hK=>key K' (kR K0 ⟨.mix false [y] z c,iY,hK⟩) H'⟩
    | [],_,h=>exact h.elim
    |_::_::_,_,h=>exact h.elim
   ·exact⟨_,_,_,h,λH' K' hH hK=>key K' (kR K0 ⟨.mix true x z c,iY,hK⟩) H'⟩
  |vh z c=>grind[i8]
 grind
theorem Vk {o:Oper}{ev:Operand->Option DV}(h:fk C fid o ev H K): ∃r u R,K r u R/\∀(j8:Operand->Option DV) (H':HF) (K':ka),(∀x∈o.op.operands.toList,j8 x=ev x)->(∀id∈R,H' id=H id)->K' r u R->fk C fid o j8 H' K':=by
 have key: ∀ {p:Op} {f:HF->ka->Prop},mD f->f H K->(∀(j8:Operand->Option DV) (H':HF) (K':ka),(∀x∈p.operands.toList,j8 x=ev x)->f H' K'->fk C fid o j8 H' K')->
   ∃r u R,K r u R/\∀(j8:Operand->Option DV) (H':HF) (K':ka),(∀x∈p.operands.toList,j8 x=ev x)->(∀id∈R,H' id=H id)->K' r u R->fk C fid o j8 H' K':=by
  intro p f hL hf hx;obtain⟨r,u,R,h1,h2⟩:=hL H K hf
  grind
 have ael: ∀ {l:List Operand} {j8:Operand->Option DV},(∀x∈l,j8 x=ev x)->l.map j8=l.map ev:=λh=>LW h
 cases ho:o.op with
 |move x=>
  exact vZ
 |assign x=>
  exact vZ
 |pick c x y=>
  unfold fk at h;rw[ho]at h;simp only at h;split at h
  ·rename_i t hc;cases t
   grind[fk,Op.operands]
   exact vZ
  grind
 |alloc T=>
  unfold fk at h;rw[ho]at h;simp only at h;split at h
  grind[fk]
  grind
 |box T x=>
  exact vZ
 |build T parts=>
  have Gr: ∀ {j8:Operand->Option DV},(∀x∈(Op.build T parts).operands.toList,j8 x=ev x)->(parts.toList.map λp=>(p.1,j8 p.2))=parts.toList.map λp=>(p.1,ev p.2):=by grind[List.map_congr_left,Op.operands]
  unfold fk at h;rw[ho]at h;simp only at h;split at h
  ·rename_i i hi;split at h
   ·rename_i zs hz;split at h
    ·rename_i fs bW;split at h
     ·rename_i cs Px;exact⟨_,_,_,h,λj8 H' K' he hH hK=>by unfold fk;simp only[ho,hi,hz,bW,Gr he];grind⟩
     grind
    ·rename_i n e bW;split at h
     ·rename_i ie l5;split at h
      ·rename_i cs Px;exact⟨_,_,_,h,λj8 H' K' he hH hK=>by unfold fk;simp only[ho,hi,hz,bW,l5,Gr he];grind⟩
      grind
     grind
    grind
   grind
  grind
 |buildSlice T len parts=>
  have Gr: ∀ {j8:Operand->Option DV},(∀x∈(Op.buildSlice T len parts).operands.toList,j8 x=ev x)->(parts.toList.map λp=>(p.1,j8 p.2))=parts.toList.map λp=>(p.1,ev p.2):=by grind[List.map_congr_left,Op.operands]
  unfold fk at h;rw[ho]at h;simp only at h;split at h
  ·rename_i i hi;split at h
   ·rename_i e bW;split at h
    ·rename_i ie l5;split at h
     ·rename_i hb;split at h
      ·rename_i es u r hes;split at h
       ·rename_i c hc;refine⟨_,_,_,h,λj8 H' K' he hH hK=>?_⟩;unfold fk;simp only[ho,hi,bW,l5,hb,Gr he,uj hes hH]
        grind
       grind
      grind
     grind
    grind
   grind
  grind
 |load T x=>
  unfold fk at h;rw[ho]at h;simp only at h;split at h
  ·rename_i d hd;exact key (Qc T d) h λj8 H' K' he hf=>by exact vZ
  grind
 |store T x y=>
  unfold fk at h;rw[ho]at h;simp only at h;split at h
  ·rename_i d e hd C1;exact key (MA T d e) h λj8 H' K' he hf=>by exact vZ
  grind
 |fieldAddr T x n=>
  unfold fk at h;rw[ho]at h;simp only at h;split at h
  ·rename_i d hd;exact key (Ce T d n) h λj8 H' K' he hf=>by exact vZ
  grind
 |indexAddr T x y=>
  unfold fk at h;rw[ho]at h;simp only at h;split at h
  ·rename_i d e hd C1;exact key (Cf T d e) h λj8 H' K' he hf=>by exact vZ
  grind
 |index T x y=>
  unfold fk at h;rw[ho]at h;simp only at h;split at h
  ·rename_i d e hd C1;exact key (MB T d e) h λj8 H' K' he hf=>by exact vZ
  grind
 |field T x n=>
  unfold fk at h;rw[ho]at h;simp only at h;split at h
  ·rename_i d hd;exact key (MC T d n) h λj8 H' K' he hf=>by exact vZ
  grind
 |slice T x lo hi mx=>
  unfold fk at h;rw[ho]at h;simp only at h;split at h
  ·rename_i d hd;refine key (MD T d (lo.map ev) (hi.map ev)) h λj8 H' K' he hf=>?_
   have e1:lo.map j8=lo.map ev:=by
    cases lo with
    |none=>rfl
    |some z=>grind[Op.operands]
   have e2:hi.map j8=hi.map ev:=by
    cases hi with
    |none=>rfl
    |some z=>grind[Op.operands]
   exact vZ
  grind
 |binOp op T x y yT=>
  unfold fk at h;rw[ho]at h;simp only at h;split at h
  ·rename_i d e hd C1;exact key (Vj _ op T d e) h λj8 H' K' he hf=>by exact vZ
  grind
 |unOp op T x=>
  unfold fk at h;rw[ho]at h;simp only at h;split at h
  ·rename_i d hd;exact key (YP op d) h λj8 H' K' he hf=>by exact vZ
  grind
 |convert s t x=>
  unfold fk at h;rw[ho]at h;simp only at h;split at h
  ·rename_i d hd;exact key (Qd s t d) h λj8 H' K' he hf=>by exact vZ
  grind
 |extract t n=>
  unfold fk at h;rw[ho]at h;simp only at h;split at h
  grind[fk,Op.operands]
  grind
 |makeFunc fn first bM=>
  cases fn with
  |func f=>
   unfold fk at h;rw[ho]at h;simp only at h;refine key (DI f _ _) h λj8 H' K' he hf=>?_;exact vZ
  |_=>grind[fk]
 |makeSlice T x y=>
  unfold fk at h;rw[ho]at h;simp only at h;split at h
  ·rename_i d e hd C1;exact key (Cg T d e) h λj8 H' K' he hf=>by exact vZ
  grind
 |call c=>
  cases hc:c.callee with
  |value fo=>
   unfold fk at h;rw[ho]at h;simp only[hc]at h;refine key (JE _ _ _ _) h λj8 H' K' he hf=>?_
   grind[fk,Op.operands,Call.operands]
  |invoke r m=>grind[fk]
  |builtin b=>
   unfold fk at h;rw[ho]at h;simp only[hc]at h;refine key (GJ b _ _) h λj8 H' K' he hf=>?_
   grind[fk,Op.operands,Call.operands]
 |_=>unfold fk at h;rw[ho]at h;exact h.elim
end
open Go.RowKit (Below)
open Classical
def Vl (z:Nat):Nat->List (Nat × Option DV)->Option (List (List DC))
 |_,[]=>some []
 |n,(i,some (.val x))::rest=>match Nat.beq i n&&Nat.beq x.2.length z with
  |true=>match Vl z (n+1) rest with
   |some l=>some (x.2::l)
   |none=>none
  |false=>none
 |_,_=>none
def kc (H:HF)(z:Nat):DC->Option (List (List DC) × List Nat)
 | .nil =>some ([],[])
 | .own id=>match H id with
  |some (.az z' l)=>match Nat.beq z' z with
   |true=>some (l,[id])
   |false=>none
  |_=>none
 | .st (.view es)=>some (es.map λe=>e.map .st,[])
 |_=>none
def kS (s:ByteArray):List (List SC):=s.data.toList.map λb=>[.lit (.int .u8 (b.toNat:Nat))]
def pp:List DC->Option (List SC)
 | []=>some []
 | .st c::l=>match pp l with
  |some cs=>some (c::cs)
  |none=>none
 |_=>none
def iZ:List (ByteArray × SV)->ByteArray->Option SV
 | [],_=>none
 |(k,x)::es,a=>match a==k with
  |true=>some x
  |false=>iZ es a
def Ar:List (ByteArray × SV)->ByteArray->SV->List (ByteArray × SV)
 | [],a,x=>[(a,x)]
 |(k,y)::es,a,x=>match a==k with
  |true=>(k,x)::es
  |false=>(k,y)::Ar es a x
def w8 (C:bS)(k:TypeId):Bool:=match C.ti k with
 |some i=>match i.b8 with
  | .str =>true
  |_=>false
 |none=>false
def ME:List (Nat × Bool)->Nat->Option Bool
 | [],_=>none
 |(j,b)::H,i=>match Nat.beq i j with
  |true=>some b
  |false=>ME H i
def Tn (C:bS)(e:TypeId):Option SV:=match C.ti e,ME C.mz e with
 |some ie,some ag=>match qZ ie.kinds ie.zero with
  |some cs=>some (ag,cs)
  |none=>none
 |_,_=>none
def orZ:Option SV->SV->SV
 |some x,_=>x
 |none,z=>z
def isS:Option SV->Bool
 |some _=>true
 |none=>false
def vj (abF:Option SV)(zero:SV)(ok:Bool):DV:=match ok with
 |false=>.val (dyn (orZ abF zero))
 |true=>.aI [dyn (orZ abF zero),(false,[.st (.lit (.bool (isS abF)))])]
def Qe (C:bS)(fid:Nat)(o:Oper)(ev:Operand->Option DV)(H:HF):Option (Prop × DV × Hp × List Nat):=match o.op with
 | .buildSlice T len parts=>match C.ti T with
  |some i=>match i.b8 with
   | .slice e=>match C.ti e,yh e C.deep with
    |some ie,true=>match Nat.ble 1 ie.size&&Nat.ble (len*ie.size) 16777216&&Nat.beq parts.size len with
     |true=>match Vl ie.size 0 (parts.toList.map λp=>(p.1,ev p.2))with
      |some l=>some (True,bh (.own fid),[(fid,some (.az ie.size l))],[])
      |none=>none
     |false=>none
    |_,_=>none
   |_=>none
  |none=>none
 | .call c=>match c.callee,c.argTypes.toList,c.args.toList.map ev with
  | .builtin .append,[t,t'],[some (.val (false,[x])),some (.val (false,[y]))]=>match C.ti t,C.ti t' with
   |some i,some i'=>match i.b8,i'.b8 with
    | .slice e,.slice _=>match C.ti e,yh e C.deep with
     |some ie,true=>match Nat.ble 1 ie.size&&Nat.ble ie.bytes 4096&&Nat.beq ie.zero.length ie.size with
      |true=>match kc H ie.size y with
       |some (ly,ry)=>match x with
        | .nil =>some ((∀e∈ly,e.length=ie.size)/\ly.length<=xP,bh (.own fid),[(fid,some (.az ie.size ly))],ry)
        | .own id=>match H id with
         |some (.az z l)=>match Nat.beq z ie.size with
          |true=>some ((∀e∈ly,e.length=ie.size)/\l.length+ly.length<=xP,bh (.own fid),[(fid,some (.az z (l++ly))),(id,none)],id::ry)
          |false=>none
         |_=>none
        |_=>none
       |none=>none
      |false=>none
     |_,_=>none
    |_,_=>none
   |_,_=>none
  |_,_,_=>none
 | .makeMap T none=>match C.ti T with
  |some i=>match i.b8 with
   | .map _ _=>some (True,bh (.mp fid),[(fid,some (.map []))],[])
   |_=>none
  |none=>none
 | .insert T m k v=>match C.ti T,ev m,ev k,ev v with
  |some i,some (.val (false,[.mp id])),some (.val (false,[.st (.lit (.string a))])),some (.val (ag,cs))=>match i.b8,H id,pp cs with
   | .map kt _,some (.map es),some l=>match w8 C kt with
    |true=>some (True,.aI [],[(id,some (.map (Ar es a (ag,l))))],[id])
    |false=>none
   |_,_,_=>none
  |_,_,_,_=>none
 | .mapUpdate T m k v=>match C.ti T,ev m,ev k,ev v with
  |some i,some (.val (false,[.mp id])),some (.val (false,[.st (.lit (.string a))])),some (.val (ag,cs))=>match i.b8,H id,pp cs with
   | .map kt _,some (.map es),some l=>match w8 C kt with
    |true=>some (True,.aI [],[(id,some (.map (Ar es a (ag,l))))],[id])
    |false=>none
   |_,_,_=>none
  |_,_,_,_=>none
 | .lookup T m k ok=>match C.ti T,ev m,ev k with
  |some i,some (.val (false,[.mp id])),some (.val (false,[.st (.lit (.string a))]))=>match i.b8,H id with
   | .map kt et,some (.map es)=>match w8 C kt,Tn C et with
    |true,some z=>some (True,vj (iZ es a) z ok,[],[id])
    |_,_=>none
   |_,_=>none
  |_,_,_=>none
 | .convert src dst x=>match C.ti src,C.ti dst,ev x with
  |some i,some j,some (.val (false,[.st (.lit (.string s))]))=>match i.b8,j.b8 with
   | .str,.slice e=>match Am C e with
    |true=>some (True,bh (.st (.view (kS s))),[],[])
    |false=>none
   |_,_=>none
  |_,_,_=>none
 | .nilCheck x=>match ev x with
  |some (.val (false,[d]))=>match Mn d with
   |some true=>some (True,bh d,[],[])
   |_=>none
  |_=>none
 | .slice T (.global g) none none none=>match C.ti T with
  |some i=>match i.b8 with
   | .array n e=>match C.ti e with
    |some _=>some (True,bh (.st (.raw (.slice (some ⟨g,0,none⟩) n n))),[],[])
    |none=>none
   |_=>none
  |none=>none
 | .sliceToArrayPointer T x=>match C.ti T,ev x with
  |some i,some (.val (false,[.st (.ints l)]))=>match i.b8 with
   | .array n _=>some (1<=n/\n<=l.length,bh (.st (.ref ((l.take n).map λk=>.lit (.int .i64 k)))),[],[])
   |_=>none
  |_,_=>none
 | .makeFunc (.func f) first bM=>match first.toList,bM.toList.map ev with
  | [],[some (.val (false,[.ptr id 0]))]=>some (True,bh (.sS f id),[],[])
  |_,_=>none
 |_=>none
def opX (C:bS)(fid:Nat)(o:Oper)(ev:Operand->Option DV)(H:HF)(K:ka):Prop:=match Qe C fid o ev H with
 |some (P,r,u,R)=>P/\K r u R
 |none=>False
theorem yv {H H':HF}{z:Nat}{d:DC}{l:List (List DC)}{R:List Nat}(h:kc H z d=some (l,R))(hH: ∀id∈R,H' id=H id):kc H' z d=some (l,R):=by
 cases d with
 |own id=>
  grind[kc]
 |st c=>cases c<;>exact h
 |_=>exact h
section
variable {C:bS}{fid:Nat}
theorem Qf {o:Oper}{ev j8:Operand->Option DV}{H H':HF}{P:Prop}{r:DV}{u:Hp}{R:List Nat}(h:Qe C fid o ev H=some (P,r,u,R))(he: ∀x∈o.op.operands.toList,j8 x=ev x)(hH: ∀id∈R,H' id=H id):
  Qe C fid o j8 H'=some (P,r,u,R):=by
 unfold Qe at h ⊢
 cases ho:o.op with
 |buildSlice T len parts=>
  rw[ho]at h;simp only at h ⊢;have Gr:(parts.toList.map λp=>(p.1,j8 p.2))=parts.toList.map λp=>(p.1,ev p.2):=by grind[List.map_congr_left,Op.operands]
  grind
 |call c=>
  rw[ho]at h;simp only at h ⊢;have ael:c.callee= .builtin .append ->c.args.toList.map j8=c.args.toList.map ev:=λhc=>LW λx hx=>he x (by grind[Op.operands,Call.operands]);split at h;rotate_left
  ·cases h
  rename_i t t' x y hc wq dM;rw[ael hc,hc,wq,dM];simp only;split at h;rotate_left
  ·cases h
  rename_i i i' hi lA;split at h;rotate_left
  ·cases h
  rename_i e _ jc ahr;split at h;rotate_left
  ·cases h
  rename_i ie l5 hdp;split at h;rotate_left
  ·cases h
  rename_i hb;split at h;rotate_left
  ·cases h
  rename_i ly ry hdy;split at h
  grind[yv]
  ·rename_i id;split at h
   grind[yv]
   grind
  grind
 |makeMap T r=>
  grind
 |insert T m k v=>
  exact aib
 |mapUpdate T m k v=>
  exact aib
 |lookup T m k ok=>
  rw[ho]at h
  grind[Op.operands]
 |convert src dst x=>
  grind[Op.operands]
 |nilCheck x=>
  grind[Op.operands]
 |sliceToArrayPointer T x=>
  grind[Op.operands]
 |slice T x lo hi mx=>
  grind
 |makeFunc fn first bM=>
  rw[ho]at h
  cases fn with
  |func f=>
   grind[List.map_congr_left,Op.operands]
  |_=>cases h
 |_=>grind
def Vm {o:Oper}{ev:Operand->Option DV}{H:HF}{K:ka}(h:opX C fid o ev H K): ∃r u R,K r u R/\∀(j8:Operand->Option DV) (H':HF) (K':ka),(∀x∈o.op.operands.toList,j8 x=ev x)->(∀id∈R,H' id=H id)->K' r u R->opX C fid o j8 H' K':=by grind[opX,Qf]
end
section
variable {C:bS}{F:gG}{β:Nat->Option Nat}{N:Nat->Prop}{H:HF}{fid:Nat}{K:ka}{w w':World}{P:Program}
theorem To {z:Nat}: ∀ {ps:List (Nat × Option DV)} {n:Nat} {l:List (List DC)},Vl z n ps=some l->l.length=ps.length/\∀(k:Nat) (e:List DC),l[k]? =some e->∃ag,ps[k]? =some (n+k,some (.val (ag,e)))/\e.length=z
 | [],n,l,h=>by grind[Vl]
 |p::ps,n,l,h=>by
  unfold Vl at h;split at h
  grind
  ·rename_i n0 i x rest wt;cases wt;split at h
   ·rename_i hb;obtain⟨h1,h2⟩:=aD hb;have h1:=pj h1;have h2:=pj h2;subst h1;split at h
    ·rename_i l' hl;simp at h;subst h;obtain⟨q1,q2⟩:=To hl
     grind
    grind
   grind
  grind
def JF (hC:C.Ok)(hG:bH C F)(hR:ad F β N H w)(hf: ¬N fid){E:EF}{a:Act}(hE:dH F β N H w E a){T:TypeId}{len:Nat}{parts:Array (Nat × Operand)}{i ie:TI}{e:TypeId}{l:List (List DC)}
  (hi:C.ti T=some i)(bW:i.b8= .slice e)(l5:C.ti e=some ie)(h1:1<=ie.size)(h2:len*ie.size<=16777216)(h3:parts.size=len)(hl:Vl ie.size 0 (parts.toList.map λp=>(p.1,C.ev E p.2))=some l):
  ∃v w',(Instr.buildSlice T len (parts.map λp=>(p.1,a.eval p.2))).run C.P w= .ok v w'/\bk F β N H fid (λr u R=>r=bh (.own fid)/\u= [(fid,some (.az ie.size l))]/\R= []) w v w':=by
 obtain⟨anS,hp⟩:=Dw hG hR hE parts;obtain⟨tf,d,z,hT⟩:=hC.get hi;have hd:=dn (hT.b8.trans bW);obtain⟨ef,ed,ez,Hx⟩:=hC.get l5;obtain⟨q2,q3⟩:=To hl;have bD:l.length=len:=by grind
 have Gy: ∃xM:Array Value,xM.size=len*ie.size/\∀cells,Instr.fill (λi=>some (i*ie.size,ie.size)) xM (parts.map λ(p:Nat × Operand)=>(p.1,a.eval p.2)).toList =some cells->
   (Instr.buildSlice T len (parts.map λ(p:Nat × Operand)=>(p.1,a.eval p.2))).run C.P w= .ok (.slice (some ⟨w.heap.size,0,none⟩) len len) (w.alloc (.cells cells e)):=by
  exact K28
 obtain⟨xM,hs0,bE⟩:=Gy;have pN:(parts.map λ(p:Nat × Operand)=>(p.1,a.eval p.2)).toList.length =len:=by omega
 have Pv: ∀(k:Nat) (p:Nat × Value),(parts.map λ(p:Nat × Operand)=>(p.1,a.eval p.2)).toList[k]? =some p->∃ag e,l[k]? =some e/\p.1=k/\e.length=ie.size/\ar F β N H w p.2 (ag,e):=by
  intro k p hk;have sC:k<l.length:=by grind
  obtain⟨ag,a1,a2⟩:=q3 k l[k] bw;obtain⟨b1,b2⟩:=hp k p _ hk a1;exact⟨ag,l[k],by grind,by omega,a2,b2 _ rfl⟩
 obtain⟨arr',f1,f2,f3,f4⟩:=Dx (z:=ie.size) (parts:=(parts.map λ(p:Nat × Operand)=>(p.1,a.eval p.2)).toList) (n:=0) (arr:=xM) (λk p hk=>by
  obtain⟨ag,e,a1,a2,a3,a4⟩:=Pv k p hk
  exact⟨by omega,by rw[a4.cells.1,a3]⟩) bw
 refine⟨.slice (some ⟨w.heap.size,0,none⟩) len len,w.alloc (.cells arr' e),bE _ f1,?_⟩;refine bk.new (u:=[]) (b:=some w.heap.size) hR Tr.refl hf (Below.ot w _) (by simp) ⟨rfl,rfl,rfl⟩ (λH1 xS t1 t2=>?_) (λH1 xS=>cM ⟨.inr rfl,rfl,λnQ z' n' hb wV=>?_⟩)
 ·have iG: ∀(i:Nat) (e:List DC),l[i]? =some e->e.length=ie.size:=λi e he=>let⟨_,_,h⟩:=q3 i e he;h;refine⟨⟨h1,iG⟩,.inr ⟨w.heap.size,len,arr',e,by simp[cW],gG.gD hR.below.size,gK w _,by omega,by omega,λi e j x he hx=>?_⟩⟩;have R8:i< (parts.map λ(p:Nat × Operand)=>(p.1,a.eval p.2)).toList.length :=by grind
  obtain⟨ag,e0,a1,a2,a3,a4⟩:=Pv i _ (o8 R8);rw[he]at a1;cases a1;have hjz:j<ie.size:=by grind
  have:=f3 i _ j (o8 R8) hjz;rw[j9]at this;rw[bP this];exact t1.jr hR (a4.cells.2 j x hx)
 ·exact aid
structure ql (F:gG) (β:Nat->Option Nat) (N:Nat->Prop) (H:HF) (w:World) (z:Nat) (l:List (List DC)) (arr:Array Value):Prop where
 size:arr.size=l.length*z
 Ag: ∀(i:Nat) (e:List DC),l[i]? =some e->e.length=z
 rep: ∀(i:Nat) (e:List DC) (j:Nat) (x:DC),l[i]? =some e->e[j]? =some x->cw F β N H w (arr.getD (i*z+j) undef) x
def ql.one {z:Nat}{l:List (List DC)}{new:Array Value}(hc:ql F β N H w z l new)(hz:0<z): ∀u∈new.toList,u.oneCell'=true:=by
 intro u hu;obtain⟨k,hk⟩:=UZ.1 hu;have qU:new[k]? =some u:=by grind
 have al:k<new.size:=(GB.1 qU).1;have hi:k/z<l.length:=by rw[XY hz,<- hc.size];omega
 have he:l[k/z]? =some l[k/z]:=by grind
 have hj:k%z< (l[k/z]).length :=by rw[hc.Ag _ _ he];exact tQ _ hz
 have:=hc.rep _ _ (k%z) (l[k/z])[k%z] he bw;rw[Nat.mul_comm,Nat.div_add_mod,mi qU]at this;exact this.one_cell
def ql.cat {z:Nat}{c d:List (List DC)}{a b rest:Array Value}(hc:ql F β N H w z c a)(hd:ql F β N H w z d b):
  (∀(i:Nat) (e:List DC),(c++d)[i]? =some e->e.length=z)/\∀(i:Nat) (e:List DC) (j:Nat) (x:DC),(c++d)[i]? =some e->e[j]? =some x->cw F β N H w ((a++b++rest).getD (i*z+j) undef) x:=by
 have u9: ∀(i:Nat) (e:List DC),(c++d)[i]? =some e->e.length=z:=by
  intro i e he;rw[SG]at he;by_cases hi:i<c.length
  ·rw[if_pos hi]at he;exact hc.Ag i e he
  ·rw[if_neg hi]at he;exact hd.Ag _ e he
 refine⟨u9,λi e j x he hx=>?_⟩;have hj:j<z:=by grind
 rw[SG]at he;by_cases hi:i<c.length
 ·rw[if_pos hi]at he
  have al:i*z+j<a.size:=by
   rw[hc.size];have:(i+1)*z<=c.length*z:=kG _ hi
   grind
  rw[bP (b:=a) (l:=i*z+j) bw];exact hc.rep i e j x he hx
 ·rw[if_neg hi]at he;have hi2:=(kF.1 he).1;have e1:(i -c.length)*z+c.length*z=i*z:=by exact aci
  have al:(i -c.length)*z+j<b.size:=by
   rw[hd.size];have:(i -c.length+1)*z<=d.length*z:=kG _ hi2
   grind
  rw[bP (b:=b) (l:=(i -c.length)*z+j) (by
   rw[XK aj5,XQ (by rw[hc.size];omega),hc.size]
   grind)]
  exact hd.rep _ e j x he hx
theorem iS (hG:bH C F)(hR:ad F β N H w){z:Nat}{v:Value}{d:DC}{l:List (List DC)}{R:List Nat}(hd:cw F β N H w v d)(h:kc H z d=some (l,R))(hz:0<z)(hu: ∀e∈l,e.length=z):
  ∃a cap new,v= .slice a l.length cap/\(Builtin.firstCells z l.length v).run P w= .ok new w/\l.length<=cap/\ql F β N H w z l new:=by
 have eG: ∀ {es:List (List SC)},dw (MV F β H w) (MR F β H w) v (.view es)->(∀e∈es,e.length=z)->∃a cap new,v= .slice a es.length cap/\(Builtin.firstCells z es.length v).run P w= .ok new w/\es.length<=cap/\ql F β N H w z (es.map λe=>e.map .st) new:=by
  intro es hv hes;obtain⟨a,cap,new,q1,q2,q3,q4,q5⟩:=gd (P:=P) (z:=z) (d:=.st (.view es)) (c:=.view es) (k:=false) hG hR hv rfl rfl hz (λi e he=>hes e (jH (by simpa [SC.elem]using he)));refine⟨a,cap,new,q1,q2,q4,by grind[SC.len],λi e he=>?_,λi e j x he hx=>?_⟩
  grind
  ·rw[gA,m7]at he;obtain⟨y,hy,rfl⟩:=he;rw[gA,m7]at hx;obtain⟨c,hc,rfl⟩:=hx;exact(q5 i y j c ab3 hc).mono (Mem.le_refl _) (dZ _)
 cases d with
 |nil=>
  simp[kc]at h;obtain⟨rfl,_⟩:=h;have hv:v= .slice none 0 0:=hd;subst hv;exact ajS
 |st c=>
  cases c<;>simp[kc]at h;rename_i es;obtain⟨rfl,_⟩:=h;obtain⟨a,cap,new,q1,q2,q3,q4⟩:=eG (es:=es) hd λe he=>by simp_all
  grind
 |own id=>
  simp only[kc]at h;split at h
  ·rename_i z' l' e;split at h
   ·rename_i qf;have qf:=pj qf;subst qf;simp at h;obtain⟨rfl,_⟩:=h;obtain⟨hn,_,jo⟩:=hd;obtain⟨_,⟨_,hl⟩,gC⟩:=hR.rel id _ e
    rcases jo _ z' l'.length e rfl with⟨b1,b2,rfl⟩|⟨b,cap,arr,T,b1,rfl,b3,b4⟩
    ·have qe:l'= []:=Jj b2;subst qe;exact ajS
    ·rcases gC with q|⟨b',jD,arr',T',q1,q2,q3,q4,q5,q6⟩
     ·grind
     rw[b1]at q1;cases q1;rw[b3]at q3;cases q3;have fZ:cap=jD:=UV hz K0;subst fZ;have eA:l'.length*z'<=arr.size:=by rw[q4];exact kG _ q5
     refine⟨_,cap,((List.range (l'.length*z')).map λk=>arr.getD k undef).toArray,rfl,?_,q5,by simp,hl,λi e j x he hx=>?_⟩
     ·exact S5 w _ _ _ (λj hj=>by rw[addr_add,j9];exact gb b3 K0)
     ·have hj:j<z':=by grind
      have al:i*z'+j<l'.length*z':=by
       have:(i+1)*z'<=l'.length*z':=kG _ (kF.1 he).1
       grind
      simp_all
   grind
  grind
 |ptr _ _=>grind[kc]
 |cK _ _ _ _=>grind[kc]
 |sS _ _=>grind[kc]
 |mp _=>grind[kc]
def HV (hR:ad F β N H w)(hf: ¬N fid){z:Nat}{c d:List (List DC)}{a b rest:Array Value}{e:TypeId}{dL:Nat}{H0:HF}{u:Hp}{R:List Nat}(hz:0<z)(hc:ql F β N H w.drew z c a)(hd:ql F β N H w.drew z d b)
  (fZ:(c++d).length <=dL)(PD:rest.size=(dL -(c++d).length)*z)(h0: ∀H1,H1=u.on H->H1=br H0 fid (some (.az z (c++d))))(ht:Tr F β N H w.drew β N H0 w.drew)(UK:ad F β N H0 w.drew)
  (hK:K (bh (.own fid)) u R):bk F β N H fid K w (.slice (some ⟨w.heap.size,0,none⟩) (c++d).length dL) (w.drew.alloc (.cells (a++b++rest) e)):=by
 obtain⟨u9,il⟩:=ql.cat (rest:=rest) hc hd;have C2:Below w.heap.size w w.drew:=(Below.refl _ _).drew;have td:Tr F β N H w β N H w.drew:=Tr.grow hR C2;have tv:Below w.drew.heap.size w.drew (w.drew.alloc (.cells (a++b++rest) e)):=Below.ot _ _;have jq: ∀x,some w.heap.size=some x->w.drew.heap.size<=x:=λx hx=>by simp_all
 have t2:=Tr.new (w':=w.drew.alloc (.cells (a++b++rest) e)) UK tv hf (some w.heap.size) jq (.az z (c++d))
 have I7:(a++b++rest).size =dL*z:=by
  have e1:dL*z=(dL -(c++d).length)*z+(c++d).length *z:=by exact aci
  exact ajv
 have tm:(w.drew.alloc (.cells (a++b++rest) e)).heap[w.heap.size]? =some (.cells (a++b++rest) e):=gK w.drew _;have Pm:ad F β N H w.drew:=hR.grow C2
 have abL:ir F (cW β fid (some w.heap.size)) (Fw.bg N fid) (br H0 fid (some (.az z (c++d)))) (w.drew.alloc (.cells (a++b++rest) e)) fid (.az z (c++d)):=
  ⟨⟨hz,u9⟩,.inr ⟨w.heap.size,dL,_,e,by simp[cW],gG.gD hR.below.size,tm,I7,fZ,λi e' j x he hx=>(ht.trans t2).jr Pm (il i e' j x he hx)⟩⟩
 have hH:=ad.new UK tv hf (some w.heap.size) jq (.az z (c++d)) abL;exact K73
def MF (hf: ¬N fid){z:Nat}{H0:HF}{u:Hp}{R:List Nat}(hz:0<z)
  (hH0: ∀H1,H1=u.on H->H1=br H0 fid (some (.az z [])))(ht:Tr F β N H w β N H0 w)(UK:ad F β N H0 w)(hK:K (bh (.own fid)) u R):bk F β N H fid K w (.slice none 0 0) w:=by
 have hw:Below w.heap.size w w:=Below.refl _ _;have t2:=Tr.new UK hw hf none (by simp) (.az z []);have hH:=ad.new UK hw hf none (by simp) (.az z []) ⟨⟨hz,by simp⟩,.inl ⟨by simp[cW],rfl⟩⟩;have hu1:=hH0 _ rfl;refine⟨cW β fid none,_,u,R,hK,by rw[hu1];exact ht.trans t2,by grind,?_⟩;rw[hu1];refine cM ⟨.inr rfl,rfl,λnQ z' n' hb wV=>?_⟩;rw[an]at hb;cases hb;cases wV;exact .inl ⟨by simp[cW],rfl,rfl⟩
def Vn (hR:ad F β N H w)(hf: ¬N fid){z id b cap:Nat}{c d:List (List DC)}{arr new:Array Value}{T:TypeId}{R:List Nat}(hb:H id=some (.az z c))(xL:β id=some b)(lF:w.heap[b]? =some (.cells arr T))
  (nA:arr.size=cap*z)(hd:ql F β N H w z d new)(eA:c.length+d.length<=cap)
  (hK:K (bh (.own fid)) [(fid,some (.az z (c++d))),(id,none)] R):bk F β N H fid K w (.slice (some ⟨b,0,none⟩) (c++d).length cap) (w.setRow b (aO arr (c.length*z) new.toList)):=by
 obtain⟨hn,⟨hz,qe⟩,gC⟩:=hR.rel id _ hb
 rcases gC with⟨q,_⟩|⟨b',jD,arr',T',q1,q2,q3,q4,q5,q9⟩
 ·grind
 rw[xL]at q1;cases q1;rw[lF]at q3;cases q3;have fZ:cap=jD:=UV hz K0;subst fZ;have Bf:new.toList.length=d.length*z:=by simpa using hd.size
 have Pq:c.length*z+d.length*z<=arr.size:=ajz;have Pn:(aO arr (c.length*z) new.toList).size =arr.size:=fm K0;have Xl:id≠fid:=λe=>hf (e▸hn);have tm:(w.setRow b (aO arr (c.length*z) new.toList)).heap[b]? =some (.cells (aO arr (c.length*z) new.toList) T):=yd w b arr _ T (0,0) lF;have live: ∀ {k:Nat} {b0:cC},k≠fid->br (br H id none) fid (some (.az z (c++d))) k=some b0->k≠id/\H k=some b0:=by grind[aG,an]
 have hT:Tr F β N H w (cW β fid (some b)) (Fw.bg N fid) (br (br H id none) fid (some (.az z (c++d)))) (w.setRow b (aO arr (c.length*z) new.toList)):=by
  refine⟨jv.setRow (hR.fY hb xL).2 _,λb' o v _ hs e=>⟨λiQ bC e' jW=>?_,?_⟩,λ_ h=>.inl h,λiQ LG=>it _ _ _ λe=>hf (e▸LG),λiQ blk' LG e=>?_,λ_ _ _ b' xM T0 _ _ _ _ _ e=>?_,mh ⟨_,_,lF⟩ _⟩
  ·by_cases hk:iQ=fid
   ·subst hk;rw[jw]at jW;cases jW;exact(hs id _ hb xL).elim
   ·exact afJ
  ·by_cases hk:b'=b
   ·subst hk;exact(hs id _ hb xL).elim
   exact ach
  ·exact afz
  grind[setRow_other]
 have hc:ql F β N H w z c (arr.extract 0 (c.length*z)):=by
  refine⟨by grind,qe,λi e j x he hx=>?_⟩;have hj:j<z:=by grind
  have al:i*z+j<c.length*z:=by
   have:(i+1)*z<=c.length*z:=kG _ (kF.1 he).1
   grind
  grind[bP]
 obtain⟨u9,il⟩:=ql.cat (rest:=arr.extract (c.length*z+d.length*z) arr.size) hc hd
 have am4:aO arr (c.length*z) new.toList=arr.extract 0 (c.length*z)++new++arr.extract (c.length*z+d.length*z) arr.size:=by
  apply HJ
  grind[aO,Array.toList_extract,List.take_of_length_le]
 have hH:ad F (cW β fid (some b)) (Fw.bg N fid) (br (br H id none) fid (some (.az z (c++d)))) (w.setRow b (aO arr (c.length*z) new.toList)):=by
  refine hR.step hT (λi=>i=fid) (λi bC hi e=>?_) (λi bC hi e=>?_) (λi j x y y' hi hj bi bj=>?_)
  ·exact K65
  ·subst hi;rw[an]at e;cases e;refine⟨.inr rfl,⟨hz,u9⟩,.inr ⟨b,cap,_,T,by simp[cW],q2,tm,by omega,by grind,λi e' j x he hx=>?_⟩⟩;have:=hT.jr hR (il i e' j x he hx)
   grind
  ·exact K18
 refine⟨_,_,_,R,hK,hT,hH,cM ⟨.inr rfl,rfl,λnQ z' n' jW wV=>?_⟩⟩;have:br (br H id none) fid (some (.az z (c++d))) fid=some nQ:=jW;exact afw
def wA (hC:C.Ok)(hG:bH C F)(hR:ad F β N H w)(hf: ¬N fid){T T' ty:TypeId}{i i' ie:TI}{e e':TypeId}{x y:DC}{v0 v1:Value}{ly:List (List DC)}{ry:List Nat}(hi:C.ti T=some i)(bW:i.b8= .slice e)(lA:C.ti T'=some i')(Hq:i'.b8= .slice e')(l5:C.ti e=some ie)
  (h1:1<=ie.size)(h2:ie.bytes<=4096)(hzl:ie.zero.length=ie.size)(hx:cw F β N H w v0 x)(hy:cw F β N H w v1 y)(hdy:kc H ie.size y=some (ly,ry))(PU: ∀e∈ly,e.length=ie.size)
  (hc:(x= .nil /\ly.length<=xP/\K (bh (.own fid)) [(fid,some (.az ie.size ly))] ry)\/∃id l,x= .own id/\H id=some (.az ie.size l)/\l.length+ly.length<=xP/\K (bh (.own fid)) [(fid,some (.az ie.size (l++ly))),(id,none)] (id::ry)):
  ∃v w',(Builtin.append_ #[T,T'] ty #[v0,v1]).run C.P w= .ok v w'/\bk F β N H fid K w v w':=by
 obtain⟨tf',d',zv',eP⟩:=hC.get lA;have xG:=dn (eP.b8.trans Hq);have PK:C.P.underlying T'=some (.slice e'):=by rw[eP.Jd,xG]
 obtain⟨tf,d,zv,hT⟩:=hC.get hi;have hd:=dn (hT.b8.trans bW);have hu:C.P.underlying T=some (.slice e):=by rw[hT.Jd,hd]
 obtain⟨ef,ed,ez,hE⟩:=hC.get l5;have hzc:ez.cells.size=ie.size:=by exact af0
 have C2:Below w.heap.size w w.drew:=(Below.refl _ _).drew;have td:Tr F β N H w β N H w.drew:=Tr.grow hR C2;have Pm:ad F β N H w.drew:=hR.grow C2;have abO:=td.jr hR hy;have hL:xP=4294967296:=rfl
 rcases hc with⟨rfl,Gk,hK⟩|⟨id,l,rfl,hid,Gk,hK⟩
 ·have Ct:v0= .slice none 0 0:=hx;subst Ct;by_cases Ht:ly.length=0
  ·obtain⟨a,cap,new,rfl,np,Xo,Lr⟩:=iS hG hR hy hdy h1 PU;have bE:=(gq (P:=C.P) (w:=w) (ty:=ty) (base:=none) (sLen:=0) (sCap:=0) (old:= #[]) hu PK hE.ou hE.size hE.bytes hE.zero h2 (show 0+ly.length<=4294967296 by omega)).1 K0 np w rfl;rw[Ht]at bE;have qe:=Jj Ht;subst qe;exact⟨_,w,bE,MF (u:=[(fid,some (.az ie.size []))]) hf h1 (λ_ h=>h) Tr.refl hR hK⟩
  ·obtain⟨a,cap,new,rfl,np,Xo,Lr⟩:=iS hG Pm abO hdy h1 PU;obtain⟨dL,rest,g1,g2,bE⟩:=(gq (P:=C.P) (w:=w) (ty:=ty) (base:=none) (sLen:=0) (sCap:=0) (old:= #[]) hu PK hE.ou hE.size hE.bytes hE.zero h2 (show 0+ly.length<=4294967296 by omega)).2 K0 aj6 np;have e0:0+ly.length=([]++ly).length :=by simp
   rw[e0]at bE g1 g2;refine⟨_,_,bE,?_⟩;exact HV (u:=[(fid,some (.az ie.size ly))]) (c:=[]) (d:=ly) (a:= #[]) (b:=new) hR hf h1 ⟨by simp,by simp,by simp⟩ Lr g1 bw (λ_ h=>h) Tr.refl Pm hK
 ·obtain⟨hn,h1c,jo⟩:=hx;have hxd:cw F β N H w v0 (.own id):=⟨hn,h1c,jo⟩;obtain⟨_,⟨hz,qe⟩,gC⟩:=hR.rel id _ hid;have hlu: ∀e∈l,e.length=ie.size:=λe he=>let⟨k,hk⟩:=UZ.1 he;qe k e hk;have hdx:kc H ie.size (.own id)=some (l,[id]):=by simp[kc,hid]
  have afp: ∀(base:Option Addr) (cap:Nat),v0= .slice base l.length cap->¬l.length+ly.length<=cap->∃v w',(Builtin.append_ #[T,T'] ty #[v0,v1]).run C.P w= .ok v w'/\bk F β N H fid K w v w':=by
   rintro base cap rfl hgt;obtain⟨a,PC,new,rfl,np,Xo,Lr⟩:=iS hG Pm abO hdy h1 PU;obtain⟨a0,ahs,old,e0,xK,ami,al3⟩:=iS hG Pm (td.jr hR hxd) hdx h1 hlu;cases e0;obtain⟨dL,rest,g1,g2,bE⟩:=(gq (P:=C.P) (w:=w) (ty:=ty) (base:=base) (sLen:=l.length) (sCap:=cap) hu PK hE.ou hE.size hE.bytes hE.zero h2 K0).2 hgt xK np;rw[<- tH]at bE g1 g2;refine⟨_,_,bE,?_⟩;exact HV (u:=[(fid,some (.az ie.size (l++ly))),(id,none)]) (H0:=br H id none) hR hf h1 al3 Lr g1 bw (λ_ h=>h) (Tr.del id) (Pm.del id) hK
  rcases jo _ ie.size l.length hid rfl with⟨b1,b2,rfl⟩|⟨b,cap,arr,T0,b1,rfl,b3,b4⟩
  ·by_cases Ht:ly.length=0
   ·obtain⟨a,cap,new,rfl,np,Xo,Lr⟩:=iS hG hR hy hdy h1 PU;have bE:=(gq (P:=C.P) (w:=w) (ty:=ty) (base:=none) (sLen:=0) (sCap:=0) (old:= #[]) hu PK hE.ou hE.size hE.bytes hE.zero h2 (show 0+ly.length<=4294967296 by omega)).1 K0 np w rfl;rw[Ht]at bE;have e1:=Jj Ht;have e2:=Jj b2;subst e1 e2;exact⟨_,w,bE,MF (u:=[(fid,some (.az ie.size [])),(id,none)]) (H0:=br H id none) hf h1 (λ_ h=>h) (Tr.del id) (hR.del id) hK⟩
   grind
  ·by_cases nB:l.length+ly.length<=cap
   ·obtain⟨a,PC,new,rfl,np,Xo,Lr⟩:=iS hG hR hy hdy h1 PU;have tk:=Lr.one h1
    have Pq:l.length*ie.size+new.toList.length<=arr.size:=by
     have:new.toList.length=ly.length*ie.size:=by simpa using Lr.size
     exact ajm
    have alN:=SH C.P b (l.length*ie.size) T0 new.toList 0 arr w b3 K0 tk
    have bE:=(gq (P:=C.P) (w:=w) (ty:=ty) (base:=some ⟨b,0,none⟩) (sLen:=l.length) (sCap:=cap) (old:= #[]) hu PK hE.ou hE.size hE.bytes hE.zero h2 K0).1 nB np (w.setRow b (aO arr (l.length*ie.size) new.toList)) (by
     simp only[addr_add,j9]
     grind[aO])
    rw[<- tH]at bE;exact⟨_,_,bE,Vn hR hf hid b1 b3 b4 Lr nB hK⟩
   grind
end
section
variable {C:bS}{F:gG}{β:Nat->Option Nat}{N:Nat->Prop}{H:HF}{fid:Nat}{K:ka}{w w':World}{P:Program}
def Tp {d:TypeDesc}{k e:TypeId}(h:eB d= .map k e):d= .map k e:=by exact U2
theorem HW: ∀ {l:List (Nat × Bool)} {t:Nat} {b:Bool},ME l t=some b->(t,b)∈l
 | [],_,_,h=>by grind[ME]
 |(j,b)::l,t,i,h=>by
  simp only[ME]at h;split at h;simp_all
  ·exact jt _ (HW h)
def YQ (hC:C.Ok){e:TypeId}{x:SV}(h:Tn C e=some x): ∃f v,C.P.info? e=some f/\f.zero=some v/\∀mv mr:Mem,er mv mr v x:=by
 unfold Tn at h;split at h
 ·rename_i ie ag l5 hmz;split at h
  ·rename_i cs hzs;simp at h;subst h;obtain⟨f,d,v,hE⟩:=hC.get l5;have hm:=HW hmz;obtain⟨k,hk⟩:=UZ.1 hm;have hty:=aP (·[k]?) hC.mz;simp only[gA,hk,ya,lM]at hty
   have XC:(ag=true->∃arr,v= .agg arr)/\(ag=false->v.oneCell'=true):=by
    simp only[Yu,hE.ou,hE.zero]at hty
    grind
   rw[<- hE.xT]at hzs;obtain⟨b1,_,b3⟩:=qj hzs;refine⟨f,v,hE.ou,hE.zero,λmv mr=>?_⟩;unfold er;cases ag
   ·have h1:=XC.2 rfl;rw[HP h1]at b1 b3;obtain⟨c,rfl⟩: ∃c,cs= [c]:=xY.1 K0;obtain⟨v',q1,q2⟩:=b3 mv mr 0 c rfl
    grind
   ·obtain⟨arr,rfl⟩:=XC.1 rfl;refine⟨arr,rfl,by grind[Value.cells],λk c hk=>?_⟩;obtain⟨v',q1,q2⟩:=b3 mv mr k c hk
    grind[Value.cells,mi]
  grind
 grind
def pq (mv mr:Mem)(es:List (ByteArray × SV))(l:List MapEntry):Prop:=l.length=es.length/\∀(i:Nat) (k:ByteArray) (x:SV) (e:MapEntry),es[i]? =some (k,x)->l[i]? =some e->e.key= .string k/\er mv mr e.val x
theorem JG {mv mr:Mem}{a:ByteArray}: ∀ {es:List (ByteArray × SV)} {l:List MapEntry} (i0:Nat),pq mv mr es l->
  (iZ es a=none/\Instr.findNow .string (.string a) l i0=some none/\∀(v:Value) (x:SV) (n:Nat),er mv mr v x->pq mv mr (Ar es a x) (l++[⟨.string a,v,n⟩]))\/
   ∃x j e,iZ es a=some x/\l[j]? =some e/\Instr.findNow .string (.string a) l i0=some (some (i0+j,e.val))/\e.key= .string a/\er mv mr e.val x/\∀(v:Value) (x:SV),er mv mr v x->pq mv mr (Ar es a x) (l.set j {e with val:=v})
 | [],l,i0,h=>by
  have hl:l= []:=Jj (by simpa using h.1);subst hl;refine .inl ⟨rfl,rfl,λv x n hv=>⟨rfl,λi k y e h1 h2=>?_⟩⟩
  grind[Ar]
 |(k,x)::es,[],i0,h=>by have:=h.1;grind
 |(k,x)::es,e::l,i0,h=>by
  obtain⟨h0,h1⟩:=h;obtain⟨hk,hv⟩:=h1 0 k x e rfl rfl;have ame:pq mv mr es l:=⟨by grind,λi k' x' e' q1 q2=>h1 (i+1) k' x' e' bw bw⟩;have wU:Instr.sameNow .string (.string a) e.key=some (a==k):=by rw[hk];rfl
  have anD: ∀ {Xm:List (ByteArray × SV)} {l':List MapEntry} {y:SV} {e':MapEntry},e'.key= .string k->er mv mr e'.val y->pq mv mr Xm l'->pq mv mr ((k,y)::Xm) (e'::l'):=by
   intro Xm l' y e' g1 g2 g3;refine⟨by simp[g3.1],λi k' x' e2 q1 q2=>?_⟩
   cases i with
   |zero=>grind
   |succ i=>exact g3.2 i k' x' e2 bw bw
  cases hak:(a==k)
  ·rw[hak]at wU
   rcases JG (a:=a) (i0+1) ame with⟨q1,q2,q3⟩|⟨y,j,e',q1,q2,q3,q4,q5,q6⟩
   grind[iZ,Instr.findNow,Ar]
   ·refine .inr ⟨y,j+1,e',by grind[iZ],by grind,by grind[Instr.findNow],q4,q5,λv x' PT=>?_⟩
    grind[Ar]
  ·rw[hak]at wU;have e0:a=k:=(Go.MapKept.bytes_beq a k).1 hak;subst e0;refine .inr ⟨x,0,e,by grind[iZ],rfl,by grind[Instr.findNow],hk,hv,λv x' PT=>?_⟩
   grind[Ar]
def DJ (hC:C.Ok){k:TypeId}(h:w8 C k=true):C.P.underlying k=some .string :=by
 unfold w8 at h;split at h
 ·rename_i i hi;obtain⟨tf,d,z,hT⟩:=hC.get hi;split at h
  ·rename_i hc;rw[hT.Jd,mg (hT.b8.trans hc)]
  grind
 grind
def Bw (hR:ad F β N H w){v:Value}{id:Nat}{es:List (ByteArray × SV)}(hv:cw F β N H w v (.mp id))(he:H id=some (.map es)): ∃b arr ck,β id=some b/\v= .map (some b)/\F.dE b/\w.heap[b]? =some (.map arr ck)/\pq (MV F β H w) (MR F β H w) es arr.toList:=by
 obtain⟨_,b,h1,rfl⟩:=hv;obtain⟨_,b',arr,ck,q1,q2,q3,q4,q5⟩:=hR.rel id _ he;rw[h1]at q1;cases q1;exact⟨b,arr,ck,h1,rfl,q2,q3,by omega,λi k x e h2 h3=>q5 i k x e h2 bw⟩
theorem Vo (hC:C.Ok)(hR:ad F β N H w){T kt et:TypeId}{i:TI}{v:Value}{id:Nat}{a:ByteArray}{es:List (ByteArray × SV)}{z:SV}{ok:Bool}(hi:C.ti T=some i)(jc:i.b8= .map kt et)(hs:w8 C kt=true)(hz:Tn C et=some z)
  (hv:cw F β N H w v (.mp id))(he:H id=some (.map es)): ∃r,(Instr.lookup T v (.string a) ok).run C.P w= .ok r w/\co F β N H w r (vj (iZ es a) z ok):=by
 obtain⟨tf,d,zt,hT⟩:=hC.get hi;have hd:=Tp (hT.b8.trans jc);have abC:C.P.underlying T=some (.map kt et):=by rw[hT.Jd,hd]
 have hk:=DJ hC hs;obtain⟨b,arr,ck,h1,rfl,h2,h3,h4⟩:=Bw hR hv he;obtain⟨f,zv,f1,f2,f3⟩:=YQ hC hz;have hck:=λem=>Go.MapKept.run_checkKey (P:=C.P) (w:=w) (k:=.string a) hk trivial em 9999;have hzr:(zeroValue et).run C.P w= .ok zv w:=by simp[zeroValue,typeInfo,f1,f2]
 have R6: ∀(r:Value) (x:SV) (bb:Bool),er (MV F β H w) (MR F β H w) r x->orZ (iZ es a) z=x->isS (iZ es a)=bb->
   co F β N H w (if ok then .tuple #[r,.bool bb]else r) (vj (iZ es a) z ok):=by
  intro r x bb hr e1 e2;unfold vj;rw[e1,e2];cases ok
  ·exact er.dyn hr
  ·refine⟨#[r,.bool bb],rfl,rfl,λk y hk=>?_⟩
   match k with
   |0=>simp at hk;subst hk;exact er.dyn hr
   |1=>simp at hk;subst hk;exact⟨_,rfl,.lit rfl⟩
   |k+2=>grind
 rcases JG (a:=a) 0 h4 with⟨q1,q2,_⟩|⟨x,j,e,q1,q2,q3,q4,q5,_⟩
 ·refine⟨if ok then .tuple #[zv,.bool false]else zv,?_,R6 zv z false (f3 _ _) acj acj⟩;simp only[Instr.lookup,eK,tJ abC,my,Ss h3,lN,hck,Sx hk q2,hzr]
 ·refine⟨if ok then .tuple #[e.val,.bool true]else e.val,?_,R6 e.val x true q5 acj acj⟩;simp only[Instr.lookup,eK,tJ abC,my,Ss h3,lN,hck,Sx hk q3]
theorem Bx: ∀ {cs:List DC} {l:List SC},pp cs=some l->l.length=cs.length/\∀(k:Nat) (c:SC),l[k]? =some c->cs[k]? =some (.st c)
 | [],l,h=>by grind[pp]
 |d::cs,l,h=>by
  cases d<;>simp only[pp]at h<;>try cases h
  split at h
  ·rename_i l' hl;simp at h;subst h;obtain⟨h1,h2⟩:=Bx hl
   grind
  grind
def MG {v:Value}{ag:Bool}{cs:List DC}{l:List SC}(h:ar F β N H w v (ag,cs))(hs:pp cs=some l):er (MV F β H w) (MR F β H w) v (ag,l):=by
 obtain⟨h1,h2⟩:=Bx hs;unfold ar at h;unfold er;cases ag
 ·obtain⟨c,e,hc⟩:=h;simp at e;subst e;obtain⟨x,rfl⟩: ∃x,l= [x]:=xY.1 K0;have:=h2 0 x rfl;simp at this;subst this;exact⟨x,rfl,hc⟩
 ·obtain⟨arr,e1,e2,e3⟩:=h;exact⟨arr,e1,by grind,λk c hk=>e3 k _ (h2 k c hk)⟩
def Tq {id b:Nat}{es Xm:List (ByteArray × SV)}{arr arr':Array MapEntry}{ck ck':Nat}(hR:ad F β N H w)(hid:H id=some (.map es))(xL:β id=some b)(hm:F.dE b)(hb:w.heap[b]? =some (.map arr ck))(hen:pq (MV F β H w) (MR F β H w) Xm arr'.toList):
  Tr F β N H w β N (br H id (some (.map Xm))) {w with heap:=w.heap.setIfInBounds b (.map arr' ck')}/\ad F β N (br H id (some (.map Xm))) {w with heap:=w.heap.setIfInBounds b (.map arr' ck')}:=by
 obtain⟨tm,gk⟩:=Go.MapKept.heap_set (o':=.map arr' ck') hb
 have Jb:rd {w with heap:=w.heap.setIfInBounds b (.map arr' ck')}=rd w:=by
  funext b' x
  grind[rd,World.cell?]
 have live: ∀ {k:Nat} {b0:cC},k≠id->br H id (some (.map Xm)) k=some b0->H k=some b0:=λhk h=>by grind[aG]
 have tr:Tr F β N H w β N (br H id (some (.map Xm))) {w with heap:=w.heap.setIfInBounds b (.map arr' ck')}:=by
  refine⟨⟨rfl,rfl,rfl,by simp,λk hk hn=>gk k λe=>hn (e▸hm)⟩,λb' o v _ hs e=>⟨λiQ bC e' jW=>?_,by simp_all⟩,λ_ h=>h,λ_ _=>rfl,λiQ blk' hn e=>?_,λiQ blk' zn b' xM T _ e hz jW _ he=>?_,λk x e=>?_⟩
  ·by_cases hk:iQ=id
   ·subst hk;exact(hs iQ _ hid jW).elim
   ·exact hs iQ bC (live hk e') jW
  ·by_cases hk:iQ=id
   ·subst hk;rw[an]at e;cases e;exact⟨_,hid,trivial⟩
   ·exact⟨blk',live hk e,blk'.fU⟩
  grind
  grind
 refine⟨tr,hR.step tr (λi=>i=id) (λi bC hi e=>⟨live hi e,(hR.rel i bC (live hi e)).1,λb' jW=>gk b' λh=>hi ?_⟩) (λi bC hi e=>?_) (λi j x y y' hi hj bi bj=>?_)⟩
 ·subst h;exact hR.inj i id b' bC _ (live hi e) hid jW xL
 ·subst hi;rw[an]at e;cases e;refine⟨(hR.rel i _ hid).1,b,arr',ck',xL,hm,tm,by simpa using hen.1,λj k x e h1 h2=>?_⟩;obtain⟨a1,a2⟩:=hen.2 j k x e h1 bw;exact⟨a1,a2.mono tr.mv tr.mr⟩
 ·have f: ∀ {i:Nat} {y:cC},br H id (some (.map Xm)) i=some y->∃y0,H i=some y0:=by
   grind
  obtain⟨y0,h0⟩:=f hi;obtain⟨y1,h1⟩:=f hj;exact hR.inj i j x y0 y1 h0 h1 bi bj
def HX (hC:C.Ok)(hR:ad F β N H w){T kt et:TypeId}{i:TI}{v vv:Value}{id:Nat}{a:ByteArray}{es:List (ByteArray × SV)}{ag:Bool}{cs:List DC}{l:List SC}(hi:C.ti T=some i)(jc:i.b8= .map kt et)(hs:w8 C kt=true)
  (hv:cw F β N H w v (.mp id))(he:H id=some (.map es))(hvv:ar F β N H w vv (ag,cs))(hl:pp cs=some l):
  ∃w',(Instr.mapUpdate T v (.string a) vv).run C.P w= .ok () w'/\Tr F β N H w β N (br H id (some (.map (Ar es a (ag,l))))) w'/\ad F β N (br H id (some (.map (Ar es a (ag,l))))) w':=by
 obtain⟨tf,d,zt,hT⟩:=hC.get hi;have hd:=Tp (hT.b8.trans jc);have abC:C.P.underlying T=some (.map kt et):=by rw[hT.Jd,hd]
 have hk:=DJ hC hs;obtain⟨b,arr,ck,h1,rfl,h2,h3,h4⟩:=Bw hR hv he;have hck:=Go.MapKept.run_checkKey (P:=C.P) (w:=w) (k:=.string a) hk trivial false 9999;have il:=MG hvv hl
 rcases JG (a:=a) 0 h4 with⟨q1,q2,q3⟩|⟨x,j,e,q1,q2,q3,q4,q5,q6⟩
 ·obtain⟨t1,t2⟩:=Tq (arr':=arr.push ⟨.string a,vv,ck⟩) (ck':=ck+1) hR he h1 h2 h3 (by simpa using q3 vv _ ck il);refine⟨_,?_,t1,t2⟩;simp only[Instr.mapUpdate,eK,tJ abC,my,Ss h3,hck,Sx hk q2,Go.MapKept.run_setObj_map _ h3]
 ·have nq:(arr.modify j λe=>{e with key:=.string a,val:=vv}).toList =arr.toList.set j {e with val:=vv}:=by
   have al:j<arr.size:=by grind
   apply SX
   grind
  obtain⟨t1,t2⟩:=Tq (arr':=arr.modify j λe=>{e with key:=.string a,val:=vv}) (ck':=ck) hR he h1 h2 h3 (by rw[nq];exact q6 vv _ il);refine⟨_,?_,t1,t2⟩;have hq:arr[j]? =some e:=by grind
  have hq':arr[0+j]? =some e:=by grind
  have eG:(Instr.keyThatStays (.string a) (.string a)).run C.P w= .ok (.string a) w:=by
   have:Instr.sameBits 10000 (.string a) (.string a)=true:=by
    show(a==a)=true
    grind[Go.MapKept.bytes_beq]
   simp only[Instr.keyThatStays,this,if_true,lN]
  simp only[Instr.mapUpdate,eK,tJ abC,my,Ss h3,hck,Sx hk q3,hq',ya,vX,q4,eG,Go.MapKept.run_setObj_map _ h3]
  grind
def Qg (hR:ad F β N H w)(hf: ¬N fid){T:TypeId}:
  ∃v w',(Instr.makeMap T none).run C.P w= .ok v w'/\bk F β N H fid (λr u R=>r=bh (.mp fid)/\u= [(fid,some (.map []))]/\R= []) w v w':=by
 refine⟨.map (some w.heap.size),w.alloc (.map #[] 0),by simp[Instr.makeMap,newObj,Sem.run],?_⟩;refine bk.new (u:=[]) (b:=some w.heap.size) hR Tr.refl hf (Below.ot w _) (by simp) ⟨rfl,rfl,rfl⟩ (λH1 xS t1 t2=>?_) (λH1 xS=>cM ⟨.inr rfl,w.heap.size,by simp[cW],rfl⟩);exact⟨w.heap.size,#[],0,by simp[cW],gG.gD hR.below.size,gK w _,rfl,by simp⟩
def Qh (hC:C.Ok){e:TypeId}(h:Am C e=true):C.P.underlying e=some (.int .u8):=by
 unfold Am at h;split at h
 ·rename_i i hi;obtain⟨tf,d,z,hT⟩:=hC.get hi;split at h
  ·rename_i hc;rw[hT.Jd,rj (hT.b8.trans hc)]
  grind
 grind
theorem Qi (hC:C.Ok)(hR:ad F β N H w){src dst e:TypeId}{i j:TI}{s:ByteArray}(hi:C.ti src=some i)(hj:C.ti dst=some j)(h1:i.b8= .str)(h2:j.b8= .slice e)(h3:Am C e=true):
  ∃v w',(convert src dst (.string s)).run C.P w= .ok v w'/\bk F β N H fid (λr u R=>r=bh (.st (.view (kS s)))/\u= []/\R= []) w v w':=by
 obtain⟨tf,d,z,hT⟩:=hC.get hi;obtain⟨tf',d',z',eP⟩:=hC.get hj;have hu1:C.P.underlying src=some .string :=by rw[hT.Jd,mg (hT.b8.trans h1)]
 have hu2:C.P.underlying dst=some (.slice e):=by rw[eP.Jd,dn (eP.b8.trans h2)]
 refine⟨_,_,run_bytes_of_string w src dst e s hu1 hu2 (Qh hC h3),?_⟩;generalize fZ:grownCap w s.size 0 e=cap;generalize mb:((bytesRow s cap).size,(bytesRow s cap).size +1)=fr;have hB:Below w.heap.size w (w.drew.alloc (.cells (bytesRow s cap) e fr)):=(Below.refl _ _).drew.trans (Below.ot w.drew _);have hR2:=hR.grow hB;have t2:=Tr.grow hR hB;have tm:(w.drew.alloc (.cells (bytesRow s cap) e fr)).heap[w.heap.size]? =some (.cells (bytesRow s cap) e fr):=gK w.drew _
 have bD:(kS s).length =s.size:=by
  show(s.data.toList.map _).length =s.data.size
  grind
 have anz:s.size<=cap:=by grind[grownCap,Question.cut]
 refine⟨β,_,_,_,⟨rfl,rfl,rfl⟩,t2.bg,hR2.bg,co.bg (cM ?_)⟩;show dw _ _ _ _;by_cases h0:s.size=0
 ·rw[h0];exact .empty _ _ rfl ajW
 ·have e1:s.size=(SC.view (kS s)).len :=by grind[SC.len]
  rw[e1];refine .view w.heap.size 0 cap 1 (λk=>(bytesRow s cap).getD k undef) rfl K0 K0 K0 (λi e he=>?_) (λk hk=>?_) (λi e j x he hx=>?_)
  grind[SC.elem,kS]
  ·rw[j9,ri (gG.gD hR.below.size) (λid bC e' hb=>by have:=(hR.fY e' hb).1;omega)]
   have qU:k< (bytesRow s cap).size :=by
    simp only[bytesRow,SW,Yj,Array.size_replicate];have:s.data.size=s.size:=rfl;omega
   unfold rd World.cell?;simp_all
  ·simp only[SC.elem,kS,gA,m7]at he;obtain⟨b,hb,rfl⟩:=he
   cases j with
   |succ j=>grind
   |zero=>
    simp at hx;subst hx;have jW:s.data[i]? =some b:=by grind
    have al:i<s.data.size:=(GB.1 jW).1
    have:(bytesRow s cap).getD (i*1+0) undef= .int .u8 (b.toNat:Nat):=by
     refine mi ?_;simp only[bytesRow,Bi,tO]
     grind
    exact af1
theorem YR {v:Value}{d:DC}(h:cw F β N H w v d)(hp:Mn d=some true): ∃a,v= .pointer (some a):=by
 unfold Mn at hp;split at hp
 ·obtain⟨_,b,_,rfl⟩:=h;grind
 ·obtain⟨_,b,_,rfl⟩:=h;grind
 ·cases h with
  |empty a cap hv=>grind[SC.ao]
  |view _ _ _ _ _ hv=>grind[SC.ao]
  |ref b o f hc hr=>grind
 grind
 grind
theorem Vp (hC:C.Ok)(hG:bH C F)(hR:ad F β N H w){T e:TypeId}{i:TI}{n:Nat}{l:List Int}{v:Value}(hi:C.ti T=some i)(jc:i.b8= .array n e)(hv:cw F β N H w v (.st (.ints l)))(h1:1<=n)(h2:n<=l.length):
  ∃u,(Instr.arrayAt T v).run C.P w= .ok u w/\cw F β N H w u (.st (.ref ((l.take n).map λk=>.lit (.int .i64 k)))):=by
 obtain⟨tf,d,z,hT⟩:=hC.get hi;have hd:d= .array n e:=kv (hT.b8.trans jc);have hv:dw (MV F β H w) (MR F β H w) v (.ints l):=hv
 cases hv with
 |empty a cap hv h0=>exfalso;have h0:l.length=0:=h0;omega
 |view b o cap z f hv fL hz fZ hl hc hr=>
  have fL:0<l.length:=fL;obtain⟨e0,PW⟩:=SC.ow (c:=.ints l) fL;have hz1:z=1:=by grind[SC.elem]
  subst hz1;refine⟨.pointer (some ⟨b,o,none⟩),?_,?_⟩
  ·have: ¬(SC.ints l).len <n:=by grind[SC.len]
   simp[Instr.arrayAt,hT.cX,hd,this]
  ·refine .ref b o f (λk hk=>uf hG hR _ _ _ (hc k ajW)) λk x hx=>?_;simp only[gA,m7,L7]at hx;obtain⟨m,hm,rfl⟩:=hx;split at hm
   ·have:=hr k [.lit (.int .i64 m)] 0 (.lit (.int .i64 m)) ab3 rfl;simp only[Bi,tO]at this;obtain⟨e1,e2⟩:=cw.bB (F:=F) (β:=β) (N:=N) (H:=H) (w:=w) (dw.mono (Mem.le_refl _) (dZ _) this);rw[e1];exact .lit e2
   grind
theorem Vq (hC:C.Ok)(hG:bH C F)(hR:ad F β N H w)(hf: ¬N fid){E:EF}{a:Act}(hE:dH F β N H w E a){o:Oper}{Q:Exit->Act->World->Prop}(h:opX C fid o (C.ev E) H K):
  o.wp C.P a w (λa' w'=>∃v,a'=a.put o.dst v/\bk F β N H fid K w v w') Q:=by
 have ev: ∀ {x:Operand} {d:DV},C.ev E x=some d->co F β N H w (a.eval x) d:=λh=>mC hG hR hE h;unfold opX at h;split at h;rotate_left
 ·grind
 rename_i P r u R hx;obtain⟨hP,hK⟩:=h
 have conv: ∀ {v:Value} {w':World},bk F β N H fid (λr' u' R'=>r'=r/\u'=u/\R'=R) w v w'->bk F β N H fid K w v w':=by
  rintro v w' ⟨cQ,r',u',R',⟨rfl,rfl,rfl⟩,q1,q2,q3⟩;exact⟨cQ,_,_,_,hK,q1,q2,q3⟩
 unfold Qe at hx
 cases ho:o.op with
 |buildSlice T len parts=>
  rw[ho]at hx;simp only at hx;split at hx;rotate_left
  ·cases hx
  rename_i i hi;split at hx;rotate_left
  ·cases hx
  rename_i e bW;split at hx;rotate_left
  ·cases hx
  rename_i ie l5 hdp;split at hx;rotate_left
  ·cases hx
  rename_i hb;obtain⟨hb,h3⟩:=aD hb;obtain⟨h1,h2⟩:=aD hb;split at hx;rotate_left
  ·cases hx
  rename_i l hl;simp only[lM,ii]at hx;obtain⟨rfl,rfl,rfl,rfl⟩:=hx;obtain⟨v,w',hr,hp⟩:=JF hC hG hR hf hE hi bW l5 (fM h1) (fM h2) (pj h3) hl;exact bN HK ⟨_,rfl,conv hp⟩
 |call c=>
  rw[ho]at hx;simp only at hx;split at hx;rotate_left
  ·cases hx
  rename_i t t' x y hc wq dM;split at hx;rotate_left
  ·cases hx
  rename_i i i' hi lA;split at hx;rotate_left
  ·cases hx
  rename_i e e' jc ahr;split at hx;rotate_left
  ·cases hx
  rename_i ie l5 hdp;split at hx;rotate_left
  ·cases hx
  rename_i hb;obtain⟨hb,h3⟩:=aD hb;obtain⟨h1,h2⟩:=aD hb;split at hx;rotate_left
  ·cases hx
  rename_i ly ry hdy;have h0:c.args.size=2:=by exact afR
  obtain⟨x0,x1,Sm⟩: ∃x0 x1,c.args= #[x0,x1]:=aiG;have pb:C.ev E x0=some (.val (false,[x]))/\C.ev E x1=some (.val (false,[y])):=by grind
  have tm:c.argTypes= #[t,t']:=by grind
  have key: ∀ {v:Value} {w':World},(Builtin.append_ #[t,t'] o.type #[a.eval x0,a.eval x1]).run C.P w= .ok v w'->bk F β N H fid K w v w'->
    o.wp C.P a w (λa' w'=>∃v,a'=a.put o.dst v/\bk F β N H fid K w v w') Q:=by
   intro v w' hr hp;refine bN ?_ ⟨v,rfl,hp⟩;simp only[execOp,ho,resolve,hc,eK,lN,my,invoke];exact K98
  split at hx
  ·simp only[lM,ii]at hx;obtain⟨rfl,rfl,rfl,rfl⟩:=hx;obtain⟨v,w',hr,hp⟩:=wA (K:=K) (ty:=o.type) hC hG hR hf hi jc lA ahr l5 (fM h1) (fM h2) (pj h3) (ar.am (ev pb.1)) (ar.am (ev pb.2)) hdy hP.1 (.inl ⟨rfl,hP.2,hK⟩)
   grind
  ·rename_i id;split at hx
   ·rename_i z l hid;split at hx
    ·rename_i hz;have hz:=pj hz;subst hz;simp only[lM,ii]at hx;obtain⟨rfl,rfl,rfl,rfl⟩:=hx;obtain⟨v,w',hr,hp⟩:=wA (K:=K) (ty:=o.type) hC hG hR hf hi jc lA ahr l5 (fM h1) (fM h2) (pj h3) (ar.am (ev pb.1)) (ar.am (ev pb.2)) hdy hP.1 (.inr ⟨id,l,rfl,hid,hP.2,hK⟩)
     grind
    grind
   grind
  grind
 |makeMap T m=>
  rw[ho]at hx
  cases m with
  |some y=>cases hx
  |none=>
   simp only at hx;split at hx;rotate_left
   ·cases hx
   split at hx;rotate_left
   ·cases hx
   simp only[lM,ii]at hx;obtain⟨rfl,rfl,rfl,rfl⟩:=hx;obtain⟨v,w',hr,hp⟩:=Qg (C:=C) (T:=T) hR hf;exact bN aiF ⟨_,rfl,conv hp⟩
 |insert T m k v=>
  rw[ho]at hx;simp only at hx;split at hx;rotate_left
  ·cases hx
  rename_i i id s ag cs hi hm hk hv;split at hx;rotate_left
  ·cases hx
  rename_i kt et es l jc hid hl;split at hx;rotate_left
  ·cases hx
  rename_i hs;simp only[lM,ii]at hx;obtain⟨rfl,rfl,rfl,rfl⟩:=hx;obtain⟨w',hr,t1,t2⟩:=HX hC hR hi jc hs (ar.am (ev hm)) hid (ev hv) hl;have hke:a.eval k= .string s:=(ar.am (ev hk)).bB.1;rw[<- hke]at hr;exact DG HK ⟨_,rfl,⟨β,_,_,_,hK,t1.bg,t2.bg,⟨#[],rfl,rfl,by simp⟩⟩⟩
 |mapUpdate T m k v=>
  rw[ho]at hx;simp only at hx;split at hx;rotate_left
  ·cases hx
  rename_i i id s ag cs hi hm hk hv;split at hx;rotate_left
  ·cases hx
  rename_i kt et es l jc hid hl;split at hx;rotate_left
  ·cases hx
  rename_i hs;simp only[lM,ii]at hx;obtain⟨rfl,rfl,rfl,rfl⟩:=hx;obtain⟨w',hr,t1,t2⟩:=HX hC hR hi jc hs (ar.am (ev hm)) hid (ev hv) hl;have hke:a.eval k= .string s:=(ar.am (ev hk)).bB.1;rw[<- hke]at hr;exact DG HK ⟨_,rfl,⟨β,_,_,_,hK,t1.bg,t2.bg,⟨#[],rfl,rfl,by simp⟩⟩⟩
 |lookup T m k ok=>
  rw[ho]at hx;simp only at hx;split at hx;rotate_left
  ·cases hx
  rename_i i id s hi hm hk;split at hx;rotate_left
  ·cases hx
  rename_i kt et es jc hid;split at hx;rotate_left
  ·cases hx
  rename_i z hs hz;simp only[lM,ii]at hx;obtain⟨rfl,rfl,rfl,rfl⟩:=hx;obtain⟨v,hr,hp⟩:=Vo (ok:=ok) (a:=s) hC hR hi jc hs hz (ar.am (ev hm)) hid;have hke:a.eval k= .string s:=(ar.am (ev hk)).bB.1;rw[<- hke]at hr;exact bN HK ⟨_,rfl,bk.pure hR hK hp⟩
 |convert src dst y=>
  rw[ho]at hx;simp only at hx;split at hx;rotate_left
  ·cases hx
  rename_i i j s hi hj hy;split at hx;rotate_left
  ·cases hx
  rename_i e h1 h2;split at hx;rotate_left
  ·cases hx
  rename_i h3;simp only[lM,ii]at hx;obtain⟨rfl,rfl,rfl,rfl⟩:=hx;obtain⟨v,w',hr,hp⟩:=Qi (fid:=fid) (s:=s) hC hR hi hj h1 h2 h3;have hye:a.eval y= .string s:=(ar.am (ev hy)).bB.1;rw[<- hye]at hr;exact bN HK ⟨_,rfl,conv hp⟩
 |nilCheck x=>
  rw[ho]at hx;simp only at hx;split at hx;rotate_left
  ·cases hx
  rename_i d hd;split at hx;rotate_left
  ·cases hx
  rename_i hp;simp only[lM,ii]at hx;obtain⟨rfl,rfl,rfl,rfl⟩:=hx;have hr:=ar.am (ev hd);obtain⟨p,hv⟩:=YR hr hp;exact bN (v:=a.eval x) (by simp only[execOp,ho,hv];rfl) ⟨_,rfl,bk.pure hR hK (cM hr)⟩
 |sliceToArrayPointer T x=>
  rw[ho]at hx;simp only at hx;split at hx;rotate_left
  ·cases hx
  rename_i i l hi hl;split at hx;rotate_left
  ·cases hx
  rename_i n e jc;simp only[lM,ii]at hx;obtain⟨rfl,rfl,rfl,rfl⟩:=hx;obtain⟨u,hr,hp⟩:=Vp hC hG hR hi jc (ar.am (ev hl)) hP.1 hP.2;exact bN HK ⟨_,rfl,bk.pure hR hK (cM hp)⟩
 |slice T x lo hi mx=>
  rw[ho]at hx
  cases x with
  |global g=>
   cases lo<;>cases hi<;>cases mx<;>simp only at hx<;>try(cases hx;done)
   split at hx;rotate_left
   ·cases hx
   rename_i i hi;split at hx;rotate_left
   ·cases hx
   rename_i n e jc;split at hx;rotate_left
   ·cases hx
   rename_i ie l5;simp only[lM,ii]at hx;obtain⟨rfl,rfl,rfl,rfl⟩:=hx;obtain⟨tf,d,z,hT⟩:=hC.get hi;obtain⟨ef,ed,ez,Hx⟩:=hC.get l5;have hd:d= .array n e:=kv (hT.b8.trans jc)
   have bE:(Instr.sliceAt T (a.eval (.global g)) none none none).run C.P w= .ok (.slice (some ⟨g,0,none⟩) n n) w:=by
    show(Instr.sliceAt T (.pointer (some ⟨g,0,none⟩)) none none none).run C.P w=_;exact afA
   exact bN (by simp only[execOp,ho,eK,S8,bE,my];rfl) ⟨_,rfl,bk.pure hR hK (cM (.raw rfl))⟩
  |_=>cases hx
 |makeFunc fn first bM=>
  rw[ho]at hx
  cases fn with
  |func f=>
   simp only at hx;split at hx;rotate_left
   ·cases hx
   rename_i id kI hca;simp only[lM,ii]at hx;obtain⟨rfl,rfl,rfl,rfl⟩:=hx;obtain⟨c,hc⟩: ∃c,bM.toList= [c]:=xY.1 (by have:=aP List.length hca;grind);rw[hc,ju,Dh]at hca;have pb:C.ev E c=some (.val (false,[.ptr id 0])):=by grind
   obtain⟨hn,b,hb,hv⟩:=ar.am (ev pb);have Gi:first= #[]:=by grind
   have hce:bM= #[c]:=by grind
   have bE:(Instr.makeFunc (.func f) (first.map a.eval) (bM.map a.eval)).run C.P w= .ok (.func (.func f) #[] #[.pointer (some ⟨b,0,none⟩)]) w:=by
    rw[Gi,hce];show Result.ok (Value.func (.func f) (#[].map a.eval) (#[c].map a.eval)) w=_
    grind
   exact bN (by simp only[execOp,ho,eK,bE,my];rfl) ⟨_,rfl,bk.pure hR hK (cM ⟨hn,b,hb,rfl⟩)⟩
  |_=>cases hx
 |_=>grind
end
def bI (C:bS)(fid:Nat)(f:FuncId)(xs:List DX)(H:HF)(r:DV)(u:Hp)(R:List Nat):Prop:=
 iI C.P f=true/\∀(F:gG) (β:Nat->Option Nat) (N:Nat->Prop) (H':HF) (w:World) (vs:Array Value),(∀id∈R,H' id=H id)->bH C F->ad F β N H' w->(∀id,N id->tag id≠tag fid)->
  vs.size=xs.length->(∀k x,xs[k]? =some x->ar F β N H' w (vs.getD k undef) x)->
  Calls C.P f vs w λe w'=>∃v cQ,e= .returned v/\Tr F β N H' w cQ (bg N fid) (u.on H') w'/\ad F cQ (bg N fid) (u.on H') w'/\co F cQ (bg N fid) (u.on H') w' v r
def bI.local {C:bS}{fid:Nat}{f:FuncId}{xs:List DX}{H H':HF}{r:DV}{u:Hp}{R:List Nat}(h:bI C fid f xs H r u R)(hH: ∀id∈R,H' id=H id):bI C fid f xs H' r u R:=
 ⟨h.1,λF β N H0 w vs hR=>h.2 F β N H0 w vs λid hi=>(hR id hi).trans (hH id hi)⟩
def DK (ev:Operand->Option DV)(o:Oper):Option (FuncId × List SV × List (List SC) × List DX):=match o.op with
 | .call c=>match c.callee with
  | .value f=>match ev f with
   |some (.val (false,[.st (.fn g first bM)]))=>match Jp (c.args.toList.map ev)with
    |some xs=>some (g,first,bM,xs)
    |none=>none
   |_=>none
  |_=>none
 |_=>none
def hcA (C:bS)(fid:Nat)(o:Oper)(ev:Operand->Option DV)(H:HF)(K:ka):Prop:=match DK ev o with
 |some (g,first,bM,xs)=>∃r u R,bI C fid g (first.map dyn++xs++bM.map λcs=>(false,[.st (.ref cs)])) H r u R/\K r u R
 |none=>False
def opH (C:bS)(fid:Nat)(o:Oper)(ev:Operand->Option DV)(H:HF)(K:ka):Prop:=fk C fid o ev H K\/opX C fid o ev H K\/hcA C fid o ev H K
section
variable {C:bS}{F:gG}{β:Nat->Option Nat}{N:Nat->Prop}{H:HF}{fid:Nat}{K:ka}{w:World}
theorem JH {o:Oper}{ev j8:Operand->Option DV}(he: ∀x∈o.op.operands.toList,j8 x=ev x):DK j8 o=DK ev o:=by
 unfold DK
 cases ho:o.op with
 |call c=>
  grind[Op.operands,Call.operands,List.map_congr_left]
 |_=>rfl
def Vr {o:Oper}{ev:Operand->Option DV}(h:hcA C fid o ev H K): ∃r u R,K r u R/\∀(j8:Operand->Option DV) (H':HF) (K':ka),(∀x∈o.op.operands.toList,j8 x=ev x)->(∀id∈R,H' id=H id)->K' r u R->hcA C fid o j8 H' K':=by
 unfold hcA at h;split at h
 ·rename_i g first bM xs hx
  obtain⟨r,u,R,h1,h2⟩:=h;refine⟨r,u,R,h2,λj8 H' K' he hH hK=>?_⟩;unfold hcA;rw[JH he,hx];exact⟨r,u,R,h1.local hH,hK⟩
 grind
theorem HY {o:Oper}{ev:Operand->Option DV}(h:opH C fid o ev H K): ∃r u R,K r u R/\∀(j8:Operand->Option DV) (H':HF) (K':ka),(∀x∈o.op.operands.toList,j8 x=ev x)->(∀id∈R,H' id=H id)->K' r u R->opH C fid o j8 H' K':=by
 rcases h with h|h|h
 ·obtain⟨r,u,R,h1,h2⟩:=Vk h;exact⟨r,u,R,h1,λj8 H' K' he hH hK=>.inl (h2 j8 H' K' he hH hK)⟩
 ·obtain⟨r,u,R,h1,h2⟩:=Vm h;exact⟨r,u,R,h1,λj8 H' K' he hH hK=>.inr (.inl (h2 j8 H' K' he hH hK))⟩
 ·obtain⟨r,u,R,h1,h2⟩:=Vr h;exact⟨r,u,R,h1,λj8 H' K' he hH hK=>.inr (.inr (h2 j8 H' K' he hH hK))⟩
theorem YS (hG:bH C F)(hR:ad F β N H w)(hf: ∀id,N id->tag id≠tag fid){E:EF}{a:Act}(hE:dH F β N H w E a){o:Oper}{Q:Exit->Act->World->Prop}(h:hcA C fid o (C.ev E) H K):
  o.wp C.P a w (λa' w'=>∃v,a'=a.put o.dst v/\bk F β N H fid K w v w') Q:=by
 unfold hcA at h;split at h;rotate_left
 ·grind
 rename_i g first bM xs hx
 obtain⟨r,u,R,afj,hK⟩:=h;unfold DK at hx;split at hx;rotate_left
 ·cases hx
 rename_i c ho;split at hx;rotate_left
 ·cases hx
 rename_i fo hc;split at hx;rotate_left
 ·cases hx
 rename_i f' ang anx Lw;split at hx;rotate_left
 ·cases hx
 rename_i xs' Gn;cases hx;have mb:ar F β N H w (a.eval fo) _:=mC hG hR hE Lw;have Cy:dw (MV F β H w) (MR F β H w) (a.eval fo) (.fn g first bM):=mb.am;obtain⟨fv,cv,Gi,u6,US⟩:=DF Cy;obtain⟨v1,v2⟩:=yt Gn
 have bE:(execOp a.eval o).run C.P w= .ok (.enter g (fv++c.args.map a.eval++cv)) w:=by
  have XD:=afj.1;exact K48
 have s1:fv.size=first.length:=u6.1
 have s2:c.args.size=xs.length:=by grind
 have s3:cv.size=bM.length:=by have:=US.1;grind
 have dM: ∀k x,(first.map dyn++xs++bM.map λcs=>(false,[DC.st (.ref cs)]))[k]? =some x->ar F β N H w ((fv++c.args.map a.eval++cv).getD k undef) x:=by
  intro k x hk;by_cases h1:k<first.length
  ·rw[HB,UX bw]at hk;rw[gA,m7]at hk;obtain⟨y,hy,rfl⟩:=hk;have iR:(fv++c.args.map a.eval++cv).getD k undef=fv.getD k undef:=by simp[sT,s1,h1,X6 h1 (Nat.le_add_right _ _)]
   rw[iR];exact er.dyn ((u6.2 k y hy))
  ·by_cases h2:k<first.length+xs.length
   ·rw[HB,XL bw,UX bw]at hk;rw[jf]at hk;have hd:=v2 _ x hk;simp at hd;obtain⟨oo,ho1,ho2⟩:=hd
    have iR:(fv++c.args.map a.eval++cv).getD k undef=a.eval oo:=by
     have e2:k<first.length+c.args.size:=by omega
     simp only[sT,SA,SW,Yj,h1,e2,if_true,kM,s1,Array.getElem?_map,ho1];rfl
    rw[iR];exact mC hG hR hE ho2
   ·rw[XL bw]at hk;simp at hk;obtain⟨cs,UM,rfl⟩:=hk
    have iR:(fv++c.args.map a.eval++cv).getD k undef=cv.getD (k -(first.length+xs.length)) undef:=by
     have e1: ¬k<first.length+xs.length:=h2
     simp only[sT,SA,SW,Yj,s1,s2,e1,kM]
    rw[iR];have:=US.2 (k -(first.length+xs.length)) (false,[.ref cs]) bw;exact er.dyn this
 have Sh:=afj.2 F β N H w (fv++c.args.map a.eval++cv) (λ_ _=>rfl) hG hR hf bw dM;unfold Oper.wp;rw[bE];refine Sh.mono λe w1 he=>?_;obtain⟨v,cQ,rfl,h1,h2,h3⟩:=he;exact⟨v,rfl,cQ,r,u,R,hK,h1,h2,h3⟩
def Vs (hC:C.Ok)(hG:bH C F)(hR:ad F β N H w)(hf: ∀id,N id->tag id≠tag fid){E:EF}{a:Act}(hE:dH F β N H w E a){o:Oper}{Q:Exit->Act->World->Prop}(h:opH C fid o (C.ev E) H K):
  o.wp C.P a w (λa' w'=>∃v,a'=a.put o.dst v/\bk F β N H fid K w v w') Q:=by
 rcases h with h|h|h
 grind[YO]
 grind[Vq]
 grind[YS]
end
end Go.Fw
namespace Go.Fw
open Go.RowKit (Below)
abbrev GL:=DV × Hp × List Nat
def YT:List Oper->Nat->Option Oper
 | [],_=>none
 |o::_,0=>some o
 |_::l,i+1=>YT l i
theorem JI (l:List Oper)(i:Nat):YT l i=l[i]? :=by
 induction l generalizing i with
 |nil=>rfl
 |cons o l ih=>cases i with
  |zero=>rfl
  |succ i=>grind[YT]
def jE (l:List Oper)(i:Nat):Option Tmp:=match YT l i with
 |some o=>o.dst
 |none=>none
theorem MH (cB:Array Oper)(i:Nat):jE cB.toList i=(cB[i]?).bind (·.dst):=by grind[jE,JI]
def akg (d:Option Tmp)(r:DV)(E:dS):dS:=match d with
 |none=>E
 |some d=>(d,some r)::E
def JJ (d:Option Tmp)(r:DV)(E:EF):EF:=match d with
 |none=>E
 |some d=>λs=>if s=d then some r else E s
theorem dS.au (j:Nat)(b:Option DV)(E:dS):dS.get ((j,b)::E)=λs=>if s=j then b else dS.get E s:=by
 funext i;by_cases h:i=j
 ·subst h;simp[dS.get]
 grind[Nat.eq_of_beq_eq_true,dS.get]
def MI (d:Option Tmp)(r:DV)(E:dS):(akg d r E).get =JJ d r E.get:=by
 cases d with
 |none=>rfl
 |some d=>exact dS.au _ _ _
def Xp (b:Bool)(X Y:Prop):Prop:=match b with
 |true=>X
 |false=>Y
def As {b:Bool}{X Y:Prop}(h:b=true->X)(h':b=false->Y):Xp b X Y:=by
 cases b
 ·exact h' rfl
 ·exact h rfl
theorem MJ {X Y:Prop}(h:X):Xp true X Y:=h
theorem HZ {X Y:Prop}(h:Y):Xp false X Y:=h
theorem qo {X Y:Prop}(h:Xp true X Y):X:=h
theorem oC {X Y:Prop}(h:Xp false X Y):Y:=h
attribute [irreducible] Xp
abbrev wa (b:Bool):DV:=lit (.bool b)
abbrev bn:=List (List Nat × List Nat)
def eh (d:Option Tmp)(r:DV)(E:dS)(K:dS->Prop):Prop:=match d with
 |none=>K E
 |some d=>K ((d,some r)::E)
def DL:Hp->Hp->(Hp->Prop)->Prop
 | [],H,K=>K H
 |p::u,H,K=>DL u H λH=>K (p::H)
theorem yw {d:Option Tmp}{r:DV}{E:dS}{K:dS->Prop}:eh d r E K↔K (akg d r E):=by cases d<;>exact Iff.rfl
theorem DM {u H:Hp}{K:Hp->Prop}:DL u H K↔K (u++H):=by
 induction u generalizing K with
 |nil=>exact Iff.rfl
 |cons p u ih=>unfold DL;grind
def GM (C:bS)(fid:Nat)(o:Oper)(E:dS)(H:Hp)(t:bn)(k:dS->Hp->bn->Prop):Prop:=
 opH C fid o (C.ev E.get) H.get λr u R=>DL u H λH'=>eh o.dst r E λE'=>k E' H' ((R,u.map Prod.fst)::t)
def kT (o:Oper)(E:dS)(H:Hp)(t:bn)(k:dS->Hp->bn->Prop):Prop:=
 eh o.dst (.aI []) E λE'=>k E' H (([],[])::t)
def af9 (C:bS)(fid:Nat)(o:Oper)(g:Nat)(Gw b:Bool)(E:dS)(H:Hp)(t:bn)(k:dS->Hp->bn->Prop):Prop:=
 (b=Gw/\GM C fid o E H t k)\/(b= !Gw/\kT o E H t k)\/
  (Gw=true/\Xp b (GM C fid o ((g,some (wa true))::E) H t k) (kT o ((g,some (wa false))::E) H t k))\/
  (Gw=false/\Xp b (kT o ((g,some (wa true))::E) H t k) (GM C fid o ((g,some (wa false))::E) H t k))
def qp (C:bS)(all:List Oper)(n0:Nat):List Oper->Nat->dS->Hp->bn->(dS->Hp->Nat->bn->Prop)->Prop
 | [],i,E,H,t,K=>K E H i t
 |o::rest,i,E,H,t,K=>match o.guard with
  |none=>GM C (2*(n0+i)) o E H t λE' H' t'=>qp C all n0 rest (i+1) E' H' t' K
  |some (j,Gw)=>match jE all j with
   |none=>False
   |some g=>match E.get g with
    |some (.val (false,[.st (.lit (.bool b))]))=>af9 C (2*(n0+i)) o g Gw b E H t λE' H' t'=>qp C all n0 rest (i+1) E' H' t' K
    |some (.aI [])=>kT o E H t λE' H' t'=>qp C all n0 rest (i+1) E' H' t' K
    |_=>False
def jI (all:List Oper)(E:EF)(o:Oper):Option Bool:=match o.guard with
 |none=>some true
 |some (j,Gw)=>match jE all j with
  |none=>none
  |some g=>match E g with
   |some (.val (false,[.st (.lit (.bool b))]))=>some (b==Gw)
   |some (.aI [])=>some false
   |_=>none
inductive DN (C:bS) (all:List Oper) (fid:Nat) (o:Oper) (E:EF) (H:HF):GL->Prop
 |run (r:DV) (u:Hp) (R:List Nat) (hg:jI all E o=some true)
   (h: ∀(j8:Operand->Option DV) (H':HF) (K':ka),(∀x∈o.op.operands.toList,j8 x=C.ev E x)->(∀id∈R,H' id=H id)->K' r u R->opH C fid o j8 H' K'):DN C all fid o E H (r,u,R)
 |skip (hg:jI all E o=some false):DN C all fid o E H (.aI [],[],[])
inductive JK (C:bS) (all:List Oper) (n0:Nat):List Oper->Nat->EF->HF->List GL->EF->HF->Prop
 |nil (i:Nat) (E:EF) (H:HF):JK C all n0 [] i E H [] E H
 |cons {o:Oper} {rest:List Oper} {i:Nat} {E:EF} {H:HF} {e:GL} {es:List GL} {E':EF} {H':HF}
   (h:DN C all (2*(n0+i)) o E H e) (t:JK C all n0 rest (i+1) (JJ o.dst e.1 E) (e.2.1.on H) es E' H'):JK C all n0 (o::rest) i E H (e::es) E' H'
def rz (es:List GL)(t:bn):bn:=es.foldl (λt e=>(e.2.2,e.2.1.map Prod.fst)::t) t
section
variable {C:bS}{all:List Oper}{n0:Nat}
def yx {E:dS}{g:Nat}{d:DV}(h:E.get g=some d):dS.get ((g,some d)::E)=E.get:=by
 rw[dS.au]
 grind
theorem H3 {rest:List Oper}: ∀ {i:Nat} {E:dS} {H:Hp} {t:bn} {K:dS->Hp->Nat->bn->Prop},qp C all n0 rest i E H t K->
  ∃es E' H',JK C all n0 rest i E.get H.get es E'.get H'.get/\K E' H' (i+rest.length) (rz es t):=by
 induction rest with
 |nil=>intro i E H t K h;exact⟨[],E,H,.nil _ _ _,h⟩
 |cons o rest ih=>
  intro i E H t K h;have el:i+1+rest.length=i+(o::rest).length :=by grind
  have afk: ∀ {E0:dS},E0.get=E.get->jI all E.get o=some true->(GM C (2*(n0+i)) o E0 H t λE' H' t'=>qp C all n0 rest (i+1) E' H' t' K)->
    ∃es E' H',JK C all n0 (o::rest) i E.get H.get es E'.get H'.get/\K E' H' (i+(o::rest).length) (rz es t):=by
   intro E0 hE0 hg h;unfold GM at h;obtain⟨r,u,R,h1,h2⟩:=HY h;rw[DM,yw]at h1;obtain⟨es,E',H',hr,hK⟩:=ih h1;rw[el]at hK;rw[MI,Hp.get_append,hE0]at hr;rw[hE0]at h2;exact⟨(r,u,R)::es,E',H',.cons (.run r u R hg h2) hr,hK⟩
  have Se: ∀ {E0:dS},E0.get=E.get->jI all E.get o=some false->(kT o E0 H t λE' H' t'=>qp C all n0 rest (i+1) E' H' t' K)->
    ∃es E' H',JK C all n0 (o::rest) i E.get H.get es E'.get H'.get/\K E' H' (i+(o::rest).length) (rz es t):=by
   intro E0 hE0 hg h;unfold kT at h;rw[yw]at h;obtain⟨es,E',H',hr,hK⟩:=ih h;rw[el]at hK;rw[MI,hE0]at hr;exact⟨(.aI [],[],[])::es,E',H',.cons (.skip hg) hr,hK⟩
  unfold qp at h;split at h
  grind[jI]
  ·rename_i j Gw hg;split at h
   ·grind
   rename_i g hj;split at h
   ·rename_i b hb
    rcases h with⟨rfl,h⟩|⟨rfl,h⟩|⟨rfl,h⟩|⟨rfl,h⟩
    ·grind[jI]
    ·exact Se rfl (by simp[jI,hg,hj,hb]) h
    ·cases b
     ·exact Se (yx hb) acf (oC h)
     ·exact afk (yx hb) acf (qo h)
    ·cases b
     ·exact afk (yx hb) acf (oC h)
     ·exact Se (yx hb) acf (qo h)
   grind[jI]
   grind
def yz {b:Bool}{X Y X' Y':Prop}(h:Xp b X Y)(hx:X->X')(hy:Y->Y'):Xp b X' Y':=by
 cases b
 grind[HZ,oC]
 grind[MJ,qo]
def YU {fid:Nat}{o:Oper}{ev:Operand->Option DV}{H:HF}{K K':ka}(h:opH C fid o ev H K)(hK: ∀r u R,K r u R->K' r u R):opH C fid o ev H K':=by grind[HY]
theorem qq {fid:Nat}{o:Oper}{E:dS}{H:Hp}{t:bn}{k k':dS->Hp->bn->Prop}(h:GM C fid o E H t k)(hk: ∀E H t,k E H t->k' E H t):GM C fid o E H t k':=by
 refine YU h λr u R h=>?_
 grind[DM,yw]
theorem oD {o:Oper}{E:dS}{H:Hp}{t:bn}{k k':dS->Hp->bn->Prop}(h:kT o E H t k)(hk: ∀E H t,k E H t->k' E H t):kT o E H t k':=by grind[kT,yw]
theorem Vt {rest:List Oper}: ∀ {i:Nat} {E:dS} {H:Hp} {t:bn} {K K':dS->Hp->Nat->bn->Prop},qp C all n0 rest i E H t K->(∀E H n t,K E H n t->K' E H n t)->
  qp C all n0 rest i E H t K':=by
 induction rest with
 |nil=>intro i E H t K K' h hK;exact hK _ _ _ _ h
 |cons o rest ih=>
  intro i E H t K K' h hK;unfold qp at h ⊢;split at h
  grind[qq]
  ·split at h
   ·omega
   split at h
   ·rcases h with⟨e,h⟩|⟨e,h⟩|⟨e,h⟩|⟨e,h⟩
    ·exact .inl ⟨e,qq h λ_ _ _ h=>ih h hK⟩
    ·exact .inr (.inl ⟨e,oD h λ_ _ _ h=>ih h hK⟩)
    ·exact .inr (.inr (.inl ⟨e,yz h (λh=>qq h λ_ _ _ h=>ih h hK) λh=>oD h λ_ _ _ h=>ih h hK⟩))
    ·exact .inr (.inr (.inr ⟨e,yz h (λh=>oD h λ_ _ _ h=>ih h hK) λh=>qq h λ_ _ _ h=>ih h hK⟩))
   grind[oD]
   omega
end
structure jx (C:bS) (all:List Oper) (n0:Nat) (rest:List Oper) (i:Nat) (E:dS) (H:Hp) (t:bn) (K:dS->Hp->Nat->bn->Prop):Prop where
 out:qp C all n0 rest i E H t K
structure cS (C:bS) (fid:Nat) (o:Oper) (E:dS) (H:Hp) (t:bn) (k:dS->Hp->bn->Prop):Prop where
 out:GM C fid o E H t k
section
variable {C:bS}{all:List Oper}{n0 i fid:Nat}{o:Oper}{rest:List Oper}{E:dS}{H:Hp}{t:bn}{K:dS->Hp->Nat->bn->Prop}{k:dS->Hp->bn->Prop}
def oN (h:K E H i t):jx C all n0 [] i E H t K:=⟨h⟩
def cS.go {E:dS}(h:cS C fid o E H t λE' H' t'=>jx C all n0 rest (i+1) E' H' t' K):GM C fid o E H t λE' H' t'=>qp C all n0 rest (i+1) E' H' t' K:=
 qq h.out λ_ _ _ h=>h.out
def rA {E:dS}(h:kT o E H t λE' H' t'=>jx C all n0 rest (i+1) E' H' t' K):kT o E H t λE' H' t'=>qp C all n0 rest (i+1) E' H' t' K:=
 oD h λ_ _ _ h=>h.out
def oP (hg:o.guard=none)(h:cS C (2*(n0+i)) o E H t λE' H' t'=>jx C all n0 rest (i+1) E' H' t' K):jx C all n0 (o::rest) i E H t K:=by
 refine⟨?_⟩;unfold qp;rw[hg];exact h.go
def oY {g j:Nat}{b:Bool}(hg:o.guard=some (j,b))(hd:jE all j=some g)(hv:E.get g=some (.val (false,[.st (.lit (.bool b))])))
  (h:cS C (2*(n0+i)) o E H t λE' H' t'=>jx C all n0 rest (i+1) E' H' t' K):jx C all n0 (o::rest) i E H t K:=by
 refine⟨?_⟩;unfold qp;simp only[hg,hd,hv];exact .inl ⟨rfl,h.go⟩
def oZ {g j:Nat}{b:Bool}(hg:o.guard=some (j,b))(hd:jE all j=some g)(hv:E.get g=some (.val (false,[.st (.lit (.bool (!b)))])))
  (h:kT o E H t λE' H' t'=>jx C all n0 rest (i+1) E' H' t' K):jx C all n0 (o::rest) i E H t K:=by
 refine⟨?_⟩;unfold qp;simp only[hg,hd,hv];exact .inr (.inl ⟨rfl,rA h⟩)
def oO {g j:Nat}{b:Bool}(hg:o.guard=some (j,b))(hd:jE all j=some g)(hv:E.get g=some (.aI []))
  (h:kT o E H t λE' H' t'=>jx C all n0 rest (i+1) E' H' t' K):jx C all n0 (o::rest) i E H t K:=by
 refine⟨?_⟩;unfold qp;simp only[hg,hd,hv];exact rA h
def JL {g j:Nat}{b:Bool}(hg:o.guard=some (j,true))(hd:jE all j=some g)(hv:E.get g=some (.val (false,[.st (.lit (.bool b))])))
  (h:b=true->cS C (2*(n0+i)) o ((g,some (wa true))::E) H t λE' H' t'=>jx C all n0 rest (i+1) E' H' t' K)
  (h':b=false->kT o ((g,some (wa false))::E) H t λE' H' t'=>jx C all n0 rest (i+1) E' H' t' K):jx C all n0 (o::rest) i E H t K:=by
 refine⟨?_⟩;unfold qp;simp only[hg,hd,hv];exact .inr (.inr (.inl ⟨rfl,As (λe=>(h e).go) λe=>rA (h' e)⟩))
def MK {g j:Nat}{b:Bool}(hg:o.guard=some (j,false))(hd:jE all j=some g)(hv:E.get g=some (.val (false,[.st (.lit (.bool b))])))
  (h:b=true->kT o ((g,some (wa true))::E) H t λE' H' t'=>jx C all n0 rest (i+1) E' H' t' K)
  (h':b=false->cS C (2*(n0+i)) o ((g,some (wa false))::E) H t λE' H' t'=>jx C all n0 rest (i+1) E' H' t' K):jx C all n0 (o::rest) i E H t K:=by
 refine⟨?_⟩;unfold qp;simp only[hg,hd,hv];exact .inr (.inr (.inr ⟨rfl,As (λe=>rA (h e)) λe=>(h' e).go⟩))
def rG {r:DV}{u:Hp}{R:List Nat}(h1: ∀K:ka,K r u R->fk C fid o (C.ev E.get) H.get K)
  (h2:DL u H λH'=>eh o.dst r E λE'=>k E' H' ((R,u.map Prod.fst)::t)):cS C fid o E H t k:=⟨.inl (h1 _ h2)⟩
def gu {r:DV}{u:Hp}{R:List Nat}(h1: ∀K:ka,K r u R->hcA C fid o (C.ev E.get) H.get K)
  (h2:DL u H λH'=>eh o.dst r E λE'=>k E' H' ((R,u.map Prod.fst)::t)):cS C fid o E H t k:=⟨.inr (.inr (h1 _ h2))⟩
def rGX {P:Prop}{r:DV}{u:Hp}{R:List Nat}(h1:Qe C fid o (C.ev E.get) H.get=some (P,r,u,R))(hP:P)
  (h2:DL u H λH'=>eh o.dst r E λE'=>k E' H' ((R,u.map Prod.fst)::t)):cS C fid o E H t k:=⟨.inr (.inl (by grind[opX]))⟩
end
structure eC (B:Nat) (l:List Deferred) (w:World):Prop where
 all: ∀d∈l,∃D,d= {target:=.collected D,args:= #[]}/\w.heap[D]? =some (.deferred (some []))/\B<=D
 nodup:l.Nodup
def eC.nil (B:Nat)(w:World):eC B [] w:=⟨by simp,Me⟩
def eC.keep {B:Nat}{l:List Deferred}{w w':World}(h:eC B l w)(k: ∀(k:Nat) (x:Option (List Deferred)),w.heap[k]? =some (.deferred x)->w'.heap[k]? =some (.deferred x)):eC B l w':=
 ⟨λd hd=>let⟨D,h1,h2,h3⟩:=h.all d hd;⟨D,h1,k D _ h2,h3⟩,h.nodup⟩
def gG.okD (F:gG)(nt t:Nat):Prop:=t<nt/\∀p∈F.fixed,p.1≠t
structure Ch (F:gG) (nt:Nat) (E:EF) (H:HF) (N:Nat->Prop) (a:Act) (w:World):Prop where
 size:a.tmps.size=nt
 defers:eC F.db a.defers w
 fix: ∀p∈F.fixed,a.tmps.getD p.1 undef=p.2
 rel: ∃β,dH F β N H w E a/\ad F β N H w
section
variable {C:bS}{F:gG}{nt:Nat}{E:EF}{H:HF}{N:Nat->Prop}{a:Act}{w:World}{cB:Array Oper}{o:Oper}{fid:Nat}{e:GL}{Q:Exit->Act->World->Prop}{K:Act->World->Prop}
theorem wB {β:Nat->Option Nat}(hE:dH F β N H w E a){b:Bool}(h:jI cB.toList E o=some b):Region.wanted o (yielded cB a.tmps)=b:=by
 unfold jI at h;unfold Region.wanted;split at h
 grind
 ·rename_i j Gw hg;simp only[hg];split at h
  ·cases h
  rename_i g hj;rw[MH]at hj;unfold yielded;rw[hj];simp only[Ma];split at h
  ·rename_i c hc;have:=hE g _ hc;have hv:=(ar.am this).bB.1
   have al:a.tmps[g]? =some (.bool c):=by
    rw[sT]at hv
    cases h':a.tmps[g]? with
    |none=>rw[h']at hv;cases hv
    |some x=>grind
   simp_all
  ·rename_i hc;obtain⟨arr,h1,h2,_⟩:=hE g _ hc;simp only[lM]at h;rw[<- h];rw[sT]at h1
   grind
  grind
theorem dH.put {β:Nat->Option Nat}{d:Option Tmp}{v:Value}{r:DV}(hE:dH F β N H w E a)(hv:co F β N H w v r)(hd: ∀t,d=some t->t<a.tmps.size):
  dH F β N H w (JJ d r E) (a.put d v):=by
 cases d with
 |none=>exact hE
 |some d=>
  intro s dv hs;simp only[JJ]at hs;have al:=hd d rfl;by_cases h:s=d
  ·subst h;simp at hs;subst hs;simp[Act.put,al];exact hv
  ·rw[if_neg h]at hs;have:=hE s dv hs;have e:(a.put (some d) v).tmps.getD s undef=a.tmps.getD s undef:=by simp[Act.put,XO (ox h)]
   grind
theorem ML (a:Act)(d:Option Tmp)(v:Value):(a.put d v).tmps.size =a.tmps.size:=by cases d<;>simp[Act.put]
theorem Tt {F:gG}{a:Act}(h: ∀p∈F.fixed,a.tmps.getD p.1 undef=p.2)(d:Option Tmp)(v:Value)(hd: ∀t,d=some t->∀p∈F.fixed,p.1≠t): ∀p∈F.fixed,(a.put d v).tmps.getD p.1 undef=p.2:=by
 intro p hp
 cases d with
 |none=>exact h p hp
 |some t=>
  have:=hd t rfl p hp;rw[<- h p hp];simp[Act.put,XO (ox this)]
theorem DO (a:Act)(d:Option Tmp)(v:Value):(a.put d v).defers =a.defers:=by cases d<;>rfl
theorem Tu (hC:C.Ok)(hG:bH C F)(hd: ∀t,o.dst=some t->F.okD nt t){E0:EF}{H0:HF}(h:DN C cB.toList fid o E0 H0 e)
  (hop: ∀x∈o.op.operands.toList,C.ev E x=C.ev E0 x)(hgd:jI cB.toList E o=jI cB.toList E0 o)(Jb: ∀id∈e.2.2,H id=H0 id)
  (hrel:Ch F nt E H N a w)(hf: ∀id,N id->tag id≠tag fid)
  (hK: ∀a' w',Ch F nt (JJ o.dst e.1 E) (e.2.1.on H) (bg N fid) a' w'->K a' w'):
  if Region.wanted o (yielded cB a.tmps)then o.wp C.P a w K Q\/(o.asks C.P a w/\LetsOut Q)else K (a.put o.dst undef) w:=by
 obtain⟨hs,hdf,hfx,β,hE,hR⟩:=hrel
 cases h with
 |run r u R hg h=>
  rw[wB hE (hgd.trans hg)];simp only[if_true];refine .inl ?_;have h1:=h (C.ev E) H (λr' u' R'=>r'=r/\u'=u/\R'=R) hop Jb ⟨rfl,rfl,rfl⟩;refine Oper.wp_mono ?_ (Vs (Q:=Q) hC hG hR hf hE h1);rintro a' w' ⟨v,rfl,cQ,r',u',R',⟨rfl,rfl,rfl⟩,ht,Ac,hv⟩;exact hK _ _ ⟨by grind[ML],by rw[DO];exact hdf.keep ht.av,Tt hfx _ _ λt e=>(hd t e).2,cQ,(ht.env hR hE).put hv ajC,Ac⟩
 |skip hg=>
  rw[wB hE (hgd.trans hg)];simp only[tE,kM];refine hK _ _ ⟨by grind[ML],by grind[DO],Tt hfx _ _ λt e=>(hd t e).2,β,?_,hR.bg⟩;refine dH.put (λs dv h=>(hE s dv h).bg) ?_ ajC;exact⟨#[],rfl,rfl,by simp⟩
theorem Vu (hC:C.Ok)(hG:bH C F){n0:Nat}{rest:List Oper}{es:List GL}{E':EF}{H':HF}: ∀ {i:Nat} {E:EF} {H:HF} {N:Nat->Prop} {a:Act} {w:World},JK C cB.toList n0 rest i E H es E' H'->
  (∀o∈rest,∀t,o.dst=some t->F.okD nt t)->Ch F nt E H N a w->(∀id,N id->tag id<n0+i)->
  (∀a' w' N',Ch F nt E' H' N' a' w'->(∀id,N' id->tag id<n0+(i+rest.length))->Q .normal a' w')->wpList C.P cB Q rest a w:=by
 induction rest generalizing es with
 |nil=>
  intro i E H N a w h _ hrel hN hQ;cases h;exact hQ a w N hrel hN
 |cons o rest ih=>
  intro i E H N a w h hd hrel hN hQ
  cases h with
  |cons h t=>
   unfold wpList;refine Tu hC hG (hd o je) h (λ_ _=>rfl) rfl (λ_ _=>rfl) hrel (λid hn=>by have:=hN _ hn;rw[jP];omega) ?_;intro a' w' afn;refine ih t (λo' ho'=>hd o' (jt _ ho')) afn ?_ ?_
   ·rintro id (hn|hn)
    grind
    ·rw[jP]at hn;omega
   grind
end
section
variable {α:Type}(vh:Nat->(Nat->α)->Nat->α)(wr:Nat->Nat->Prop)(f0:Nat->α)
structure Tv:Prop where
 same: ∀i k f g,wr i k->vh i f k=vh i g k
 other: ∀i k f,¬wr i k->vh i f k=f k
def cY (X:Nat->Bool):Nat->Nat->α
 |0=>f0
 |n+1=>if X n then vh n (cY X n)else cY X n
variable {vh wr f0}
theorem kw (h:Tv vh wr){X Y:Nat->Bool}{k:Nat}: ∀ {n:Nat},(∀i,i<n->wr i k->X i=Y i)->cY vh f0 X n k=cY vh f0 Y n k
 |0,_=>rfl
 |n+1,hXY=>by
  have ih:=kw h (n:=n) λi hi=>hXY i K0
  have anO: ∀f g:Nat->α,f k=g k->vh n f k=vh n g k:=λf g e=>by
   by_cases hw:wr n k
   ·exact h.same _ _ _ _ hw
   ·rw[h.other _ _ _ hw,h.other _ _ _ hw,e]
  simp only[cY];by_cases hw:wr n k
  grind
  ·split<;>split
   grind
   ·rw[h.other _ _ _ hw,ih]
   ·rw[h.other _ _ _ hw,ih]
   omega
theorem MM (j:Nat): ∀ {n:Nat},j<=n->cY vh f0 (λi=>decide (i<j)) n=cY vh f0 (λ_=>true) j:=by
 have h1: ∀n,n<=j->cY vh f0 (λi=>decide (i<j)) n=cY vh f0 (λ_=>true) n:=by
  intro n
  induction n with
  |zero=>intro _;rfl
  |succ n ih=>intro hn;simp only[cY,if_true];grind
 intro n hn
 induction n with
 |zero=>grind
 |succ n ih=>
  by_cases e:j=n+1
  grind
  ·simp only[cY]
   grind
def qr (X:Nat->Bool)(j:Nat):Nat->Bool:=λi=>if i=j then true else X i
theorem H4 (h:Tv vh wr){X:Nat->Bool}{j n:Nat}(hj:j<n)(hX:X j=false)(dm: ∀i,j<i->i<n->X i=true->∀k,wr i k->wr j k->False):
  cY vh f0 (qr X j) n=vh j (cY vh f0 X n):=by
 funext k;by_cases hw:wr j k
 ·have key: ∀m,j<m->m<=n->∃g,cY vh f0 (qr X j) m k=vh j g k:=by
   intro m
   induction m with
   |zero=>omega
   |succ m ih=>
    intro hm hmn;simp only[cY];by_cases e:m=j
    ·subst e;rw[if_pos (by simp[qr])];grind
    ·obtain⟨g,hg⟩:=ih K0 K0;split
     ·rename_i hx;have hx:X m=true:=by grind[qr]
      rw[h.other _ _ _ λhm'=>dm m K0 K0 hx k hm' hw]
      grind
     grind
  obtain⟨g,hg⟩:=key n hj (dG _);rw[hg];exact h.same _ _ _ _ hw
 ·rw[h.other _ _ _ hw]
  grind[kw,qr]
end
def kU (o:Oper):List Nat:=(o.after.toList.filter (Region.binds .any)).map (·.on)
def nE (all:List Oper):Nat->Nat->Nat->Bool
 |0,_,_=>false
 |f+1,i,j=>match YT all j with
  |none=>false
  |some o=>(kU o).any (λk=>Nat.beq k i) || (kU o).any λk=>Nat.blt i k&&nE all f i k
def H5:List Operand->List Tmp
 | []=>[]
 | .tmp t::l=>t::H5 l
 |_::l=>H5 l
def acx:Op->List Operand
 | .build _ ps=>ps.toList.map (·.2)
 | .buildSlice _ _ ps=>ps.toList.map (·.2)
 | .makeFunc _ first captured=>first.toList++captured.toList
 | .slice _ x l h m=>x::(l.toList++h.toList++m.toList)
 | .call c=>(match c.callee with| .value f=>[f]| .invoke r _=>[r]| .builtin _=>[])++c.args.toList
 |op=>op.operands.toList
theorem acy (op:Op):acx op=op.operands.toList:=by
 cases op<;>first
  |rfl
  |grind[acx,Op.operands]
  |grind[acx,Op.operands,Call.operands]
def looks (all:List Oper)(o:Oper):List Tmp:=H5 (acx o.op)++(match o.guard with
 |some (g,_)=>(jE all g).toList
 |none=>[])
def DP (all:List Oper)(x y:Oper):Bool:=match x.dst with
 |some d=>(looks all y).any (λt=>Nat.beq t d) || (match y.dst with
  |some e=>Nat.beq e d
  |none=>false)
 |none=>false
def H6 (a b:List Nat):Bool:=a.any λi=>b.any λj=>Nat.beq i j
def JM (x y:List Nat × List Nat):Bool:=H6 x.2 y.1 || H6 x.2 y.2
def GN:bn->Nat->List Nat × List Nat
 | [],_=>([],[])
 |x::_,0=>x
 |_::l,i+1=>GN l i
def yA (all:List Oper)(tr:bn)(j:Nat)(oj:Oper)(tj:List Nat × List Nat):Nat->List Oper->Bool
 |_,[]=>true
 |i,o::l=>match Nat.blt i j with
  |false=>true
  |true=>(!(DP all o oj || DP all oj o || JM (GN tr i) tj || JM tj (GN tr i)) || nE all 6 i j)&&yA all tr j oj tj (i+1) l
def JN (all:List Oper)(tr:bn):Nat->List Oper->Bool
 |_,[]=>true
 |j,o::l=>(kU o).all (λk=>Nat.blt k j)&&yA all tr j o (GN tr j) 0 all&&JN all tr (j+1) l
def At (all:List Oper)(t:bn):Bool:=JN all t.reverse 0 all
theorem acz (t:bn)(i:Nat):GN t i=t.getD i ([],[]):=by
 induction t generalizing i with
 |nil=>rfl
 |cons x l ih=>cases i with
  |zero=>rfl
  |succ i=>grind[GN]
def yB {all:List Oper}{tr:bn}{j:Nat}{oj:Oper}{tj:List Nat × List Nat}: ∀ {l:List Oper} {k:Nat},yA all tr j oj tj k l=true->
  ∀i o,l[i]? =some o->k+i<j->(DP all o oj || DP all oj o || JM (GN tr (k+i)) tj || JM tj (GN tr (k+i)))=true->nE all 6 (k+i) j=true
 | [],_,_,i,o,h,_,_=>by grind
 |x::l,k,h,i,o,hi,al,hh=>by
  unfold yA at h;have hk:Nat.blt k j=true:=by grind[Nat.blt_eq]
  rw[hk]at h;simp only[sU]at h
  cases i with
  |zero=>
   grind
  |succ i=>
   have e:k+(i+1)=(k+1)+i:=by omega
   rw[e]at hh ⊢;exact yB h.2 i o bw K0 hh
def uk {all:List Oper}{tr:bn}: ∀ {l:List Oper} {k:Nat},JN all tr k l=true->∀j o,l[j]? =some o->
  (∀e∈kU o,e<k+j)/\yA all tr (k+j) o (GN tr (k+j)) 0 all=true
 | [],_,_,i,o,h=>by grind
 |x::l,k,h,j,o,hj=>by
  unfold JN at h;simp only[sU,tM,Bj]at h
  cases j with
  |zero=>
   grind
  |succ j=>
   have e:k+(j+1)=(k+1)+j:=by omega
   rw[e];exact uk h.2 j o bw
def MN {o:Oper}{e:Edge}(he:e∈o.after)(hb:Region.binds .any e=true):e.on∈kU o:=
 dC.2 ⟨e,List.mem_filter.2 ⟨by grind,hb⟩,rfl⟩
theorem MO {o:Oper}{k:Nat}(h:k∈kU o): ∃e∈o.after,Region.binds .any e=true/\e.on=k:=by
 obtain⟨e,he,rfl⟩:=dC.1 h
 grind
def oE {all:List Oper}{X:Nat->Bool}(jc: ∀j o,all[j]? =some o->X j=true->∀k∈kU o,X k=true):
  ∀ {f i j:Nat},nE all f i j=true->(∀o,all[j]? =some o->∀k∈kU o,X k=true)->X i=true
 |0,_,_,h,_=>by grind[nE]
 |f+1,i,j,h,hj=>by
  unfold nE at h;rw[JI]at h;split at h
  grind
  ·rename_i o ho;simp only[Yf,HC,sU]at h
   rcases h with⟨k,hk,he⟩|⟨k,hk,_,he⟩;simp_all
   ·exact oE jc he λo' ho'=>jc k o' ho' (hj o ho k hk)
def iJ (X:Nat->Bool):Nat->Nat
 |0=>0
 |n+1=>iJ X n+if X n then 0 else 1
def wC {X:Nat->Bool}{j:Nat}: ∀ {n:Nat},n<=j->iJ (qr X j) n=iJ X n
 |0,_=>rfl
 |n+1,h=>by
  simp only[iJ];rw[wC K0]
  grind[qr]
theorem yC {X:Nat->Bool}{j:Nat}(hX:X j=false): ∀ {n:Nat},j<n->iJ (qr X j) n+1=iJ X n
 |0,h=>by omega
 |n+1,h=>by
  simp only[iJ];by_cases e:n=j
  ·subst e;rw[wC (dG _)]
   grind[qr]
  ·have:=yC hX (n:=n) K0
   grind[qr]
theorem wD {X:Nat->Bool}: ∀ {n:Nat},iJ X n=0->∀i,i<n->X i=true
 |0,_,i,h=>by omega
 |n+1,h,i,hi=>by
  simp only[iJ]at h;by_cases e:i=n
  grind
  ·exact wD (n:=n) K0 i K0
theorem DQ (n:Nat):iJ (λ_=>false) n=n:=by
 induction n with
 |zero=>rfl
 |succ n ih=>grind[iJ]
def gv (es:List GL)(i:Nat):GL:=es.getD i (.aI [],[],[])
def gN (l:List Oper)(es:List GL)(i:Nat)(E:EF):EF:=JJ (jE l i) (gv es i).1 E
def MP (l:List Oper)(i k:Nat):Prop:=jE l i=some k
def jy (es:List GL)(i:Nat)(H:HF):HF:=(gv es i).2.1.on H
def aga (es:List GL)(i k:Nat):Prop:=k∈(gv es i).2.1.map Prod.fst
def agb (l:List Oper)(es:List GL):Tv (gN l es) (MP l) where
 same:=λi k f g h=>by grind[gN,MP,JJ]
 other:=λi k f h=>by
  unfold gN;unfold MP at h
  cases hd:jE l i with
  |none=>rfl
  |some d=>
   grind[JJ]
def acA {u:Hp}{k:Nat}(f g:HF)(h:k∈u.map Prod.fst):u.on f k=u.on g k:=by
 induction u with
 |nil=>grind
 |cons p u ih=>
  show br _ _ _ k=br _ _ _ k;unfold br
  grind
def YV {u:Hp}{k:Nat}(f:HF)(h:k∉u.map Prod.fst):u.on f k=f k:=by
 induction u with
 |nil=>rfl
 |cons p u ih=>
  show br _ _ _ k=_;unfold br
  grind
def acB (es:List GL):Tv (jy es) (aga es) where
 same:=λ_ _ f g h=>acA f g h
 other:=λ_ _ f h=>YV f h
def Vv {C:bS}{all:List Oper}{n0:Nat}{E0:EF}{H0:HF}{es0:List GL}: ∀ {rest:List Oper} {i:Nat} {es:List GL} {E:EF} {H:HF} {E':EF} {H':HF},JK C all n0 rest i E H es E' H'->
  (∀k,rest[k]? =all[i+k]?)->(∀k,es[k]? =es0[i+k]?)->E=cY (gN all es0) E0 (λ_=>true) i->H=cY (jy es0) H0 (λ_=>true) i->
  (∀k o,rest[k]? =some o->DN C all (2*(n0+(i+k))) o (cY (gN all es0) E0 (λ_=>true) (i+k)) (cY (jy es0) H0 (λ_=>true) (i+k)) (gv es0 (i+k)))/\
   E'=cY (gN all es0) E0 (λ_=>true) (i+rest.length)/\H'=cY (jy es0) H0 (λ_=>true) (i+rest.length):=by
 intro rest
 induction rest with
 |nil=>intro i es E H E' H' h _ _ hE hH;cases h;grind
 |cons o rest ih=>
  intro i es E H E' H' h hr he hE hH
  cases h with
  | @cons _ _ _ _ _ e es _ _ h t=>
   have h0:es0[i]? =some e:=by simpa using(he 0).symm
   have anR:gv es0 i=e:=by grind[gv]
   have hd:jE all i=o.dst:=by
    have:all[i]? =some o:=by simpa using(hr 0).symm
    grind[jE,JI]
   obtain⟨h1,h2,h3⟩:=ih t (λk=>by have:=hr (k+1);grind) (λk=>by have:=he (k+1);grind)
    (by simp only[cY,if_true];grind[gN]) (by simp only[cY,if_true];grind[jy])
   grind
theorem Qj (es:List GL)(t:bn):rz es t=(es.map λe=>(e.2.2,e.2.1.map Prod.fst)).reverse ++t:=by
 unfold rz;simp_all
def DR {es:List GL}{i:Nat}:GN (rz es []).reverse i=((gv es i).2.2,(gv es i).2.1.map Prod.fst):=by grind[Qj,acz,gv]
def H7 {a b:List Nat}:H6 a b=true↔∃k,k∈a/\k∈b:=by
 simp only[H6,HC];simp_all
def Vw {l:List Operand}{t:Tmp}(h: .tmp t∈l):t∈H5 l:=by
 induction l with
 |nil=>cases h
 |cons x l ih=>
  rcases cF.1 h with rfl|h'
  ·simp[H5]
  ·have:=ih K0;cases x<;>simp[H5,this]
section
variable {C:bS}{F:gG}{nt:Nat}{cB:Array Oper}{Q:Exit->Act->World->Prop}
def NX (N0:Nat->Prop)(n0 n:Nat)(X:Nat->Bool)(id:Nat):Prop:=N0 id\/∃i,i<n/\X i=true/\tag id=n0+i
theorem YW (hC:C.Ok)(hG:bH C F){n0:Nat}{es:List GL}{E0 E':EF}{H0 H':HF}{N0:Nat->Prop}{a:Act}{w:World}(h:JK C cB.toList n0 cB.toList 0 E0 H0 es E' H')
  (hdr:At cB.toList (rz es [])=true)(hd: ∀o∈cB.toList,∀t,o.dst=some t->F.okD nt t)(hrel:Ch F nt E0 H0 N0 a w)(hN: ∀id,N0 id->tag id<n0)
  (hQ: ∀a' w' N',Ch F nt E' H' N' a' w'->(∀id,N' id->tag id<n0+cB.size)->Q .normal a' w'):wpAny C.P .any cB Q cB.size (Array.replicate cB.size false) a w:=by
 obtain⟨eG,Hx,hH'⟩:=Vv (es0:=es) h (by simp) (by simp) rfl rfl;simp only[j9,Array.length_toList]at eG Hx hH';have hlE:=agb cB.toList es;have hlH:=acB es
 have alE: ∀i j,i<j->j<cB.size->(∃oi oj,cB[i]? =some oi/\cB[j]? =some oj/\(DP cB.toList oi oj || DP cB.toList oj oi ||
   JM ((gv es i).2.2,(gv es i).2.1.map Prod.fst) ((gv es j).2.2,(gv es j).2.1.map Prod.fst) || JM ((gv es j).2.2,(gv es j).2.1.map Prod.fst) ((gv es i).2.2,(gv es i).2.1.map Prod.fst))=true)->nE cB.toList 6 i j=true:=by
  rintro i j PS hj ⟨oi,oj,hoi,hoj,hh⟩;have h1:=(uk hdr j oj bw).2;rw[j9]at h1;have h2:=yB h1 i oi bw K0;rw[j9,DR,DR]at h2
  grind
 have al7: ∀j o,cB[j]? =some o->∀e∈kU o,e<j:=λj o ho=>by
  have:=(uk hdr j o bw).1
  grind
 have ahp: ∀i o,cB[i]? =some o->jE cB.toList i=o.dst:=λi o ho=>by grind[MH]
 have ag9: ∀(Bg:Nat) (X:Nat->Bool) (kp:Array Bool) (a:Act) (w:World),kp.size=cB.size->(∀i,i<cB.size->kp.getD i true=X i)->
   (∀j o,cB.toList[j]? =some o->X j=true->∀k∈kU o,X k=true)->iJ X cB.size<=Bg->
   Ch F nt (cY (gN cB.toList es) E0 X cB.size) (cY (jy es) H0 X cB.size) (NX N0 n0 cB.size X) a w->wpAny C.P .any cB Q Bg kp a w:=by
  have PF: ∀(X:Nat->Bool) (kp:Array Bool) (a:Act) (w:World),kp.size=cB.size->(∀i,i<cB.size->kp.getD i true=X i)->
    Region.ready .any cB kp= []->Ch F nt (cY (gN cB.toList es) E0 X cB.size) (cY (jy es) H0 X cB.size) (NX N0 n0 cB.size X) a w->Q .normal a w:=by
   intro X kp a w hls hX hr hrel
   have hall: ∀i,i<cB.size->X i=true:=by
    intro i
    induction i using Nat.strongRecOn with
    |_ i ih=>
     intro hi;cases hx:X i
     ·exfalso
      have:i∈Region.ready .any cB kp:=by
       rw[mem_ready];refine⟨by grind,cB[i],by grind,λe he hb=>?_⟩;have al:=al7 i cB[i] bw e.on (MN he hb)
       grind
      grind
     ·rfl
   have e1:cY (gN cB.toList es) E0 X cB.size=E':=by rw[Hx];funext k;grind[kw]
   have e2:cY (jy es) H0 X cB.size=H':=by rw[hH'];funext k;grind[kw]
   rw[e1,e2]at hrel;refine hQ a w _ hrel ?_;rintro id (hn|⟨i,hi,_,e⟩)
   grind
   ·omega
  intro Bg
  induction Bg with
  |zero=>
   intro X kp a w hls hX jc hu hrel
   have hr:Region.ready .any cB kp= []:=by
    rw[List.eq_nil_iff_forall_not_mem];intro j hj;obtain⟨h0,o,ho,_⟩:=mem_ready.1 hj
    grind[wD]
   exact⟨hr,PF X kp a w hls hX hr hrel⟩
  |succ Bg ih=>
   intro X kp a w hls hX jc hu hrel;refine⟨λhr=>PF X kp a w hls hX hr hrel,λj hj=>?_⟩;obtain⟨h0,o,ho,hall⟩:=mem_ready.1 hj;have al:j<cB.size:=(GB.1 ho).1;have hXj:X j=false:=by grind
   have am3: ∀k∈kU o,X k=true:=by grind[MO]
   have Gx: ∀i,i<j->nE cB.toList 6 i j=true->X i=true:=λi _ ho'=>
    oE jc ho' λo' alC k hk=>by grind
   have abK: ∀i,j<i->i<cB.size->X i=true->nE cB.toList 6 j i=true->False:=λi _ hi hXi ho'=>by
    have:=oE jc ho' λo' alC k hk=>jc i o' alC hXi k hk
    grind
   have wU: ∀i,i<cB.size->(∃oi,cB[i]? =some oi/\(DP cB.toList oi o || JM ((gv es i).2.2,(gv es i).2.1.map Prod.fst) ((gv es j).2.2,(gv es j).2.1.map Prod.fst))=true)->i≠j->X i=decide (i<j):=by grind
   have UP:=eG j o bw
   have afi: ∀t∈looks cB.toList o,cY (gN cB.toList es) E0 X cB.size t=cY (gN cB.toList es) E0 (λ_=>true) j t:=by
    intro t ht;rw[<- MM (n:=cB.size) j K0];refine kw hlE λi hi hw=>?_;by_cases gk:i=j
    grind
    ·refine wU i hi ⟨cB[i],by grind,?_⟩ gk;unfold MP at hw;rw[ahp i cB[i] bw]at hw
     have:DP cB.toList cB[i] o=true:=by
      simp only[DP,hw,Yf,HC]
      grind[Nat.beq_refl]
     grind
   have hop: ∀x∈o.op.operands.toList,C.ev (cY (gN cB.toList es) E0 X cB.size) x=C.ev (cY (gN cB.toList es) E0 (λ_=>true) j) x:=by
    intro x hx
    cases x with
    |tmp t=>
     refine afi t (XZ _ (Vw ?_))
     grind[acy]
    |_=>rfl
   have hgd:jI cB.toList (cY (gN cB.toList es) E0 X cB.size) o=jI cB.toList (cY (gN cB.toList es) E0 (λ_=>true) j) o:=by
    unfold jI;split
    ·rfl
    ·rename_i g Gw hg;split
     ·rfl
     ·rename_i t ht;rw[afi t (List.mem_append_right _ bw)]
   have Jb: ∀id∈(gv es j).2.2,cY (jy es) H0 X cB.size id=cY (jy es) H0 (λ_=>true) j id:=by
    intro id hid;rw[<- MM (n:=cB.size) j K0];refine kw hlH λi hi hw=>?_;by_cases gk:i=j
    grind
    ·refine wU i hi ⟨cB[i],by grind,?_⟩ gk;have:H6 ((gv es i).2.1.map Prod.fst) (gv es j).2.2=true:=H7.2 ⟨id,hw,hid⟩
     grind[JM]
   unfold wpOp;rw[ho];have ahe: ∀t,o.dst=some t->F.okD nt t:=hd o bw;refine Tu hC hG ahe UP hop hgd Jb hrel ?_ ?_
   ·rw[jP];rintro id (hn|⟨i,hi,hx,e⟩)
    grind
    grind
   ·intro a' w' afn;refine ih (qr X j) _ a' w' bw ?_ ?_ ?_ ?_
    ·intro i hi;by_cases e:i=j
     ·subst e;have:i<kp.size:=by omega
      simp[qr,this]
     ·rw[getD_set_ne true (ox e),hX i hi];simp[qr,e]
    grind[qr]
    grind[yC]
    ·have e1:cY (gN cB.toList es) E0 (qr X j) cB.size=JJ o.dst (gv es j).1 (cY (gN cB.toList es) E0 X cB.size):=by
      rw[H4 hlE al hXj ?_]
      grind[gN]
      ·intro i PS hi hx k tv hw2;refine abK i PS hi hx (alE j i PS hi ⟨o,cB[i],ho,by grind,?_⟩);unfold MP at tv hw2;rw[ahp i cB[i] bw]at tv;rw[ahp j o ho]at hw2
       have:DP cB.toList o cB[i]=true:=by
        simp only[DP,tv,hw2,Yf]
        grind[Nat.beq_refl]
       grind
     have e2:cY (jy es) H0 (qr X j) cB.size=(gv es j).2.1.on (cY (jy es) H0 X cB.size):=by
      rw[H4 hlH al hXj ?_]
      ·rfl
      ·intro i PS hi hx k tv hw2;refine abK i PS hi hx (alE j i PS hi ⟨o,cB[i],ho,by grind,?_⟩);have:H6 ((gv es j).2.1.map Prod.fst) ((gv es i).2.1.map Prod.fst)=true:=H7.2 ⟨k,hw2,tv⟩
       grind[JM]
     have e3:NX N0 n0 cB.size (qr X j)=bg (NX N0 n0 cB.size X) (2*(n0+j)):=by
      funext id;apply propext;constructor
      ·rintro(hn|⟨i,hi,hx,et⟩)
       ·exact .inl (.inl hn)
       ·by_cases e:i=j
        ·subst e;exact .inr (by rw[jP];exact et)
        ·exact .inl (.inr ⟨i,hi,by grind[qr],et⟩)
      ·rintro((hn|⟨i,hi,hx,et⟩)|et)
       ·exact .inl hn
       ·refine .inr ⟨i,hi,?_,et⟩
        grind[qr]
       ·rw[jP]at et;exact .inr ⟨j,al,by simp[qr],et⟩
     grind
 refine ag9 cB.size (λ_=>false) _ a w (by simp) (λi hi=>by simp[hi]) (λ_ _ _ h=>by grind) (by grind[DQ]) ?_;have e1: ∀n,cY (gN cB.toList es) E0 (λ_=>false) n=E0:=λn=>by exact ajD
 have e2: ∀n,cY (jy es) H0 (λ_=>false) n=H0:=λn=>by exact ajD
 have e3:NX N0 n0 cB.size (λ_=>false)=N0:=by funext id;simp[NX]
 grind
end
def dI {l:List Oper}{t:bn}{X:Prop}(h:At l t=true)(x:X):At l t=true/\X:=⟨h,x⟩
attribute [irreducible] At
def akh (P:Program)(g:Nat)(fb cv:Array Value)(xs:List (Array Value))(mv:Mem)(w:World):Prop:=
 ∀(l:Nat) (J:Nat × (Nat->Prop)->World->Prop) (Jx:Unit->World->Prop) (W:World) (M0:Nat->Prop),Below w.heap.size w W->(∀b,M0 b->b<W.heap.size)->AbidesFrom W.heap.size J->AbidesFrom W.heap.size Jx->
  (∀s W1,J s W1->mv.le (rd W1))->
  (∀i M x W1,xs[i]? =some x->J (i,M) W1->YieldAt Fence.wide 0 P l x W1 λe W'=>
   (e= .returned (.bool true)/\∃M',J (i+1,M') W'/\W1.heap.size<=W'.heap.size/\(∀b,M' b->M b\/W1.heap.size<=b)/\∀b arr T,W1.heap[b]? =some (.cells arr T)->¬M b->W'.heap[b]? =some (.cells arr T))\/
   (e= .returned (.bool false)/\Jx () W'))->
  J (0,M0) W->CallsIn Fence.wide 0 P g (fb++ #[.func (.yield l) #[] #[]]++cv) W λe W'=>(∃v,e= .returned v)/\((∃M,J (xs.length,M) W')\/Jx () W')
def Tw (P:Program)(gl:tR)(g:FuncId)(first:List SV)(bM:List (List SC))(xs:List (List SV)):Prop:=
 iI P g=true/\∀(mv mr:Mem) (w:World) (fb cv:Array Value),mv.le mr->mr.le (rd w)->eQ gl (rd w)->pg mv mr fb first->pg mv mr cv (bM.map λcs=>(false,[.ref cs]))->
  ∃xv:List (Array Value),xv.length=xs.length/\(∀(i:Nat) (x:Array Value) (r:List SV),xv[i]? =some x->xs[i]? =some r->pg mv eU x r)/\akh P g fb cv xv mr w
section
variable {P:Program}{l:Nat}{n:Nat}
def GO {f:FuncId}{args:Array Value}{w:World}{R:Ending->World->Prop}(h:Calls P f args w R):CallsIn (Fence.wide.inRound l) n P f args w R:=(callsIn_wide (n:=n)).2 h
def JO {row:String}{args:Array Value}{w:World}{R:Value->World->Prop}(h:Rows P row args w R):RowsIn (Fence.wide.inRound l) n P row args w R:=
 λc cs _=>let⟨v,w',r,s⟩:=h c cs;⟨v,w',r,stepsIn_wide.2 s⟩
theorem YX {o:Oper}{a:Act}{w:World}{K:Act->World->Prop}{Q:Exit->Act->World->Prop}(hd: ∀c,o.op≠ .defer c)(h:o.wp P a w K Q):o.wpIn (Fence.wide.inRound l) n P a w K Q:=by
 refine⟨λ_ _=>trivial,?_⟩;rw[Fence.inRound_round,Oper.semAt_some l _ _ hd];unfold Oper.wp at h;generalize (execOp a.eval o).run P w=r at*
 cases r with
 |ok x w'=>
  cases x<;>simp only[Oper.upon,Oper.uponIn]at h ⊢ <;>first
   |exact h
   |exact⟨λh=>by simp[Fence.inRound,Fence.wide]at h,GO h⟩
   |exact⟨λh=>by simp[Fence.inRound,Fence.wide]at h,JO h⟩
 |halt x w'=>cases x<;>simp only[Oper.upon,Oper.uponIn]at h ⊢ <;>exact h
def rB:List Oper->Bool
 | []=>true
 |o::l=>match o.op with
  | .defer _=>false
  |_=>rB l
theorem MQ {l:List Oper}(h:rB l=true): ∀o∈l,∀c,o.op≠ .defer c:=by
 induction l with
 |nil=>simp
 |cons x l ih=>
  unfold rB at h;split at h
  ·cases h
  ·rename_i hx;intro o ho c e;rcases cF.1 ho with rfl|ho
   ·exact hx c e
   ·exact ih h o ho c e
theorem H8 {cB:Array Oper}{Q:Exit->Act->World->Prop}(hd:rB cB.toList=true)(hQ: ¬LetsOut Q): ∀(is:List Nat) (a:Act) (w:World),wpOps P cB Q is a w->wpOpsIn (Fence.wide.inRound l) n P cB Q is a w:=by
 intro is
 induction is with
 |nil=>intro a w h;exact h
 |cons i is ih=>
  intro a w h;unfold wpOps at h;unfold wpOpsIn;split at h
  ·rename_i ho;simp only[ho];exact ih a w h
  ·rename_i o ho;simp only[ho];split at h
   ·rename_i hw;simp only[hw,if_true];rcases h with h|h
    ·exact Oper.wpIn_mono ih (YX (MQ hd o (by simpa using L1 ho)) h)
    ·exact absurd h.2 hQ
   ·rename_i hw;simp only[hw];exact⟨λ_ _=>trivial,ih _ _ h⟩
def yD {id:Nat}{cB:Array Oper}{Q:Exit->Act->World->Prop}{a:Act}{w:World}(hd:rB cB.toList=true)(hQ: ¬LetsOut Q)(h:wpList P cB Q cB.toList a w):
  (Code.region id cB false).wpIn (Fence.wide.inRound l) n P Q a w:=by
 refine wpIn_region (H8 hd hQ _ _ _ ?_);rw[List.range_eq_range',<- Array.length_toList,wpOps_eq_wpList cB.toList 0 (by simp)];exact h
def Au {id:Nat}{cB:Array Oper}{Q:Exit->Act->World->Prop}{a:Act}{w:World}(hd:rB cB.toList=true)(hQ: ¬LetsOut Q)(hm:P.follows .mixedOrders =true)
  (h:wpAny P .any cB Q cB.size (Array.replicate cB.size false) a {w with drawn:=w.drawn+1}):(Code.region id cB true).wpIn (Fence.wide.inRound l) n P Q a w:=by
 refine wpIn_region_draw λt=>H8 hd hQ _ _ _ ?_;simp only[Region.schedule,hm,Bool.true_or,if_true];exact wpAny_sound cB.size t _ a _ h
end
structure St where
 env:dS
 hp:Hp
 nx:Nat
def Rel (F:gG)(nt:Nat)(S:St)(a:Act)(w:World):Prop:=∃N,Ch F nt S.env.get S.hp.get N a w/\∀id,N id->tag id<S.nx
def bu (S S':St):Prop:=∀F nt a w,Rel F nt S a w->Rel F nt S' a w
theorem bu.refl (S:St):bu S S:=λ_ _ _ _ h=>h
def bu.trans {S S' S'':St}(h:bu S S')(k:bu S' S''):bu S S'':=λF nt a w r=>k F nt a w (h F nt a w r)
@[irreducible] def Tx (step:(St->Prop)->St->Prop)(S:St):Prop:=∀Z:St->Prop,(∀S,step (λS'=>∃S'',bu S' S''/\Z S'') S->Z S)->Z S
def CC (C:bS)(cB:List Oper)(vg:Bool)(S:St)(kn:St->Prop):Prop:=match S with
 |⟨E,H,nx⟩=>qp C cB nx cB 0 E H [] λE H n t=>match vg with
  |false=>kn ⟨E,H,nx+n⟩
  |true=>At cB t=true/\kn ⟨E,H,nx+n⟩
def params:List Tmp->List SV->dS->dS
 |p::ps,x::xs,E=>params ps xs ((p,some (.val (dyn x)))::E)
 |_,_,E=>E
def CD (n:Nat)(l:List Nat):Bool:= !yh n l
def rC (l:List Nat):List Oper->Bool
 | []=>true
 |o::r=>(match o.dst with|some d=>CD d l|none=>true)&&rC l r
def aJ (l:List Nat):Code->Bool
 | .seq x y=>aJ l x&&aJ l y
 | .cond _ x y=>aJ l x&&aJ l y
 | .block _ c=>aJ l c
 | .loop c=>aJ l c
 | .scope c=>aJ l c
 | .rangeFunc _ _ x y=>aJ l x&&aJ l y
 | .region _ cB _=>rC l cB.toList
 |_=>true
def mE:Code->Bool
 | .skip =>true
 | .label _=>true
 | .ret =>true
 | .exit _=>true
 | .seq x y=>mE x&&mE y
 | .cond _ x y=>mE x&&mE y
 | .block _ c=>mE c
 | .region _ cB _=>rB cB.toList
 |_=>false
def rE:Hp->Bool
 | []=>true
 |(_,some (.map _))::_=>false
 |_::H=>rE H
def ke:dS->List Nat
 | []=>[]
 |(k,_)::E=>k::ke E
def qt (l:List Nat):List Tmp->Bool
 | []=>true
 |p::ps=>CD p l&&qt l ps
def rF (C:bS):Code->St->(St->Prop)->(Nat->St->Prop)->(St->Prop)->Prop
 | .skip,S,kn,_,_=>kn S
 | .label _,S,kn,_,_=>kn S
 | .ret,S,_,_,kr=>kr S
 | .exit id,S,_,kx,_=>kx id S
 | .seq x y,S,kn,kx,kr=>rF C x S (λS=>∃S',bu S S'/\rF C y S' kn kx kr) kx kr
 | .cond c x y,S,kn,kx,kr=>match C.ev S.env.get c with
  |some (.val (false,[.st (.lit (.bool b))]))=>Xp b (rF C x S kn kx kr) (rF C y S kn kx kr)
  |_=>False
 | .block id c,S,kn,kx,kr=>rF C c S kn (λiQ S=>match Nat.beq iQ id with
  |true=>kn S
  |false=>kx iQ S) kr
 | .loop c,S,_,kx,kr=>∃S',bu S S'/\Tx (λZ S=>rF C c S Z kx kr) S'
 | .region _ cB vg,S,kn,_,_=>CC C cB.toList vg S kn
 | .scope c,S,kn,kx,kr=>rF C c S kn kx kr
 | .rangeFunc g ps x y,S,kn,_,kr=>match C.ev S.env.get g with
  |some (.val (false,[.st (.fn gf first bM)]))=>∃(xs:List (List SV)) (Hs:Nat->Hp) (nx:Nat) (Inv:Nat->Prop),Tw C.P C.gl gf first bM xs/\(∀r∈xs,r.length=ps.size)/\
    (mE x=true/\mE y=true/\aJ (ke S.env) x=true/\aJ (ke S.env) y=true/\qt (ke S.env) ps.toList=true)/\(∀i,rE (Hs i)=true)/\bu S ⟨S.env,Hs 0,nx⟩/\Inv 0/\
    (∀i r,xs[i]? =some r->Inv i->rF C x ⟨params ps.toList r S.env,Hs i,nx⟩ (λS1=>∃Xz,bu S1 Xz/\rF C y Xz (λS2=>Inv (i+1)/\bu S2 ⟨S.env,Hs (i+1),nx⟩) (λ_ _=>False)
     (λS2=>∃Hr nr,rE Hr=true/\bu S2 ⟨S.env,Hr,nr⟩/\kr ⟨S.env,Hr,nr⟩)) (λ_ _=>False) (λ_=>False))/\(Inv xs.length->kn ⟨S.env,Hs xs.length,nx⟩)
  |_=>False
 |_,_,_,_,_=>False
def MS (nt:Nat):List Oper->Bool
 | []=>true
 |o::l=>(match o.dst with|some d=>Nat.blt d nt|none=>true)&&MS nt l
def bQ (nt:Nat):Code->Bool
 | .seq x y=>bQ nt x&&bQ nt y
 | .cond _ x y=>bQ nt x&&bQ nt y
 | .block _ c=>bQ nt c
 | .loop c=>bQ nt c
 | .scope c=>bQ nt c
 | .rangeFunc _ ps x y=>(ps.toList.all λp=>Nat.blt p nt)&&(bQ nt x&&bQ nt y)
 | .region _ cB _=>MS nt cB.toList
 |_=>true
def Vx {n:Nat}{l:List Nat}:yh n l=true↔n∈l:=by
 induction l with
 |nil=>simp[yh]
 |cons m l ih=>
  grind[yh,Nat.eq_of_beq_eq_true,Nat.beq_refl]
theorem MT {n:Nat}{l:List Nat}(h:CD n l=true):n∉l:=by
 intro hm;rw[CD,Vx.2 hm]at h;cases h
def JP {k:List Nat}{l:List Oper}(h:rC k l=true): ∀o∈l,∀t,o.dst=some t->t∉k:=by
 induction l with
 |nil=>grind
 |cons x l ih=>
  rw[rC]at h;exact ajT
def MU (l:List Oper):rC [] l=true:=by
 induction l with
 |nil=>rfl
 |cons o l ih=>
  rw[rC,ih,Bool.and_true];split<;>rfl
def JQ (c:Code):aJ [] c=true:=by
 induction c with
 |seq x y ihx ihy=>grind[aJ]
 |cond c x y ihx ihy=>grind[aJ]
 |rangeFunc g ps x y ihx ihy=>grind[aJ]
 |block id c ih=>rw[aJ,ih]
 |loop c ih=>rw[aJ,ih]
 |scope c ih=>rw[aJ,ih]
 |region id cB vg=>exact MU _
 |_=>rfl
def Qk {nt:Nat}{l:List Oper}(h:MS nt l=true): ∀o∈l,∀t,o.dst=some t->t<nt:=by
 induction l with
 |nil=>grind
 |cons x l ih=>
  rw[MS]at h;obtain⟨h1,h2⟩:=aD h
  grind[Nat.blt_eq]
section
variable {C:bS}
def YY {step afm:(St->Prop)->St->Prop}(hs: ∀Z S,step Z S->afm Z S){S:St}(h:Tx step S):Tx afm S:=by
 unfold Tx at*;exact λZ hZ=>h Z λS hS=>hZ S (hs _ _ hS)
theorem mF {c:Code}: ∀ {S:St} {kn Sl:St->Prop} {kx R9:Nat->St->Prop} {kr Sc:St->Prop},rF C c S kn kx kr->(∀S,kn S->Sl S)->(∀id S,kx id S->R9 id S)->(∀S,kr S->Sc S)->rF C c S Sl R9 Sc:=by
 induction c with
 |skip=>intro S kn Sl kx R9 kr Sc h h1 h2 h3;exact h1 _ h
 |label l=>intro S kn Sl kx R9 kr Sc h h1 h2 h3;exact h1 _ h
 |ret=>intro S kn Sl kx R9 kr Sc h h1 h2 h3;exact h3 _ h
 |exit id=>intro S kn Sl kx R9 kr Sc h h1 h2 h3;exact h2 _ _ h
 |seq x y ihx ihy=>intro S kn Sl kx R9 kr Sc h h1 h2 h3;exact ihx h (λS ⟨S',hs,h⟩=>⟨S',hs,ihy h h1 h2 h3⟩) h2 h3
 |cond c x y ihx ihy=>
  intro S kn Sl kx R9 kr Sc h h1 h2 h3;unfold rF at h ⊢;split at h
  ·rename_i b hb;exact yz h (λh=>ihx h h1 h2 h3) λh=>ihy h h1 h2 h3
  omega
 |block id c ih=>
  intro S kn Sl kx R9 kr Sc h h1 h2 h3;refine ih h h1 (λiQ S h=>?_) h3
  grind
 |loop c ih=>
  intro S kn Sl kx R9 kr Sc h h1 h2 h3;obtain⟨S',hs,h⟩:=h;exact⟨S',hs,YY (λZ S h=>ih h (λ_ h=>h) h2 h3) h⟩
 |region id cB vg=>
  intro S kn Sl kx R9 kr Sc h h1 h2 h3;refine Vt h λE H n t h=>?_
  grind
 |scope c ih=>intro S kn Sl kx R9 kr Sc h h1 h2 h3;exact ih h h1 h2 h3
 |rangeFunc g ps x y ihx ihy=>
  intro S kn Sl kx R9 kr Sc h h1 h2 h3;unfold rF at h ⊢;split at h
  ·obtain⟨xs,Hs,nx,Inv,q1,q2,q3,qm,q4,q0,q5,q6⟩:=h;exact⟨xs,Hs,nx,Inv,q1,q2,q3,qm,q4,q0,λi r hr hi=>ihx (q5 i r hr hi) (λ_ ⟨Xz,hs,h⟩=>⟨Xz,hs,ihy h (λ_ h=>h) (λ_ _ h=>h) λ_ ⟨Hr,nr,hm,hs,h⟩=>⟨Hr,nr,hm,hs,h3 _ h⟩⟩) (λ_ _ h=>h) λ_ h=>h,λhi=>h1 _ (q6 hi)⟩
  omega
 |goto=>intro S kn Sl kx R9 kr Sc h;exact h.elim
 |refuse=>intro S kn Sl kx R9 kr Sc h;exact h.elim
def H9 {c:Code}{kx:Nat->St->Prop}{kr:St->Prop}{S:St}(h:rF C c S (λS'=>∃S'',bu S' S''/\Tx (λZ S=>rF C c S Z kx kr) S'') kx kr):Tx (λZ S=>rF C c S Z kx kr) S:=by
 unfold Tx;intro Z hZ;refine hZ S (mF h (λS' h=>?_) (λ_ _ h=>h) λ_ h=>h);obtain⟨S'',h1,h2⟩:=h;unfold Tx at h2;exact⟨S'',h1,h2 Z hZ⟩
end
def um (P:Program)(c:Code)(Q:Exit->Act->World->Prop)(a:Act)(w:World):Prop:=
 ∀(b:Frame) (k:List Item) (cs:List Frame),∃e a' w',Q e a' w'/\Arrives P (lone (b.at a (.code c:: .inLoop c::k)) cs w) b k cs e a' w'
def um.wp {P:Program}{c:Code}{Q:Exit->Act->World->Prop}{a:Act}{w:World}(h:um P c Q a w):(Code.loop c).wp P Q a w:=
 λb k cs=>let⟨e,a',w',hq,lF⟩:=h b k cs;⟨e,a',w',hq,.of_steps (.one step_loop) lF⟩
def um.round {P:Program}{c:Code}{Q:Exit->Act->World->Prop}{a:Act}{w:World}(h:c.wp P (Exit.then (um P c Q) Q) a w):um P c Q a w:=by
 intro b k cs;obtain⟨e,abG,abJ,hq,lF⟩:=h b (.inLoop c::k) cs
 cases e with
 |normal=>
  obtain⟨anh,am6,am8,alX,aeg⟩:=hq b k cs;exact⟨anh,am6,am8,alX,.of_steps (Steps.trans lF (.one step_inLoop)) aeg⟩
 |exit id=>exact⟨_,abG,abJ,hq,.pass (x:=.inLoop c) rfl (λ_ _=>.inl (by simp)) lF⟩
 |goto l=>exact⟨_,abG,abJ,hq,.pass (x:=.inLoop c) rfl (λ_ _=>.inl (by simp)) lF⟩
 |ret=>exact⟨_,abG,abJ,hq,.pass (x:=.inLoop c) rfl (λ_ _=>.inl (by simp)) lF⟩
 |panic ch=>exact⟨_,abG,abJ,hq,.pass (x:=.inLoop c) rfl (λ_ _=>.inl (by simp)) lF⟩
 |outgrown=>exact⟨_,abG,abJ,hq,.pass (x:=.inLoop c) rfl (λ_ _=>.inl (by simp)) lF⟩
section
variable {C:bS}{F:gG}{nt:Nat}
def Ch.drawn {E:EF}{H:HF}{N:Nat->Prop}{a:Act}{w:World}(h:Ch F nt E H N a w)(n:Nat):Ch F nt E H N a {w with drawn:=n}:=by
 obtain⟨h1,h2,h3,β,hE,hR⟩:=h;have hB:Below w.heap.size w {w with drawn:=n}:=⟨rfl,rfl,rfl,dG _,λ_ _=>rfl⟩;exact⟨h1,h2.keep (Tr.grow hR hB).av,h3,β,(Tr.grow hR hB).env hR hE,hR.grow hB⟩
def Ql {l:List Oper}(h1:MS nt l=true)(h2:rC (F.fixed.map Prod.fst) l=true): ∀o∈l,∀t,o.dst=some t->F.okD nt t:=
 λo ho t ht=>⟨Qk h1 o ho t ht,λp hp e=>JP h2 o ho t ht bw⟩
theorem By (hC:C.Ok)(hG:bH C F){cB:Array Oper}{S:St}{kn:St->Prop}{a:Act}{w:World}{Q:Exit->Act->World->Prop}(hd: ∀o∈cB.toList,∀t,o.dst=some t->F.okD nt t)
  (h:CC C cB.toList false S kn)(hrel:Rel F nt S a w)(hQ: ∀S a w,kn S->Rel F nt S a w->Q .normal a w):wpList C.P cB Q cB.toList a w:=by
 obtain⟨N,hr,hN⟩:=hrel;obtain⟨es,E',H',aby,hK⟩:=H3 h;refine Vu (nt:=nt) hC hG aby hd hr K0 ?_;intro a' w' N' Cx hN';exact hQ _ a' w' hK ⟨N',Cx,hN'⟩
def DS (hC:C.Ok)(hG:bH C F){cB:Array Oper}{S:St}{kn:St->Prop}{a:Act}{w:World}{Q:Exit->Act->World->Prop}(hd: ∀o∈cB.toList,∀t,o.dst=some t->F.okD nt t)
  (h:CC C cB.toList true S kn)(hrel:Rel F nt S a w)(hQ: ∀S a w,kn S->Rel F nt S a w->Q .normal a w):wpAny C.P .any cB Q cB.size (Array.replicate cB.size false) a {w with drawn:=w.drawn+1}:=by
 obtain⟨N,hr,hN⟩:=hrel;obtain⟨es,E',H',aby,h1,h2⟩:=H3 h;refine YW (nt:=nt) hC hG aby h1 hd (hr.drawn _) hN ?_;intro a' w' N' Cx hN';exact hQ _ a' w' h2 ⟨N',Cx,by grind⟩
theorem JR (hC:C.Ok)(hG:bH C F){id:Nat}{cB:Array Oper}{vg:Bool}{S:St}{kn:St->Prop}{a:Act}{w:World}{Q:Exit->Act->World->Prop}(hd: ∀o∈cB.toList,∀t,o.dst=some t->F.okD nt t)
  (h:CC C cB.toList vg S kn)(hrel:Rel F nt S a w)(hQ: ∀S a w,kn S->Rel F nt S a w->Q .normal a w):(Code.region id cB vg).wp C.P Q a w:=by
 cases vg with
 |false=>grind[wp_region_list,By]
 |true=>exact wp_region_any hC.mixed (DS hC hG hd h hrel hQ)
theorem Vy (hC:C.Ok)(hG:bH C F){l n:Nat}{c:Code}: ∀ {S:St} {kn:St->Prop} {kx:Nat->St->Prop} {kr:St->Prop} {a:Act} {w:World} {Q:Exit->Act->World->Prop},mE c=true->bQ nt c=true->aJ (F.fixed.map Prod.fst) c=true->¬LetsOut Q->
  rF C c S kn kx kr->Rel F nt S a w->
  (∀S a w,kn S->Rel F nt S a w->Q .normal a w)->(∀id S a w,kx id S->Rel F nt S a w->Q (.exit id) a w)->(∀S a w,kr S->Rel F nt S a w->Q .ret a w)->c.wpIn (Fence.wide.inRound l) n C.P Q a w:=by
 induction c with
 |skip=>intro S kn kx kr a w Q _ _ _ _ h hr h1 h2 h3;exact wpIn_skip (h1 _ _ _ h hr)
 |label l=>intro S kn kx kr a w Q _ _ _ _ h hr h1 h2 h3;exact wpIn_label (h1 _ _ _ h hr)
 |ret=>intro S kn kx kr a w Q _ _ _ _ h hr h1 h2 h3;exact wpIn_ret (h3 _ _ _ h hr)
 |exit id=>intro S kn kx kr a w Q _ _ _ _ h hr h1 h2 h3;exact wpIn_exit (h2 _ _ _ _ h hr)
 |seq x y ihx ihy=>
  intro S kn kx kr a w Q hf hc mb hQ h hr h1 h2 h3;obtain⟨hx,hy⟩:=aD (a:=bQ nt x) (b:=bQ nt y) hc;obtain⟨fx,fy⟩:=aD (a:=mE x) (b:=mE y) hf;obtain⟨gx,gy⟩:=aD (a:=aJ (F.fixed.map Prod.fst) x) (b:=aJ (F.fixed.map Prod.fst) y) mb;refine wpIn_seq (ihx fx hx gx (λ⟨a,w,h⟩=>hQ ⟨a,w,h⟩) h hr (λS a w ⟨S',hs,h⟩ hr=>ihy fy hy gy hQ h (hs _ _ _ _ hr) h1 h2 h3) h2 h3)
 |cond c x y ihx ihy=>
  intro S kn kx kr a w Q hf hc mb hQ h hr h1 h2 h3;obtain⟨hx,hy⟩:=aD (a:=bQ nt x) (b:=bQ nt y) hc;obtain⟨fx,fy⟩:=aD (a:=mE x) (b:=mE y) hf;obtain⟨gx,gy⟩:=aD (a:=aJ (F.fixed.map Prod.fst) x) (b:=aJ (F.fixed.map Prod.fst) y) mb;unfold rF at h;split at h
  ·rename_i b hb;have hv:a.eval c= .bool b:=aix
   grind[wpIn_cond,oC,qo]
  grind
 |block id c ih=>
  intro S kn kx kr a w Q hf hc mb hQ h hr h1 h2 h3;refine wpIn_block (ih hf hc mb (λ⟨a,w,h⟩=>hQ ⟨a,w,h⟩) h hr (λS a w h hr=>h1 S a w h hr) (λiQ S a w h hr=>?_) λS a w h hr=>h3 S a w h hr);exact ahK
 |region id cB vg=>
  intro S kn kx kr a w Q hf hc mb hQ h hr h1 h2 h3
  cases vg with
  |false=>exact yD hf hQ (By hC hG (Ql hc mb) h hr h1)
  |true=>exact Au hf hQ hC.mixed (DS hC hG (Ql hc mb) h hr h1)
 |loop c ih=>intro S kn kx kr a w Q hf;cases hf
 |scope c ih=>intro S kn kx kr a w Q hf;cases hf
 |rangeFunc=>intro S kn kx kr a w Q hf;cases hf
 |goto=>intro S kn kx kr a w Q hf;cases hf
 |refuse=>intro S kn kx kr a w Q hf;cases hf
def live (β:Nat->Option Nat)(H:HF)(b:Nat):Prop:=∃id bC,H id=some bC/\β id=some b
structure JS (F:gG) (nt:Nat) (S:St) (t:Array Value) (w:World) (β:Nat->Option Nat) (N:Nat->Prop):Prop where
 size:t.size=nt
 env: ∀s dv,S.env.get s=some dv->co F β N S.hp.get w (t.getD s undef) dv
 heap:ad F β N S.hp.get w
 ids: ∀id,N id->tag id<S.nx
structure Tz (F:gG) (β:Nat->Option Nat) (H:HF) (w:World) (cQ:Nat->Option Nat) (H':HF) (w':World):Prop where
 size:w.heap.size<=w'.heap.size
 keep: ∀(b:Nat) (o:Obj),w.heap[b]? =some o->¬live β H b->w'.heap[b]? =some o
 live: ∀b,live cQ H' b->live β H b\/w.heap.size<=b
 mv:(MV F β H w).le (MV F cQ H' w')
def mG {β:Nat->Option Nat}{H:HF}{b o:Nat}(h: ¬live β H b):fR β H b o:=λid bC e hb=>absurd ⟨id,bC,e,hb⟩ h
def lR {β:Nat->Option Nat}{N:Nat->Prop}{H:HF}{w:World}(hR:ad F β N H w){b:Nat}(h:live β H b):b<w.heap.size/\F.dE b:=
 let⟨_,_,e,hb⟩:=h;hR.fY e hb
noncomputable def gG.m6 (F:gG)(β:Nat->Option Nat)(H:HF)(w:World)(fx:List (Nat × Value)):gG:=⟨w,MV F β H w,live β H,fx,F.db,MR F β H w⟩
section
variable {β cQ:Nat->Option Nat}{N N':Nat->Prop}{H H':HF}{w w':World}{fx:List (Nat × Value)}
def nV (hR:ad F β N H w){b:Nat}(h:(F.m6 β H w fx).dE b):F.dE b:=by
 rcases h with h|h
 ·exact .inl (pf hR.below.size h)
 ·exact(lR hR h).2
def JT (hR:ad F β N H w):MV (F.m6 β H w fx) β H w=MV F β H w:=by
 funext b o;by_cases h1:(F.m6 β H w fx).dE b
 ·have h2:=nV hR h1;unfold MV
  grind
 ·unfold MV;rw[if_neg h1];rfl
def TA (hR:ad F β N H w):MR (F.m6 β H w fx) β H w=MR F β H w:=by
 funext b o;by_cases h1:(F.m6 β H w fx).dE b
 ·have h2:=nV hR h1;unfold MR;rw[if_pos h1,if_pos h2,JT hR]
 ·have e:MR (F.m6 β H w fx) β H w b o=(F.m6 β H w fx).mr0 b o:=by unfold MR;grind
  exact e
theorem JU {G:gG}(h1:MV G β H w=MV F β H w)(h2:MR G β H w=MR F β H w){v:Value}{d:DC}:cw G β N H w v d↔cw F β N H w v d:=by cases d<;>simp only[cw,h1,h2]
def DT {G:gG}(h1:MV G β H w=MV F β H w)(h2:MR G β H w=MR F β H w){v:Value}{d:DX}:ar G β N H w v d↔ar F β N H w v d:=by grind[ar,JU]
theorem MW {G:gG}(h1:MV G β H w=MV F β H w)(h2:MR G β H w=MR F β H w){v:Value}{d:DV}:co G β N H w v d↔co F β N H w v d:=by
 cases d with
 |val x=>exact DT h1 h2
 |aI l=>
  constructor
  ·rintro⟨arr,q1,q2,q3⟩;exact⟨arr,q1,q2,λk c hc=>(DT h1 h2).1 (q3 k c hc)⟩
  ·rintro⟨arr,q1,q2,q3⟩;exact⟨arr,q1,q2,λk c hc=>(DT h1 h2).2 (q3 k c hc)⟩
theorem Ia {G:gG}(h1:MV G β H w=MV F β H w)(h2:MR G β H w=MR F β H w){id:Nat}{bC:cC}(hm: ∀b,β id=some b->G.dE b->F.dE b)(h:ir G β N H w id bC):ir F β N H w id bC:=by
 cases bC with
 |box t cs=>
  obtain⟨b,arr,T,q1,q2,q3,q4,q5⟩:=h;exact⟨b,arr,T,q1,hm b q1 q2,q3,q4,λk x hx=>(JU h1 h2).1 (q5 k x hx)⟩
 |dX cs=>
  obtain⟨b,arr,T,q1,q2,q3,q4,q5⟩:=h;exact⟨b,arr,T,q1,hm b q1 q2,q3,q4,λk x hx=>by grind⟩
 |row m z c=>
  obtain⟨q0,q1|⟨b,cap,q1,q2,q3⟩⟩:=h
  ·exact Mk
  ·exact⟨q0,.inr ⟨b,cap,q1,hm b q1 q2,by grind⟩⟩
 |az z l=>
  obtain⟨q0,q1|⟨b,cap,arr,T,q1,q2,q3,q4,q5,q6⟩⟩:=h
  ·exact Mk
  ·exact⟨q0,.inr ⟨b,cap,arr,T,q1,hm b q1 q2,q3,q4,q5,λi e k x hi hx=>(JU h1 h2).1 (q6 i e k x hi hx)⟩⟩
 |map es=>
  obtain⟨b,arr,ck,q1,q2,q3,q4,q5⟩:=h;exact⟨b,arr,ck,q1,hm b q1 q2,q3,q4,by grind⟩
def ad.m6 (hG:bH C F)(hR:ad F β N H w):ad (F.m6 β H w fx) β N H w:=by
 refine⟨λid bC e=>⟨(hR.rel id bC e).1,?_⟩,hR.inj,jv.refl _ _,λb o v e=>⟨ym hG hR e,λ_=>?_⟩⟩
 ·exact Ia (JT hR).symm (TA hR).symm (λb hb _=>.inr ⟨id,bC,e,hb⟩) (hR.rel id bC e).2
 ·have e:MV F β H w b o=some v:=e;unfold MV at e;split at e
  grind
  ·rename_i hm;exact mG λh=>hm (lR hR h).2
def Vz (hR:ad F β N H w)(Ac:ad (F.m6 β H w fx) cQ N' H' w'):MV (F.m6 β H w fx) cQ H' w'=MV F cQ H' w'/\MR (F.m6 β H w fx) cQ H' w'=MR F cQ H' w'/\Tz F β H w cQ H' w'/\ad F cQ N' H' w':=by
 have hl: ∀b,live cQ H' b->(F.m6 β H w fx).dE b:=λb h=>(lR Ac h).2;have al: ∀ {b:Nat},¬(F.m6 β H w fx).dE b->b<w.heap.size:=λh=>Nat.lt_of_not_le λe=>h (.inl e)
 have e1:MV (F.m6 β H w fx) cQ H' w'=MV F cQ H' w':=by
  funext b o;by_cases h1:(F.m6 β H w fx).dE b
  ·have h2:=nV hR h1;unfold MV
   grind
  ·unfold MV;rw[if_neg h1];show MV F β H w b o=_;unfold MV;split
   ·rw[if_pos (mG λh=>h1 (.inr h)),if_pos (mG λh=>h1 (hl b h))];exact aiL
   ·rfl
 have e2:MR (F.m6 β H w fx) cQ H' w'=MR F cQ H' w':=by
  funext b o;by_cases h1:(F.m6 β H w fx).dE b
  ·have h2:=nV hR h1;unfold MR;simp_all
  ·have e:MR (F.m6 β H w fx) cQ H' w' b o=MR F β H w b o:=by
    have e:MR (F.m6 β H w fx) cQ H' w' b o=(F.m6 β H w fx).mr0 b o:=by unfold MR;grind
    exact e
   rw[e];by_cases h2:F.dE b
   ·unfold MR MV;rw[if_pos h2,if_pos h2,if_pos h2,if_pos h2,if_pos (mG λh=>h1 (.inr h)),if_pos (mG λh=>h1 (hl b h))];exact aiL
   ·unfold MR
    grind
 have hk:jv F.dE w w':=Ac.below.mono λb _ h=>nV hR h
 have wW:(MV F β H w).le (MV F cQ H' w'):=by
  rw[<- e1];intro b o v e;obtain⟨h3,h4⟩:=Ac.tD b o v e;unfold MV;split
  grind
  ·exact e
 refine⟨e1,e2,⟨Ac.below.size,λb o e hn=>?_,λb h=>?_,wW⟩,λid bC e=>⟨(Ac.rel id bC e).1,?_⟩,Ac.inj,hR.below.trans hk,λb o v e=>?_⟩
 ·rw[Ac.below.block b (kQ e) ?_]
  ·exact e
  ·rintro(h|h)
   ·have:=kQ e;have h:w.heap.size<=b:=h;omega
   ·exact hn h
 ·rcases hl b h with h|h
  ·exact .inr h
  ·exact .inl h
 ·exact Ia e1 e2 (λb hb hm=>nV hR hm) (Ac.rel id bC e).2
 ·obtain⟨h1,h2⟩:=hR.tD b o v e
  have al5:MV F β H w b o=some v:=by
   unfold MV
   grind
  have h3:=wW b o v al5;refine⟨?_,λhm=>?_⟩
  ·have:=(Ac.tD b o v al5).1;omega
  ·unfold MV at h3
   grind
def Qm:Obj->Bool
 | .map _ _=>true
 |_=>false
theorem rH: ∀ {H:Hp},rE H=true->∀id es,H.get id≠some (.map es)
 | [],_,id,es,h=>by grind[Hp.get]
 |(j,b)::H,hn,id,es,h=>by
  have LG:rE H=true:=by
   cases b with
   |none=>exact hn
   |some b=>cases b<;>first|exact hn|cases hn
  rw[Hp.au]at h;by_cases hj:id=j
  ·subst hj;rw[an]at h;subst h;cases hn
  ·rw[aG _ _ _ hj]at h;exact rH LG id es h
def Tr.walk (_hR:ad F β N H w){row:Option Nat}(hg:w.grownBy w' row)(hr: ∀r,row=some r->F.base<=r/\∃o:Obj,w.heap[r]? =some o/\o.isCells=false/\(∀x,o≠ .deferred x)):Tr F β N H w β N H w':=by
 have hkc: ∀ {b:Nat} {arr:Array Value} {T:TypeId},w.heap[b]? =some (.cells arr T)->w'.heap[b]? =some (.cells arr T):=λ{b arr T} e=>
  (grownBy_keeps_cells hg (λr h=>let⟨_,o,h1,h2,_⟩:=hr r h;⟨o,h1,h2⟩) e rfl).trans e
 refine⟨⟨hg.os,hg.tape,hg.output,hg.size,λk hk hm=>hg.block k hk λe=>hm (.inl (hr k e.symm).1)⟩,λb o v _ hs e=>⟨hs,?_⟩,λ_ h=>h,λ_ _=>rfl,λ_ b _ e=>⟨b,e,b.fU⟩,λ_ _ _ b arr T _ _ _ _ _ e=>⟨arr,hkc e,rfl⟩,λk x e=>?_⟩
 ·exact cell_kept (a:=⟨b,o,none⟩) e hg λr h=>let⟨_,o,h1,h2,_⟩:=hr r h;⟨o,h1,h2⟩
 ·rw[hg.block k (kQ e) λh=>?_];omega
  grind
theorem ad.walk (hR:ad F β N H w){row:Option Nat}(hg:w.grownBy w' row)(hr: ∀r,row=some r->F.base<=r/\∃o:Obj,w.heap[r]? =some o/\o.isCells=false/\(∀x,o≠ .deferred x))(hm:(∀r o,row=some r->w.heap[r]? =some o->Qm o=false)\/∀id es,H id≠some (.map es)):ad F β N H w':=by
 refine hR.step (Tr.walk hR hg hr) (λ_=>False) (λid bC _ e=>⟨e,(hR.rel id bC e).1,λb hb=>?_⟩) (λ_ _ h=>h.elim) hR.inj;have al:=(hR.fY e hb).1;refine hg.block b al λh=>?_;obtain⟨_,o,h1,h2,_⟩:=hr b h.symm;have hc:(∃arr T,w.heap[b]? =some (.cells arr T))\/∃es ck,w.heap[b]? =some (.map es ck):=K49
 rcases hc with⟨arr,T,hc⟩|⟨es,ck,hc⟩
 ·rw[hc]at h1;cases h1;cases h2
 ·rw[hc]at h1;cases h1;rcases hm with hm|hm
  ·have:=hm b _ h.symm hc;cases this
  ·obtain⟨_,hB⟩:=hR.rel id bC e
   cases bC with
   |map Xm=>grind
   |box t cs=>obtain⟨b',arr,T,q1,q2,q3,_⟩:=hB;grind
   |dX cs=>obtain⟨b',arr,T,q1,q2,q3,_⟩:=hB;grind
   |row m z c=>
    obtain⟨_,q1|⟨b',cap,q1,q2,arr,T,q3,_⟩⟩:=hB
    grind
    grind
   |az z l=>
    obtain⟨_,q1|⟨b',cap,arr,T,q1,q2,q3,_⟩⟩:=hB
    grind
    grind
end
def aez (hC:C.Ok)(hG:bH C F){l n:Nat}{c:Code}{S:St}{kn:St->Prop}{kr:St->Prop}{a:Act}{w:World}{Q:Exit->Act->World->Prop}{β:Nat->Option Nat}{N:Nat->Prop}{fx:List Nat}(hf:mE c=true)(hc:bQ nt c=true)(mb:aJ fx c=true)(hQ: ¬LetsOut Q)
  (h:rF C c S kn (λ_ _=>False) kr)(hd:eC F.db a.defers w)(hr:JS F nt S a.tmps w β N)
  (h1: ∀S1 a' w',kn S1->(∀S',bu S1 S'->∃cQ N',JS F nt S' a'.tmps w' cQ N'/\Tz F β S.hp.get w cQ S'.hp.get w'/\(∀s∈fx,a'.tmps.getD s undef=a.tmps.getD s undef)/\eC F.db a'.defers w')->Q .normal a' w')
  (h3: ∀S1 a' w',kr S1->(∀S',bu S1 S'->∃cQ N',JS F nt S' a'.tmps w' cQ N'/\Tz F β S.hp.get w cQ S'.hp.get w'/\(∀s∈fx,a'.tmps.getD s undef=a.tmps.getD s undef)/\eC F.db a'.defers w')->Q .ret a' w'):
  c.wpIn (Fence.wide.inRound l) n C.P Q a w:=by
 obtain⟨q1,q2,q3,q4⟩:=hr;let fxv:List (Nat × Value):=fx.map λs=>(s,a.tmps.getD s undef)
 have hG1:bH C (F.m6 β S.hp.get w fxv):=by
  refine⟨eQ.later hG q3,λb o v e=>ym hG q3 e,λg cs hm fL hl=>?_,eQ.mr hG,Jq hG q3,uf hG q3⟩;obtain⟨v,e1,_⟩:=(hG.ok g cs hm).1 0 cs[0] bw;exact uc e1 (hG.UU g cs hm fL) (lR q3 hl).2
 have anP:fxv.map Prod.fst=fx:=by simp[fxv,GC]
 have hrel:Rel (F.m6 β S.hp.get w fxv) nt S a w:=by
  refine⟨N,⟨q1,hd,?_,β,λs dv e=>(MW (JT q3) (TA q3)).2 (q2 s dv e),ad.m6 hG q3⟩,q4⟩;intro p hp;obtain⟨s,_,rfl⟩:=dC.1 hp;rfl
 have Ls: ∀ {S1:St} {a':Act} {w':World},Rel (F.m6 β S.hp.get w fxv) nt S1 a' w'->∀S',bu S1 S'->∃cQ N',JS F nt S' a'.tmps w' cQ N'/\Tz F β S.hp.get w cQ S'.hp.get w'/\(∀s∈fx,a'.tmps.getD s undef=a.tmps.getD s undef)/\eC F.db a'.defers w':=by
  intro S1 a' w' hr S' hs;obtain⟨N',⟨r1,r2,r3,cQ,r4,r5⟩,r6⟩:=hs _ _ _ _ hr;obtain⟨e1,e2,e3,e4⟩:=Vz q3 r5;refine⟨cQ,N',⟨r1,λs dv e=>(MW e1 e2).1 (r4 s dv e),e4,r6⟩,e3,λs hs=>?_,r2⟩;exact r3 (s,a.tmps.getD s undef) (dC.2 ⟨s,hs,rfl⟩)
 exact Vy hC hG1 hf hc (by show aJ (fxv.map Prod.fst) c=true;grind) hQ h hrel (λS1 a' w' hk Cx=>h1 S1 a' w' hk (Ls Cx)) (λ_ _ _ _ h=>h.elim) λS1 a' w' hk Cx=>h3 S1 a' w' hk (Ls Cx)
def rI (ps:List Tmp)(vs:List Value)(t:Array Value):Array Value:=(ps.zip vs).foldl (λt p=>t.setIfInBounds p.1 p.2) t
theorem Bz: ∀(ps:List Tmp) (vs:List Value) (t:Array Value),(rI ps vs t).size =t.size
 | [],_,_=>rfl
 |_::_,[],_=>rfl
 |p::ps,v::vs,t=>by
  show(rI ps vs (t.setIfInBounds p v)).size =_;rw[Bz];simp
theorem yE {s:Nat}: ∀(ps:List Tmp) (vs:List Value) (t:Array Value),s∉ps->(rI ps vs t).getD s undef=t.getD s undef
 | [],_,_,_=>rfl
 |_::_,[],_,_=>rfl
 |p::ps,v::vs,t,h=>by
  show(rI ps vs (t.setIfInBounds p v)).getD s undef=_;rw[yE ps vs _ (λe=>h (jt _ e))];have:p≠s:=λe=>h bw;simp_all
theorem DU {β:Nat->Option Nat}{N:Nat->Prop}{H:HF}{w:World}: ∀(ps:List Tmp) (vs:List Value) (rs:List SV) (t:Array Value) (E:dS),vs.length=ps.length->rs.length=ps.length->
  (∀(k:Nat) (r:SV),rs[k]? =some r->ar F β N H w (vs.getD k undef) (dyn r))->(∀p∈ps,p<t.size)->(∀s dv,E.get s=some dv->co F β N H w (t.getD s undef) dv)->
  ∀s dv,(params ps rs E).get s=some dv->co F β N H w ((rI ps vs t).getD s undef) dv
 | [],_,[],_,_,_,_,_,_,h=>h
 |p::ps,v::vs,r::rs,t,E,h1,h2,h3,h4,h=>by
  refine DU ps vs rs (t.setIfInBounds p v) ((p,some (.val (dyn r)))::E) bw bw (λk r' hk=>?_) (λq hq=>by grind) (λs dv e=>?_)
  ·simpa using h3 (k+1) r' bw
  ·rw[dS.au]at e;have al:=h4 p je;by_cases hs:s=p
   ·subst hs;simp at e;subst e;have:(t.setIfInBounds s v).getD s undef=v:=by simp_all
    rw[this];show ar _ _ _ _ _ _ _;simpa using h3 0 r rfl
   ·simp only[hs,kM]at e;have:(t.setIfInBounds p v).getD s undef=t.getD s undef:=by simp[sT,XO (ox hs)]
    grind
 |_::_,[],_,_,_,h1,_,_,_,_=>by grind
 |_::_,_::_,[],_,_,_,h2,_,_,_=>by grind
 | [],_,_::_,_,_,_,h2,_,_,_=>by grind
theorem Qo {E:dS}{s:Nat}{dv:DV}(h:E.get s=some dv):s∈ke E:=by
 induction E with
 |nil=>grind[dS.get]
 |cons p E ih=>
  obtain⟨k,b⟩:=p;rw[dS.au]at h;by_cases hs:s=k
  grind[ke]
  ·simp only[hs,kM]at h;exact jt _ (ih h)
theorem GP {l:List Nat}{ps:List Tmp}(h:qt l ps=true): ∀p∈ps,p∉l:=by
 induction ps with
 |nil=>simp
 |cons q ps ih=>
  rw[qt]at h;exact ajT
def nF (F:gG)(nt:Nat)(E:dS)(H:Hp)(nx:Nat)(a:Act)(mv:Mem)(M:Nat->Prop)(w:World):Prop:=
 ∃β N,JS F nt ⟨E,H,nx⟩ a.tmps w β N/\eC F.db a.defers w/\mv.le (MV F β H.get w)/\(∀b,M b↔live β H.get b)/\∀id es,H.get id≠some (.map es)
def nF.walk {E:dS}{H:Hp}{nx:Nat}{a:Act}{mv:Mem}{M:Nat->Prop}{w w':World}(h:nF F nt E H nx a mv M w){row:Option Nat}(hg:w.grownBy w' row)
  (hr: ∀r,row=some r->F.base<=r/\∃o:Obj,w.heap[r]? =some o/\o.isCells=false/\(∀x,o≠ .deferred x)):nF F nt E H nx a mv M w':=by
 obtain⟨β,N,⟨q1,q2,q3,q4⟩,q5,q6,q7,q8⟩:=h;have t:=Tr.walk q3 hg hr;exact⟨β,N,⟨q1,λs dv e=>t.wv q3 (q2 s dv e),q3.walk hg hr (.inr q8),q4⟩,q5.keep t.av,λb o v e=>t.mv b o v (q6 b o v e),q7,q8⟩
def DW {β:Nat->Option Nat}{N:Nat->Prop}{H:HF}{w:World}(hR:ad F β N H w){b:Nat}(h:live β H b):(∃arr T,w.heap[b]? =some (.cells arr T))\/∃es ck,w.heap[b]? =some (.map es ck):=by
 obtain⟨id,bC,e,hb⟩:=h;exact K49
def MX (hC:C.Ok)(hG:bH C F){g:Operand}{ps:Array Tmp}{x y:Code}{E:dS}{gf:FuncId}{first:List SV}{bM:List (List SC)}{xs:List (List SV)}{Hs:Nat->Hp}{nx:Nat}{Inv:Nat->Prop}{kr:St->Prop}{a:Act}{w:World}{Q:Exit->Act->World->Prop}
  (e8:bQ nt (.rangeFunc g ps x y)=true)(hg:C.ev E.get g=some (.val (false,[.st (.fn gf first bM)])))(hit:Tw C.P C.gl gf first bM xs)(bD: ∀r∈xs,r.length=ps.size)
  (ov:mE x=true/\mE y=true/\aJ (ke E) x=true/\aJ (ke E) y=true/\qt (ke E) ps.toList=true)
  (hnm: ∀i,rE (Hs i)=true)(hrel:Rel F nt ⟨E,Hs 0,nx⟩ a w)(hdb:F.db<=F.base)(xJ:Inv 0)
  (mW: ∀i r,xs[i]? =some r->Inv i->rF C x ⟨params ps.toList r E,Hs i,nx⟩ (λS1=>∃Xz,bu S1 Xz/\rF C y Xz (λS2=>Inv (i+1)/\bu S2 ⟨E,Hs (i+1),nx⟩) (λ_ _=>False)
   (λS2=>∃Hr nr,rE Hr=true/\bu S2 ⟨E,Hr,nr⟩/\kr ⟨E,Hr,nr⟩)) (λ_ _=>False) (λ_=>False))
  (anB:Inv xs.length->∀a' w',Rel F nt ⟨E,Hs xs.length,nx⟩ a' w'->Q .normal a' w')(anF: ∀S a' w',kr S->Rel F nt S a' w'->Q .ret a' w'):(Code.rangeFunc g ps x y).wp C.P Q a w:=by
 refine(wpIn_wide (n:=0)).1 ?_;refine wpIn_rangeFunc λfn Cy=>?_
 obtain⟨Be,hcx,hcy⟩:(∀p∈ps.toList,p<nt)/\bQ nt x=true/\bQ nt y=true:=by
  obtain⟨h1,h2⟩:=aD (a:=ps.toList.all λp=>Nat.blt p nt) (b:=bQ nt x&&bQ nt y) e8;obtain⟨h2,h3⟩:=aD h2
  grind[Nat.blt_eq]
 obtain⟨fx,fy,gx,gy,gp⟩:=ov;obtain⟨N,⟨hs,hdf,ani,β,hE,hR⟩,hN⟩:=hrel;obtain⟨fv,cv,Gi,Lw,hcv⟩:=DF ((mC hG hR hE hg).am :dw _ _ _ _);obtain⟨xv,hxl,hxr,hI⟩:=hit.2 (MV F β (Hs 0).get w) (MR F β (Hs 0).get w) w fv cv (uf hG hR) (wz hG hR) (eQ.later hG hR) Lw hcv;have Xx:Fence.wide.round=none:=rfl;rw[Xx];let rec':LoopState->Option Code->Loop:=λst pe=>{state:=st,pending:=pe,fn,tmps:=a.tmps,params:=ps,assign:=x,body:=y,defers:=w.heap.size};let D:=w.heap.size;let L:=w.heap.size+1;generalize hW1:(w.alloc (.deferred (some []))).alloc (.loop (rec' .ready none))=W1;have s1:W1.heap.size=w.heap.size+2:=by rw[<- hW1];simp
 have hL:W1.heap[L]? =some (.loop (rec' .ready none)):=by grind[World.alloc_heap_new]
 have hD:W1.heap[D]? =some (.deferred (some [])):=by grind[Below.heap_alloc,World.alloc_heap_new]
 have xQ:Below w.heap.size w W1:=by rw[<- hW1];exact((Below.refl _ w).alloc (dG _) _).alloc (by simp) _
 have Gp:F.base<=w.heap.size:=hR.below.size;have tG:=Tr.grow hR xQ
 have Ly:nF F nt E (Hs 0) nx a (MV F β (Hs 0).get w) (live β (Hs 0).get) W1:=
  ⟨β,N,⟨hs,λs dv e=>tG.wv hR (hE s dv e),hR.grow xQ,hN⟩,hdf.keep tG.av,tG.mv,λ_=>Iff.rfl,rH (hnm 0)⟩
 refine⟨L,[{target:=.collected D,args:= #[]}],W1,{target:=.fn (.func gf) cv,args:=fv++ #[.func (.yield L) #[] #[]]},W1,gf,fv++ #[.func (.yield L) #[] #[]]++cv,W1,?_,?_,λ_ _=>trivial,?_,λh=>by grind[Fence.wide],?_⟩
 ·grind[run_enterLoop_outer]
 ·simp only[resolve,Gi];simp[go_sem,L]
 ·simp[invoke,go_sem,Vh hit.1]
 have wk: ∀ {H:Hp} {M:Nat->Prop} {n:Nat} {W:World} {r r':Loop},nF F nt E H n a (MV F β (Hs 0).get w) M W->W.heap[L]? =some (.loop r)->nF F nt E H n a (MV F β (Hs 0).get w) M (W.putObj L (.loop r')):=λh hl=>
  h.walk (grownBy_putObj' _ L _) λr e=>by cases e;exact⟨by omega,_,hl,rfl,λx=>by simp⟩
 have hDL:D≠L:=by omega
 refine(hI L (λs W=>(Inv s.1/\nF F nt E (Hs s.1) nx a (MV F β (Hs 0).get w) s.2 W)/\W.heap[L]? =some (.loop (rec' .ready none))/\W.heap[D]? =some (.deferred (some [])))
  (λ_ W=>(∃Hr nr M,kr ⟨E,Hr,nr⟩/\nF F nt E Hr nr a (MV F β (Hs 0).get w) M W)/\W.heap[L]? =some (.loop (rec' .done (some .ret)))/\W.heap[D]? =some (.deferred (some []))) W1 (live β (Hs 0).get) xQ
  (λb hb=>by have:=(lR hR hb).1;omega) ?_ ?_ ?_ ?_ ⟨⟨xJ,Ly⟩,hL,hD⟩).mono ?_
 ·intro s A B row hs UL hr;exact⟨⟨hs.1.1,hs.1.2.walk UL λr e=>let⟨h1,o,h2,h3⟩:=hr r e;⟨by omega,o,h2,Obj.not_cells_of_walk h3,λx e=>by grind[Obj.isWalk]⟩⟩,(S6 UL (λr e=>(hr r e).2) hs.2.1 rfl).trans hs.2.1,(S6 UL (λr e=>(hr r e).2) hs.2.2 rfl).trans hs.2.2⟩
 ·intro s A B row hs UL hr;obtain⟨⟨Hr,nr,M,hk,hB⟩,h2,h3⟩:=hs;exact⟨⟨Hr,nr,M,hk,hB.walk UL λr e=>let⟨h1,o,h2,h3⟩:=hr r e;⟨by omega,o,h2,Obj.not_cells_of_walk h3,λx e=>by grind[Obj.isWalk]⟩⟩,(S6 UL (λr e=>(hr r e).2) h2 rfl).trans h2,(S6 UL (λr e=>(hr r e).2) h3 rfl).trans h3⟩
 ·rintro s W ⟨⟨_,cQ,N',q1,_,q3,_⟩,_⟩ b o v e;refine wz hG q1.heap b o v ?_;unfold MR at e ⊢;split
  ·rename_i hm;rw[if_pos hm]at e;exact q3 b o v e
  grind
 ·rintro i M xr W hx ⟨⟨Pz,β0,N0,q1,q2,q3,q4,_⟩,hl,hd⟩;have hi:i<xs.length:=by grind
  have hr:=hxr i xr xs[i] hx (o8 hi);have hrl:xs[i].length =ps.size:=bD _ (pd hi);have Cv:xr.size=ps.size:=by rw[hr.1,hrl]
  refine⟨fn,_,x,y,run_yield hl Cv,roundIn_of_wpIn Cy ?_⟩;have PA:(ps.zip xr).foldl (λtmps (p:Tmp × Value)=>tmps.setIfInBounds p.1 p.2) a.tmps=rI ps.toList xr.toList a.tmps:=by grind[rI,Array.toList_zip]
  show x.wpIn _ _ _ _ {tmps:=(ps.zip xr).foldl (λtmps (p:Tmp × Value)=>tmps.setIfInBounds p.1 p.2) a.tmps,defers:=[]} W;rw[PA]
  have z7: ∀ {H:HF} {cQ:Nat->Option Nat} {N':Nat->Prop} {A:World} {k:Nat} {o:Obj},ad F cQ N' H A->A.heap[k]? =some o->o.isCells=false->Qm o=false->¬live cQ H k:=by
   intro H cQ N' A k o Ac ho hc hm sP
   rcases DW Ac sP with⟨arr,T,e⟩|⟨es,ck,e⟩
   ·rw[e]at ho;cases ho;cases hc
   ·rw[e]at ho;cases ho;cases hm
  have gC:JS F nt ⟨params ps.toList xs[i] E,Hs i,nx⟩ (rI ps.toList xr.toList a.tmps) W β0 N0:=by
   refine⟨by grind[Bz],?_,q1.heap,q1.ids⟩;refine DU ps.toList xr.toList xs[i] a.tmps E K0 K0 (λk r hk=>?_) (λp hp=>by grind) q1.env;have h:=hr.2 k r hk;have e:xr.toList.getD k undef=xr.getD k undef:=by simp_all
   rw[e];exact er.dyn (h.mono q3 (dZ _))
  have alS: ∀s∈ke E,(rI ps.toList xr.toList a.tmps).getD s undef=a.tmps.getD s undef:=λs hs=>yE _ _ _ λhp=>GP gp s hp hs;refine aez (fx:=ke E) hC hG fx hcx gx ajN (mW i xs[i] (o8 hi) Pz) (eC.nil _ W) gC (λS1 a1 w1 hk Ls=>?_) λS1 a1 w1 hk Ls=>hk.elim;obtain⟨Xz,Si,hy⟩:=hk;obtain⟨β1,N1,p1,p2,p3,p4⟩:=Ls Xz Si;have hl1:=p2.keep L _ hl (z7 q1.heap hl rfl rfl);have Xi:=p2.keep D _ hd (z7 q1.heap hd rfl rfl);have anm:L<w1.heap.size:=kQ hl1;refine⟨_,run_beginRound hl1 rfl,?_⟩;have hgb:=grownBy_putObj' w1 L (.loop {rec' .ready none with state:=.busy});have hgr: ∀r,some L=some r->F.base<=r/\∃o:Obj,w1.heap[r]? =some o/\o.isCells=false/\(∀x,o≠ .deferred x):=λr e=>by cases e;exact⟨by omega,_,hl1,rfl,λx=>by simp⟩
  have t2:=Tr.walk p1.heap hgb hgr;have hl2:(w1.putObj L (.loop {rec' .ready none with state:=.busy})).heap[L]? =some (.loop {rec' .ready none with state:=.busy}):=Su anm;have Xk:(w1.putObj L (.loop {rec' .ready none with state:=.busy})).heap[D]? =some (.deferred (some [])):=(UW hDL).trans Xi;have r2:JS F nt Xz a1.tmps (w1.putObj L (.loop {rec' .ready none with state:=.busy})) β1 N1:=⟨p1.size,λs dv e=>t2.wv p1.heap (p1.env s dv e),p1.heap.walk hgb hgr (.inl λr o e ho=>by cases e;rw[hl1]at ho;cases ho;rfl),p1.ids⟩;have mv1:(MV F β (Hs 0).get w).le (MV F β1 Xz.hp.get (w1.putObj L (.loop {rec' .ready none with state:=.busy}))):=λb o v e=>t2.mv b o v (p2.mv b o v (q3 b o v e))
  have df2:eC F.db a.defers (w1.putObj L (.loop {rec' .ready none with state:=.busy})):=by
   refine eC.keep q2 λk xx e=>?_;have:=p2.keep k _ e (z7 q1.heap e rfl rfl);exact t2.av k xx this
  refine aez (fx:=ke E) hC hG fy hcy gy ajN hy (p4.keep t2.av) r2 (λS2 a2 w2 hk Ls=>?_) (λS2 a2 w2 hk Ls=>?_)
  ·obtain⟨al8,hk⟩:=hk;obtain⟨β3,N3,u1,u2,u3,u4⟩:=Ls _ hk;have hl3:=u2.keep L _ hl2 (z7 r2.heap hl2 rfl rfl);have hd3:=u2.keep D _ Xk (z7 r2.heap Xk rfl rfl);have aho:L<w2.heap.size:=kQ hl3;refine⟨_,_,run_endRound (P:=C.P) none hl3,.inl ⟨rfl,live β3 (Hs (i+1)).get,⟨⟨al8,?_⟩,Su aho,(UW hDL).trans hd3⟩,?_,?_,?_⟩⟩
   ·refine wk (r:={rec' .ready none with state:=.busy}) ?_ hl3;refine⟨β3,N3,⟨q1.size,λs dv e=>?_,u1.heap,u1.ids⟩,df2.keep λk xx e=>u2.keep k _ e (z7 r2.heap e rfl rfl),λb o v e=>u2.mv b o v (mv1 b o v e),λ_=>Iff.rfl,rH (hnm (i+1))⟩;exact ah2
   ·have h1:=p2.size;have h2:=u2.size
    grind[World.putObj_size]
   ·intro b hb;have h0:=p2.size;rcases u2.live b hb with h|h
    ·rcases p2.live b h with h|h
     grind
     omega
    grind[World.putObj_size]
   ·intro b arr T e hM;have n0: ¬live β0 (Hs i).get b:=λh=>hM ((q4 b).2 h);have hbl:b<W.heap.size:=kQ e;have e1:=p2.keep b _ e n0;have gk:b≠L:=λh=>by grind
    have n1: ¬live β1 Xz.hp.get b:=λh=>by
     rcases p2.live b h with h|h
     grind
     ·omega
    have e2:(w1.putObj L (.loop {rec' .ready none with state:=.busy})).heap[b]? =some (.cells arr T):=(UW gk).trans e1;have e3:=u2.keep b _ e2 n1
    grind[World.putObj_heap_other]
  ·obtain⟨Hr,nr,hnr,Si,hkr⟩:=hk;obtain⟨β3,N3,u1,u2,u3,u4⟩:=Ls _ Si;have hl3:=u2.keep L _ hl2 (z7 r2.heap hl2 rfl rfl);have hd3:=u2.keep D _ Xk (z7 r2.heap Xk rfl rfl);have aho:L<w2.heap.size:=kQ hl3;refine⟨_,_,run_endRound (P:=C.P) (some .ret) hl3,.inr ⟨rfl,⟨Hr,nr,live β3 Hr.get,hkr,?_⟩,Su aho,(UW hDL).trans hd3⟩⟩;refine wk (r:={rec' .ready none with state:=.busy}) ?_ hl3;refine⟨β3,N3,⟨q1.size,λs dv e=>?_,u1.heap,u1.ids⟩,df2.keep λk xx e=>u2.keep k _ e (z7 r2.heap e rfl rfl),λb o v e=>u2.mv b o v (mv1 b o v e),λ_=>Iff.rfl,rH hnr⟩;exact ah2
 ·have fin: ∀ {H:Hp} {n:Nat} {M:Nat->Prop} {W:World} {r r':Loop},nF F nt E H n a (MV F β (Hs 0).get w) M W->W.heap[L]? =some (.loop r)->W.heap[D]? =some (.deferred (some []))->
    Rel F nt ⟨E,H,n⟩ {a with defers:=[{target:=.collected D,args:= #[]}]++a.defers} (W.putObj L (.loop r')):=by
   intro H n M W r r' hB hl hd;obtain⟨β3,N3,u1,u2,_,_,_⟩:=wk (r':=r') hB hl;refine⟨N3,⟨u1.size,⟨?_,?_⟩,ani,β3,u1.env,u1.heap⟩,u1.ids⟩
   ·intro d xG;rcases cF.1 xG with rfl|xG
    grind[World.putObj_heap_other]
    ·exact u2.all d xG
   ·refine Ah.2 ⟨λhm=>?_,u2.nodup⟩;obtain⟨D',h1,h2,_⟩:=hdf.all _ hm
    grind
  rintro e W2 ⟨⟨v,rfl⟩,(⟨M,⟨Pz,hi⟩,hl,hd⟩|⟨⟨Hr,nr,M,hk,hi⟩,hl,hd⟩)⟩
  ·refine⟨none,_,run_endLoop (P:=C.P) hl bw,?_⟩
   grind
  ·refine⟨some .ret,_,run_endLoop (P:=C.P) hl bw,?_⟩
   grind[wpIn_ret]
theorem VA {β:Nat->Option Nat}{N:Nat->Prop}{H:HF}{w w':World}(hR:ad F β N H w){D:Nat}{o o':Obj}(ho:w.heap[D]? =some o)(h1:o.isCells=false)(h2:o'.isCells=false)(h3:Qm o=false)(hD:F.base<=D)(hw:w'=w.putObj D o'):
  ad F β N H w'/\∀ {v:Value} {d:DV},co F β N H w v d->co F β N H w' v d:=by
 subst hw;have al:=kQ ho;have tm:(w.putObj D o').heap[D]? =some o':=Su al;have gk: ∀ {b:Nat},b≠D->(w.putObj D o').heap[b]? =w.heap[b]? :=λh=>UW h;have hc: ∀ {b:Nat} {arr:Array Value} {T:TypeId},w.heap[b]? =some (.cells arr T)->(w.putObj D o').heap[b]? =some (.cells arr T):=λ{b arr T} e=>by rw[gk (λh=>by subst h;rw[ho]at e;cases e;cases h1)];exact e
 have Jb:rd (w.putObj D o')=rd w:=by
  funext b x
  grind[rd,World.cell?,Obj.isCells]
 have hMV:MV F β H (w.putObj D o')=MV F β H w:=by unfold MV;rw[Jb]
 have hMR:MR F β H (w.putObj D o')=MR F β H w:=by unfold MR;rw[hMV]
 have hD': ∀ {v:Value} {d:DC},cw F β N H w v d->cw F β N H (w.putObj D o') v d:=by
  intro v d h
  cases d with
  |st c=>have h:dw _ _ v c:=h;show dw _ _ v c;grind
  |nil=>exact h
  |sS g id=>exact h
  |mp id=>exact h
  |ptr id off=>exact h
  |own id=>
   obtain⟨q1,q2,q3⟩:=h;refine⟨q1,q2,λm z c e hz=>?_⟩;rcases q3 m z c e hz with h|⟨b,cap,arr,T,p1,p2,p3,p4⟩
   ·exact .inl h
   ·exact .inr ⟨b,cap,arr,T,p1,p2,hc p3,p4⟩
  |cK id z i off=>exact h
 have hX: ∀ {v:Value} {x:DX},ar F β N H w v x->ar F β N H (w.putObj D o') v x:=by
  intro v x h;unfold ar at h ⊢
  grind
 refine⟨⟨λid bC e=>⟨(hR.rel id bC e).1,?_⟩,hR.inj,hR.below.trans ⟨rfl,rfl,rfl,by simp,λk hk hm=>gk (λh=>hm (.inl K0))⟩,λb x v e=>by rw[Jb];exact hR.tD b x v e⟩,?_⟩
 ·obtain⟨_,hB⟩:=hR.rel id bC e
  cases bC with
  |box t cs=>obtain⟨b,arr,T,q1,q2,q3,q4,q5⟩:=hB;exact⟨b,arr,T,q1,q2,hc q3,q4,λk x hx=>hD' (q5 k x hx)⟩
  |dX cs=>obtain⟨b,arr,T,q1,q2,q3,q4,q5⟩:=hB;exact⟨b,arr,T,q1,q2,hc q3,q4,λk x hx=>by grind⟩
  |row m z c=>
   obtain⟨q0,q1|⟨b,cap,q1,q2,arr,T,q3,q4⟩⟩:=hB
   ·exact Mk
   ·exact⟨q0,.inr ⟨b,cap,q1,q2,arr,T,hc q3,by grind⟩⟩
  |az z l=>
   obtain⟨q0,q1|⟨b,cap,arr,T,q1,q2,q3,q4,q5,q6⟩⟩:=hB
   ·exact Mk
   ·exact⟨q0,.inr ⟨b,cap,arr,T,q1,q2,hc q3,q4,q5,λi e k x hi hx=>hD' (q6 i e k x hi hx)⟩⟩
  |map es=>
   obtain⟨b,arr,ck,q1,q2,q3,q4,q5⟩:=hB;exact⟨b,arr,ck,q1,q2,by rw[gk (λh=>by subst h;rw[ho]at q3;cases q3;cases h3)];exact q3,q4,by grind⟩
 ·intro v d h
  cases d with
  |val x=>exact hX h
  |aI l=>obtain⟨arr,q1,q2,q3⟩:=h;exact⟨arr,q1,q2,λk x hk=>hX (q3 k x hk)⟩
theorem Av {P:Program}{fn:Func}{R:Ending->World->Prop}{S:St}{t:Array Value}{β:Nat->Option Nat}{N:Nat->Prop}
  (hdb:F.base<=F.db)(R6: ∀w,JS F nt S t w β N->∃v,(results fn t).run P w= .ok v w/\R (.returned v) w): ∀(ds:List Deferred) (w:World),JS F nt S t w β N->eC F.db ds w->LeavesInM Fence.wide 0 P fn t R ds .returning w
 | [],w,hr,_=>by
  obtain⟨v,h1,h2⟩:=R6 w hr;exact⟨v,h1,h2⟩
 |d::ds,w,hr,hd=>by
  obtain⟨D,rfl,hD,hb⟩:=hd.all d je;obtain⟨h1,h2⟩:=VA (o':=.deferred none) hr.heap hD rfl rfl rfl (pf hdb hb) rfl;refine⟨by simp,.inl ⟨_,_,rfl,run_takeDeferred hD,?_⟩⟩;refine Av hdb R6 ds _ ⟨hr.size,λs dv e=>h2 (hr.env s dv e),h1,hr.ids⟩ ⟨λd xG=>?_,(Ah.1 hd.nodup).2⟩;obtain⟨D',e1,e2,e3⟩:=hd.all d (jt _ xG);refine⟨D',e1,?_,e3⟩;rw[UW (λh=>?_)];omega
  ·subst h;subst e1;exact(Ah.1 hd.nodup).1 xG
theorem Ib (hC:C.Ok)(hG:bH C F)(hdb:F.db<=F.base){c:Code}:aJ (F.fixed.map Prod.fst) c=true->∀ {S:St} {kn:St->Prop} {kx:Nat->St->Prop} {kr:St->Prop} {a:Act} {w:World} {Q:Exit->Act->World->Prop},bQ nt c=true->rF C c S kn kx kr->Rel F nt S a w->
  (∀S a w,kn S->Rel F nt S a w->Q .normal a w)->(∀id S a w,kx id S->Rel F nt S a w->Q (.exit id) a w)->(∀S a w,kr S->Rel F nt S a w->Q .ret a w)->c.wp C.P Q a w:=by
 induction c with
 |skip=>intro _ S kn kx kr a w Q _ h hr h1 h2 h3;exact wp_skip (h1 _ _ _ h hr)
 |label l=>intro _ S kn kx kr a w Q _ h hr h1 h2 h3;exact wp_label (h1 _ _ _ h hr)
 |ret=>intro _ S kn kx kr a w Q _ h hr h1 h2 h3;exact wp_ret (h3 _ _ _ h hr)
 |exit id=>intro _ S kn kx kr a w Q _ h hr h1 h2 h3;exact wp_exit (h2 _ _ _ _ h hr)
 |seq x y ihx ihy=>
  intro mb S kn kx kr a w Q hc h hr h1 h2 h3;obtain⟨hx,hy⟩:=aD (a:=bQ nt x) (b:=bQ nt y) hc;obtain⟨fx,fy⟩:=aD (a:=aJ (F.fixed.map Prod.fst) x) (b:=aJ (F.fixed.map Prod.fst) y) mb;refine wp_seq (ihx fx hx h hr (λS a w ⟨S',hs,h⟩ hr=>ihy fy hy h (hs _ _ _ _ hr) h1 h2 h3) h2 h3)
 |cond c x y ihx ihy=>
  intro mb S kn kx kr a w Q hc h hr h1 h2 h3;obtain⟨hx,hy⟩:=aD (a:=bQ nt x) (b:=bQ nt y) hc;obtain⟨fx,fy⟩:=aD (a:=aJ (F.fixed.map Prod.fst) x) (b:=aJ (F.fixed.map Prod.fst) y) mb;unfold rF at h;split at h
  ·rename_i b hb;have hv:a.eval c= .bool b:=aix
   grind[wp_cond,oC,qo]
  grind
 |block id c ih=>
  intro mb S kn kx kr a w Q hc h hr h1 h2 h3;refine wp_block (ih mb hc h hr (λS a w h hr=>h1 S a w h hr) (λiQ S a w h hr=>?_) λS a w h hr=>h3 S a w h hr);exact ahK
 |loop c ih=>
  intro mb S kn kx kr a w Q hc h hr h1 h2 h3;refine um.wp ?_;obtain⟨S0,hs0,h'⟩:=h;have hr:=hs0 _ _ _ _ hr;unfold Tx at h';refine h' (λS=>∀a w,Rel F nt S a w->um C.P c Q a w) (λS hS a w hr=>?_) a w hr;refine um.round (ih mb hc hS hr (λS' a w h hr=>?_) (λid S a w h hr=>h2 id S a w h hr) λS a w h hr=>h3 S a w h hr);obtain⟨S'',Si,hz⟩:=h;exact hz a w (Si _ _ _ _ hr)
 |region id cB vg=>
  intro mb S kn kx kr a w Q hc h hr h1 h2 h3;exact JR hC hG (Ql hc mb) h hr h1
 |scope c ih=>
  intro mb S kn kx kr a w Q hc h hr h1 h2 h3;exact wp_scope_straight (ih mb hc h hr (λS a w h hr=>h1 S a w h hr) (λid S a w h hr=>h2 id S a w h hr) λS a w h hr=>h3 S a w h hr)
 |rangeFunc g ps x y=>
  intro mb S kn kx kr a w Q hc h hr h1 h2 h3;unfold rF at h;split at h
  ·rename_i gf first bM hg
   obtain⟨xs,Hs,nx,Inv,q1,q2,q3,qm,q4,q0,q5,q6⟩:=h;exact MX hC hG hc hg q1 q2 q3 qm (q4 _ _ _ _ hr) hdb q0 q5 (λhi a' w' Cx=>h1 _ a' w' (q6 hi) Cx) λS a' w' hk Cx=>h3 S a' w' hk Cx
  grind
 |goto=>intro _ S kn kx kr a w Q _ h;exact h.elim
 |refuse=>intro _ S kn kx kr a w Q _ h;exact h.elim
end
structure m9 (C:bS) (c:Code) (S:St) (kn:St->Prop) (kx:Nat->St->Prop) (kr:St->Prop):Prop where
 out:rF C c S kn kx kr
structure Brn (b:Bool) (X Y:Prop):Prop where
 out:Xp b X Y
def oF {b:Bool}{X Y:Prop}(h:b=true->X)(h':b=false->Y):Brn b X Y:=⟨As h h'⟩
def bT {X Y:Prop}(h:X):Brn true X Y:=⟨MJ h⟩
def bF {X Y:Prop}(h:Y):Brn false X Y:=⟨HZ h⟩
def acC (C:bS)(cB:List Oper)(vg:Bool)(S:St)(kn:St->Prop):Prop:=match S with
 |⟨E,H,nx⟩=>jx C cB nx cB 0 E H [] λE H n t=>match vg with
  |false=>kn ⟨E,H,nx+n⟩
  |true=>At cB t=true/\kn ⟨E,H,nx+n⟩
structure TB (C:bS) (c:Code) (S:St) (kx:Nat->St->Prop) (kr:St->Prop):Prop where
 out: ∃S',bu S S'/\Tx (λZ S=>rF C c S Z kx kr) S'
section
variable {C:bS}{S:St}{kn:St->Prop}{kx:Nat->St->Prop}{kr:St->Prop}
def aK (h:kn S):m9 C .skip S kn kx kr:=⟨h⟩
def aT (h:kr S):m9 C .ret S kn kx kr:=⟨h⟩
def aX {id:Nat}(h:kx id S):m9 C (.exit id) S kn kx kr:=⟨h⟩
def aS {x y:Code}(h:m9 C x S (λS=>m9 C y S kn kx kr) kx kr):m9 C (.seq x y) S kn kx kr:=by
 have h':rF C x S (λS=>∃S',bu S S'/\rF C y S' kn kx kr) kx kr:=mF h.out (λS h=>⟨S,bu.refl S,h.out⟩) (λ_ _ h=>h) λ_ h=>h;exact⟨h'⟩
def acD {x y:Code}{ι:Type}(Inv:ι->Prop)(σ:ι->St)(h1:m9 C x S (λS'=>∃i,Inv i/\bu S' (σ i)) kx kr)(h2: ∀i,Inv i->m9 C y (σ i) kn kx kr):m9 C (.seq x y) S kn kx kr:=by
 have h':rF C x S (λS=>∃S',bu S S'/\rF C y S' kn kx kr) kx kr:=mF h1.out (λ_ ⟨i,hi,hs⟩=>⟨σ i,hs,(h2 i hi).out⟩) (λ_ _ h=>h) λ_ h=>h;exact⟨h'⟩
def aC {c:Operand}{x y:Code}{b:Bool}(hc:C.ev S.env.get c=some (.val (false,[.st (.lit (.bool b))])))(h:Brn b (m9 C x S kn kx kr) (m9 C y S kn kx kr)):m9 C (.cond c x y) S kn kx kr:=by
 refine⟨?_⟩;unfold rF;simp only[hc];exact yz h.out (λh=>h.out) λh=>h.out
theorem aB {id:Nat}{c:Code}(h:m9 C c S kn (λiQ S=>match Nat.beq iQ id with
  |true=>kn S
  |false=>kx iQ S) kr):m9 C (.block id c) S kn kx kr:=⟨h.out⟩
def aL {c:Code}(h:TB C c S kx kr):m9 C (.loop c) S kn kx kr:=⟨h.out⟩
def aE {c:Code}(h:m9 C c S kn kx kr):m9 C (.scope c) S kn kx kr:=⟨h.out⟩
def aR {id:Nat}{cB:Array Oper}{vg:Bool}(h:acC C cB.toList vg S kn):m9 C (.region id cB vg) S kn kx kr:=by
 obtain⟨E,H,nx⟩:=S;exact⟨h.out⟩
end
def uo:Nat->List SV->dS
 |_,[]=>[]
 |i,x::xs=>(i,some (.val (dyn x)))::uo (i+1) xs
def entry (args:List SV):St:=⟨uo 0 args,[],0⟩
def eu (C:bS)(H:HF)(E:EF):List ResultVar->(List DX->Prop)->Prop
 | [],K=>K []
 | .tmp t::rs,K=>match E t with
  |some (.val x)=>eu C H E rs λxs=>K (x::xs)
  |_=>False
 | .cell a t::rs,K=>match E a with
  |some (.val x)=>oA C t x H λr u _=>match r,u with
   | .val y,[]=>eu C H E rs λxs=>K (y::xs)
   |_,_=>False
  |_=>False
def aeA (H:HF):List DX->Option (Nat × SC)
 | [(false,[.own id])]=>match H id with
  |some (.row true z c)=>some (z,c)
  |_=>none
 |_=>none
def yF:List SV->Bool
 | []=>true
 |x::l=>oy x.2&&yF l
def aeB:SC->SC
 | .ref _=>.ref []
 |c=>c
def DY:SC->Bool
 | .fn _ _ _=>false
 |_=>true
def Ic (x:SV):SV:=(x.1,x.2.map aeB)
def CE:List SV->Bool
 | []=>true
 |x::l=>x.2.all DY&&CE l
def acE (C:bS)(H:HF)(ts:List TypeId)(xs:List DX)(K:mc->Prop):Prop:=match aeA H xs with
 |some (z,c)=>K (.own z c)
 |none=>match pl C H ts xs with
  |some (l,_,_)=>match yF l with
   |true=>match l with
    | [y]=>K (.one y)
    |l=>K (.aI l)
   |false=>match CE l with
    |true=>match l with
     | [y]=>K (.one (Ic y))
     |l=>K (.aI (l.map Ic))
    |false=>False
  |none=>False
def acF (C:bS)(fn:Func)(S:St)(K:mc->Prop):Prop:=eu C S.hp.get S.env.get fn.results.toList λxs=>acE C S.hp.get fn.resultTypes.toList xs K
def JV {xs:List SV}: ∀ {i s:Nat} {dv:DV},(uo i xs).get s=some dv->∃k x,s=i+k/\xs[k]? =some x/\dv= .val (dyn x):=by
 induction xs with
 |nil=>grind[uo,dS.get]
 |cons x xs ih=>
  intro i s dv h;unfold uo at h;rw[dS.au]at h;simp only at h;by_cases e:s=i
  ·subst e;grind
  ·rw[if_neg e]at h;obtain⟨k,y,h1,h2,h3⟩:=ih h;exact⟨k+1,y,by omega,by grind,h3⟩
section
variable {C:bS}{F:gG}{β:Nat->Option Nat}{N:Nat->Prop}{H:HF}{w w':World}{fn:Func}
def DZ (tmps:Array Value):ResultVar->Sem Value
 | .tmp t=>pure (tmps.getD t undef)
 | .cell a t=>do loadVar t (<- asAddr (tmps.getD a undef))
def Qp (tmps:Array Value):results fn tmps=(do let vs <- fn.results.mapM (DZ tmps);pure (if h:vs.size=1 then vs[0]else .tuple vs)):=by
 unfold results;congr 1
def BA:List Value->Value
 | [v]=>v
 |vs=>.tuple vs.toArray
theorem BB {P:Program}{tmps:Array Value}{vs:List Value}(h:(fn.results.toList.mapM (DZ tmps)).run P w= .ok vs w):
  (results fn tmps).run P w= .ok (BA vs) w:=by
 rw[Qp,aes];simp only[map_eq_pure_bind,eK,h,my,lN];congr 1
 match vs with
 | []=>rfl
 | [v]=>rfl
 |v::u::vs=>simp;rfl
def VB {P:Program}{T:TypeId}{x:DX}{v0 v:Value}{K:ka}{w':World}(hx:ar F β N H w v0 x)(h:oA C T x H K)(hr:(Instr.loadAt T v0).run P w= .ok v w'):
  (do loadVar T (<- asAddr v0):Sem Value).run P w= .ok v w':=by
 have key: ∃b o,v0= .pointer (some ⟨b,o,none⟩):=by
  unfold oA at h;split at h
  grind
  ·split at h
   ·obtain⟨_,b,_,e⟩:=hx.am;grind
   ·exact Jr hx.am
   ·obtain⟨_,b,_,e⟩:=hx.am;grind
   grind
 grind[Instr.loadAt,Instr.sureAddr,asAddr]
theorem D0 (hC:C.Ok)(hG:bH C F){E:EF}{a:Act}: ∀ {rs:List ResultVar} {K:List DX->Prop} {β:Nat->Option Nat} {N:Nat->Prop},ad F β N H w->dH F β N H w E a->eu C H E rs K->
  ∃xs vs cQ N',K xs/\Tr F β N H w cQ N' H w/\ad F cQ N' H w/\(rs.mapM (DZ a.tmps)).run C.P w= .ok vs w/\vs.length=xs.length/\∀k x,xs[k]? =some x->ar F cQ N' H w (vs.getD k undef) x:=by
 intro rs
 induction rs with
 |nil=>intro K β N hR hE h;exact⟨[],[],β,N,h,Tr.refl,hR,by simp,rfl,by simp⟩
 |cons r rs ih=>
  intro K β N hR hE h
  cases r with
  |tmp t=>
   unfold eu at h;split at h
   ·rename_i x hx;obtain⟨xs,vs,cQ,N',h1,ht,Ac,h2,h3,h4⟩:=ih hR hE h;refine⟨x::xs,a.tmps.getD t undef::vs,cQ,N',h1,ht,Ac,?_,by grind,λk y hk=>?_⟩
    grind[Sem.run_bind,DZ,Sem.run_pure,Result.andThen_ok]
    ·cases k with
     |zero=>simp at hk;subst hk;exact ht.sD hR (hE t _ hx)
     |succ k=>grind
   grind
  |cell s t=>
   unfold eu at h;split at h
   ·rename_i x hx;obtain⟨v,bE,β1,r,u,R,hK,ht,Xj,hv⟩:=Tj (fid:=0) hC hG hR (hE s _ hx) h;have anC:=VB (hE s _ hx) h bE;split at hK
    ·rename_i y;obtain⟨xs,vs,cQ,N',h1,PO,Ac,h2,h3,h4⟩:=ih Xj (ht.env hR hE) hK;refine⟨y::xs,v::vs,cQ,N',h1,ht.trans PO,Ac,?_,by grind,λk y' hk=>?_⟩
     grind[Sem.run_bind,DZ,Result.andThen_ok,Sem.run_pure]
     ·cases k with
      |zero=>simp at hk;subst hk;exact PO.sD Xj hv
      |succ k=>grind
    grind
   grind
def gG.pure (F:gG):Prop:=∀b,¬F.own b
def gG.pure.base {F:gG}(h:F.pure){b:Nat}(hb:F.dE b):F.base<=b:=hb.elim id λe=>absurd e (h b)
def yG (Gj:F.pure):(MV F β H w).le (dV F.PL F.base w):=by
 intro b o v h;unfold MV at h;unfold dV;split at h
 ·rename_i hb;rw[if_pos (Gj.base hb)]
  grind
 ·rename_i hb;rw[if_neg (λe=>hb (.inl e))];exact h
theorem er.flat {mv mr mv' CY:Mem}(wW:mv.le mv'){v:Value}{x:SV}(h:er mv mr v x)(hf:oy x.2=true):er mv' CY v x:=by
 unfold er at*;split
 ·rename_i hx;rw[if_pos hx]at h;obtain⟨arr,h1,h2,h3⟩:=h;exact⟨arr,h1,h2,λk c hc=>((h3 k c hc).mono wW (Mem.le_refl _)).flat (lQ hf k c hc)⟩
 ·rename_i hx;rw[if_neg hx]at h;obtain⟨c,h1,h2⟩:=h;exact⟨c,h1,(h2.mono wW (Mem.le_refl _)).flat (lQ hf 0 c bw)⟩
theorem BC {l:List SV}(h:yF l=true): ∀(k:Nat) (x:SV),l[k]? =some x->oy x.2=true:=by
 induction l with
 |nil=>simp
 |cons y l ih=>
  rw[yF]at h
  grind
theorem dw.Jh {mv mr mv' CY:Mem}(wW:mv.le mv'){v:Value}{c:SC}(h:dw mv mr v c)(hf:DY c=true):dw mv' CY v (aeB c):=by
 cases c with
 |ref cs=>
  exact aic
 |fn f a b=>cases hf
 |_=>exact(h.mono wW (Mem.le_refl _)).flat rfl
theorem er.Jh {mv mr mv' CY:Mem}(wW:mv.le mv'){v:Value}{x:SV}(h:er mv mr v x)(hf:x.2.all DY=true):er mv' CY v (Ic x):=by
 have hall: ∀c∈x.2,DY c=true:=tM.1 hf;unfold er at*;split
 ·rename_i hx;rw[if_pos (show x.1=true from hx)]at h
  grind[Ic,dw.Jh]
 ·rename_i hx;rw[if_neg (show ¬x.1=true from hx)]at h
  grind[Ic,dw.Jh]
theorem MY {l:List SV}(h:CE l=true): ∀(k:Nat) (x:SV),l[k]? =some x->x.2.all DY=true:=by
 induction l with
 |nil=>simp
 |cons y l ih=>
  rw[CE]at h
  grind
theorem acG (Gj:F.pure)(hG:bH C F)(hR:ad F β N H w){ts:List TypeId}{xs:List DX}{vs:List Value}{K:mc->Prop}(hl:vs.length=xs.length)(hv: ∀k x,xs[k]? =some x->ar F β N H w (vs.getD k undef) x)
  (h:acE C H ts xs K): ∃r,K r/\qY F.PL F.base w (BA vs) r:=by
 unfold acE at h;split at h
 ·rename_i z c ho;refine⟨_,h,?_⟩;unfold aeA at ho;split at ho
  ·rename_i id;split at ho
   ·rename_i z' c' hb;simp only[lM,ii]at ho;obtain⟨rfl,rfl⟩:=ho
    match vs,hl with
    | [v],_=>
     have h0:=(hv 0 _ rfl).am;obtain⟨hn,_,jo⟩:=h0;have jo:=jo _ _ _ hb rfl;obtain⟨_,⟨hz,XB,iG⟩,gC⟩:=hR.rel id _ hb
     rcases jo with⟨h1,h2,h3⟩|⟨b,cap,arr,T,h1,h2,h3,h4⟩
     ·exact .inl ⟨h3,h2,XB,hz,iG⟩
     ·rcases gC with gC|⟨b',jD,q1,q2,q3⟩
      grind
      ·rw[h1]at q1;cases q1;obtain⟨arr',T',e1,e2,e3,e4,e5,e6,e7⟩:=q3;rw[h3]at e1;cases e1;have fZ:jD=cap:=Ym;subst fZ;refine .inr ⟨b,jD,h2,Gj.base q2,arr,T,h3,e2,e3,e4,e5,e6,λi e j x he hx=>(e7 i e j x he hx).mono ?_ (Mem.le_refl _)⟩;exact K90
   grind
  grind
 ·split at h
  ·rename_i l u rr eG;obtain⟨q1,q2,q3⟩:=yr eG;have hg:ij C H u:=ij.ku q1;have il: ∀k x,l[k]? =some x->er (MV F β (u.on H) w) (rd w) (vs.getD k undef) x:=by grind[HT]
   split at h
   ·rename_i hf
    have UO: ∀k x,l[k]? =some x->er (dV F.PL F.base w) eU (vs.getD k undef) x:=λk x hk=>
     (il k x hk).flat (yG Gj) (BC hf k x hk)
    split at h
    ·rename_i y;exact aio
    ·rename_i gk;refine⟨_,h,?_⟩;have xN:BA vs= .tuple vs.toArray:=ahR;rw[xN];exact⟨vs.toArray,rfl,by grind,λk x hk=>by simpa using UO k x hk⟩
   ·split at h
    ·rename_i hf
     have UO: ∀k x,l[k]? =some x->er (dV F.PL F.base w) eU (vs.getD k undef) (Ic x):=λk x hk=>
      (il k x hk).Jh (yG Gj) (MY hf k x hk)
     split at h
     ·rename_i y _;exact aio
     ·rename_i gk;refine⟨_,h,?_⟩;have xN:BA vs= .tuple vs.toArray:=ahR;rw[xN];refine⟨vs.toArray,rfl,by grind,λk x hk=>?_⟩;rw[gA,m7]at hk;obtain⟨x0,Sm,rfl⟩:=hk;simpa using UO k x0 Sm
    grind
  grind
def agc:List DC->Option (List (Option SC) × List Nat)
 | []=>some ([],[])
 | .st c::ds=>match c.flat,agc ds with
  |true,some (l,is)=>some (some c::l,is)
  |_,_=>none
 | .own id::ds=>match agc ds with
  |some (l,is)=>some (none::l,id::is)
  |none=>none
 |_=>none
def aki:List DX->Option (List (Bool × List (Option SC)) × List Nat)
 | []=>some ([],[])
 |x::xs=>match agc x.2,aki xs with
  |some (l,is),some (ls,js)=>some ((x.1,l)::ls,is++js)
  |_,_=>none
def akj (H:HF)(xs:List DX)(K:mc->Prop):Prop:=match aki xs with
 |some (l,[id])=>match H id with
  |some (.row true z c)=>K (.mix (match l with| [_]=>false|_=>true) l z c)
  |_=>False
 |_=>False
def agd (C:bS)(fn:Func)(S:St)(K:mc->Prop):Prop:=eu C S.hp.get S.env.get fn.results.toList λxs=>akj S.hp.get xs K
def D1 (hC:C.Ok){f:FuncId}{c:Code}{args:List SV}{r:mc}{ret:St->Prop}(hn:iI C.P f=true)(hf:C.P.funcs[f]? =some fn)(hb:fn.body=some c)(vc:bQ fn.ntmps c=true)(dM:args.length<=fn.ntmps)
  (eL: ∀S,ret S->∃RX:HF->List DX->(mc->Prop)->Prop,(∀ {F:gG} {β:Nat->Option Nat} {N:Nat->Prop} {w:World} {xs:List DX} {vs:List Value} {K:mc->Prop},F.pure->bH C F->ad F β N S.hp.get w->vs.length=xs.length->(∀k x,xs[k]? =some x->ar F β N S.hp.get w (vs.getD k undef) x)->RX S.hp.get xs K->∃r,K r/\qY F.PL F.base w (BA vs) r)/\
   eu C S.hp.get S.env.get fn.results.toList λxs=>RX S.hp.get xs λr'=>r'=r)
  (h:m9 C c (entry args) ret (λ_ _=>False) ret):nR C.P C.gl f args r:=by
 refine .inl ⟨hn,λmv w vs wW hgl xN=>?_⟩;let F:gG:=⟨w,mv,λ_=>False,[],w.heap.size,rd w⟩;have Gj:F.pure:=λ_ h=>h;have hG:bH C F:=⟨hgl,wW,λ_ _ _ _ h=>h,hgl,Mem.le_refl _,wW⟩;have I7:vs.size=args.length:=xN.1;refine(callsIn_wide (n:=0)).1 (callsIn_of_wp_marks hf hb trivial ?_ rfl);have hR:ad F (λ_=>none) (λ_=>False) (Hp.get []) w:=⟨λid bC e=>by grind[Hp.get],λi j b x y e=>by grind,jv.refl _ _,λb o v e=>⟨wW b o v e,λ_ id bC e'=>by grind⟩⟩;have abM: ∀b o v,mv b o=some v->b<F.base:=λb o v h=>Jk _ _ (wW b o v h)
 have hE:dH F (λ_=>none) (λ_=>False) (Hp.get []) w (entry args).env.get {tmps:=vs++Array.replicate (fn.ntmps -vs.size) undef,defers:=[]}:=by
  intro s dv hs;obtain⟨k,x,h1,h2,rfl⟩:=JV hs;rw[j9]at h1;subst h1;have al:s<args.length:=(kF.1 h2).1;have iR:(vs++Array.replicate (fn.ntmps -vs.size) undef).getD s undef=vs.getD s undef:=by simp[sT,SA,I7,al]
  show ar _ _ _ _ _ ((vs++Array.replicate (fn.ntmps -vs.size) undef).getD s undef) (dyn x);rw[iR];refine er.dyn ((xN.2 s x h2).mono (λb o v h=>?_) λb o v h=>?_)
  ·unfold MV;rw[if_neg (λe=>absurd (Gj.base e) (Nat.not_le.2 (abM b o v h)))];exact h
  ·unfold MR;rw[if_neg (λe=>absurd (Gj.base e) (Nat.not_le.2 (show b<F.base from Jk _ _ h)))];exact h
 have hrel:Rel F fn.ntmps (entry args) {tmps:=vs++Array.replicate (fn.ntmps -vs.size) undef,defers:=[]} w:=
  ⟨λ_=>False,⟨by grind,eC.nil _ _,λ_ h=>ajp,_,hE,hR⟩,λ_ h=>h.elim⟩
 have PF: ∀S a w',ret S->Rel F fn.ntmps S a w'->LeavesInM Fence.wide 0 C.P fn a.tmps (λe w'=>∃v',e= .returned v'/\Below w.heap.size w w'/\qY mv w.heap.size w' v' r) a.defers .returning w':=by
  rintro S a w' hr ⟨N,⟨hs,hd,_,β,hE,hR⟩,hN⟩;obtain⟨RX,e8,hr⟩:=eL S hr;refine Av (F:=F) (S:=S) (β:=β) (N:=N) (dG _) (λw' hB=>?_) a.defers w' ⟨hs,hE,hR,hN⟩ hd;obtain⟨xs,ws,cQ,N',h1,ht,Ac,h2,h3,h4⟩:=D0 (a:={tmps:=a.tmps,defers:=[]}) hC hG hB.heap hB.env hr;obtain⟨r',rfl,il⟩:=e8 Gj hG Ac h3 h4 h1;exact⟨_,BB h2,_,rfl,Ac.below.below (λb hb e=>absurd (Gj.base e) (Nat.not_le.2 hb)),il⟩
 refine(wpIn_wide (n:=0)).2 (Ib (F:=F) hC hG (dG _) (JQ c) vc h.out hrel (λS a w' eL hr=>?_) (λ_ _ _ _ h=>h.elim) λS a w' eL hr=>?_)
 ·exact aco
 ·exact aco
def Qq (hC:C.Ok){f:FuncId}{c:Code}{args:List SV}{r:mc}(hn:iI C.P f=true)(hf:C.P.funcs[f]? =some fn)(hb:fn.body=some c)(vc:bQ fn.ntmps c=true)(dM:args.length<=fn.ntmps)
  (h:m9 C c (entry args) (λS=>acF C fn S λr'=>r'=r) (λ_ _=>False) (λS=>acF C fn S λr'=>r'=r)):nR C.P C.gl f args r:=by
 exact D1 hC hn hf hb vc dM (λS hS=>⟨λH xs K=>acE C H fn.resultTypes.toList xs K,λGj hG hR hl hv h=>acG Gj hG hR hl hv h,hS⟩) h
end
def bU:List (Nat × Nat)->Nat->Option Nat
 | [],_=>none
 |(o,n)::m,id=>match Nat.beq id o with
  |true=>some n
  |false=>bU m id
def TC:List (Nat × Nat)->Nat->Option Nat
 | [],_=>none
 |(o,n)::m,id=>match Nat.beq id n with
  |true=>some o
  |false=>TC m id
def na (m:List (Nat × Nat)):DC->Option DC
 | .st c=>some (.st c)
 | .nil =>some .nil
 | .ptr id off=>match bU m id with
  |some n=>some (.ptr n off)
  |none=>none
 | .own id=>match bU m id with
  |some n=>some (.own n)
  |none=>none
 | .cK id z i off=>match bU m id with
  |some n=>some (.cK n z i off)
  |none=>none
 | .mp id=>match bU m id with
  |some n=>some (.mp n)
  |none=>none
 | .sS g id=>match bU m id with
  |some n=>some (.sS g n)
  |none=>none
def eX (m:List (Nat × Nat)):List DC->Option (List DC)
 | []=>some []
 |d::l=>match na m d with
  |some d'=>match eX m l with
   |some l'=>some (d'::l')
   |none=>none
  |none=>none
def kV (m:List (Nat × Nat)):List DX->Option (List DX)
 | []=>some []
 |x::l=>match eX m x.2 with
  |some d'=>match kV m l with
   |some l'=>some ((x.1,d')::l')
   |none=>none
  |none=>none
def BD (m:List (Nat × Nat)):DV->Option DV
 | .val x=>match eX m x.2 with
  |some l=>some (.val (x.1,l))
  |none=>none
 | .aI l=>match kV m l with
  |some l'=>some (.aI l')
  |none=>none
def fC (m:List (Nat × Nat)):List (List DC)->Option (List (List DC))
 | []=>some []
 |e::l=>match eX m e with
  |some e'=>match fC m l with
   |some l'=>some (e'::l')
   |none=>none
  |none=>none
def fq (m:List (Nat × Nat)):cC->Option cC
 | .box t cs=>match eX m cs with
  |some l=>some (.box t l)
  |none=>none
 | .az z l=>match fC m l with
  |some l'=>some (.az z l')
  |none=>none
 |b=>some b
def eZ (m:List (Nat × Nat))(E:EF):List Nat->Option dS
 | []=>some []
 |k::ks=>match E k with
  |some d=>match BD m d with
   |some d'=>match eZ m E ks with
    |some E'=>some ((k,some d')::E')
    |none=>none
   |none=>none
  |none=>none
def jY (m:List (Nat × Nat))(H:HF):List (Nat × Nat)->Option Hp
 | []=>some []
 |(o,n)::l=>match H o with
  |some b=>match fq m b with
   |some b'=>match jY m H l with
    |some H'=>some ((n,some b')::H')
    |none=>none
   |none=>none
  |none=>none
def YZ (x:Nat):List Nat->Bool
 | []=>false
 |y::l=>Nat.beq x y || YZ x l
def eM:List Nat->Bool
 | []=>true
 |x::l=> !YZ x l&&eM l
def TD (ks:List Nat)(m:List (Nat × Nat))(n:Nat)(S:St):Option St:=
 match eM (m.map Prod.fst)&&eM (m.map Prod.snd)&&m.all λp=>Nat.blt p.2 n with
 |true=>match eZ m S.env.get ks with
  |some E=>match jY m S.hp.get m with
   |some H=>some ⟨E,H,n⟩
   |none=>none
  |none=>none
 |false=>none
def Y0 {x:Nat}{l:List Nat}:YZ x l=true↔x∈l:=by
 induction l with
 |nil=>simp[YZ]
 |cons y l ih=>simp[YZ,ih]
def bY {l:List Nat}(h:eM l=true):l.Nodup:=by
 induction l with
 |nil=>grind
 |cons x l ih=>
  rw[eM]at h;obtain⟨h1,h2⟩:=aD h;refine Ah.2 ⟨λhx=>?_,ih h2⟩;rw[Y0.2 hx]at h1;cases h1
def Aw {m:List (Nat × Nat)}{o n:Nat}(h:bU m o=some n):(o,n)∈m:=by
 induction m with
 |nil=>cases h
 |cons p m ih=>
  grind[bU,Nat.eq_of_beq_eq_true]
def D2 {m:List (Nat × Nat)}{o n:Nat}(hd:(m.map Prod.snd).Nodup)(h:(o,n)∈m):TC m n=some o:=by
 induction m with
 |nil=>cases h
 |cons p m ih=>
  obtain⟨a,b⟩:=p;simp only[ju,Ah]at hd;simp only[TC];rcases cF.1 h with h'|h';simp_all
  ·split;simp_all
   grind
def Qr {m:List (Nat × Nat)}{o i j:Nat}(hd:(m.map Prod.fst).Nodup)(h:(o,i)∈m)(k:(o,j)∈m):i=j:=by
 induction m with
 |nil=>cases h
 |cons p m ih=>
  grind
theorem pt {m:List (Nat × Nat)}{H:HF}: ∀ {l:List (Nat × Nat)} {H':Hp} {n:Nat} {b':cC},jY m H l=some H'->H'.get n=some b'->∃o b,(o,n)∈l/\H o=some b/\fq m b=some b':=by
 intro l
 induction l with
 |nil=>grind[jY,Hp.get]
 |cons p l ih=>
  intro H' n b' h e;obtain⟨o,i⟩:=p;simp only[jY]at h;split at h
  ·rename_i b hb;split at h
   ·rename_i b1 xQ;split at h
    ·rename_i H1 xS;simp at h;subst h;rw[Hp.au]at e
     grind[br]
    grind
   grind
  grind
def JW {m:List (Nat × Nat)}{E:EF}: ∀ {ks:List Nat} {E':dS} {s:Nat} {d':DV},eZ m E ks=some E'->E'.get s=some d'->∃d,E s=some d/\BD m d=some d':=by
 intro ks
 induction ks with
 |nil=>grind[eZ,dS.get]
 |cons k ks ih=>
  intro E' s d' h e;simp only[eZ]at h;split at h
  grind[dS.au]
  grind
section
variable {F:gG}{β:Nat->Option Nat}{N:Nat->Prop}{H H':HF}{w:World}{m:List (Nat × Nat)}
def pR (m:List (Nat × Nat))(β:Nat->Option Nat):Nat->Option Nat:=λid=>match TC m id with
 |some o=>β o
 |none=>none
def yH (m:List (Nat × Nat)):Nat->Prop:=λid=>∃o,(o,id)∈m
theorem yI {m:List (Nat × Nat)}: ∀ {l l':List (List DC)},fC m l=some l'->l'.length=l.length
 | [],l',h=>by grind[fC]
 |e::l,l',h=>by
  unfold fC at h;split at h
  ·split at h
   ·cases h;simp[yI HL]
   grind
  grind
theorem D3 {m:List (Nat × Nat)}: ∀ {l l':List (List DC)} {i:Nat} {e':List DC},fC m l=some l'->l'[i]? =some e'->∃e,l[i]? =some e/\eX m e=some e'
 | [],l',i,e',h,hi=>by grind[fC]
 |e::l,l',i,e',h,hi=>by
  unfold fC at h;split at h
  ·rename_i a ha;split at h
   ·rename_i b hb;cases h
    cases i with
    |zero=>grind
    |succ i=>
     simp at hi;obtain⟨d,d1,d2⟩:=D3 hb hi
     grind
   grind
  grind
structure cZ (m:List (Nat × Nat)) (H H':HF):Prop where
 abT:(m.map Prod.fst).Nodup
 news:(m.map Prod.snd).Nodup
 heap: ∀n b',H' n=some b'->∃o b,(o,n)∈m/\H o=some b/\fq m b=some b'
def cZ.kJ (h:cZ m H H'){o n:Nat}(hm:(o,n)∈m):pR m β n=β o:=by simp[pR,D2 h.news hm]
def cZ.fR (h:cZ m H H'){b o:Nat}(hs:Fw.fR β H b o):Fw.fR (pR m β) H' b o:=by
 intro id blk' he hbe;obtain⟨old,bC,h1,h2,h3⟩:=h.heap id blk' he;rw[h.kJ h1]at hbe;have:=hs old bC h2 hbe;cases bC<;>simp only[fq]at h3
 ·exact this.elim
 grind
 grind
 ·exact this.elim
 grind
def cZ.mv (h:cZ m H H'):(MV F β H w).le (MV F (pR m β) H' w):=by
 intro b o v e;unfold MV at*;split
 ·rename_i hb;rw[if_pos hb]at e;split at e
  ·rename_i hs;rw[if_pos (h.fR hs)];exact e
  grind
 grind
def cZ.mr (h:cZ m H H'):(MR F β H w).le (MR F (pR m β) H' w):=by
 intro b o v e;unfold MR at*;split
 ·rename_i hb;rw[if_pos hb]at e;exact h.mv b o v e
 grind
theorem cZ.jr (h:cZ m H H'){v:Value}{d d':DC}(hd:cw F β N H w v d)(hr:na m d=some d'):cw F (pR m β) (yH m) H' w v d':=by
 cases d with
 |st c=>simp[na]at hr;subst hr;exact dw.mono h.mv h.mr hd
 |nil=>simp[na]at hr;subst hr;exact hd
 |ptr id off=>
  exact K33
 |own id=>
  simp only[na]at hr;split at hr
  ·rename_i n hn;simp at hr;subst hr;have hm:=Aw hn;obtain⟨_,h1,h2⟩:=hd;refine⟨⟨_,hm⟩,h1,λnQ z n0 hb hz0=>?_⟩;obtain⟨o,b,q1,q2,q3⟩:=h.heap _ _ hb
   have ho:o=id:=by
    have e1:=D2 h.news hm;rw[D2 h.news q1]at e1
    grind
   subst ho;cases b<;>simp only[fq]at q3
   ·split at q3<;>cases q3;cases hz0
   ·cases q3;cases hz0
   ·cases q3;have:=h2 _ _ _ q2 hz0;unfold U9 at*;rw[h.kJ hm];omega
   ·split at q3
    ·rename_i l' sP;cases q3;have:=h2 _ z n0 q2 (by grind[cC.sz,yI]);unfold U9 at*;rw[h.kJ hm];omega
    grind
   ·cases q3;cases hz0
  grind
 |cK id z i off=>
  exact K33
 |sS g id=>
  exact K33
 |mp id=>
  exact K33
theorem vk {l l':List DC}(h:eX m l=some l'):l'.length=l.length/\∀(k:Nat) (d':DC),l'[k]? =some d'->∃d,l[k]? =some d/\na m d=some d':=by
 induction l generalizing l' with
 |nil=>grind[eX]
 |cons d l ih=>
  grind[eX]
def cZ.sD (h:cZ m H H'){v:Value}{x:DX}{l:List DC}(hd:ar F β N H w v x)(hr:eX m x.2=some l):ar F (pR m β) (yH m) H' w v (x.1,l):=by
 obtain⟨h1,h2⟩:=vk hr;obtain⟨g,cs⟩:=x;cases g
 ·obtain⟨c,hc,il⟩:=hd;simp at hc;subst hc;obtain⟨c',rfl⟩: ∃c',l= [c']:=xY.1 K0;obtain⟨d,Xi,Xk⟩:=h2 0 c' rfl;simp at Xi;subst Xi;exact⟨c',rfl,h.jr il Xk⟩
 ·obtain⟨arr,h3,h4,h5⟩:=hd;refine⟨arr,h3,by grind,λk c hk=>?_⟩;obtain⟨d,Xi,Xk⟩:=h2 k c hk;exact h.jr (h5 k d Xi) Xk
theorem Ie {l l':List DX}(h:kV m l=some l'):l'.length=l.length/\∀(k:Nat) (d':DX),l'[k]? =some d'->∃d c,l[k]? =some d/\eX m d.2=some c/\d'=(d.1,c):=by
 induction l generalizing l' with
 |nil=>grind[kV]
 |cons d l ih=>
  grind[kV]
theorem cZ.wv (h:cZ m H H'){v:Value}{d d':DV}(hd:co F β N H w v d)(hr:BD m d=some d'):co F (pR m β) (yH m) H' w v d':=by
 cases d with
 |val x=>
  simp only[BD]at hr;split at hr
  ·rename_i l hl;simp at hr;subst hr;exact h.sD hd hl
  grind
 |aI l=>
  simp only[BD]at hr;split at hr
  ·rename_i l1 hl;simp at hr;subst hr;obtain⟨h1,h2⟩:=Ie hl;obtain⟨arr,q1,q2,q3⟩:=hd;refine⟨arr,q1,by omega,λk x hk=>?_⟩;obtain⟨d,c,a1,a2,rfl⟩:=h2 k x hk;exact h.sD (q3 k d a1) a2
  grind
theorem cZ.nC (h:cZ m H H')(hR:ad F β N H w):ad F (pR m β) (yH m) H' w:=by
 refine⟨λid blk' he=>?_,λi j x y b hi hj bi bj=>?_,hR.below,?_⟩
 ·obtain⟨o,bC,h1,h2,h3⟩:=h.heap id blk' he;refine⟨⟨_,h1⟩,?_⟩;have hb:=(hR.rel o bC h2).2;have eb:=h.kJ (β:=β) h1
  cases bC with
  |box t cs=>
   simp only[fq]at h3;split at h3
   ·rename_i l hl;cases h3;obtain⟨e1,e2⟩:=vk hl;obtain⟨b,arr,T,q1,q2,q3,q4,q5⟩:=hb;refine⟨b,arr,T,by grind,q2,q3,by omega,λk x hk=>?_⟩;obtain⟨d,a1,a2⟩:=e2 k x hk;exact h.jr (q5 k d a1) a2
   grind
  |dX cs=>
   simp only[fq]at h3;cases h3;obtain⟨b,arr,T,q1,q2,q3,q4,q5⟩:=hb;exact⟨b,arr,T,by grind,q2,q3,q4,λk x hk=>(q5 k x hk).mono h.mv h.mr⟩
  |row mu z c=>
   simp only[fq]at h3;cases h3;obtain⟨q0,q1|⟨b,cap,q1,q2,arr,T,p1,p2,p3,p4,p5,p6,p7⟩⟩:=hb
   ·exact Yn
   ·exact⟨q0,.inr ⟨b,cap,by grind,q2,arr,T,p1,p2,p3,p4,p5,p6,λi e j x he hx=>(p7 i e j x he hx).mono h.mv (Mem.le_refl _)⟩⟩
  |az z l=>
   simp only[fq]at h3;split at h3
   ·rename_i l' sP;cases h3;obtain⟨⟨z0,hz⟩,q1|⟨b,cap,arr,T,q1,q2,q3,q4,q5,q6⟩⟩:=hb
    all_goals
     have bD: ∀(i:Nat) (e:List DC),l'[i]? =some e->e.length=z:=λi e he=>by
      obtain⟨d,d1,d2⟩:=D3 sP he;rw[(vk d2).1];grind
    ·exact⟨⟨z0,bD⟩,.inl ⟨by grind,by grind[yI]⟩⟩
    ·refine⟨⟨z0,bD⟩,.inr ⟨b,cap,arr,T,by grind,q2,q3,q4,by grind[yI],λi e k x he hx=>?_⟩⟩;obtain⟨d,d1,d2⟩:=D3 sP he;obtain⟨y,y1,y2⟩:=(vk d2).2 k x hx;exact h.jr (q6 i d k y d1 y1) y2
   grind
  |map es=>
   simp only[fq]at h3;cases h3;obtain⟨b,arr,ck,q1,q2,q3,q4,q5⟩:=hb;exact⟨b,arr,ck,by grind,q2,q3,q4,λi k x e hi he=>let⟨a1,a2⟩:=q5 i k x e hi he;⟨a1,a2.mono h.mv h.mr⟩⟩
 ·obtain⟨o,bo,h1,h2,_⟩:=h.heap i _ hi;obtain⟨o',bo',h1',h2',_⟩:=h.heap j _ hj;rw[h.kJ h1]at bi;rw[h.kJ h1']at bj;have:=hR.inj o o' _ _ _ h2 h2' bi bj;subst this;exact Qr h.abT h1 h1'
 ·intro b o v e;obtain⟨h1,h2⟩:=hR.tD b o v e;exact⟨h1,λhb=>h.fR (h2 hb)⟩
end
def fA {ks:List Nat}{m:List (Nat × Nat)}{n:Nat}{S S':St}(h:TD ks m n S=some S'):bu S S':=by
 unfold TD at h;split at h
 ·rename_i hd;obtain⟨hd,h3⟩:=aD hd;obtain⟨h1,h2⟩:=aD hd;split at h
  ·rename_i E hE;split at h
   ·rename_i H hH;simp at h;subst h;rintro F nt a w ⟨N,⟨q1,q2,q0,β,q3,q4⟩,q5⟩;have e8:cZ m S.hp.get H.get:=⟨bY h1,bY h2,λi b' e=>pt hH e⟩;refine⟨yH m,⟨q1,q2,q0,pR m β,λs d' e=>?_,e8.nC q4⟩,?_⟩
    ·exact abW
    ·rintro id ⟨o,ho⟩
     grind[af4,Nat.blt_eq]
   grind
  grind
 grind
def acH {C:bS}{c:Code}{kx:Nat->St->Prop}{kr:St->Prop}{ι:Type}(Inv:ι->Prop)(μ:ι->Nat)(σ:ι->St)
  (step: ∀i,Inv i->rF C c (σ i) (λS'=>∃j,Inv j/\μ j<μ i/\bu S' (σ j)) kx kr): ∀ {i:ι},Inv i->Tx (λZ S=>rF C c S Z kx kr) (σ i):=by
 have key: ∀n i,μ i=n->Inv i->Tx (λZ S=>rF C c S Z kx kr) (σ i):=by
  intro n
  induction n using Nat.strongRecOn with
  |_ n ih=>
   intro i hn hi;refine H9 (mF (step i hi) (λS' h=>?_) (λ_ _ h=>h) λ_ h=>h)
   grind
 grind
def af {C:bS}{c:Code}{kx:Nat->St->Prop}{kr:St->Prop}{ι:Type}(Inv:ι->Prop)(μ:ι->Nat)(σ:ι->St)(i:ι){S:St}(hS:bu S (σ i))(hi:Inv i)
  (step: ∀i,Inv i->m9 C c (σ i) (λS'=>∃j,Inv j/\μ j<μ i/\bu S' (σ j)) kx kr):TB C c S kx kr:=
 ⟨σ i,hS,acH Inv μ σ (λi h=>(step i h).out) hi⟩
end Go.Fw
namespace Go.Fw
open Go.RowKit Go.ChangeShapes
def sV (C:bS):Nat->TypeId->List SC->Prop
 |0,_,_=>False
 |d+1,t,xs=>match C.ti t with
  |none=>False
  |some i=>match i.b8 with
   | .int k=>∃n,xs= [.lit (.int k n)]/\(Lit.int k n).wf =true
   | .bool =>∃b,xs= [.lit (.bool b)]
   | .str =>∃s:ByteArray,xs= [.lit (.string s)]/\s.size<=maxLen
   | .slice e=>match C.kK e with
    |true=>∃l:List Int,xs= [.ints l]/\l.length<=maxLen/\∀n∈l,(Lit.int .i64 n).wf =true
    |false=>∃es:List (List SC),xs= [.view es]/\es.length<=maxLen/\∀e'∈es,sV C d e e'
   | .struct fs=>∃parts:List (List SC),xs=parts.flatten/\parts.length=fs.length/\∀(k o:Nat) (ft:TypeId),fs[k]? =some (o,ft)->∃p,parts[k]? =some p/\sV C d ft p
   | .array n e=>∃parts:List (List SC),xs=parts.flatten/\parts.length=n/\∀p∈parts,sV C d e p
   |_=>False
def JX (C:bS):Nat->List (Nat × TypeId)->Nat->Bool
 |C4,[],size=>Nat.beq C4 size
 |C4,(o,ft)::r,size=>match C.ti ft with
  |some i=>Nat.beq o C4&&JX C (C4+i.size) r size
  |none=>false
def oG (C:bS):Nat->TypeId->Bool
 |0,_=>false
 |d+1,t=>match C.ti t with
  |none=>false
  |some i=>match i.b8 with
   | .int _=>Nat.beq i.size 1
   | .bool =>Nat.beq i.size 1
   | .str =>Nat.beq i.size 1
   | .slice e=>Nat.beq i.size 1&&(match C.ti e with
    |some ie=>Nat.ble 1 ie.size&&oG C d e&&(match C.kK e with|true=>Nat.beq ie.size 1|false=>true)
    |none=>false)
   | .struct fs=>JX C 0 fs i.size&&fs.all λp=>oG C d p.2
   | .array n e=>(match C.ti e with
    |some ie=>Nat.beq (n*ie.size) i.size&&oG C d e
    |none=>false)
   |_=>false
theorem oH {P:Program}{t:TypeId}{i:TI}{f:TypeInfo}{d:TypeDesc}{v:Value}(h:Mr P t i f d v):P.cellsOf t=i.size:=by simp[Program.cellsOf,h.ou,h.size]
def lG (m:Mem)(cs:List Value)(xs:List SC):Prop:=xs.length=cs.length/\∀(k:Nat) (c:SC),xs[k]? =some c->dw m eU (cs.getD k undef) c
def lG.one {m:Mem}{v:Value}{c:SC}(h:dw m eU v c):lG m [v] [c]:=by
 refine⟨rfl,λk c' hk=>?_⟩
 grind
def lG.parts {m:Mem}{cs:List Value}{C:bS}: ∀ {fs:List (Nat × TypeId)} {C4 size:Nat} {Q:TypeId->List SC->Prop},JX C C4 fs size=true->cs.length=size->
  (∀(k o:Nat) (ft:TypeId),fs[k]? =some (o,ft)->∀i,C.ti ft=some i->∃p,Q ft p/\p.length=i.size/\lG m ((cs.drop o).take i.size) p)->
  ∃parts:List (List SC),lG m (cs.drop C4) parts.flatten/\parts.length=fs.length/\∀(k o:Nat) (ft:TypeId),fs[k]? =some (o,ft)->∃p,parts[k]? =some p/\Q ft p:=by
 intro fs
 induction fs with
 |nil=>
  intro C4 size Q ht hs _;have:=pj ht;exact⟨[],⟨by grind,by grind⟩,rfl,by grind⟩
 |cons f fs ih=>
  obtain⟨o,ft⟩:=f;intro C4 size Q ht hs hq;simp only[JX]at ht;split at ht
  ·rename_i i hi;obtain⟨h1,h2⟩:=aD ht;have h1:=pj h1;subst h1;obtain⟨p,hp,hl,hr⟩:=hq 0 o ft rfl i hi;obtain⟨parts,q1,q2,q3⟩:=ih h2 hs (Q:=Q) (λk o' ft' hk=>hq (k+1) o' ft' bw);have bD:p.length=((cs.drop o).take i.size).length :=hr.1;have eA:o+i.size<=cs.length\/i.size=0:=by grind
   refine⟨p::parts,⟨?_,?_⟩,by grind,?_⟩
   ·have:=q1.1
    grind
   ·intro k c hk;simp only[Yb]at hk;by_cases hkp:k<p.length
    ·exact ajn
    ·rw[XL K0]at hk;have:=q1.2 _ c hk
     grind
   grind
  grind
theorem lG.ay {m:Mem}{Q:List SC->Prop}{z:Nat}: ∀ {n:Nat} {cs:List Value},cs.length=n*z->
  (∀i,i<n->∃p,Q p/\lG m ((cs.drop (i*z)).take z) p)->∃parts:List (List SC),lG m cs parts.flatten/\parts.length=n/\∀p∈parts,Q p:=by
 intro n
 induction n with
 |zero=>intro cs hl _;exact⟨[],⟨by grind,by grind⟩,rfl,by simp⟩
 |succ n ih=>
  intro cs hl h;obtain⟨p,hp,hr⟩:=h 0 K0;have hz:z<=cs.length:=by grind
  have sP:(cs.drop z).length =n*z:=by grind
  obtain⟨parts,q1,q2,q3⟩:=ih sP (λi hi=>by
   obtain⟨p,hp,hr⟩:=h (i+1) K0;refine⟨p,hp,?_⟩;rw[Yk]
   grind)
  have pN:p.length=z:=by have:=hr.1;grind
  refine⟨p::parts,⟨?_,?_⟩,by grind,?_⟩
  ·have:=q1.1
   grind
  ·intro k c hk;simp only[Yb]at hk;by_cases hkp:k<p.length
   ·exact ajn
   ·rw[XL K0]at hk;have:=q1.2 _ c hk
    grind
  grind
def TE (a:Addr)(n k:Nat)(hs:a.spot=none):(a.add n).add k=⟨a.block,a.off+(n+k),none⟩:=by
 obtain⟨b,o,s⟩:=a
 grind[Addr.add]
section
variable {H:Type}{enc:TypeId × Value->H}{C:bS}{w:World}{UG:Nat->Bool}
theorem MZ {a:Addr}{len z:Nat}{Q:List SC->Prop}(hz:0<z)(h: ∀i,i<len->∃cs xs,w.cells? 0 (a.add (i*z)) z=some cs/\Q xs/\lG (rd w) cs xs):
  ∃es:List (List SC),es.length=len/\(∀e∈es,Q e)/\(0<len->∃b o,a=⟨b,o,none⟩/\(∀e∈es,e.length=z)/\(∀k,k<len*z->∃v,rd w b (o+k)=some v)/\
   ∀(i:Nat) (e:List SC) (j:Nat) (x:SC),es[i]? =some e->e[j]? =some x->dw (rd w) eU ((rd w b (o+(i*z+j))).getD undef) x):=by
 by_cases hl:len=0
 ·simp_all
 have afo:a.spot=none:=by
  obtain⟨cs,xs,h1,_⟩:=h 0 K0;obtain⟨_,h2,h3⟩:=SI h1
  grind[World.cell?_spot,Addr.add]
 have hall: ∀n,n<=len->∃es:List (List SC),es.length=n/\(∀e∈es,Q e/\e.length=z)/\∀(i:Nat) (e:List SC),es[i]? =some e->∃cs,w.cells? 0 (a.add (i*z)) z=some cs/\lG (rd w) cs e:=by
  intro n
  induction n with
  |zero=>simp_all
  |succ n ih=>
   intro hn;obtain⟨es,h1,h2,h3⟩:=ih K0;obtain⟨cs,xs,q1,q2,q3⟩:=h n K0;refine⟨es++[xs],by grind,?_,?_⟩
   ·intro e he;rcases ig.1 he with he|he
    grind
    ·simp at he;subst he;exact⟨q2,by rw[q3.1,(SI q1).2.1]⟩
   grind
 obtain⟨es,h1,h2,h3⟩:=hall len (dG _);refine⟨es,h1,λe he=>(h2 e he).1,λ_=>⟨a.block,a.off,by obtain⟨b,o,s⟩:=a;grind,λe he=>(h2 e he).2,?_,?_⟩⟩
 ·intro k hk;have hi:k/z<len:=(XY hz).2 hk;obtain⟨cs,q1,_⟩:=h3 (k/z) es[k/z] bw;obtain⟨_,q2,q4⟩:=SI q1;have hm:k%z<z:=tQ _ hz;have q5:=q4 (k%z) hm;rw[TE _ _ _ afo]at q5;have e:k/z*z+k%z=k:=by grind[Nat.div_add_mod]
  rw[e]at q5;refine⟨cs[k%z]'K0,?_⟩;show w.cell? _=_
  grind
 ·intro i e j x he hx;obtain⟨cs,q1,q3⟩:=h3 i e he;obtain⟨_,q2,q4⟩:=SI q1;have hj:j<z:=by grind
  have q5:=q4 j hj;rw[TE _ _ _ afo]at q5;have:=q3.2 j x hx
  grind[rd]
theorem Y1 (hC:C.Ok): ∀ {d:Nat} {t:TypeId} {cs:List Value} {Bg:Nat} {y:DataW H × List MemPlace},oG C d t=true->DataW.trod enc C.P w 0 UG true Bg t cs=some y->
  ∃xs,sV C d t xs/\lG (rd w) cs xs/\∀i,C.ti t=some i->xs.length=i.size:=by
 intro d
 induction d with
 |zero=>grind[oG]
 |succ d ih=>
  intro t cs Bg y hd h;unfold oG at hd;split at hd
  ·cases hd
  rename_i i hi;obtain⟨f,ds,v,hT⟩:=hC.get hi;have hu:=hT.Jd;have jc:=hT.b8;unfold sV;simp only[hi];split at hd
  ·rename_i k hk;rw[hk]at jc;rw[rj jc]at hu;obtain⟨n,rfl,_,hw⟩:=Di hu h;refine⟨_,⟨n,rfl,hw⟩,lG.one (.lit rfl),?_⟩;simp_all
  ·rename_i hk;rw[hk]at jc;rw[Ms jc]at hu;obtain⟨b,rfl,_⟩:=DataW.trod_bool hu h;refine⟨_,⟨b,rfl⟩,lG.one (.lit rfl),?_⟩;simp_all
  ·rename_i hk;rw[hk]at jc;rw[mg jc]at hu;obtain⟨s,rfl,_,hs⟩:=DataW.trod_string hu h;refine⟨_,⟨s,rfl,hs⟩,lG.one (.lit rfl),?_⟩;simp_all
  ·rename_i e hk;rw[hk]at jc;rw[dn jc]at hu;obtain⟨Xi,Xk⟩:=aD hd;have nA:=pj Xi;split at Xk
   ·rename_i ie l5;obtain⟨hd3,hd4⟩:=aD Xk;obtain⟨hd5,hd6⟩:=aD hd3;obtain⟨fe,de,ve,hTe⟩:=hC.get l5;have fL:0<ie.size:=by have:=fM hd5;omega
    have ag9: ∃es:List (List SC),es.length<=maxLen/\(∀e'∈es,sV C d e e')/\∃v',cs= [v']/\
      ((es= []/\∃a cap,v'= .slice a 0 cap)\/(∃b o cap,v'= .slice (some ⟨b,o,none⟩) es.length cap/\es.length<=cap/\0<es.length/\(∀e∈es,e.length=ie.size)/\(∀k,k<es.length*ie.size->∃v,rd w b (o+k)=some v)/\
       ∀(i:Nat) (e:List SC) (j:Nat) (x:SC),es[i]? =some e->e[j]? =some x->dw (rd w) eU ((rd w b (o+(i*ie.size+j))).getD undef) x)):=by
     rcases DataW.trod_slice hu h with⟨rfl,_⟩|⟨a,len,cap,ay,rest,n,_,rfl,_,_,hlc,B8,iG,iR,_⟩;simp_all
     ·have hce:=oH hTe
      obtain⟨es,h1,h2,h3⟩:=MZ (w:=w) (a:=a) (len:=len) (Q:=sV C d e) fL (by
       grind[Option.bind_eq_some_iff])
      grind
    obtain⟨es,m1,m2,v',rfl,m3⟩:=ag9
    have mk: ∀c:SC,c.ao=true->c.len=es.length->(∀i e',c.elem i=some e'->es[i]? =some e')->dw (rd w) eU v' c:=by
     intro c hv bD amf
     rcases m3 with⟨rfl,a,cap,rfl⟩|⟨b,o,cap,rfl,q0,q1,q2,q3,q4⟩
     ·exact .empty a cap hv bD
     ·rw[<- bD];refine .view b o cap ie.size (λk=>(rd w b (o+k)).getD undef) hv K0 fL K0 (λi e' he=>q2 e' (jH (amf i e' he))) ?_ ?_
      grind
      grind
    split
    ·rename_i PJ;rw[PJ]at hd4;have hs1:=pj hd4;have al0:ie.b8= .int .i64 :=by grind[bS.kK]
     have tk: ∀e'∈es,∃n:Int,e'= [.lit (.int .i64 n)]/\(Lit.int .i64 n).wf =true:=by
      intro e' he;have:=m2 e' he
      cases d with
      |zero=>exact this.elim
      |succ d=>
       grind[sV]
     have hl: ∃l:List Int,es=l.map (λn=>[.lit (.int .i64 n)])/\∀n∈l,(Lit.int .i64 n).wf =true:=by
      clear mk m3 m1 m2
      induction es with
      |nil=>simp_all
      |cons e' es ih'=>
       obtain⟨n,rfl,hn⟩:=tk e' je;obtain⟨l,rfl,hl⟩:=ih' (λe h=>tk e (jt _ h));exact⟨n::l,rfl,by grind⟩
     obtain⟨l,rfl,hl⟩:=hl;refine⟨[.ints l],⟨l,rfl,by grind,hl⟩,lG.one (mk (.ints l) rfl Ys ab3),?_⟩
     grind
    ·refine⟨[.view es],⟨es,rfl,m1,m2⟩,lG.one (mk (.view es) rfl rfl (by intro i e' he;exact he)),?_⟩
     grind
   grind
  ·rename_i fs hk;obtain⟨Xi,Xk⟩:=aD hd;rw[hk]at jc;obtain⟨gs,rfl,hgs⟩:=rk jc;obtain⟨ys,n,_,_,bD,hyl,iR⟩:=SJ hu h;rw[oH hT]at bD
   obtain⟨parts,q1,q2,q3⟩:=lG.parts (m:=rd w) (Q:=sV C d) Xi bD (by
    intro k o ft hkk j hj;have LH:(gs.toList.map λf=>(f.offset,f.type))[k]? =some (o,ft):=by grind
    simp only[gA,m7]at LH;obtain⟨g,hg1,hg2⟩:=LH;simp only[ii]at hg2;obtain⟨rfl,rfl⟩:=hg2;have anr:gs[k]? =some g:=by grind
    have:=iR k g anr;obtain⟨fe,de,ve,hTe⟩:=hC.get hj
    grind[oH])
   refine⟨parts.flatten,⟨parts,rfl,q2,q3⟩,by grind,?_⟩;intro j hj;simp at hj;subst hj;have:=q1.1
   grind
  ·rename_i n e hk;rw[hk]at jc;rw[kv jc]at hu;split at hd
   ·rename_i ie l5;obtain⟨Xi,Xk⟩:=aD hd;have Xi:=pj Xi;obtain⟨fe,de,ve,hTe⟩:=hC.get l5;obtain⟨ys,m,_,_,bD,hyl,iR⟩:=SM hu h;rw[oH hT]at bD
    obtain⟨parts,q1,q2,q3⟩:=lG.ay (m:=rd w) (Q:=sV C d e) (z:=ie.size) (n:=n) (cs:=cs) K0 (by
     grind[oH])
    refine⟨parts.flatten,⟨parts,rfl,q2,q3⟩,q1,?_⟩;intro j hj;simp at hj;subst hj;rw[q1.1];omega
   grind
  grind
end
def w9 (C:bS)(d:Nat)(t:TypeId)(x:SV):Prop:=∃i,C.ti t=some i/\x.1=cL i.b8/\sV C d t x.2
def acI {P:Program}{w:World}{r:Reach}{b:Nat}{t:TypeId}{v:Value}{d:TypeDesc}(hu:P.underlying t=some d)(hd:cL (eB d)=false)(h:Value.okWide P w r b t v):v.cells= #[v]:=by
 cases v with
 |agg cs=>
  unfold Value.okWide Cell.okWide Cell.ok at h
  grind[eB,cL]
 |_=>rfl
def acJ {C:bS}{d:Nat}{t:TypeId}{i:TI}{xs:List SC}(hi:C.ti t=some i)(hg:cL i.b8=false)(h:sV C d t xs): ∃c,xs= [c]:=by
 cases d with
 |zero=>exact h.elim
 |succ d=>
  unfold sV at h;simp only[hi]at h;split at h
  grind
  grind
  grind
  grind
  ·rename_i hk;rw[hk]at hg;cases hg
  ·rename_i hk;rw[hk]at hg;cases hg
  grind
section
variable {H:Type}{enc:TypeId × Value->H}{C:bS}{w:World}{UG:Nat->Bool}
theorem acK (hC:C.Ok){d:Nat}{r:Reach}{b0:Nat}{t:TypeId}{v:Value}{y:DataW H}{ps:List MemPlace}(hd:oG C d t=true)(l8:Value.okWide C.P w r b0 t v)(h:DataW.Trod enc C.P w 0 UG true t v y ps):
  ∃x,w9 C d t x/\er (rd w) (rd w) v x:=by
 obtain⟨Bg,hf⟩:=h;obtain⟨xs,h1,h2,h3⟩:=Y1 hC hd hf
 cases d with
 |zero=>grind[oG]
 |succ d=>
  have xG:=hd;unfold oG at xG;split at xG
  ·grind
  rename_i i hi;obtain⟨f,ds,v0,hT⟩:=hC.get hi;clear xG
  cases hg:cL i.b8 with
  |false=>
   have l7:=acI hT.Jd (by rw[hT.b8];exact hg) l8;obtain⟨c,rfl⟩:=acJ hi hg h1;refine⟨(false,[c]),⟨i,hi,hg.symm,h1⟩,?_⟩;refine⟨c,rfl,?_⟩;have:=h2.2 0 c rfl;rw[l7]at this;exact dw.mono (Mem.le_refl _) (dZ _) this
  |true=>
   have: ∃cs,v= .agg cs:=by
    unfold Value.okWide at l8;rw[hT.Jd]at l8;rw[<- hT.b8]at hg;cases ds<;>simp[eB,cL]at hg<;>(grind)
   obtain⟨cs,rfl⟩:=this;refine⟨(true,xs),⟨i,hi,hg.symm,h1⟩,?_⟩;refine⟨cs,rfl,by simpa [Value.cells]using h2.1.symm,λk c hk=>?_⟩;have:=h2.2 k c hk;have:=dw.mono (Mem.le_refl _) (dZ (rd w)) this
   grind[Value.cells,Array.getD_eq_getD_getElem?]
def Ci (C:bS)(d:Nat):List TypeId->List SV->Prop
 | [],[]=>True
 |t::ts,x::xs=>w9 C d t x/\Ci C d ts xs
 |_,_=>False
theorem Y2 (hC:C.Ok){d:Nat}{r:Reach}{b0:Nat}: ∀ {ts:List TypeId} {vs:List Value} {ys:List (DataW H)} {ps:List MemPlace},(ts.all (oG C d))=true->
  (∀(j:Nat) t v,ts[j]? =some t->vs[j]? =some v->Value.okWide C.P w r b0 t v)->DataW.TrodAll enc C.P w 0 UG true ts vs ys ps->
  ys.length=ts.length/\vs.length=ts.length/\∃xs,Ci C d ts xs/\xs.length=vs.length/\∀(k:Nat) (x:SV),xs[k]? =some x->er (rd w) (rd w) (vs.getD k undef) x:=by
 intro ts
 induction ts with
 |nil=>
  intro vs ys ps _ _ h;cases vs<;>cases ys<;>simp[DataW.TrodAll]at h;exact⟨rfl,rfl,[],trivial,rfl,by grind⟩
 |cons t ts ih=>
  intro vs ys ps hd l8 h
  cases vs with
  |nil=>grind[DataW.TrodAll]
  |cons v vs=>
   cases ys with
   |nil=>grind[DataW.TrodAll]
   |cons y ys=>
    obtain⟨p,q,h1,h2,_⟩:=h;simp only[List.all_cons,sU]at hd;obtain⟨x,x1,x2⟩:=acK hC hd.1 (l8 0 t v rfl rfl) h1;obtain⟨e1,e2,xs,f1,f2,f3⟩:=ih hd.2 (λj t' v' a b=>l8 (j+1) t' v' bw bw) h2;refine⟨by grind,by grind,x::xs,⟨x1,f1⟩,by grind,λk z hk=>?_⟩
    grind
theorem GQ {P:Program}(hl:laidOutB P=true){W W':World}(hb:Below W.heap.size W W'): ∀ {ts:List TypeId} {vs:List Value} {ys:List (DataW H)} {ps:List MemPlace},(ts.all λt=>P.readableRec t&&decide (t<P.types.size))=true->
  DataW.TrodAll enc P W 0 (λ_=>true) true ts vs ys ps->(∀x∈ps,x.block<W.heap.size)->DataW.TrodAll enc P W' 0 (λb=>decide (b<W.heap.size)) true ts vs ys ps:=by
 intro ts
 induction ts with
 |nil=>
  grind[DataW.TrodAll]
 |cons t ts ih=>
  intro vs ys ps hd h al
  cases vs with
  |nil=>grind[DataW.TrodAll]
  |cons v vs=>
   cases ys with
   |nil=>grind[DataW.TrodAll]
   |cons y ys=>
    obtain⟨p,q,h1,h2,rfl⟩:=h;simp only[List.all_cons,sU,SY]at hd;exact⟨p,q,Below.trod hl hd.1.1 hd.1.2 h1 hb (λx hx=>al x (XZ _ hx)),ih bw h2 (λx hx=>al x (List.mem_append_right _ hx)),rfl⟩
theorem ge {mv mr:Mem}{v x:Value}(h:dw mv mr v (.lit x)):v=x:=aiO
def rJ (hC:C.Ok){f:FuncId}{fn:Func}{s:ChangeSpec}{d:Nat}{tb:TypeId}(hl:laidOutB C.P=true)
  (hp:(fn.params.toList.all (oG C d))=true)(Gv:(fn.params.toList.all λt=>C.P.readableRec t&&decide (t<C.P.types.size))=true)
  (hr:fn.resultTypes= #[tb])(hb:C.P.underlying tb=some .bool)(hv:s.vars= [])
  (hs: ∀ds:List (DataW H),ds.length=fn.params.toList.length->s.fn H (ds++[])= {results:=[.lit (.bool true)],args:=ds})
  (iY: ∀xs,Ci C d fn.params.toList xs->nR C.P C.gl f xs (.one (false,[.lit (.bool true)])))
  {W:World}(hG:eQ C.gl (rd W)){base:Nat}{args:Array Value}{ds gs:List (DataW H)}{Gx:List MemPlace}
  (l8: ∀(j:Nat) t v,fn.params[j]? =some t->args[j]? =some v->Value.okWide C.P W .any base t v)
  (hW:DataW.Whole enc C.P fn.params.toList s.vars false W args.toList ds gs Gx):
  Calls C.P f args W λe W'=>∃v,e= .returned v/\s.post enc C.P fn false true false false W args v W':=by
 have hW':=hW;obtain⟨p,q,hA,hV,rfl,hfz,Cu⟩:=hW;rw[hv]at hV;obtain⟨rfl,rfl⟩:gs= []/\q= []:=by grind[DataW.TrodVars]
 obtain⟨e1,e2,xs,f1,f2,f3⟩:=Y2 hC hp (λj t v a b=>l8 j t v bw bw) hA;obtain⟨_,hc⟩:=(iY xs f1).pure;refine(hc (rd W) W args (Mem.le_refl _) hG ⟨by grind,λk x hk=>?_⟩).mono λe W' ⟨v,he,hbelow,il⟩=>?_
 ·have:=f3 k x hk;simp_all
 ·obtain⟨c,h1,h2⟩:=il;simp at h1;subst h1;obtain rfl:=ge h2;refine⟨_,he,ds,[],_,[],p,[],hW',?_,?_,?_,Below.frame hbelow _,λh=>by cases h⟩
  ·rw[hs ds e1,hr];exact trodAll_mk1 (shut_bool hb _)
  ·rw[hs ds e1];exact GQ hl hbelow Gv hA (λx hx=>by simpa using hW'.lt x (XZ _ hx))
  ·rw[hs ds e1,hv];rfl
end
theorem akk {C:bS}{d:Nat}{xs:List SV}(h:Ci C d [] xs):xs= []:=by
 cases xs with
 |nil=>rfl
 |cons x xs=>exact h.elim
theorem Y3 {C:bS}{d:Nat}{t:TypeId}{ts:List TypeId}{xs:List SV}(h:Ci C d (t::ts) xs): ∃x ys,xs=x::ys/\w9 C d t x/\Ci C d ts ys:=by
 cases xs with
 |nil=>exact h.elim
 |cons x xs=>exact⟨x,xs,rfl,h⟩
theorem akl {C:bS}{d:Nat}{t:TypeId}{xs:List SV}(h:Ci C d [t] xs): ∃x,xs= [x]/\w9 C d t x:=by grind[Y3,akk]
theorem Y4 {C:bS}{d:Nat}{t u:TypeId}{xs:List SV}(h:Ci C d [t,u] xs): ∃x y,xs= [x,y]/\w9 C d t x/\w9 C d u y:=by grind[Y3,akl]
def akm {C:bS}{d:Nat}{t u v:TypeId}{xs:List SV}(h:Ci C d [t,u,v] xs): ∃x y z,xs= [x,y,z]/\w9 C d t x/\w9 C d u y/\w9 C d v z:=by grind[Y3,Y4]
section
variable {C:bS}{d:Nat}{t e:TypeId}{i:TI}{xs:List SC}
def TF {k:IntKind}(hi:C.ti t=some i)(hk:i.b8= .int k)(h:sV C (d+1) t xs): ∃n,xs= [.lit (.int k n)]/\(Lit.int k n).wf =true:=by grind[sV]
def acL (hi:C.ti t=some i)(hk:i.b8= .int .i64)(h:sV C (d+1) t xs): ∃n:Int,xs= [.lit (.int .i64 n)]/\ -9223372036854775808<=n/\n<=9223372036854775807:=by
 obtain⟨n,h1,h2⟩:=TF hi hk h;exact⟨n,h1,bounds_i64 h2⟩
def acM (hi:C.ti t=some i)(hk:i.b8= .str)(h:sV C (d+1) t xs): ∃s:ByteArray,xs= [.lit (.string s)]/\s.size<=maxLen:=by grind[sV]
def uq (hi:C.ti t=some i)(hk:i.b8= .slice e)(he:C.kK e=false)(h:sV C (d+1) t xs): ∃es:List (List SC),xs= [.view es]/\es.length<=maxLen/\∀e'∈es,sV C d e e':=by grind[sV]
def Y5 (C:bS)(d:Nat):List (Nat × TypeId)->List SC->Prop
 | [],xs=>xs= []
 |(_,ft)::r,xs=>∃p q,xs=p++q/\sV C d ft p/\Y5 C d r q
theorem M2: ∀ {fs:List (Nat × TypeId)} {parts:List (List SC)},parts.length=fs.length->(∀(k o:Nat) (ft:TypeId),fs[k]? =some (o,ft)->∃p,parts[k]? =some p/\sV C d ft p)->Y5 C d fs parts.flatten
 | [],[],_,_=>rfl
 |(o,ft)::fs,p::parts,hl,h=>by
  obtain⟨p',h1,h2⟩:=h 0 o ft rfl;simp at h1;subst h1;exact⟨p,parts.flatten,rfl,h2,M2 bw λk o' ft' hk=>h (k+1) o' ft' bw⟩
 | [],_::_,hl,_=>by grind
 |_::_,[],hl,_=>by grind
def lT {fs:List (Nat × TypeId)}(hi:C.ti t=some i)(hk:i.b8= .struct fs)(h:sV C (d+1) t xs):Y5 C d fs xs:=by grind[sV,M2]
def M4 {x:SV}(hi:C.ti t=some i)(hg:cL i.b8=false)(h:w9 C d t x):x=(false,x.2)/\sV C d t x.2:=by
 obtain⟨j,h1,h2,h3⟩:=h
 grind
def M5 {x:SV}(hi:C.ti t=some i)(hg:cL i.b8=true)(h:w9 C d t x):x=(true,x.2)/\sV C d t x.2:=by
 obtain⟨j,h1,h2,h3⟩:=h
 grind
end
end Go.Fw
namespace Go.Fw
open Go.IntWalk
class dJ (z:Int) (n:outParam Nat):Prop where
 eq:z=(n:Int)
instance age (n:Nat):dJ (n:Int) n:=⟨rfl⟩
instance amj:dJ 0 0:=⟨rfl⟩
instance amk:dJ 1 1:=⟨rfl⟩
instance aml:dJ 2 2:=⟨rfl⟩
instance amm:dJ 3 3:=⟨rfl⟩
instance ahw (a b:Int)(m n:Nat) [h:dJ a m] [k:dJ b n]:dJ (a+b) (m+n):=⟨by rw[h.eq,k.eq];simp⟩
instance ahx (a b:Int)(m n:Nat) [h:dJ a m] [k:dJ b n]:dJ (a*b) (m*n):=⟨by rw[h.eq,k.eq];simp⟩
class BP (b:Bool) (p:outParam Prop):Prop where
 iff:b=true↔p
instance (priority:=low) bp_any (b:Bool):BP b (b=true):=⟨Iff.rfl⟩
instance amA (p:Prop) [Decidable p]:BP (decide p) p:=⟨wX⟩
instance amB (a b:Int):BP (a==b) (a=b):=⟨beq_iff_eq⟩
instance amC (a b:Int):BP (a != b) (a≠b):=⟨bne_iff_ne⟩
instance amD (b:Bool)(p:Prop) [h:BP b p]:BP (!b) (¬p):=⟨by rw[<- h.iff];grind⟩
instance amF (a b:Bool)(p q:Prop) [h:BP a p] [k:BP b q]:BP (a&&b) (p/\q):=⟨by rw[<- h.iff,<- k.iff];simp⟩
instance (priority:=high) bp_and_true (b:Bool)(p:Prop) [h:BP b p]:BP (b&&true) p:=⟨by rw[<- h.iff];simp⟩
instance anw (a b:Bool)(p q:Prop) [h:BP a p] [k:BP b q]:BP (a || b) (p\/q):=⟨by rw[<- h.iff,<- k.iff];simp⟩
def BP.no {b:Bool}{p:Prop}(h:BP b p)(e:b=false): ¬p:=λhp=>by rw[h.iff.2 hp]at e;cases e
def BP.yes {b:Bool}{p:Prop}(h:BP b p)(e:b=true):p:=h.iff.1 e
def BP.eq_true {b:Bool}{p:Prop}(h:BP b p)(hp:p):b=true:=h.iff.2 hp
def BP.eq_false {b:Bool}{p:Prop}(h:BP b p)(hp: ¬p):b=false:=by
 cases e:b
 ·rfl
 ·exact absurd (h.iff.1 e) hp
def brp {b:Bool}{p X Y:Prop} [i:BP b p](h:p->X)(h': ¬p->Y):Brn b X Y:=oF (λe=>h (i.yes e)) λe=>h' (i.no e)
def bPt {b:Bool}{p X Y:Prop} [i:BP b p](hp:p)(h:X):Brn b X Y:=by rw[i.eq_true hp];exact bT h
def bPf {b:Bool}{p X Y:Prop} [i:BP b p](hp: ¬p)(h:Y):Brn b X Y:=by rw[i.eq_false hp];exact bF h
section
variable {C:bS}{all:List Oper}{n0 i fid:Nat}{o:Oper}{rest:List Oper}{E:dS}{H:Hp}{t:bn}{K:dS->Hp->Nat->bn->Prop}{k:dS->Hp->bn->Prop}
def yJ {g j:Nat}{b:Bool}{p:Prop} [w:BP b p](hg:o.guard=some (j,true))(hd:jE all j=some g)(hv:E.get g=some (.val (false,[.st (.lit (.bool b))])))
  (h:p->cS C (2*(n0+i)) o ((g,some (wa true))::E) H t λE' H' t'=>jx C all n0 rest (i+1) E' H' t' K)
  (h': ¬p->kT o ((g,some (wa false))::E) H t λE' H' t'=>jx C all n0 rest (i+1) E' H' t' K):jx C all n0 (o::rest) i E H t K:=
 JL hg hd hv (λe=>h (w.yes e)) λe=>h' (w.no e)
def nG {g j:Nat}{b:Bool}{p:Prop} [w:BP b p](hg:o.guard=some (j,false))(hd:jE all j=some g)(hv:E.get g=some (.val (false,[.st (.lit (.bool b))])))
  (h:p->kT o ((g,some (wa true))::E) H t λE' H' t'=>jx C all n0 rest (i+1) E' H' t' K)
  (h': ¬p->cS C (2*(n0+i)) o ((g,some (wa false))::E) H t λE' H' t'=>jx C all n0 rest (i+1) E' H' t' K):jx C all n0 (o::rest) i E H t K:=
 MK hg hd hv (λe=>h (w.yes e)) λe=>h' (w.no e)
def oIt {g j:Nat}{b:Bool}{p:Prop} [w:BP b p](hg:o.guard=some (j,true))(hd:jE all j=some g)(hv:E.get g=some (.val (false,[.st (.lit (.bool b))])))(hp:p)
  (h:cS C (2*(n0+i)) o ((g,some (wa true))::E) H t λE' H' t'=>jx C all n0 rest (i+1) E' H' t' K):jx C all n0 (o::rest) i E H t K:=
 yJ hg hd hv (λ_=>h) λn=>absurd hp n
def oIf {g j:Nat}{b:Bool}{p:Prop} [w:BP b p](hg:o.guard=some (j,true))(hd:jE all j=some g)(hv:E.get g=some (.val (false,[.st (.lit (.bool b))])))(hp: ¬p)
  (h:kT o ((g,some (wa false))::E) H t λE' H' t'=>jx C all n0 rest (i+1) E' H' t' K):jx C all n0 (o::rest) i E H t K:=
 yJ hg hd hv (λy=>absurd y hp) λ_=>h
def oUt {g j:Nat}{b:Bool}{p:Prop} [w:BP b p](hg:o.guard=some (j,false))(hd:jE all j=some g)(hv:E.get g=some (.val (false,[.st (.lit (.bool b))])))(hp:p)
  (h:kT o ((g,some (wa true))::E) H t λE' H' t'=>jx C all n0 rest (i+1) E' H' t' K):jx C all n0 (o::rest) i E H t K:=
 nG hg hd hv (λ_=>h) λn=>absurd hp n
def oUf {g j:Nat}{b:Bool}{p:Prop} [w:BP b p](hg:o.guard=some (j,false))(hd:jE all j=some g)(hv:E.get g=some (.val (false,[.st (.lit (.bool b))])))(hp: ¬p)
  (h:cS C (2*(n0+i)) o ((g,some (wa false))::E) H t λE' H' t'=>jx C all n0 rest (i+1) E' H' t' K):jx C all n0 (o::rest) i E H t K:=
 nG hg hd hv (λy=>absurd y hp) λ_=>h
def opK:Op->Nat
 | .binOp .. =>1
 | .unOp .. =>2
 | .load .. =>3
 | .store .. =>4
 | .indexAddr .. =>5
 | .call c=>match c.callee with
  | .builtin _=>6
  |_=>7
 | .slice .. =>8
 | .makeSlice .. =>8
 | .index .. =>8
 |_=>0
def kO (n:Nat)(_:opK o.op=n)(g:cS C fid o E H t k):cS C fid o E H t k:=g
def rP {r:DV}{u:Hp}{R:List Nat}(_:opK o.op=0)(h1: ∀K:ka,K r u R->fk C fid o (C.ev E.get) H.get K)
  (h2:DL u H λH'=>eh o.dst r E λE'=>k E' H' ((R,u.map Prod.fst)::t)):cS C fid o E H t k:=rG h1 h2
abbrev lI (n:Int):Option DV:=some (.val (false,[.st (.lit (.int .i64 n))]))
def stp {r:DV}(h1:fk C fid o (C.ev E.get) H.get=λK=>K r [] [])(h2:eh o.dst r E λE'=>k E' H (([],[])::t)):cS C fid o E H t k:=
 rG (r:=r) (u:=[]) (R:=[]) (λK hK=>by grind) h2
variable {T:TypeId}{x y:Operand}{p:TypeId}{a b:Int}
theorem yK {op:BinOp}(ho:o.op= .binOp op T x y p)(hx:C.ev E.get x=lI a)(hy:C.ev E.get y=lI b)(hop:op≠ .shl /\op≠ .shr):fk C fid o (C.ev E.get) H.get=λK=>tT op .i64 a b λv=>K (lit v) [] []:=by
 funext K;unfold fk;rw[ho];simp only[hx,hy,lI,Mo]
 grind[rc]
def akn (ho:o.op= .binOp .add T x y p)(hx:C.ev E.get x=lI a)(hy:C.ev E.get y=lI b)(hb: -9223372036854775808<=a+b/\a+b<=9223372036854775807)
  (h2:eh o.dst (lit (.int .i64 (a+b))) E λE'=>k E' H (([],[])::t)):cS C fid o E H t k:=
 stp afP h2
def ako (ho:o.op= .binOp .sub T x y p)(hx:C.ev E.get x=lI a)(hy:C.ev E.get y=lI b)(hb: -9223372036854775808<=a -b/\a -b<=9223372036854775807)
  (h2:eh o.dst (lit (.int .i64 (a -b))) E λE'=>k E' H (([],[])::t)):cS C fid o E H t k:=
 stp afP h2
def akp (ho:o.op= .binOp .mul T x y p)(hx:C.ev E.get x=lI a)(hy:C.ev E.get y=lI b)(hb: -9223372036854775808<=a*b/\a*b<=9223372036854775807)
  (h2:eh o.dst (lit (.int .i64 (a*b))) E λE'=>k E' H (([],[])::t)):cS C fid o E H t k:=
 stp afP h2
def akq (ho:o.op= .binOp .quo T x y p)(hx:C.ev E.get x=lI a)(hy:C.ev E.get y=lI b)(hb:(0<=a/\a<=9223372036854775807)/\0<b)
  (h2:eh o.dst (lit (.int .i64 (a/b))) E λE'=>k E' H (([],[])::t)):cS C fid o E H t k:=by
 have e:IntKind.i64.wrap (a.tdiv b)=a/b:=by
  rw[Int.tdiv_eq_ediv_of_nonneg hb.1.1];have h1:0<=a/b:=Mc hb.1.1 K0;have h2:a/b<=a:=Yd b hb.1.1
  grind[i64_in]
 refine rG (r:=lit (.int .i64 (a/b))) (u:=[]) (R:=[]) (λK hK=>?_) h2;rw[yK ho hx hy bX];exact⟨by omega,by grind⟩
def akr (ho:o.op= .binOp .rem T x y p)(hx:C.ev E.get x=lI a)(hy:C.ev E.get y=lI b)(hb:0<=a/\0<b)
  (h2:eh o.dst (lit (.int .i64 (a%b))) E λE'=>k E' H (([],[])::t)):cS C fid o E H t k:=by
 refine rG (r:=lit (.int .i64 (a%b))) (u:=[]) (R:=[]) (λK hK=>?_) h2;rw[yK ho hx hy bX];exact⟨by omega,by grind⟩
def aeC (ho:o.op= .binOp .quo T x y p)(hx:C.ev E.get x=lI a)(hy:C.ev E.get y=lI b)(hb:b≠0)
  (h2:eh o.dst (lit (.int .i64 (IntKind.i64.wrap (a.tdiv b)))) E λE'=>k E' H (([],[])::t)):cS C fid o E H t k:=by
 refine rG (r:=lit (.int .i64 (IntKind.i64.wrap (a.tdiv b)))) (u:=[]) (R:=[]) (λK hK=>?_) h2;rw[yK ho hx hy bX];exact⟨hb,hK⟩
def aeD (ho:o.op= .binOp .rem T x y p)(hx:C.ev E.get x=lI a)(hy:C.ev E.get y=lI b)(hb:b≠0)
  (h2:eh o.dst (lit (.int .i64 (a.tmod b))) E λE'=>k E' H (([],[])::t)):cS C fid o E H t k:=by
 refine rG (r:=lit (.int .i64 (a.tmod b))) (u:=[]) (R:=[]) (λK hK=>?_) h2;rw[yK ho hx hy bX];exact⟨hb,hK⟩
def aks (ho:o.op= .unOp .neg T x)(hx:C.ev E.get x=lI a)(hb: -9223372036854775808<a/\a<=9223372036854775807)
  (h2:eh o.dst (lit (.int .i64 (-a))) E λE'=>k E' H (([],[])::t)):cS C fid o E H t k:=by
 refine rG (r:=lit (.int .i64 (-a))) (u:=[]) (R:=[]) (λK hK=>?_) h2;have e:IntKind.i64.wrap (0 -a)= -a:=by grind[i64_in]
 unfold fk;rw[ho];simp only[hx,lI,PM]
 grind
def agf {i:TI}{e:TypeId}{ie:TI}{l:List Int}{k':IntKind}{n:Int}(ho:o.op= .indexAddr T x y)(hx:C.ev E.get x=some (.val (false,[.st (.ints l)])))(hy:C.ev E.get y=some (.val (false,[.st (.lit (.int k' n))])))
  (hi:C.ti T=some i)(hc:i.b8= .slice e)(he:C.ti e=some ie)(hs:ie.size=1)(hb:0<=n/\n< (l.length:Int))
  (h2:eh o.dst (bh (.st (.ref [.lit (.int .i64 (l.getD n.toNat 0))]))) E λE'=>k E' H (([],[])::t)):cS C fid o E H t k:=by
 refine rG (r:=bh (.st (.ref [.lit (.int .i64 (l.getD n.toNat 0))]))) (u:=[]) (R:=[]) (λK hK=>?_) h2
 grind[fk,eR,SC.ao,SC.elem]
theorem amG {i:TI}{e:TypeId}{ie:TI}{l:List (List SC)}{k':IntKind}{n:Int}(ho:o.op= .indexAddr T x y)(hx:C.ev E.get x=some (.val (false,[.st (.view l)])))(hy:C.ev E.get y=some (.val (false,[.st (.lit (.int k' n))])))
  (hi:C.ti T=some i)(hc:i.b8= .slice e)(he:C.ti e=some ie){el:List SC}(hb:0<=n/\l[n.toNat]? =some el)(hs:el.length=ie.size)
  (h2:eh o.dst (bh (.st (.ref el))) E λE'=>k E' H (([],[])::t)):cS C fid o E H t k:=by
 refine rG (r:=bh (.st (.ref el))) (u:=[]) (R:=[]) (λK hK=>?_) h2;unfold fk;rw[ho];simp only[hx,hy];unfold eR;simp only[hi,hc,he,SC.ao];exact⟨hb.1,el,hb.2,hs,hK⟩
theorem agh {i:TI}{e:TypeId}{ie:TI}{id:Nat}{m:Bool}{z:Nat}{c:SC}{k':IntKind}{n:Int}(ho:o.op= .indexAddr T x y)(hx:C.ev E.get x=some (.val (false,[.own id])))(hy:C.ev E.get y=some (.val (false,[.st (.lit (.int k' n))])))
  (hi:C.ti T=some i)(hc:i.b8= .slice e)(he:C.ti e=some ie)(hH:H.get id=some (.row m z c))(hz:Nat.beq z ie.size=true)(hb:0<=n/\n< (c.len:Int))
  (h2:eh o.dst (bh (.cK id z n.toNat 0)) E λE'=>k E' H (([id],[])::t)):cS C fid o E H t k:=by
 refine rG (r:=bh (.cK id z n.toNat 0)) (u:=[]) (R:=[id]) (λK hK=>?_) h2;unfold fk
 grind[eR]
def akt {i:TI}{id n:Nat}{m:Bool}{l:List Int}(ho:o.op= .load T x)(hx:C.ev E.get x=some (.val (false,[.cK id 1 n 0])))(hi:C.ti T=some i)(hg:cL i.b8=false)(hs:i.size=1)
  (hH:H.get id=some (.row m 1 (.ints l)))(hb:n<l.length)
  (h2:eh o.dst (lit (.int .i64 (l.getD n 0))) E λE'=>k E' H (([id],[])::t)):cS C fid o E H t k:=by
 refine rG (r:=lit (.int .i64 (l.getD n 0))) (u:=[]) (R:=[id]) (λK hK=>?_) h2;unfold fk;rw[ho];simp only[hx];unfold oA;simp only[hi,hH,hs,hg];exact ajj
def aku {i:TI}{id n:Nat}{l:List Int}(ho:o.op= .store T x y)(hx:C.ev E.get x=some (.val (false,[.cK id 1 n 0])))(hy:C.ev E.get y=lI a)(hi:C.ti T=some i)(hs:i.size=1)
  (hH:H.get id=some (.row true 1 (.ints l)))(hb:n<l.length)
  (h2:eh o.dst (.aI []) E λE'=>k E' ((id,some (.row true 1 (.ints (l.set n a))))::H) (([id],[id])::t)):cS C fid o E H t k:=by
 refine rG (r:=.aI []) (u:=[(id,some (.row true 1 (.ints (l.set n a))))]) (R:=[id]) (λK hK=>?_) h2;unfold fk;rw[ho];simp only[hx,hy];unfold rf;simp only[hi,hH,hs];show ∃e,_/\_;exact ajj
def akv {i:TI}{e:TypeId}{ie:TI}{l:List Int}{k':IntKind}{z:Int}{n:Nat} [nz:dJ z n](ho:o.op= .indexAddr T x y)(hx:C.ev E.get x=some (.val (false,[.st (.ints l)])))(hy:C.ev E.get y=some (.val (false,[.st (.lit (.int k' z))])))
  (hi:C.ti T=some i)(hc:i.b8= .slice e)(he:C.ti e=some ie)(hs:ie.size=1)(hb:n<l.length)
  (h2:eh o.dst (bh (.st (.ref [.lit (.int .i64 (l.getD n 0))]))) E λE'=>k E' H (([],[])::t)):cS C fid o E H t k:=
 by rw[nz.eq]at hy;exact agf (n:=(n:Int)) ho hx hy hi hc he hs ⟨Int.natCast_nonneg n,by omega⟩ h2
def aeE {i:TI}{e:TypeId}{ie:TI}{id:Nat}{m:Bool}{z:Nat}{c:SC}{k':IntKind}{zz:Int}{n:Nat} [nz:dJ zz n](ho:o.op= .indexAddr T x y)(hx:C.ev E.get x=some (.val (false,[.own id])))(hy:C.ev E.get y=some (.val (false,[.st (.lit (.int k' zz))])))
  (hi:C.ti T=some i)(hc:i.b8= .slice e)(he:C.ti e=some ie)(hH:H.get id=some (.row m z c))(hz:Nat.beq z ie.size=true)(hb:n<c.len)
  (h2:eh o.dst (bh (.cK id z n 0)) E λE'=>k E' H (([id],[])::t)):cS C fid o E H t k:=
 by rw[nz.eq]at hy;grind[agh]
def aeF {i:TI}{e:TypeId}{ie:TI}{l:List (List SC)}{k':IntKind}{z:Int}{n:Nat} [nz:dJ z n](ho:o.op= .indexAddr T x y)(hx:C.ev E.get x=some (.val (false,[.st (.view l)])))(hy:C.ev E.get y=some (.val (false,[.st (.lit (.int k' z))])))
  (hi:C.ti T=some i)(hc:i.b8= .slice e)(he:C.ti e=some ie){el:List SC}(hb:l[n]? =some el)(hs:el.length=ie.size)
  (h2:eh o.dst (bh (.st (.ref el))) E λE'=>k E' H (([],[])::t)):cS C fid o E H t k:=
 by rw[nz.eq]at hy;grind[amG]
def akw {i:TI}{c:SC}{cs:List SC}(ho:o.op= .load T x)(hx:C.ev E.get x=some (.val (false,[.st (.ref (c::cs))])))(hi:C.ti T=some i)(hg:cL i.b8=false)(hs:i.size=1)
  (h2:eh o.dst (bh (.st c)) E λE'=>k E' H (([],[])::t)):cS C fid o E H t k:=by
 refine rG (r:=bh (.st c)) (u:=[]) (R:=[]) (λK hK=>?_) h2;unfold fk;rw[ho];simp only[hx];unfold oA;simp only[hi,hs,hg];exact hK
def akx {i:TI}{id off:Nat}{t':TypeId}{cs:List DC}{c:DC}(ho:o.op= .load T x)(hx:C.ev E.get x=some (.val (false,[.ptr id off])))(hi:C.ti T=some i)(hg:cL i.b8=false)(hs:i.size=1)
  (hH:H.get id=some (.box t' cs))(hc:cs[off]? =some c)
  (h2:eh o.dst (bh c) E λE'=>k E' H (([id],[])::t)):cS C fid o E H t k:=by
 refine rG (r:=bh c) (u:=[]) (R:=[id]) (λK hK=>?_) h2;have al:=(kF.1 hc).1;have e:(cs.drop off).take 1= [c]:=by grind[List.drop_eq_getElem_cons]
 have hb:Nat.ble (off+1) cs.length=true:=Nat.ble_eq_true_of_le al;unfold fk;rw[ho];simp only[hx];unfold oA;simp only[hi,hH,hs,hg,hb,e];exact hK
def aky {c:Call}{i:TI}{tt:TypeId}{ts:List TypeId}{e:TypeId}{l:List Int}(ho:o.op= .call c)(hc:c.callee= .builtin .len)(ha:c.argTypes.toList=tt::ts)(hx:(c.args.toList.map (C.ev E.get))= [some (.val (false,[.st (.ints l)]))])
  (hi:C.ti tt=some i)(hk:i.b8= .slice e)(h2:eh o.dst (lit (.int .i64 (l.length:Nat))) E λE'=>k E' H (([],[])::t)):cS C fid o E H t k:=by
 exact ahM
def aeG {c:Call}{i:TI}{tt:TypeId}{ts:List TypeId}{e:TypeId}{l:List (List SC)}(ho:o.op= .call c)(hc:c.callee= .builtin .len)(ha:c.argTypes.toList=tt::ts)(hx:(c.args.toList.map (C.ev E.get))= [some (.val (false,[.st (.view l)]))])
  (hi:C.ti tt=some i)(hk:i.b8= .slice e)(h2:eh o.dst (lit (.int .i64 (l.length:Nat))) E λE'=>k E' H (([],[])::t)):cS C fid o E H t k:=by
 exact ahM
def aeH {c:Call}{i:TI}{tt:TypeId}{ts:List TypeId}{e:TypeId}{id z:Nat}{m:Bool}{l:List Int}(ho:o.op= .call c)(hc:c.callee= .builtin .len)(ha:c.argTypes.toList=tt::ts)(hx:(c.args.toList.map (C.ev E.get))= [some (.val (false,[.own id]))])
  (hi:C.ti tt=some i)(hk:i.b8= .slice e)(hH:H.get id=some (.row m z (.ints l)))(h2:eh o.dst (lit (.int .i64 (l.length:Nat))) E λE'=>k E' H (([id],[])::t)):cS C fid o E H t k:=by
 exact ahP
def Y6 {c:Call}{i:TI}{tt:TypeId}{ts:List TypeId}{e:TypeId}{id z:Nat}{m:Bool}{l:List (List SC)}(ho:o.op= .call c)(hc:c.callee= .builtin .len)(ha:c.argTypes.toList=tt::ts)(hx:(c.args.toList.map (C.ev E.get))= [some (.val (false,[.own id]))])
  (hi:C.ti tt=some i)(hk:i.b8= .slice e)(hH:H.get id=some (.row m z (.view l)))(h2:eh o.dst (lit (.int .i64 (l.length:Nat))) E λE'=>k E' H (([id],[])::t)):cS C fid o E H t k:=by
 exact ahP
def akz {i:TI}{e:TypeId}{ie:TI}{l:List Int}{k':IntKind}{n:Int}(ho:o.op= .slice T x none (some y) none)(hx:C.ev E.get x=some (.val (false,[.st (.ints l)])))(hy:C.ev E.get y=some (.val (false,[.st (.lit (.int k' n))])))
  (hi:C.ti T=some i)(hc:i.b8= .slice e)(he:C.ti e=some ie)(hs:ie.size=1)(hb:0<=n/\n<=(l.length:Int))
  (h2:eh o.dst (bh (.st (.ints (l.take n.toNat)))) E λE'=>k E' H (([],[])::t)):cS C fid o E H t k:=by
 refine rG (r:=bh (.st (.ints (l.take n.toNat)))) (u:=[]) (R:=[]) (λK hK=>?_) h2;unfold fk;rw[ho];simp only[hx,Option.map];unfold gm;simp only[hi,hc,he,bO,bz,hy,SC.ao,Gz,SC.len,SC.Ag,SC.sub,GF]
 grind
def akA {i:TI}{e:TypeId}{ie:TI}{l:List Int}{k':IntKind}{n:Int}(ho:o.op= .slice T x (some y) none none)(hx:C.ev E.get x=some (.val (false,[.st (.ints l)])))(hy:C.ev E.get y=some (.val (false,[.st (.lit (.int k' n))])))
  (hi:C.ti T=some i)(hc:i.b8= .slice e)(he:C.ti e=some ie)(hs:ie.size=1)(hb:0<=n/\n<=(l.length:Int))
  (h2:eh o.dst (bh (.st (.ints (l.drop n.toNat)))) E λE'=>k E' H (([],[])::t)):cS C fid o E H t k:=by
 refine rG (r:=bh (.st (.ints (l.drop n.toNat)))) (u:=[]) (R:=[]) (λK hK=>?_) h2;unfold fk;rw[ho];simp only[hx,Option.map];unfold gm;simp only[hi,hc,he,bO,bz,hy,SC.ao,Gz,SC.len,SC.Ag,SC.sub,mB]
 grind
end
def akB:DC->DC->List (Nat × Nat)
 | .ptr a _,.ptr b _=>[(a,b)]
 | .own a,.own b=>[(a,b)]
 | .cK a _ _ _,.cK b _ _ _=>[(a,b)]
 |_,_=>[]
def Qs:List DC->List DC->List (Nat × Nat)
 |a::l,b::l'=>akB a b++Qs l l'
 |_,_=>[]
def Y7 (E:EF):dS->List (Nat × Nat)
 | []=>[]
 |(k,some (.val (_,xO)))::E'=>(match E k with
  |some (.val (_,cs))=>Qs cs xO
  |_=>[])++Y7 E E'
 |_::E'=>Y7 E E'
def Y8 (H H':HF):List (Nat × Nat)->List (Nat × Nat)
 | []=>[]
 |(a,b)::l=>(match H a,H' b with
  |some (.box _ cs),some (.box _ xO)=>Qs cs xO
  |_,_=>[])++Y8 H H' l
def aeI (n:Nat):List (Nat × Nat)->List (Nat × Nat)
 | []=>[]
 |(a,b)::l=>match Nat.beq b n with
  |true=>[(a,b)]
  |false=>aeI n l
def abT (ps:List (Nat × Nat)):Hp->List (Nat × Nat)
 | []=>[]
 |(n,_)::H=>aeI n ps++abT ps H
def Y9:dS->List Nat
 | []=>[]
 |(k,_)::E=>k::Y9 E
def aeJ (S S':St):List (Nat × Nat):=
 let p:=Y7 S.env.get S'.env;let p:=p++Y8 S.hp.get S'.hp.get p;let p:=p++Y8 S.hp.get S'.hp.get p
 abT p S'.hp
def ai {S S':St}(h:TD (Y9 S'.env) (aeJ S S') S'.nx S=some S'):bu S S':=fA h
def fs:List Int->Int
 | []=>0
 |x::l=>if x≠0 then x else fs l
def acN (l:List Int):(l.find? (· ≠0)).getD 0=fs l:=by
 induction l with
 |nil=>rfl
 |cons x l ih=>grind[fs]
def aA {C:bS}{c:Code}{S:St}{kx:Nat->St->Prop}{kr:St->Prop}(h:m9 C c S (λS'=>TB C c S' kx kr) kx kr):TB C c S kx kr:=
 ⟨S,bu.refl S,H9 (mF h.out (λ_ h=>h.out) (λ_ _ h=>h) λ_ h=>h)⟩
def Za (C:bS){E:dS}{Hh:Hp}{nx:Nat}(id:Nat){t:TypeId}{cs:List DC}{l:List SC}{u:Hp}{r:List Nat}(hb:Hh.get id=some (.box t cs))(eG:bO Hh.get (C.kinds t) cs=some (l,u,r)):
  bu ⟨E,Hh,nx⟩ ⟨E,((id,some (.dX l))::u)++Hh,nx⟩:=by
 rintro F nt a w ⟨N,⟨q1,q2,q0,β,q3,q4⟩,q5⟩;have hg:ij C Hh.get ((id,some (.dX l))::u):=ahQ;have h1:=hg.soft.tr (F:=F) (β:=β) (N:=N) (w:=w);have h2:=hg.heap q4;refine⟨N,⟨q1,q2,q0,β,?_,?_⟩,q5⟩
 ·show dH F β N (Hp.get (((id,some (.dX l))::u)++Hh)) w E.get a;rw[Hp.get_append];exact h1.env q4 q3
 grind[Hp.get_append]
def aM {C:bS}{x y:Code}{S:St}{kn:St->Prop}{kx:Nat->St->Prop}{kr:St->Prop}(h:m9 C x S (λS1=>∃S2,bu S1 S2/\m9 C y S2 kn kx kr) kx kr):m9 C (.seq x y) S kn kx kr:=by
 have h':rF C x S (λS=>∃S',bu S S'/\rF C y S' kn kx kr) kx kr:=mF h.out (λ_ ⟨S',hs,h⟩=>⟨S',hs,h.out⟩) (λ_ _ h=>h) λ_ h=>h;exact⟨h'⟩
def lnS {l:List Int}{x:Int}(h:l.length<4294967296):(SC.ints (l++[x])).len <=xP:=by grind[SC.len,xP]
def lnN {l:List Int}(h:l.length<=4294967296):(SC.ints ([]++l)).len <=xP:=by grind[SC.len,xP]
def lnC {l l':List Int}(h:l.length+l'.length<=4294967296):(SC.ints (l++l')).len <=xP:=by grind[SC.len,xP]
def lvS {l:List (List SC)}{x:List SC}(h:l.length<4294967296):(SC.view (l++[x])).len <=xP:=by grind[SC.len,xP]
def lvN {l:List (List SC)}(h:l.length<=4294967296):(SC.view ([]++l)).len <=xP:=by grind[SC.len,xP]
def lvC {l l':List (List SC)}(h:l.length+l'.length<=4294967296):(SC.view (l++l')).len <=xP:=by grind[SC.len,xP]
def uvS {x:List SC}{z:Nat}(h:x.length=z):(SC.view [x]).Ag z:=by intro e he;grind
def uvN {x:List SC}{z:Nat}(h:x.length=z):(SC.view ([]++[x])).Ag z:=by intro e he;grind
end Go.Fw
namespace Go.Fw
open Go.RowKit (Below)
open Classical
def bA (C:bS)(f:FuncId)(nx:Nat)(xs:List DX)(Hs:Hp)(fI:List Nat)(r:DV)(mq:Hp):Prop:=
 iI C.P f=true/\∀(F:gG) (β:Nat->Option Nat) (N:Nat->Prop) (w:World) (vs:Array Value),bH C F->F.w0=w->(∀b,F.own b->live β Hs.get b)->ad F β N Hs.get w->(∀id,N id->tag id<nx)->
  vs.size=xs.length->(∀k x,xs[k]? =some x->ar F β N Hs.get w (vs.getD k undef) x)->
  Calls C.P f vs w λe w'=>∃v cQ N',e= .returned v/\ad F cQ N' mq.get w'/\co F cQ N' mq.get w' v r/\∀id∈fI,∃b,β id=some b/\cQ id=some b
def DC.dQ (ok:Nat->Prop):DC->Prop
 | .ptr id _=>ok id
 | .own id=>ok id
 | .cK id _ _ _=>ok id
 | .mp id=>ok id
 | .sS _ id=>ok id
 |_=>True
def ec (ok:Nat->Prop)(x:DX):Prop:=∀d∈x.2,d.dQ ok
def lH (ok:Nat->Prop):DV->Prop
 | .val x=>ec ok x
 | .aI l=>∀x∈l,ec ok x
def cC.dQ (ok:Nat->Prop):cC->Prop
 | .box _ cs=>∀d∈cs,d.dQ ok
 | .az _ l=>∀e∈l,∀d∈e,d.dQ ok
 |_=>True
def cH (Hs mq:Hp):Hp:=mq++Hs.map λp=>(p.1,none)
theorem Hp.get_none {H:Hp}{id:Nat}(h:id∉H.map Prod.fst):H.get id=none:=by
 induction H with
 |nil=>rfl
 |cons p H ih=>
  obtain⟨j,b⟩:=p;simp only[ju,cF,not_or]at h;rw[Hp.au,aG _ _ _ h.1];grind
theorem Hp.dU {H:Hp}{id:Nat}{b:cC}(h:H.get id=some b):id∈H.map Prod.fst:=by
 by_cases hm:id∈H.map Prod.fst;omega
 grind[Hp.get_none]
def oI (H:Hp)(K:HF)(id:Nat):H.on K id=if id∈H.map Prod.fst then H.get id else K id:=by
 induction H with
 |nil=>rfl
 |cons p H ih=>
  obtain⟨j,b⟩:=p;show br _ _ _ id=_;rw[Hp.au]
  grind[an,aG]
def acO (H:Hp)(K:HF)(id:Nat):Hp.on (H.map λp=>(p.1,(none:Option cC))) K id=if id∈H.map Prod.fst then none else K id:=by
 rw[oI];have e:(H.map λp=>(p.1,(none:Option cC))).map Prod.fst=H.map Prod.fst:=by simp_all
 rw[e];by_cases h:id∈H.map Prod.fst
 ·rw[if_pos h,if_pos h]
  cases hg:Hp.get (H.map λp=>(p.1,(none:Option cC))) id with
  |none=>rfl
  |some b=>
   exfalso
   have: ∀ {H:Hp},Hp.get (H.map λp=>(p.1,(none:Option cC))) id≠some b:=by
    intro H
    induction H with
    |nil=>simp[Hp.get]
    |cons p H ih=>
     intro h;rw[ju,Hp.au]at h
     grind[an,aG]
   grind
 grind
def ur (Hs mq:Hp)(H:HF)(id:Nat):(cH Hs mq).on H id=if id∈mq.map Prod.fst then mq.get id else if id∈Hs.map Prod.fst then none else H id:=by
 unfold cH;rw[Hp.UT,oI];by_cases h:id∈mq.map Prod.fst
 grind
 ·rw[if_neg h,if_neg h,acO]
section
variable {C:bS}{F:gG}{β cQ:Nat->Option Nat}{N N':Nat->Prop}{H:HF}{w w':World}{Hs mq:Hp}{fid:Nat}
noncomputable def gG.hand (F:gG)(β:Nat->Option Nat)(H:HF)(Hs:Hp)(w:World):gG:=⟨w,MV F β H w,live β Hs.get,[],w.heap.size,MR F β H w⟩
def Qt (hG:bH C F)(hR:ad F β N H w)(hs: ∀id b,Hs.get id=some b->H id=some b):bH C (F.hand β H Hs w):=by
 refine⟨eQ.later hG hR,λb o v e=>ym hG hR e,λg cs hm fL hl=>?_,eQ.mr hG,Jq hG hR,uf hG hR⟩;obtain⟨v,e1,_⟩:=(hG.ok g cs hm).1 0 cs[0] bw;obtain⟨id,bC,e,hb⟩:=hl;exact uc e1 (hG.UU g cs hm fL) (lR hR ⟨id,bC,hs id bC e,hb⟩).2
def gO (hR:ad F β N H w)(hs: ∀id b,Hs.get id=some b->H id=some b){b:Nat}(h:(F.hand β H Hs w).dE b):F.dE b:=by
 rcases h with h|h
 ·exact .inl (pf hR.below.size h)
 ·obtain⟨id,bC,e,hb⟩:=h;exact(lR hR ⟨id,bC,hs id bC e,hb⟩).2
def JY (hR:ad F β N H w)(hs: ∀id b,Hs.get id=some b->H id=some b):(MV F β H w).le (MV (F.hand β H Hs w) β Hs.get w):=by
 intro b o v e;unfold MV;by_cases h1:(F.hand β H Hs w).dE b
 ·rw[if_pos h1];have h2:=gO hR hs h1;unfold MV at e;rw[if_pos h2]at e;split at e
  ·rename_i eG;have anI:fR β Hs.get b o:=λid bC e' hb=>eG id bC (hs id bC e') hb
   grind
  grind
 ·rw[if_neg h1];exact e
def TG (_hG:bH C F)(hR:ad F β N H w)(hs: ∀id b,Hs.get id=some b->H id=some b):(MR F β H w).le (MR (F.hand β H Hs w) β Hs.get w):=by
 intro b o v e;unfold MR;by_cases h1:(F.hand β H Hs w).dE b
 ·rw[if_pos h1];have h2:=gO hR hs h1;unfold MR at e;rw[if_pos h2]at e;exact JY hR hs b o v e
 ·rw[if_neg h1];exact e
theorem vl (hG:bH C F)(hR:ad F β N H w)(hs: ∀id b,Hs.get id=some b->H id=some b){v:Value}{d:DC}(h:cw F β N H w v d):cw (F.hand β H Hs w) β N Hs.get w v d:=by
 cases d with
 |st c=>exact dw.mono (JY hR hs) (TG hG hR hs) h
 |nil=>exact h
 |ptr id off=>exact h
 |own id=>exact⟨h.1,h.2.1,λbC z n e hz=>h.2.2 bC z n (hs id bC e) hz⟩
 |cK id z i off=>exact h
 |sS g id=>exact h
 |mp id=>exact h
def Qu (hG:bH C F)(hR:ad F β N H w)(hs: ∀id b,Hs.get id=some b->H id=some b){v:Value}{x:DX}(h:ar F β N H w v x):ar (F.hand β H Hs w) β N Hs.get w v x:=by
 unfold ar at*;split
 ·rename_i hx;rw[if_pos hx]at h
  grind[vl]
 ·rename_i hx;rw[if_neg hx]at h
  grind[vl]
theorem VC (hG:bH C F)(hR:ad F β N H w)(hs: ∀id b,Hs.get id=some b->H id=some b):ad (F.hand β H Hs w) β N Hs.get w:=by
 have mv:=JY hR hs (Hs:=Hs);have mr:=TG hG hR hs (Hs:=Hs);refine⟨λid bC e=>⟨(hR.rel id bC (hs id bC e)).1,?_⟩,λi j b x y hi hj=>hR.inj i j b x y (hs i x hi) (hs j y hj),jv.refl _ _,λb o v e=>⟨ym hG hR e,λhm=>?_⟩⟩
 ·obtain⟨_,hB⟩:=hR.rel id bC (hs id bC e);have hm: ∀ {b:Nat},β id=some b->(F.hand β H Hs w).dE b:=λhb=>.inr ⟨id,bC,e,hb⟩
  cases bC with
  |box t cs=>
   obtain⟨b,arr,T,q1,q2,q3,q4,q5⟩:=hB;exact⟨b,arr,T,q1,hm q1,q3,q4,λk x hx=>vl hG hR hs (q5 k x hx)⟩
  |dX cs=>
   obtain⟨b,arr,T,q1,q2,q3,q4,q5⟩:=hB;exact⟨b,arr,T,q1,hm q1,q3,q4,λk x hx=>(q5 k x hx).mono mv mr⟩
  |row m z c=>
   obtain⟨q0,q1|⟨b,cap,q1,q2,arr,T,p1,p2,p3,p4,p5,p6,p7⟩⟩:=hB
   ·exact Mk
   ·exact⟨q0,.inr ⟨b,cap,q1,hm q1,arr,T,p1,p2,p3,p4,p5,p6,λi e j x he hx=>(p7 i e j x he hx).mono mv (Mem.le_refl _)⟩⟩
  |az z l=>
   obtain⟨q0,q1|⟨b,cap,arr,T,q1,q2,q3,q4,q5,q6⟩⟩:=hB
   ·exact Mk
   ·exact⟨q0,.inr ⟨b,cap,arr,T,q1,hm q1,q3,q4,q5,λi e k x hi hx=>vl hG hR hs (q6 i e k x hi hx)⟩⟩
  |map es=>
   obtain⟨b,arr,ck,q1,q2,q3,q4,q5⟩:=hB;exact⟨b,arr,ck,q1,hm q1,q3,q4,λi k x e hi he=>let⟨a1,a2⟩:=q5 i k x e hi he;⟨a1,a2.mono mv mr⟩⟩
 ·have h2:=gO hR hs hm;have e:MV F β H w b o=some v:=e;unfold MV at e;rw[if_pos h2]at e;split at e
  ·rename_i eG;exact λid bC e' hb=>eG id bC (hs id bC e') hb
  grind
theorem VD (hG:bH C F)(hR:ad F β N H w)(hf: ∀id,N id->tag id≠tag fid)(hs: ∀id b,Hs.get id=some b->H id=some b){fI:List Nat}
  (qT: ∀id∈fI,(∃t cs,Hs.get id=some (.box t cs))/\∀b',mq.get id=some b'->∃t cs,b'= .box t cs)
  (alP: ∀id∈mq.map Prod.fst,id∈fI\/tag id=tag fid)(Pw: ∀id b,mq.get id=some b->b.dQ λi=>i∈fI\/tag i=tag fid)
  (Ac:ad (F.hand β H Hs w) cQ N' mq.get w')(xL: ∀id∈fI,∃b,β id=some b/\cQ id=some b){v:Value}{r:DV}(hv:co (F.hand β H Hs w) cQ N' mq.get w' v r)(hmr:lH (λi=>i∈fI\/tag i=tag fid) r):
  ∃Hw,Tr F β N H w Hw (bg N fid) ((cH Hs mq).on H) w'/\ad F Hw (bg N fid) ((cH Hs mq).on H) w'/\co F Hw (bg N fid) ((cH Hs mq).on H) w' v r:=by
 let Hw:Nat->Option Nat:=λid=>if tag id=tag fid then cQ id else β id
 generalize hH2:(cH Hs mq).on H=H2;have iR: ∀id,H2 id=if id∈mq.map Prod.fst then mq.get id else if id∈Hs.map Prod.fst then none else H id:=λid=>by rw[<- hH2,ur]
 have hN: ∀ {id:Nat} {b:cC},H id=some b->N id:=λe=>(hR.rel _ _ e).1
 have e8: ∀id,id∈fI\/tag id=tag fid->Hw id=cQ id/\bg N fid id:=by
  rintro id (h|h)
  ·obtain⟨⟨t,cs,e⟩,_⟩:=qT id h;have hn:=hN (hs id _ e);obtain⟨b,e1,e2⟩:=xL id h;exact⟨by grind,.inl hn⟩
  ·exact⟨if_pos h,.inr h⟩
 have xK: ∀id,N id->Hw id=β id:=λid hn=>if_neg (hf id hn);have sQ: ∀ {id:Nat} {b:cC},H2 id=some b->(mq.get id=some b/\(id∈fI\/tag id=tag fid))\/(id∉mq.map Prod.fst/\id∉Hs.map Prod.fst/\H id=some b):=by grind
 have PD: ∀ {id:Nat} {b:cC} {x:Nat},H id=some b->id∉Hs.map Prod.fst->β id=some x->¬(F.hand β H Hs w).dE x:=by
  rintro id b x e hn hb (h|⟨iQ,blk',e',jW⟩)
  ·have h1:=(hR.fY e hb).1;have h:w.heap.size<=x:=h;omega
  ·have:=hR.inj id iQ x b blk' e (hs iQ blk' e') hb jW
   grind[Hp.dU]
 have amZ: ∀ {id:Nat} {b:cC} {x:Nat},mq.get id=some b->cQ id=some x->(F.hand β H Hs w).dE x:=λe hb=>(Ac.fY e hb).2;have Sg: ∀ {b:Nat},b<w.heap.size->¬(F.hand β H Hs w).dE b->w'.heap[b]? =w.heap[b]? :=λh1 h2=>Ac.below.block _ h1 h2
 have am9: ∀ {b o:Nat},(F.hand β H Hs w).dE b->fR cQ mq.get b o->fR Hw H2 b o:=by
  intro b o hm eG id bC e hb
  rcases sQ e with⟨e',h⟩|⟨_,h2,e'⟩
  ·rw[(e8 id h).1]at hb;exact eG id bC e' hb
  grind
 have abM: ∀ {b o:Nat} {v:Value},MV F β H w b o=some v->rd w' b o=some v/\(F.dE b->fR Hw H2 b o):=by
  intro b o v e;by_cases h1:(F.hand β H Hs w).dE b
  ·obtain⟨a1,a2⟩:=Ac.tD b o v e
   grind
  ·have Jb:=ym hG hR e;have al:=Jk _ _ Jb;refine⟨(PZ (w:=w) (a:=⟨b,o,none⟩) (Sg al h1)).trans Jb,λhF=>?_⟩;unfold MV at e;rw[if_pos hF]at e;split at e
   ·rename_i eG;intro id bC e' hb
    rcases sQ e' with⟨e'',h⟩|⟨_,_,e''⟩
    grind
    ·rw[xK id (hN e'')]at hb;exact eG id bC e'' hb
   grind
 have mvC:(MV F β H w).le (MV F Hw H2 w'):=by
  intro b o v e;obtain⟨a1,a2⟩:=abM e;unfold MV;by_cases hF:F.dE b
  grind
  ·rw[if_neg hF];unfold MV at e;grind
 have mvG:(MV (F.hand β H Hs w) cQ mq.get w').le (MV F Hw H2 w'):=by
  intro b o v e;by_cases h1:(F.hand β H Hs w).dE b
  ·unfold MV at e;rw[if_pos h1]at e;split at e
   ·rename_i eG;unfold MV;rw[if_pos (gO hR hs h1),if_pos (am9 h1 eG)];exact e
   grind
  ·unfold MV at e;rw[if_neg h1]at e;exact mvC b o v e
 have mrC: ∀ {b o:Nat} {v:Value},MR F β H w b o=some v->MR F Hw H2 w' b o=some v:=by
  intro b o v e;unfold MR at e ⊢;by_cases hF:F.dE b
  ·rw[if_pos hF]at e ⊢;exact mvC b o v e
  grind
 have mrG:(MR (F.hand β H Hs w) cQ mq.get w').le (MR F Hw H2 w'):=by
  intro b o v e;by_cases h1:(F.hand β H Hs w).dE b
  ·unfold MR at e ⊢;rw[if_pos h1]at e;rw[if_pos (gO hR hs h1)];exact mvG b o v e
  ·have e2:MR (F.hand β H Hs w) cQ mq.get w' b o=(F.hand β H Hs w).mr0 b o:=by unfold MR;grind
   rw[e2]at e;exact mrC e
 have aee: ∀ {id:Nat} {b:cC},(id∈fI\/tag id=tag fid)->H2 id=some b->mq.get id=some b:=by grind[Hp.dU]
 have rD: ∀ {v:Value} {d:DC},cw (F.hand β H Hs w) cQ N' mq.get w' v d->d.dQ (λi=>i∈fI\/tag i=tag fid)->cw F Hw (bg N fid) H2 w' v d:=by
  intro v d h hm
  cases d with
  |st c=>exact dw.mono mvG mrG h
  |nil=>exact h
  |ptr id off=>
   exact K81
  |own id=>
   refine⟨(e8 id hm).2,h.2.1,λbC z n e hz=>?_⟩;have:=h.2.2 bC z n (aee hm e) hz;unfold U9 at*;rw[(e8 id hm).1];omega
  |cK id z i off=>
   exact K81
  |sS g id=>
   exact K81
  |mp id=>
   exact K81
 have rX: ∀ {v:Value} {x:DX},ar (F.hand β H Hs w) cQ N' mq.get w' v x->ec (λi=>i∈fI\/tag i=tag fid) x->ar F Hw (bg N fid) H2 w' v x:=by
  intro v x h hm;unfold ar at*;split
  ·rename_i hx;rw[if_pos hx]at h;obtain⟨arr,h1,h2,h3⟩:=h;exact⟨arr,h1,h2,λk c hc=>rD (h3 k c hc) (hm c (jH hc))⟩
  ·rename_i hx;rw[if_neg hx]at h;obtain⟨c,h1,h2⟩:=h;exact⟨c,h1,rD h2 (hm c bw)⟩
 have am5: ∀ {id:Nat} {b:cC},N id->H2 id=some b->b.sz≠none->id∉mq.map Prod.fst/\id∉Hs.map Prod.fst/\H id=some b:=by
  intro id b hn e hz;rcases sQ e with⟨e',h⟩|h
  ·rcases h with h|h
   ·obtain⟨_,hb⟩:=qT id h;obtain⟨t,cs,rfl⟩:=hb b e';exact absurd rfl hz
   grind
  omega
 have afg:jv F.dE w w':=Ac.below.mono λb _ h=>gO hR hs h
 have tr:Tr F β N H w Hw (bg N fid) H2 w':=by
  refine⟨afg,λb o v hb eG e=>?_,λ_ h=>.inl h,xK,λid blk' hn e=>?_,λid blk' zn b arr T hn e hz hb hm he=>?_,λk x e=>?_⟩
  ·have wW:MV F β H w b o=some v:=by unfold MV;grind
   grind
  ·rcases sQ e with⟨e',h⟩|⟨_,_,e'⟩
   ·rcases h with h|h
    ·obtain⟨⟨t,cs,e0⟩,hb⟩:=qT id h;obtain⟨t',xO,rfl⟩:=hb blk' e';exact⟨_,hs id _ e0,trivial⟩
    grind
   ·exact⟨blk',e',blk'.fU⟩
  grind
  ·rw[Sg (kQ e) λhm=>?_];omega
   ·rcases hm with h|hl
    ·have:=kQ e;have h:w.heap.size<=k:=h;omega
    ·obtain⟨id,bC,e1,e2⟩:=hl
     rcases DW hR ⟨id,bC,hs id bC e1,e2⟩with⟨arr,T,h⟩|⟨es,ck,h⟩
     grind
     grind
 refine⟨Hw,tr,⟨λid bC e=>?_,λi j b x y hi hj bi bj=>?_,hR.below.trans afg,tr.tD hR.tD⟩,?_⟩
 ·rcases sQ e with⟨e',h⟩|⟨_,h2,e'⟩
  ·obtain⟨eb,hn⟩:=e8 id h;refine⟨hn,?_⟩;obtain⟨_,hB⟩:=Ac.rel id bC e';have hme:=Pw id bC e'
   cases bC with
   |box t cs=>
    obtain⟨b,arr,T,q1,q2,q3,q4,q5⟩:=hB;exact⟨b,arr,T,by grind,gO hR hs q2,q3,q4,λk x hx=>rD (q5 k x hx) (hme x (jH hx))⟩
   |dX cs=>
    obtain⟨b,arr,T,q1,q2,q3,q4,q5⟩:=hB;exact⟨b,arr,T,by grind,gO hR hs q2,q3,q4,λk x hx=>(q5 k x hx).mono mvG mrG⟩
   |row m z c=>
    obtain⟨q0,q1|⟨b,cap,q1,q2,arr,T,p1,p2,p3,p4,p5,p6,p7⟩⟩:=hB
    ·exact Yn
    ·exact⟨q0,.inr ⟨b,cap,by grind,gO hR hs q2,arr,T,p1,p2,p3,p4,p5,p6,λi e j x he hx=>(p7 i e j x he hx).mono mvG (Mem.le_refl _)⟩⟩
   |az z l=>
    obtain⟨q0,q1|⟨b,cap,arr,T,q1,q2,q3,q4,q5,q6⟩⟩:=hB
    ·exact Yn
    ·exact⟨q0,.inr ⟨b,cap,arr,T,by grind,gO hR hs q2,q3,q4,q5,λi e k x hi hx=>rD (q6 i e k x hi hx) (hme e (jH hi) x (jH hx))⟩⟩
   |map es=>
    obtain⟨b,arr,ck,q1,q2,q3,q4,q5⟩:=hB;exact⟨b,arr,ck,by grind,gO hR hs q2,q3,q4,λi k x e hi he=>let⟨a1,a2⟩:=q5 i k x e hi he;⟨a1,a2.mono mvG mrG⟩⟩
  ·have hn:=hN e';have eb:=xK id hn;refine⟨.inl hn,?_⟩;obtain⟨_,hB⟩:=hR.rel id bC e';have hw: ∀ {b:Nat},β id=some b->w'.heap[b]? =w.heap[b]? :=λhb=>Sg (hR.fY e' hb).1 (PD e' h2 hb);have rd0: ∀ {v:Value} {d:DC},cw F β N H w v d->cw F Hw (bg N fid) H2 w' v d:=λh=>tr.jr hR h
   cases bC with
   |box t cs=>
    obtain⟨b,arr,T,q1,q2,q3,q4,q5⟩:=hB;exact⟨b,arr,T,by grind,q2,by grind,q4,λk x hx=>rd0 (q5 k x hx)⟩
   |dX cs=>
    obtain⟨b,arr,T,q1,q2,q3,q4,q5⟩:=hB;exact⟨b,arr,T,by grind,q2,by grind,q4,λk x hx=>(q5 k x hx).mono tr.mv tr.mr⟩
   |row m z c=>
    obtain⟨q0,q1|⟨b,cap,q1,q2,arr,T,p1,p2,p3,p4,p5,p6,p7⟩⟩:=hB
    ·exact Yn
    ·exact⟨q0,.inr ⟨b,cap,by grind,q2,arr,T,by grind,p2,p3,p4,p5,p6,λi e j x he hx=>(p7 i e j x he hx).mono tr.mv (Mem.le_refl _)⟩⟩
   |az z l=>
    obtain⟨q0,q1|⟨b,cap,arr,T,q1,q2,q3,q4,q5,q6⟩⟩:=hB
    ·exact Yn
    ·exact⟨q0,.inr ⟨b,cap,arr,T,by grind,q2,by grind,q4,q5,λi e k x hi hx=>rd0 (q6 i e k x hi hx)⟩⟩
   |map es=>
    obtain⟨b,arr,ck,q1,q2,q3,q4,q5⟩:=hB;exact⟨b,arr,ck,by grind,q2,by grind,q4,λi k x e hi he=>let⟨a1,a2⟩:=q5 i k x e hi he;⟨a1,a2.mono tr.mv tr.mr⟩⟩
 ·rcases sQ hi with⟨ei,h1⟩|⟨_,n1,ei⟩
  ·rcases sQ hj with⟨ej,h2⟩|⟨_,n2,ej⟩
   ·rw[(e8 i h1).1]at bi;rw[(e8 j h2).1]at bj;exact Ac.inj i j b _ _ ei ej bi bj
   grind
  ·rcases sQ hj with⟨ej,h2⟩|⟨_,n2,ej⟩
   grind
   ·rw[xK i (hN ei)]at bi;rw[xK j (hN ej)]at bj;exact hR.inj i j b _ _ ei ej bi bj
 ·cases r with
  |val x=>exact rX hv hmr
  |aI l=>
   obtain⟨arr,h1,h2,h3⟩:=hv;exact⟨arr,h1,h2,λk x hk=>rX (h3 k x hk) (hmr x (jH hk))⟩
theorem cw.less {M:Nat->Prop}{v:Value}{d:DC}(h:cw F β N H w v d)(hm:d.dQ M):cw F β M H w v d:=by
 cases d with
 |st c=>exact h
 |nil=>exact h
 |ptr id off=>exact⟨hm,h.2⟩
 |own id=>exact⟨hm,h.2⟩
 |cK id z i off=>exact⟨hm,h.2⟩
 |sS g id=>exact⟨hm,h.2⟩
 |mp id=>exact⟨hm,h.2⟩
def ar.less {M:Nat->Prop}{v:Value}{x:DX}(h:ar F β N H w v x)(hm:ec M x):ar F β M H w v x:=by
 unfold ar at*;split
 ·rename_i hx;rw[if_pos hx]at h;obtain⟨arr,h1,h2,h3⟩:=h;exact⟨arr,h1,h2,λk c hc=>(h3 k c hc).less (hm c (jH hc))⟩
 ·rename_i hx;rw[if_neg hx]at h;obtain⟨c,h1,h2⟩:=h;exact⟨c,h1,h2.less (hm c bw)⟩
theorem ir.less {M:Nat->Prop}{id:Nat}{b:cC}(h:ir F β N H w id b)(hm:b.dQ M):ir F β M H w id b:=by
 cases b with
 |box t cs=>obtain⟨b,arr,T,h1,h2,h3,h4,h5⟩:=h;exact⟨b,arr,T,h1,h2,h3,h4,λk x hx=>(h5 k x hx).less (hm x (jH hx))⟩
 |dX cs=>exact h
 |row m z c=>exact h
 |az z l=>
  obtain⟨q0,q1|⟨b,cap,arr,T,q1,q2,q3,q4,q5,q6⟩⟩:=h
  ·exact Mk
  ·exact⟨q0,.inr ⟨b,cap,arr,T,q1,q2,q3,q4,q5,λi e k x hi hx=>(q6 i e k x hi hx).less (hm e (jH hi) x (jH hx))⟩⟩
 |map es=>exact h
def ad.less {M:Nat->Prop}(h:ad F β N H w)(hm: ∀id b,H id=some b->M id/\b.dQ M):ad F β M H w:=
 ⟨λid b e=>⟨(hm id b e).1,(h.rel id b e).2.less (hm id b e).2⟩,h.inj,h.below,h.tD⟩
def gr {f:FuncId}{nx:Nat}{xs:List DX}{fI:List Nat}{r:DV}(h:bA C f nx xs Hs fI r mq)(io: ∀id∈Hs.map Prod.fst,tag id<nx)(hs: ∀id∈Hs.map Prod.fst,Hs.get id=H id)
  (Ad: ∀id b,Hs.get id=some b->b.dQ λi=>i∈Hs.map Prod.fst)(Cv: ∀x∈xs,ec (λi=>i∈Hs.map Prod.fst) x)
  (qT: ∀id∈fI,(∃t cs,Hs.get id=some (.box t cs))/\∀b',mq.get id=some b'->∃t cs,b'= .box t cs)
  (alP: ∀id∈mq.map Prod.fst,id∈fI\/tag id=tag fid)(Pw: ∀id b,mq.get id=some b->b.dQ λi=>i∈fI\/tag i=tag fid)(hmr:lH (λi=>i∈fI\/tag i=tag fid) r):
  bI C fid f xs H r (cH Hs mq) (Hs.map Prod.fst):=by
 refine⟨h.1,λF β N H' w vs Pm hG hR hf nA dM=>?_⟩;have hs': ∀id b,Hs.get id=some b->H' id=some b:=λid b e=>by grind[Hp.dU]
 have Xj:=VC hG hR hs';have hR2:ad (F.hand β H' Hs w) β (λi=>i∈Hs.map Prod.fst) Hs.get w:=Xj.less λid b e=>⟨Hp.dU e,Ad id b e⟩;have hc:=h.2 (F.hand β H' Hs w) β _ w vs (Qt hG hR hs') rfl (λ_ h=>h) hR2 (λid hid=>io id hid) nA λk x hx=>(Qu hG hR hs' (dM k x hx)).less (Cv x (jH hx));refine hc.mono λe w' he=>?_;obtain⟨v,cQ,N',rfl,q1,q2,q3⟩:=he;obtain⟨Hw,a1,a2,a3⟩:=VD hG hR hf hs' qT alP Pw q1 q3 q2 hmr
 grind
end
def iz:Nat->List DX->dS
 |_,[]=>[]
 |i,x::xs=>(i,some (.val x))::iz (i+1) xs
def Qv {xs:List DX}: ∀ {i s:Nat} {dv:DV},(iz i xs).get s=some dv->∃k x,s=i+k/\xs[k]? =some x/\dv= .val x:=by
 induction xs with
 |nil=>intro i s dv h;simp[iz,dS.get]at h
 |cons x xs ih=>
  intro i s dv h;unfold iz at h;rw[dS.au]at h;simp only at h;by_cases hs:s=i
  ·rw[if_pos hs]at h;simp at h;subst h;exact⟨0,x,by omega,rfl,rfl⟩
  ·rw[if_neg hs]at h;obtain⟨k,y,e,h1,h2⟩:=ih h;exact⟨k+1,y,by omega,by simpa using h1,h2⟩
def pv:List DX->DV
 | [x]=>.val x
 |l=>.aI l
section
variable {C:bS}{fn:Func}{F:gG}{β:Nat->Option Nat}{N:Nat->Prop}{H:HF}{w:World}
theorem VE {xs:List DX}{vs:List Value}(hl:vs.length=xs.length)(h: ∀k x,xs[k]? =some x->ar F β N H w (vs.getD k undef) x):co F β N H w (BA vs) (pv xs):=by
 match xs,vs with
 | [],[]=>exact⟨#[],rfl,rfl,by simp⟩
 | [x],[v]=>exact h 0 x rfl
 |x::y::xs,v::u::vs=>
  refine⟨(v::u::vs).toArray,rfl,by simpa using hl,λk z hk=>?_⟩;have:=h k z hk;simpa [sT,jX]using this
def fw (hC:C.Ok){f:FuncId}{c:Code}{xs:List DX}{Hs mq:Hp}{nx:Nat}{r:DV}{ret:St->Prop}(hn:iI C.P f=true)(hf:C.P.funcs[f]? =some fn)(hb:fn.body=some c)(vc:bQ fn.ntmps c=true)(dM:xs.length<=fn.ntmps)
  (A:List (Nat × Nat))(hA: ∀p∈A,∃off,xs[p.1]? =some (false,[.ptr p.2 off]))(Po:aJ (A.map Prod.fst) c=true)
  (eL: ∀S,ret S->∃m:List (Nat × Nat),cZ m S.hp.get mq.get/\(∀p∈A,∃o off,S.env.get p.1=some (.val (false,[.ptr o off]))/\(o,p.2)∈m)/\
   eu C S.hp.get S.env.get fn.results.toList λys=>∃zs,kV m ys=some zs/\pv zs=r)
  (h:m9 C c ⟨iz 0 xs,Hs,nx⟩ ret (λ_ _=>False) ret):bA C f nx xs Hs (A.map Prod.snd) r mq:=by
 refine⟨hn,λF β N w vs hG C2 jo hR hN nA xN=>?_⟩;let F1:gG:={F with fixed:=A.map λp=>(p.1,vs.getD p.1 undef),db:=w.heap.size};have hG1:bH C F1:=⟨hG.ok,hG.mv,hG.UU,hG.rok,hG.rle,hG.mvr⟩;have Xj:ad F1 β N Hs.get w:=⟨hR.rel,hR.inj,hR.below,hR.tD⟩;have Gp:F1.base=w.heap.size:=by show F.w0.heap.size=_;rw[C2]
 refine(callsIn_wide (n:=0)).1 (callsIn_of_wp_marks hf hb trivial ?_ rfl);have iR: ∀s,s<xs.length->(vs++Array.replicate (fn.ntmps -vs.size) undef).getD s undef=vs.getD s undef:=λs hs=>by simp[sT,SA,nA,hs]
 have hE:dH F1 β N Hs.get w (iz 0 xs).get {tmps:=vs++Array.replicate (fn.ntmps -vs.size) undef,defers:=[]}:=by
  intro s dv hs;obtain⟨k,x,h1,h2,rfl⟩:=Qv hs;rw[j9]at h1;subst h1;have al:s<xs.length:=(kF.1 h2).1;show ar _ _ _ _ _ ((vs++Array.replicate (fn.ntmps -vs.size) undef).getD s undef) x;rw[iR s al];exact xN s x h2
 have ahc: ∀p∈F1.fixed,(vs++Array.replicate (fn.ntmps -vs.size) undef).getD p.1 undef=p.2:=by
  intro p hp;obtain⟨q,hq,rfl⟩:=dC.1 hp;obtain⟨off,e⟩:=hA q hq;exact iR _ (kF.1 e).1
 have hrel:Rel F1 fn.ntmps ⟨iz 0 xs,Hs,nx⟩ {tmps:=vs++Array.replicate (fn.ntmps -vs.size) undef,defers:=[]} w:=
  ⟨N,⟨by simp;omega,eC.nil _ _,ahc,β,hE,Xj⟩,hN⟩
 have PF: ∀S a w',ret S->Rel F1 fn.ntmps S a w'->LeavesInM Fence.wide 0 C.P fn a.tmps (λe w'=>∃v cQ N',e= .returned v/\ad F cQ N' mq.get w'/\co F cQ N' mq.get w' v r/\∀id∈A.map Prod.snd,∃b,β id=some b/\cQ id=some b) a.defers .returning w':=by
  rintro S a w' hr ⟨N1,⟨hs,hd,hfx,β1,hE1,Xj⟩,hN1⟩;obtain⟨m,hm,han,hr⟩:=eL S hr;refine Av (F:=F1) (S:=S) (β:=β1) (N:=N1) ajO (λw' hB=>?_) a.defers w' ⟨hs,hE1,Xj,hN1⟩ hd;obtain⟨ys,ws,Hw,N2,⟨zs,h1,rfl⟩,ht,hR2,h2,h3,h4⟩:=D0 (a:={tmps:=a.tmps,defers:=[]}) hC hG1 hB.heap hB.env hr;have hR3:=hm.nC hR2;obtain⟨e1,e2⟩:=Ie h1
  have hv:co F1 (pR m Hw) (yH m) mq.get w' (BA ws) (pv zs):=by
   refine VE (by rw[h3,e1]) λk x hk=>?_;obtain⟨d,c,d1,d2,rfl⟩:=e2 k x hk;exact hm.sD (h4 k d d1) d2
  refine⟨_,BB h2,_,pR m Hw,yH m,rfl,⟨hR3.rel,hR3.inj,hR3.below,hR3.tD⟩,hv,λid hid=>?_⟩;obtain⟨p,hp,rfl⟩:=dC.1 hid;obtain⟨off,e⟩:=hA p hp;obtain⟨o,anj,e3,e4⟩:=han p hp;obtain⟨_,b,q1,q2⟩:cw F β N Hs.get w (vs.getD p.1 undef) (.ptr p.2 off):=ar.am (xN p.1 _ e);obtain⟨q3,b',q4,q5⟩:cw F1 β1 N1 S.hp.get w' (a.tmps.getD p.1 undef) (.ptr o anj):=ar.am (hB.env p.1 _ e3);have wU:=hfx (p.1,vs.getD p.1 undef) (dC.2 ⟨p,hp,rfl⟩);simp only at wU;rw[q5,q2]at wU;simp at wU;refine⟨b,q1,?_⟩;rw[hm.kJ e4,ht.kJ o q3,q4,wU.1]
 refine(wpIn_wide (n:=0)).2 (Ib (F:=F1) hC hG1 ajO (by show aJ ((A.map λp=>(p.1,vs.getD p.1 undef)).map Prod.fst) c=true;rw[Ak];exact Po) vc h.out hrel (λS a w' eL hr=>?_) (λ_ _ _ _ h=>h.elim) λS a w' eL hr=>?_)
 ·exact aco
 ·exact aco
end
end Go.Fw
namespace Go.Fw
open Go.RowKit (Below)
inductive Full (H:HF) (R:List Nat):DC->SC->Prop
 |st (c:SC):Full H R (.st c) c
 |nil (k:Bool):Full H R .nil (Bm k)
 |any (d:DC):Full H R d .any
 |row {id:Nat} {m:Bool} {z:Nat} {c:SC} (hr:id∈R) (h:H id=some (.row m z c)):Full H R (.own id) c
 |az {id z:Nat} {l:List (List DC)} {es:List (List SC)} (hr:id∈R) (h:H id=some (.az z l)) (hl:es.length=l.length)
   (he: ∀(i:Nat) (e:List DC) (e':List SC),l[i]? =some e->es[i]? =some e'->e'.length=e.length)
   (hc: ∀(i:Nat) (e:List DC) (e':List SC) (k:Nat) (d:DC) (c:SC),l[i]? =some e->es[i]? =some e'->e[k]? =some d->e'[k]? =some c->Full H R d c)
   (ov: ∀(i:Nat) (e':List SC) (k:Nat) (c:SC),es[i]? =some e'->e'[k]? =some c->c.flat=true):Full H R (.own id) (.view es)
 |dX {id off:Nat} {cs:List SC} (hr:id∈R) (h:H id=some (.dX cs)):Full H R (.ptr id off) (.ref (cs.drop off))
 |box {id off:Nat} {t:TypeId} {ds:List DC} {cs:List SC} (hr:id∈R) (h:H id=some (.box t ds)) (hl:cs.length=ds.length) (hc: ∀(k:Nat) (d:DC) (c:SC),ds[k]? =some d->cs[k]? =some c->Full H R d c):
   Full H R (.ptr id off) (.ref (cs.drop off))
 |XH {id z i off:Nat} {l:List (List DC)} {e:List DC} {cs:List SC} (hr:id∈R) (h:H id=some (.az z l)) (hi:l[i]? =some e) (hl:cs.length=e.length) (hc: ∀(k:Nat) (d:DC) (c:SC),e[k]? =some d->cs[k]? =some c->Full H R d c):
   Full H R (.cK id z i off) (.ref (cs.drop off))
 |aem {id z i off:Nat} {m:Bool} {c:SC} {e:List SC} (hr:id∈R) (h:H id=some (.row m z c)) (hi:c.elem i=some e):Full H R (.cK id z i off) (.ref (e.drop off))
 |sS {g id:Nat} {t:TypeId} {ds:List DC} {cs:List SC} (hr:id∈R) (h:H id=some (.box t ds)) (hl:cs.length=ds.length) (hc: ∀(k:Nat) (d:DC) (c:SC),ds[k]? =some d->cs[k]? =some c->Full H R d c):
   Full H R (.sS g id) (.fn g [] [cs])
def yL (H:HF)(R:List Nat)(x:DX)(y:SV):Prop:=y.1=x.1/\y.2.length=x.2.length/\∀(k:Nat) (d:DC) (c:SC),x.2[k]? =some d->y.2[k]? =some c->Full H R d c
def M6 (H:HF)(R:List Nat)(xs:List DX)(l:List SV):Prop:=l.length=xs.length/\∀(k:Nat) (x:DX) (y:SV),xs[k]? =some x->l[k]? =some y->yL H R x y
def oJ:SC->Bool
 | .lit _=>true
 | .ref []=>true
 | .view []=>true
 | .ints []=>true
 |_=>false
def D4 (x:SV):Bool:=x.2.all oJ
def JZ (c:SC):Prop:=∀(i:Nat) (e:List SC) (k:Nat) (x:SC),c.elem i=some e->e[k]? =some x->∃v,x= .lit v
def J0:mc->Prop
 | .one x=>D4 x=true
 | .aI l=>∀x∈l,D4 x=true
 | .own _ c=>JZ c
 | .mix _ l _ c=>JZ c/\∀x∈l,∀o∈x.2,∀c,o=some c->oJ c=true
 | .vh _ _=>False
section
variable {C:bS}{F:gG}{β:Nat->Option Nat}{N:Nat->Prop}{H H':HF}{fid:Nat}{w w':World}{R:List Nat}
theorem D5 (hG:bH C F)(hR:ad F β N H' w)(hH: ∀id∈R,H' id=H id){d:DC}{c:SC}(hf:Full H R d c): ∀ {v:Value},cw F β N H' w v d->dw (rd w) (rd w) v c:=by
 have wW:(MV F β H' w).le (rd w):=λb o v h=>ym hG hR h;have hmr:(MR F β H' w).le (rd w):=wz hG hR
 induction hf with
 |st c=>intro v h;exact dw.mono wW hmr h
 |nil k=>intro v h;have h:v= .slice none 0 0:=h;subst h;exact .empty _ _ Yq Yq
 |any d=>intro v h;exact .any h.one_cell
 | @row id m z c hr h=>
  intro v hv;obtain⟨hn,h1,h2⟩:=hv;have hb:H' id=some (.row m z c):=by grind
  obtain⟨_,⟨hz,XB,iG⟩,gC⟩:=hR.rel id _ hb
  rcases h2 _ _ _ hb rfl with⟨a1,a2,rfl⟩|⟨b,cap,arr,T,a1,rfl,a3,a4⟩
  ·exact .empty _ _ XB a2
  ·by_cases h0:c.len=0
   ·rw[h0];exact .empty _ _ XB h0
   rcases gC with⟨q,_⟩|⟨b',jD,q1,q2,arr',T',e1,e2,e3,e4,e5,e6,e7⟩;omega
   ·rw[a1]at q1;cases q1;rw[a3]at e1;cases e1;have fZ:cap=jD:=by exact Ym
    subst fZ;refine .view b 0 cap z (λk=>arr.getD k undef) XB K0 hz e5 iG (λk hk=>?_) λi e j x he hx=>(e7 i e j x he hx).mono wW (Mem.le_refl _);exact abX
 | @az id z l es hr h hl he hc ov ih=>
  intro v hv;obtain⟨hn,h1,h2⟩:=hv;have hb:H' id=some (.az z l):=by grind
  obtain⟨_,⟨hz,iG⟩,gC⟩:=hR.rel id _ hb;have bD:(SC.view es).len =l.length:=hl
  rcases h2 _ _ _ hb rfl with⟨a1,a2,rfl⟩|⟨b,cap,arr,T,a1,rfl,a3,a4⟩
  ·exact .empty _ _ rfl K0
  ·by_cases h0:l.length=0
   ·rw[h0];exact .empty _ _ rfl K0
   rcases gC with⟨q,_⟩|⟨b',jD,arr',T',q1,q2,e1,e2,e3,e4⟩;omega
   ·rw[a1]at q1;cases q1;rw[a3]at e1;cases e1;have fZ:cap=jD:=by exact Ym
    subst fZ;rw[<- bD]
    have key: ∀(i:Nat) (e':List SC),es[i]? =some e'->∃e,l[i]? =some e/\e'.length=e.length:=λi e' hi=>by
     have al:=(kF.1 hi).1;have Pt:i<l.length:=by omega
     exact⟨l[i],by grind,he i l[i] e' bw hi⟩
    refine .view b 0 cap z (λk=>arr.getD k undef) rfl K0 hz K0 (λi e hi=>?_) (λk hk=>?_) λi e j x hi hx=>?_
    ·obtain⟨e0,g1,g2⟩:=key i e hi
     grind
    ·exact abX
    ·obtain⟨e0,g1,g2⟩:=key i e hi;have hj:=(kF.1 hx).1;have hj':j<e0.length:=by omega
     have hd:e0[j]? =some e0[j]:=by grind
     exact(ih i e0 e j e0[j] x g1 hi hd hx (e4 i e0 j e0[j] g1 hd)).flat (ov i e j x hi hx)
 | @dX id off cs hr h=>
  intro v hv;obtain⟨hn,b,jq,rfl⟩:=hv;have hb:H' id=some (.dX cs):=by grind
  obtain⟨_,b',arr,T,h1,h2,h3,h4,h5⟩:=hR.rel id _ hb;rw[jq]at h1;cases h1;exact qk h3 h4 λk x hx=>(h5 k x hx).mono wW hmr
 | @box id off t ds cs hr h hl hc ih=>
  intro v hv;obtain⟨hn,b,jq,rfl⟩:=hv;have hb:H' id=some (.box t ds):=by grind
  obtain⟨_,b',arr,T,h1,h2,h3,h4,h5⟩:=hR.rel id _ hb;rw[jq]at h1;cases h1;refine qk h3 K0 λk x hx=>?_;exact aim
 | @sS g id t ds cs hr h hl hc ih=>
  intro v hv;obtain⟨hn,b,jq,rfl⟩:=hv;have hb:H' id=some (.box t ds):=by grind
  obtain⟨_,b',arr,T,h1,h2,h3,h4,h5⟩:=hR.rel id _ hb;rw[jq]at h1;cases h1;have anL:dw (rd w) (rd w) (.pointer (some ⟨b,0,none⟩)) (.ref (cs.drop 0)):=qk h3 K0 λk x hx=>by exact aim
  refine .fn _ _ (λ_=> #[]) rfl rfl (λj c hj=>by grind) (λj c hj=>by grind) (λj c hj=>by grind) (λj c k x hj=>by grind) λj c hj=>?_
  cases j with
  |zero=>simp_all
  |succ j=>grind
 | @XH id z i off l e cs hr h hi hl hc ih=>
  intro v hv;obtain⟨hn,b,jq,rfl⟩:=hv;have hb:H' id=some (.az z l):=by grind
  obtain⟨_,⟨hz,iG⟩,gC⟩:=hR.rel id _ hb
  rcases gC with⟨q,_⟩|⟨b',jD,arr',T',q1,q2,e1,e2,e3,e4⟩
  grind
  ·rw[jq]at q1;cases q1;have hez:e.length=z:=iG i e hi;have am7:=(kF.1 hi).1;refine yq (o:=i*z) e1 ?_ λk x hx=>?_
   ·rw[e2,hl,hez];have:(i+1)*z<=jD*z:=kG z K0
    grind
   ·have hk:=(kF.1 hx).1;have qU:k<e.length:=by omega
    have hd:e[k]? =some e[k]:=by grind
    grind
 | @aem id z i off m c e hr h hi=>
  intro v hv;obtain⟨hn,b,jq,rfl⟩:=hv;have hb:H' id=some (.row m z c):=by grind
  obtain⟨_,⟨hz,XB,iG⟩,gC⟩:=hR.rel id _ hb
  rcases gC with⟨q,_⟩|⟨b',jD,q1,q2,arr',T',e1,e2,e3,e4,e5,e6,e7⟩
  grind
  ·rw[jq]at q1;cases q1;have hez:e.length=z:=iG i e hi;have am7:=SC.ip hi;refine yq (o:=i*z) e1 ?_ λk x hx=>(e7 i e k x hi hx).mono wW (dZ _);rw[e2,hez];have:(i+1)*z<=jD*z:=kG z K0
   grind
def VF (hG:bH C F)(hR:ad F β N H' w)(hH: ∀id∈R,H' id=H id){x:DX}{y:SV}(hf:yL H R x y){v:Value}(hv:ar F β N H' w v x):er (rd w) (rd w) v y:=by
 obtain⟨g,ds⟩:=x;obtain⟨g',cs⟩:=y;obtain⟨e,hl,hc⟩:=hf;simp only at e hl hc;subst e;cases g'
 ·obtain⟨c,Sk,hr⟩:=hv;simp only at Sk;subst Sk;obtain⟨c',rfl⟩:=xY.1 af2;exact⟨c',rfl,D5 hG hR hH (hc 0 c c' rfl rfl) hr⟩
 ·obtain⟨arr,h1,h2,h3⟩:=hv;simp only at h2 h3;refine⟨arr,h1,by grind,λk c hk=>?_⟩;simp only at hk;have al:=(kF.1 hk).1;have Pt:k<ds.length:=by omega
  have hd:ds[k]? =some ds[k]:=by grind
  grind[D5]
theorem nH {mv mr mv' CY:Mem}{v:Value}{c:SC}(hm:oJ c=true)(h:dw mv mr v c):dw mv' CY v c:=by
 unfold oJ at hm;split at hm
 ·cases h with
  |lit h=>exact .lit h
  |empty _ _ hv=>grind[SC.ao]
  |view _ _ _ _ _ hv=>grind[SC.ao]
 ·exact aic
 ·exact aiH
 ·exact aiH
 grind
def yM {mv mr mv' CY:Mem}{v:Value}{x:SV}(hm:D4 x=true)(h:er mv mr v x):er mv' CY v x:=by
 have hall: ∀c∈x.2,oJ c=true:=tM.1 hm;unfold er at*;split
 ·rename_i hx;rw[if_pos hx]at h
  grind[nH]
 ·rename_i hx;rw[if_neg hx]at h
  grind[nH]
def D6 {mv mv':Mem}{b z cap:Nat}{c:SC}(hl:JZ c)(h:Ml w' mv b z c cap):Ml w' mv' b z c cap:=by
 obtain⟨arr,T,h1,h2,h3,h4,h5,h6,h7⟩:=h;refine⟨arr,T,h1,h2,h3,h4,h5,h6,λi e j x he hx=>?_⟩;obtain⟨v,rfl⟩:=hl i e j x he hx;exact nH rfl (h7 i e j _ he hx)
theorem BE {mv mv':Mem}{n:Nat}{v:Value}{r:mc}(hm:J0 r)(h:qY mv n w' v r):qY mv' n w' v r:=by
 cases r with
 |one x=>exact yM hm h
 |aI l=>
  obtain⟨arr,h1,h2,h3⟩:=h;exact⟨arr,h1,h2,λk x hx=>yM (hm x (jH hx)) (h3 k x hx)⟩
 |own z c=>
  rcases h with h|⟨b,cap,h1,h2,h3⟩
  ·exact .inl h
  ·exact .inr ⟨b,cap,h1,h2,D6 hm h3⟩
 |mix t l z c=>
  obtain⟨vo,m,hvo,hr⟩:=h
  have cell: ∀ {m':Mem} {v:Value} {o:Option SC},(∀c,o=some c->oJ c=true)->P6 m vo v o->P6 m' vo v o:=by
   intro m' v o ho h
   cases o with
   |none=>exact h
   |some c=>exact nH (ho c rfl) h
  have anA: ∀ {m':Mem} {v:Value} {x:Bool × List (Option SC)},x∈l->Cc m vo v x->Cc m' vo v x:=by
   intro m' v x hx h;have ho: ∀ {k:Nat} {o:Option SC},x.2[k]? =some o->∀c,o=some c->oJ c=true:=λhk=>hm.2 x hx _ (jH hk);unfold Cc at*;split
   grind
   ·rename_i hg;rw[if_neg hg]at h;obtain⟨c,h1,h2⟩:=h;exact⟨c,h1,cell (ho (k:=0) bw) h2⟩
  have tail: ∀ {m':Mem},(if t then ∃arr,v= .tuple arr/\arr.size=l.length/\∀k x,l[k]? =some x->Cc m' vo (arr.getD k undef) x else ∃x,l= [x]/\Cc m' vo v x):=by grind
  rcases hvo with⟨a1,a2,a3,a4,a5,_⟩|⟨b,cap,a1,a2,a3,_⟩
  ·exact⟨vo,_,.inl ⟨a1,a2,a3,a4,a5,rfl⟩,tail⟩
  ·exact⟨vo,_,.inr ⟨b,cap,a1,a2,D6 hm.1 a3,rfl⟩,tail⟩
 |vh z c=>exact hm.elim
def iK {f:FuncId}{xs:List DX}{l:List SV}{r:mc}{rv:DV}{u:Hp}(hx:M6 H R xs l)(hs:nR C.P C.gl f l r)(hm:J0 r)
  (hk:i8 fid [] R (λa b c=>a=rv/\b=u/\c=R) r):bI C fid f xs H rv u R:=by
 rcases hs with hs|hs
 ·refine⟨hs.1,λF β N H' w vs hH hG hR hf nA hv=>?_⟩
  have dM:pg (rd w) (rd w) vs l:=by
   refine⟨by rw[nA,hx.1],λk y hk=>?_⟩;have al:=(kF.1 hk).1;have Pt:k<xs.length:=by rw[<- hx.1];omega
   have hd:xs[k]? =some xs[k]:=by grind
   exact VF hG hR hH (hx.2 k xs[k] y hd hk) (hv k xs[k] hd)
  refine(hs.2 (rd w) w vs (Mem.le_refl _) (eQ.later hG hR) dM).mono λe w1 he=>?_;obtain⟨v,rfl,tv,lE⟩:=he;have hg:ij C H' []:=ij.ku (λp hp=>by cases hp);obtain⟨cQ,r',u',R',⟨rfl,rfl,_⟩,q1,q2,q3⟩:=DE (K:=λa b c=>a=rv/\b=u/\c=R) (u:=[]) (rs:=R) (fid:=fid) hR (λh=>hf _ h rfl) hg tv (BE (mv':=MV F β H' w) hm lE) hk
  grind
 ·exact ajx
end
def acP {P:Program}{gl:tR}{f:FuncId}{g z cap:Nat}{cs:List SC}{es:List (List SC)}{rest:List SV}{r:mc}(hs:nR P gl f ((false,[.view es])::rest) r)(hm:J0 r)(hg:(g,cs)∈gl)(hz:0<z)(hn:0<es.length)
  (fZ:es.length<=cap)(bD: ∀e∈es,e.length=z)(UM: ∀(i:Nat) (e:List SC) (j:Nat) (x:SC),es[i]? =some e->e[j]? =some x->cs[i*z+j]? =some x):nR P gl f ((false,[.raw (.slice (some ⟨g,0,none⟩) es.length cap)])::rest) r:=by
 rcases hs with hs|hs
 ·refine .inl ⟨hs.1,λmv w vs wW hG hv=>?_⟩;obtain⟨nA,hv⟩:=hv;have alM: ∀(i:Nat) (e:List SC),(SC.view es).elem i=some e->e.length=z:=λi e he=>bD e (jH he)
  have dM:pg (rd w) (rd w) vs ((false,[.view es])::rest):=by
   refine⟨nA,λk x hk=>?_⟩
   cases k with
   |succ k=>exact(hv (k+1) x bw).mono wW (Mem.le_refl _)
   |zero=>
    simp only[UY,lM]at hk;subst hk;obtain⟨c,hc,hr⟩:=hv 0 _ rfl;simp only[Cb,sE]at hc;subst hc;generalize vs.getD 0 undef=v0 at hr
    cases hr with
    |empty _ _ hv=>grind[SC.ao]
    |view _ _ _ _ _ hv=>grind[SC.ao]
    |raw tk=>
     refine⟨_,rfl,?_⟩;have alL:es.length=(SC.view es).len :=rfl;have e8:=hG g cs hg;rw[alL];refine .view g 0 cap z (λk=>(rd w g k).getD undef) rfl hn hz fZ alM (λk hk=>?_) λi e j x he hx=>?_
     ·have hk:k<es.length*z:=hk;have h1:k/z<es.length:=Nat.div_lt_of_lt_mul bw;have h2:k%z<z:=tQ _ hz;have he:es[k/z]? =some es[k/z]:=by grind
      have hez:=bD _ (jH he);have hx:es[k/z][k%z]? =some es[k/z][k%z]:=by grind
      obtain⟨v,q1,_⟩:=e8.1 _ _ (UM _ _ _ _ he hx);have e1:k/z*z+k%z=k:=Nat.div_add_mod' k z
      grind
     ·obtain⟨v,q1,q2⟩:=e8.1 _ _ (UM _ _ _ _ he hx);rw[q1];exact q2.mono (dZ _) (Mem.le_refl _)
  exact(hs.2 (rd w) w vs (Mem.le_refl _) hG dM).mono λe w1 he=>let⟨v,h1,h2,h3⟩:=he;⟨v,h1,h2,BE hm h3⟩
 ·exact ajx
open Classical
def DC.rn (ρ:Nat->Nat):DC->DC
 | .ptr id off=>.ptr (ρ id) off
 | .own id=>.own (ρ id)
 | .cK id z i off=>.cK (ρ id) z i off
 | .mp id=>.mp (ρ id)
 | .sS g id=>.sS g (ρ id)
 | .st c=>.st c
 | .nil =>.nil
def cC.rn (ρ:Nat->Nat):cC->cC
 | .box t cs=>.box t (cs.map (DC.rn ρ))
 | .az z l=>.az z (l.map λe=>e.map (DC.rn ρ))
 | .dX cs=>.dX cs
 | .row m z c=>.row m z c
 | .map es=>.map es
def GR (ρ:Nat->Nat)(x:DX):DX:=(x.1,x.2.map (DC.rn ρ))
def LA (ρ:Nat->Nat):DV->DV
 | .val x=>.val (GR ρ x)
 | .aI l=>.aI (l.map (GR ρ))
def sG (ks:List Nat)(ρ:Nat->Nat):List (Nat × Nat):=ks.map λk=>(k,ρ k)
def jZ {ks:List Nat}{ρ:Nat->Nat}{o n:Nat}:(o,n)∈sG ks ρ↔o∈ks/\n=ρ o:=by
 simp only[sG,dC,ii];constructor
 ·rintro⟨k,hk,rfl,rfl⟩;exact⟨hk,rfl⟩
 ·rintro⟨hk,rfl⟩;exact⟨o,hk,rfl,rfl⟩
theorem vm {ks:List Nat}{ρ:Nat->Nat}{k:Nat}(h:k∈ks):bU (sG ks ρ) k=some (ρ k):=by
 induction ks with
 |nil=>cases h
 |cons a ks ih=>
  show bU ((a,ρ a)::sG ks ρ) k=_;simp only[bU];by_cases e:k=a
  ·subst e;simp
  ·have e':Nat.beq k a=false:=by
    cases hb:Nat.beq k a
    ·rfl
    ·exact absurd (pj hb) e
   rw[e'];exact ih ((cF.1 h).resolve_left e)
def Zh {ks:List Nat}{ρ:Nat->Nat}{d:DC}(h:d.dQ (· ∈ks)):na (sG ks ρ) d=some (d.rn ρ):=by
 cases d<;>simp only[na,DC.rn];all_goals(have h:_∈ks:=h;rw[vm h])
def nX {ks:List Nat}{ρ:Nat->Nat}: ∀ {l:List DC},(∀d∈l,d.dQ (· ∈ks))->eX (sG ks ρ) l=some (l.map (DC.rn ρ))
 | [],_=>rfl
 |d::l,h=>by
  simp only[eX];rw[Zh (h d je),nX λx hx=>h x (jt _ hx)];rfl
def If {ks:List Nat}{ρ:Nat->Nat}: ∀ {l:List DX},(∀x∈l,ec (· ∈ks) x)->kV (sG ks ρ) l=some (l.map (GR ρ))
 | [],_=>rfl
 |x::l,h=>by
  simp only[kV];rw[nX (h x je),If λy hy=>h y (jt _ hy)];rfl
def Ig {ks:List Nat}{ρ:Nat->Nat}{v:DV}(h:lH (· ∈ks) v):BD (sG ks ρ) v=some (LA ρ v):=by
 cases v with
 |val x=>simp only[BD];rw[nX h];rfl
 |aI l=>simp only[BD];rw[If h];rfl
def M7 {ks:List Nat}{ρ:Nat->Nat}: ∀ {l:List (List DC)},(∀e∈l,∀d∈e,d.dQ (· ∈ks))->fC (sG ks ρ) l=some (l.map λe=>e.map (DC.rn ρ))
 | [],_=>rfl
 |e::l,h=>by
  simp only[fC];rw[nX (h e je),M7 λx hx=>h x (jt _ hx)];rfl
def Qw {ks:List Nat}{ρ:Nat->Nat}{b:cC}(h:b.dQ (· ∈ks)):fq (sG ks ρ) b=some (b.rn ρ):=by
 cases b with
 |box t cs=>simp only[fq];rw[nX h];rfl
 |az z l=>simp only[fq];rw[M7 h];rfl
 |_=>rfl
structure nf (ks:List Nat) (ρ:Nat->Nat) (H H':HF):Prop where
 nd:ks.Nodup
 inj: ∀i∈ks,∀j∈ks,ρ i=ρ j->i=j
 dQ: ∀k b,H k=some b->b.dQ (· ∈ks)
 heap: ∀n b',H' n=some b'->∃o b,o∈ks/\n=ρ o/\H o=some b/\b'=b.rn ρ
def nf.ok {ks:List Nat}{ρ:Nat->Nat}{H H':HF}(h:nf ks ρ H H'):cZ (sG ks ρ) H H':=by
 refine⟨?_,?_,λn b' e=>?_⟩
 ·have:(sG ks ρ).map Prod.fst=ks:=by exact Yo
  rw[this];exact h.nd
 ·have:(sG ks ρ).map Prod.snd=ks.map ρ:=by exact Yo
  rw[this];have hn:=h.nd;have hi:=h.inj;clear h this
  induction ks with
  |nil=>exact Me
  |cons a ks ih=>
   rw[ju,Ah];rw[Ah]at hn;refine⟨λhm=>?_,ih hn.2 λi lA j hj=>hi i (jt _ lA) j (jt _ hj)⟩;obtain⟨k,hk,e⟩:=dC.1 hm;have:=hi k (jt _ hk) a je e;subst this;exact hn.1 hk
 ·obtain⟨o,b,h1,h2,h3,h4⟩:=h.heap n b' e;exact⟨o,b,jZ.2 ⟨h1,h2⟩,h3,by rw[h4];exact Qw (h.dQ o b h3)⟩
section
variable {C:bS}{f:FuncId}{nx nx0:Nat}{xs xs0:List DX}{Hs Hs0 mq Hs1:Hp}{fI:List Nat}{r:DV}{ks:List Nat}{ρ:Nat->Nat}
def bA.inn (h:bA C f nx (xs0.map (GR ρ)) Hs fI r mq)(hR:nf ks ρ Hs0.get Hs.get)(hall: ∀o b,Hs0.get o=some b->o∈ks/\Hs.get (ρ o)=some (b.rn ρ))(io: ∀k∈ks,tag (ρ k)<nx)(Cv: ∀x∈xs0,ec (· ∈ks) x)
  (qT: ∀id∈fI,id∈ks/\ρ id=id):bA C f nx0 xs0 Hs0 fI r mq:=by
 have e8:=hR.ok;refine⟨h.1,λF β N w vs hG C2 jo hH hN nA hv=>?_⟩;have hH2:=e8.nC hH;have e: ∀ {k:Nat},k∈ks->pR (sG ks ρ) β (ρ k)=β k:=λhk=>e8.kJ (jZ.2 ⟨hk,rfl⟩);refine(h.2 F (pR (sG ks ρ) β) (yH (sG ks ρ)) w vs hG C2 (λb hb=>?_) hH2 (λid hid=>?_) (by rw[nA];simp) (λk x hk=>?_)).mono λe' w' he=>?_
 ·obtain⟨id,bC,q1,q2⟩:=jo b hb;obtain⟨q3,q4⟩:=hall id bC q1;exact⟨ρ id,_,q4,by rw[e q3];exact q2⟩
 ·obtain⟨o,ho⟩:=hid;obtain⟨q1,q2⟩:=jZ.1 ho;rw[q2];exact io o q1
 ·exact ahZ
 ·obtain⟨v,cQ,N',rfl,q1,q2,q3⟩:=he;refine⟨v,cQ,N',rfl,q1,q2,λid hid=>?_⟩;obtain⟨b,g1,g2⟩:=q3 id hid;obtain⟨g3,g4⟩:=qT id hid;refine⟨b,?_,g2⟩;rw[<- e g3,g4];exact g1
def bA.out (h:bA C f nx xs Hs fI r mq)(hR:nf ks ρ mq.get Hs1.get)(hr:lH (· ∈ks) r)(qT: ∀id∈fI,id∈ks/\ρ id=id):bA C f nx xs Hs fI (LA ρ r) Hs1:=by
 have e8:=hR.ok;refine⟨h.1,λF β N w vs hG C2 jo hH hN nA hv=>(h.2 F β N w vs hG C2 jo hH hN nA hv).mono λe' w' he=>?_⟩;obtain⟨v,cQ,N',rfl,q1,q2,q3⟩:=he;refine⟨v,pR (sG ks ρ) cQ,yH (sG ks ρ),rfl,e8.nC q1,e8.wv q2 (Ig hr),λid hid=>?_⟩;obtain⟨b,g1,g2⟩:=q3 id hid;obtain⟨g3,g4⟩:=qT id hid;refine⟨b,g1,?_⟩;have:=e8.kJ (β:=cQ) (jZ.2 ⟨g3,rfl⟩);rw[g4]at this;rw[this];exact g2
end
def aq (n root id:Nat):Nat:=match Nat.beq id root with
 |true=>id
 |false=>2*(n*4294967296+id)+1
def kf (n root:Nat):aq n root root=root:=by simp[aq]
def qu {n root id:Nat}(h:id≠root):aq n root id=2*(n*4294967296+id)+1:=by
 have e':Nat.beq id root=false:=by
  cases hb:Nat.beq id root
  ·rfl
  ·exact absurd (pj hb) h
 simp[aq,e']
theorem J1 {id:Nat}(h:id%2=1):tag id=id/8589934592:=by
 unfold tag;rw[h]
def acQ {n k:Nat}(hk:k<4294967296):(2*(n*4294967296+k)+1)/8589934592=n:=by
 have e:2*(n*4294967296+k)+1=(2*k+1)+8589934592*n:=by omega
 rw[e,Nat.add_mul_div_left _ _ K0,Nat.div_eq_of_lt K0,j9]
def qw {n root id:Nat}(h:id≠root)(hl:id<4294967296):tag (aq n root id)=n:=by rw[qu h,J1 K0,acQ hl]
def Ih {n root:Nat}{i j:Nat}(hi:i<4294967296)(hj:j<4294967296)(hr:tag root≠n\/root<2*(n*4294967296)+1)(h:aq n root i=aq n root j):i=j:=by
 by_cases h1:i=root
 ·by_cases h2:j=root
  ·rw[h1,h2]
  ·exfalso;subst h1;have ht:=qw (n:=n) h2 hj;rw[kf]at h;rw[<- h]at ht;rcases hr with hr|hr
   ·exact hr ht
   ·rw[qu h2]at h;omega
 ·by_cases h2:j=root
  ·exfalso;subst h2;have ht:=qw (n:=n) h1 hi;rw[kf]at h;rw[h]at ht;rcases hr with hr|hr
   ·exact hr ht
   ·rw[qu h1]at h;omega
  ·rw[qu h1,qu h2]at h;omega
abbrev ah (T:Hp):List Nat:=T.map Prod.fst
def cT (ρ:Nat->Nat)(T:Hp):Hp:=T.map λp=>(ρ p.1,p.2.map (cC.rn ρ))
theorem dp (ρ:Nat->Nat)(T:Hp):ah (cT ρ T)=(ah T).map ρ:=by simp[ah,cT,GC]
def jQ {ρ:Nat->Nat}: ∀ {T:Hp},(∀i∈ah T,∀j∈ah T,ρ i=ρ j->i=j)->∀k∈ah T,(cT ρ T).get (ρ k)=(T.get k).map (cC.rn ρ)
 | [],_,k,hk=>by cases hk
 |(a,b)::T,hi,k,hk=>by
  show Hp.get ((ρ a,b.map (cC.rn ρ))::cT ρ T) (ρ k)=_;rw[Hp.au,Hp.au];by_cases e:k=a
  ·subst e;rw[an,an]
  ·have qU:k∈ah T:=(cF.1 hk).resolve_left e;rw[aG _ _ _ e,aG _ _ _ λh=>e (hi k hk a je h)];exact jQ (λi h1 j h2=>hi i (jt _ h1) j (jt _ h2)) k qU
structure LB (T:Hp) (root:Nat):Prop where
 nd:(ah T).Nodup
 lt: ∀k∈ah T,k<4294967296/\tag k=0
 dQ: ∀k b,T.get k=some b->b.dQ (· ∈ah T)
 root: ∃t cs,T.get root=some (.box t cs)
def LB.xW {T:Hp}{root:Nat}(h:LB T root):root∈ah T:=by
 obtain⟨t,cs,e⟩:=h.root;exact Hp.dU e
def nf.hp {T:Hp}{root:Nat}(hT:LB T root){ρ:Nat->Nat}(hi: ∀i∈ah T,∀j∈ah T,ρ i=ρ j->i=j):nf (ah T) ρ T.get (cT ρ T).get :=by
 refine⟨hT.nd,hi,hT.dQ,λn b' e=>?_⟩;have hk:=Hp.dU e;have LH:n∈(ah T).map ρ:=by rw[<- dp];exact hk
 obtain⟨k,hk3,rfl⟩:=dC.1 LH;rw[jQ hi k hk3]at e
 cases hg:T.get k with
 |none=>rw[hg]at e;cases e
 |some b=>rw[hg]at e;simp only[ya,lM]at e;exact⟨k,b,hk3,rfl,hg,e.symm⟩
def J2 {ρ:Nat->Nat}{ok:Nat->Prop}{b:cC}(h:b.dQ λk=>ok (ρ k)):(b.rn ρ).dQ ok:=by
 have hd: ∀d:DC,(d.dQ λk=>ok (ρ k))->(d.rn ρ).dQ ok:=by intro d hd;cases d<;>exact hd
 cases b with
 |box t cs=>
  intro d xG;obtain⟨d0,h0,rfl⟩:=dC.1 xG;exact hd d0 (h d0 h0)
 |az z l=>
  intro e he d xG;obtain⟨e0,h0,rfl⟩:=dC.1 he;obtain⟨d0,h1,rfl⟩:=dC.1 xG;exact hd d0 (h e0 h0 d0 h1)
 |_=>trivial
def D7 {ρ:Nat->Nat}{ok:Nat->Prop}{x:DX}(h:ec (λk=>ok (ρ k)) x):ec ok (GR ρ x):=by
 intro d xG;obtain⟨d0,h0,rfl⟩:=dC.1 xG;have:=h d0 h0;cases d0<;>exact this
def yN {ρ:Nat->Nat}{ok:Nat->Prop}{v:DV}(h:lH (λk=>ok (ρ k)) v):lH ok (LA ρ v):=by
 cases v with
 |val x=>exact D7 h
 |aI l=>
  intro x hx;obtain⟨x0,h0,rfl⟩:=dC.1 hx;exact D7 (h x0 h0)
def DC.dN {ok ok':Nat->Prop}(hm: ∀k,ok k->ok' k){d:DC}(h:d.dQ ok):d.dQ ok':=by cases d<;>first|trivial|exact hm _ h
def cC.dN {ok ok':Nat->Prop}(hm: ∀k,ok k->ok' k){b:cC}(h:b.dQ ok):b.dQ ok':=by
 cases b with
 |box t cs=>exact λd hd=>DC.dN hm (h d hd)
 |az z l=>exact λe he d hd=>DC.dN hm (h e he d hd)
 |_=>trivial
def rK {ok ok':Nat->Prop}(hm: ∀k,ok k->ok' k){v:DV}(h:lH ok v):lH ok' v:=by
 cases v with
 |val x=>exact λd hd=>DC.dN hm (h d hd)
 |aI l=>exact λx hx d hd=>DC.dN hm (h x hx d hd)
section
variable {C:bS}{f:FuncId}{fid nx root:Nat}{xs:List DX}{T T':Hp}{r:DV}{H:HF}
def D8 (hT:LB T root)(hf:tag fid≠0\/root<2*(tag fid*4294967296)+1): ∀i∈ah T,∀j∈ah T,aq (tag fid) root i=aq (tag fid) root j->i=j:=
 λi hi j hj h=>Ih (hT.lt i hi).1 (hT.lt j hj).1 (by
  rcases hf with hf|hf
  ·exact .inl (by rw[(hT.lt root hT.xW).2];exact λe=>hf e.symm)
  ·exact .inr hf) h
def xb (h:bA C f nx xs T [root] r T')(hT:LB T root)(eP:LB T' root)(io:1<=nx)(hf:tag fid≠0)(hs: ∀id∈ah T,T.get id=H id)(Cv: ∀x∈xs,ec (· ∈ah T) x)(hr:lH (· ∈ah T') r):
  bI C fid f xs H (LA (aq (tag fid) root) r) (cH T (cT (aq (tag fid) root) T')) (ah T):=by
 have hi:=D8 (fid:=fid) eP (.inl hf)
 have hg:=h.out (nf.hp eP hi) hr λid hid=>by
  rw[mA]at hid;subst hid;exact⟨eP.xW,kf _ _⟩
 have mb: ∀k∈ah T',aq (tag fid) root k∈[root]\/tag (aq (tag fid) root k)=tag fid:=λk hk=>by
  by_cases e:k=root
  ·subst e;rw[kf];exact .inl (by simp)
  ·exact .inr (qw e (eP.lt k hk).1)
 refine gr hg (λid hid=>by rw[(hT.lt id hid).2];omega) hs hT.dQ Cv (λid hid=>?_) (λid hid=>?_) (λid b e=>?_) (yN (rK mb hr))
 ·rw[mA]at hid;subst hid;refine⟨hT.root,λb' e=>?_⟩;obtain⟨t,cs,e0⟩:=eP.root;have:=jQ hi id eP.xW;rw[kf,e0]at this;rw[this]at e;cases e;exact⟨t,_,rfl⟩
 ·have hid:id∈ah (cT (aq (tag fid) root) T'):=hid;exact aiZ
 ·obtain⟨o,b0,h1,rfl,h3,rfl⟩:=(nf.hp eP hi).heap id b e;exact J2 (cC.dN mb (eP.dQ o b0 h3))
end
section
variable {m:List (Nat × Nat)}{ρ:Nat->Nat}{ok:Nat->Prop}
def VG (h: ∀k,ok k->bU m (ρ k)=some k){d:DC}(hd:d.dQ ok):na m (d.rn ρ)=some d:=by
 cases d<;>simp only[na,DC.rn];all_goals(have hd:ok _:=hd;rw[h _ hd])
theorem xd (h: ∀k,ok k->bU m (ρ k)=some k): ∀ {l:List DC},(∀d∈l,d.dQ ok)->eX m (l.map (DC.rn ρ))=some l
 | [],_=>rfl
 |d::l,hd=>by
  simp only[ju,eX];rw[VG h (hd d je),xd h λx hx=>hd x (jt _ hx)]
theorem Ii (h: ∀k,ok k->bU m (ρ k)=some k): ∀ {l:List (List DC)},(∀e∈l,∀d∈e,d.dQ ok)->fC m (l.map λe=>e.map (DC.rn ρ))=some l
 | [],_=>rfl
 |e::l,hd=>by
  simp only[ju,fC];rw[xd h (hd e je),Ii h λx hx=>hd x (jt _ hx)]
theorem px (h: ∀k,ok k->bU m (ρ k)=some k){b:cC}(hd:b.dQ ok):fq m (b.rn ρ)=some b:=by
 cases b with
 |box t cs=>simp only[fq,cC.rn];rw[xd h hd]
 |az z l=>simp only[fq,cC.rn];rw[Ii h hd]
 |_=>rfl
end
theorem DC.LN (d:DC):d.rn (λk=>k)=d:=by cases d<;>rfl
theorem cC.LN (b:cC):b.rn (λk=>k)=b:=by
 have h:(DC.rn λk=>k)=λd=>d:=funext DC.LN
 cases b with
 |box t cs=>simp[cC.rn,h]
 |az z l=>simp[cC.rn,h]
 |_=>rfl
theorem kW {m m':List (Nat × Nat)}{k:Nat}:bU (m++m') k=match bU m k with
  |some n=>some n
  |none=>bU m' k:=by
 induction m with
 |nil=>rfl
 |cons p m ih=>
  obtain⟨o,n⟩:=p;simp only[qX,bU];cases Nat.beq k o
  ·exact ih
  ·rfl
def D9 {m:List (Nat × Nat)}{k:Nat}(h:k∉m.map Prod.fst):bU m k=none:=by
 cases e:bU m k with
 |none=>rfl
 |some n=>exact absurd (dC.2 ⟨_,Aw e,rfl⟩) h
def gw (ρ:Nat->Nat)(T:Hp)(R:Hp):List (Nat × Nat):=sG (ah R) (λk=>k)++(ah T).map λk=>(ρ k,k)
def Ea {ρ:Nat->Nat}{T R:Hp}(hi: ∀i∈ah T,∀j∈ah T,ρ i=ρ j->i=j)(hd: ∀k∈ah T,ρ k∉ah R): ∀k∈ah T,bU (gw ρ T R) (ρ k)=some k:=by
 intro k hk;unfold gw
 rw[kW,D9 (by
  have:(sG (ah R) λk=>k).map Prod.fst=ah R:=by exact Yo
  rw[this];exact hd k hk)]
 simp only
 have key: ∀l:List Nat,(∀i∈l,i∈ah T)->k∈l->bU (l.map λk=>(ρ k,k)) (ρ k)=some k:=by
  intro l
  induction l with
  |nil=>intro _ h;cases h
  |cons a l ih=>
   intro hl sC;simp only[ju,bU];by_cases e:ρ k=ρ a
   ·have:=hi k hk a (hl a je) e;subst this;simp
   ·have e':Nat.beq (ρ k) (ρ a)=false:=by
     cases hb:Nat.beq (ρ k) (ρ a)
     ·rfl
     ·exact absurd (pj hb) e
    rw[e'];refine ih (λi lA=>hl i (jt _ lA)) ((cF.1 sC).resolve_left λh=>e (by rw[h]))
 exact key _ (λi h=>h) hk
def Eb {root fid nx n':Nat}{T T' R hp:Hp}{E E':dS}{ks:List Nat}(hT:LB T root)(eP:LB T' root)(hf:tag fid≠0)(hR:(ah R).Nodup)(hRk: ∀k∈ah R,k∉ah T'/\k∉ah T/\tag k≠tag fid/\tag k<n')
  (hRg: ∀id b,R.get id=some b->hp.get id=some b/\b.dQ λk=>k∈ah R\/k=root)(hn:0<n')(hE:eZ (gw (aq (tag fid) root) T' R) E.get ks=some E'):
  bu ⟨E,cH T (cT (aq (tag fid) root) T')++hp,nx⟩ ⟨E',T'++R,n'⟩:=by
 have hi:=D8 (fid:=fid) eP (.inl hf)
 have mb: ∀k∈ah T',aq (tag fid) root k∉ah R:=λk hk hm=>by
  obtain⟨h1,_,h3,_⟩:=hRk _ hm;by_cases e:k=root
  ·subst e;rw[kf]at h1;exact h1 hk
  ·exact h3 (qw e (eP.lt k hk).1)
 have UJ:=Ea hi mb
 have qT:bU (gw (aq (tag fid) root) T' R) root=some root:=by
  have:=UJ root eP.xW;rwa [kf]at this
 have jo: ∀k,(k∈ah R\/k=root)->bU (gw (aq (tag fid) root) T' R) k=some k:=by
  rintro k (hk|rfl)
  ·unfold gw;rw[kW,vm hk]
  ·exact qT
 have e8:cZ (gw (aq (tag fid) root) T' R) (Hp.get (cH T (cT (aq (tag fid) root) T')++hp)) (Hp.get (T'++R)):=by
  refine⟨?_,?_,λn b' e=>?_⟩
  ·have:(gw (aq (tag fid) root) T' R).map Prod.fst=ah R++(ah T').map (aq (tag fid) root):=by simp[gw,sG,GC]
   rw[this,LZ];refine⟨hR,?_,λa ha b hb R3=>?_⟩
   ·have Cu:=(nf.hp eP hi).ok.news;have:(sG (ah T') (aq (tag fid) root)).map Prod.snd=(ah T').map (aq (tag fid) root):=by exact Yo
    rwa [this]at Cu
   ·subst R3;obtain⟨k,hk,rfl⟩:=dC.1 hb;exact mb k hk ha
  ·have:(gw (aq (tag fid) root) T' R).map Prod.snd=ah R++ah T':=by simp[gw,sG,GC]
   rw[this,LZ];exact⟨hR,eP.nd,λa ha b hb R3=>by subst R3;exact(hRk a ha).1 hb⟩
  ·rw[Hp.get_append,oI]at e;by_cases hn:n∈ah T'
   ·rw[if_pos hn]at e;refine⟨aq (tag fid) root n,b'.rn (aq (tag fid) root),?_,?_,px UJ (eP.dQ n b' e)⟩
    ·unfold gw;exact ig.2 (.inr (dC.2 ⟨n,hn,rfl⟩))
    ·rw[Hp.get_append,ur,if_pos (by show _∈ah _;rw[dp];exact dC.2 ⟨n,hn,rfl⟩),jQ hi n hn,e];rfl
   ·rw[if_neg hn]at e;have hk:=Hp.dU e;obtain⟨h1,h2,h3,h4⟩:=hRk n hk;obtain⟨g1,g2⟩:=hRg n b' e;refine⟨n,b',?_,?_,?_⟩
    ·exact ain
    ·rw[Hp.get_append,ur,if_neg,if_neg h2]
     ·exact g1
     ·intro hm;have hm:n∈ah (cT (aq (tag fid) root) T'):=hm;rw[dp]at hm;obtain⟨k,qU,rfl⟩:=dC.1 hm;exact mb k qU hk
    ·have:=px (ρ:=λk=>k) jo g2;rwa [cC.LN]at this
 rintro F nt a w ⟨N,⟨q1,q2,q0,β,q3,q4⟩,q5⟩;refine⟨yH _,⟨q1,q2,q0,pR _ β,λs d' e=>?_,e8.nC q4⟩,?_⟩
 ·exact abW
 ·rintro id ⟨o,ho⟩;unfold gw at ho;rcases ig.1 ho with ho|ho
  ·obtain⟨h1,h2⟩:=jZ.1 ho;rw[h2];exact(hRk o h1).2.2.2
  ·obtain⟨k,hk,e⟩:=dC.1 ho;simp only[ii]at e;obtain⟨_,rfl⟩:=e;rw[(eP.lt _ hk).2];exact hn
end Go.Fw
namespace Go.Fw
open Go.RowKit (Below)
def B (l:List UInt8):ByteArray:=⟨l.toArray⟩
abbrev lS (l:List UInt8):Option DV:=some (lit (.string (B l)))
theorem jG (l:List UInt8):(B l).data.toList =l:=by simp[B]
theorem lU (l:List UInt8):(B l).size =l.length:=by rw[Lib.size_eq,jG]
def acR (s:ByteArray):B s.data.toList=s:=Lib.mk_data s
theorem akC (a b:List UInt8):B a++B b=B (a++b):=by
 rw[<- acR (B a++B b)];exact aP B (by simp[B])
def Zi (l:List UInt8):(B l).toList =l:=by rw[Lib.toList_data,jG]
theorem akD (l:List UInt8)(i:Nat):(B l)[i]? =l[i]? :=by
 have:(B l)[i]? =(B l).data[i]? :=by
  simp only[getElem?_def];rfl
 rw[this];simp[B]
theorem Zj (l:List UInt8)(a b:Nat):(B l).extract a b=B ((l.take b).drop a):=by
 rw[Lib.extract_eq,jG];show(⟨_⟩:ByteArray)=⟨_⟩;congr 2;rw[List.drop_take]
section
variable {C:bS}{fid:Nat}{o:Oper}{E:dS}{H:Hp}{t:bn}{k:dS->Hp->bn->Prop}{T:TypeId}{x y:Operand}{p:TypeId}{a b:List UInt8}
def J3 {op:BinOp}(ho:o.op= .binOp op T x y p)(hx:C.ev E.get x=lS a)(hy:C.ev E.get y=lS b):fk C fid o (C.ev E.get) H.get=λK=>w5 op (B a) (B b) λv=>K (lit v) [] []:=by
 funext K;unfold fk;rw[ho];simp only[hx,hy,Mo];unfold rc;cases op<;>rfl
def aeK (ho:o.op= .binOp .add T x y p)(hx:C.ev E.get x=lS a)(hy:C.ev E.get y=lS b)(hb:a.length+b.length<=1000000000000)
  (h2:eh o.dst (lit (.string (B (a++b)))) E λE'=>k E' H (([],[])::t)):cS C fid o E H t k:=by
 refine rG (r:=lit (.string (B (a++b)))) (u:=[]) (R:=[]) (λK hK=>?_) h2;rw[J3 ho hx hy];exact⟨by grind[lU],by grind[akC]⟩
def akE (ho:o.op= .binOp .eql T x y p)(hx:C.ev E.get x=lS a)(hy:C.ev E.get y=lS b)
  (h2:eh o.dst (lit (.bool (decide (a=b)))) E λE'=>k E' H (([],[])::t)):cS C fid o E H t k:=by
 refine rG (r:=lit (.bool (decide (a=b)))) (u:=[]) (R:=[]) (λK hK=>?_) h2;rw[J3 ho hx hy];show K (lit (.bool ((B a).toList ==(B b).toList))) [] [];exact ajd
def akF (ho:o.op= .binOp .neq T x y p)(hx:C.ev E.get x=lS a)(hy:C.ev E.get y=lS b)
  (h2:eh o.dst (lit (.bool (!decide (a=b)))) E λE'=>k E' H (([],[])::t)):cS C fid o E H t k:=by
 refine rG (r:=lit (.bool (!decide (a=b)))) (u:=[]) (R:=[]) (λK hK=>?_) h2;rw[J3 ho hx hy];show K (lit (.bool !((B a).toList ==(B b).toList))) [] [];exact ajd
def aeL {c:Call}{i:TI}{tt:TypeId}{ts:List TypeId}(ho:o.op= .call c)(hc:c.callee= .builtin .len)(ha:c.argTypes.toList=tt::ts)(hx:(c.args.toList.map (C.ev E.get))= [lS a])(hi:C.ti tt=some i)(jc:i.b8= .str)
  (h2:eh o.dst (lit (.int .i64 (a.length:Nat))) E λE'=>k E' H (([],[])::t)):cS C fid o E H t k:=by
 refine rG (r:=lit (.int .i64 (a.length:Nat))) (u:=[]) (R:=[]) (λK hK=>?_) h2
 grind[fk,eV,lit,lU]
def aeM {i:TI}{zz:Int}{n:Nat}{k':IntKind} [nz:dJ zz n](ho:o.op= .index T x y)(hx:C.ev E.get x=lS a)(hy:C.ev E.get y=some (lit (.int k' zz)))(hi:C.ti T=some i)(jc:i.b8= .str)(hb:0<=zz/\n<a.length)
  (h2:eh o.dst (lit (.int .u8 ((a.getD n 0).toNat :Nat))) E λE'=>k E' H (([],[])::t)):cS C fid o E H t k:=by
 refine rG (r:=lit (.int .u8 ((a.getD n 0).toNat :Nat))) (u:=[]) (R:=[]) (λK hK=>?_) h2;unfold fk;rw[ho];simp only[hx,hy];simp only[tU,hi,jc];refine⟨hb.1,a.getD n 0,?_,hK⟩;have e:zz.toNat=n:=by rw[nz.eq];simp
 grind[akD]
def aeN {i:TI}{zz:Int}{n:Nat}{k':IntKind} [nz:dJ zz n](ho:o.op= .slice T x (some y) none none)(hx:C.ev E.get x=lS a)(hy:C.ev E.get y=some (lit (.int k' zz)))(hi:C.ti T=some i)(jc:i.b8= .str)(hb:0<=zz/\n<=a.length)
  (h2:eh o.dst (lit (.string (B (a.drop n)))) E λE'=>k E' H (([],[])::t)):cS C fid o E H t k:=by
 refine rG (r:=lit (.string (B (a.drop n)))) (u:=[]) (R:=[]) (λK hK=>?_) h2;have e:zz.toNat=n:=by rw[nz.eq];simp
 unfold fk;rw[ho];simp only[hx,ya,hy,S8];simp only[gm,hi,jc,Gz];refine⟨hb.1,⟨by grind[lU],dG _⟩,?_⟩
 grind[lU,Zj]
def aeO {i:TI}{zz:Int}{n:Nat}{k':IntKind} [nz:dJ zz n](ho:o.op= .slice T x none (some y) none)(hx:C.ev E.get x=lS a)(hy:C.ev E.get y=some (lit (.int k' zz)))(hi:C.ti T=some i)(jc:i.b8= .str)(hb:0<=zz/\n<=a.length)
  (h2:eh o.dst (lit (.string (B (a.take n)))) E λE'=>k E' H (([],[])::t)):cS C fid o E H t k:=by
 refine rG (r:=lit (.string (B (a.take n)))) (u:=[]) (R:=[]) (λK hK=>?_) h2;have e:zz.toNat=n:=by rw[nz.eq];simp
 unfold fk;rw[ho];simp only[hx,ya,hy,S8];simp only[gm,hi,jc,Gz];refine⟨hb.1,⟨dz _,by grind[lU]⟩,?_⟩
 grind[Zj]
def aeP {i:TI}{zz yy:Int}{n m:Nat}{k' k'':IntKind}{z:Operand} [nz:dJ zz n] [ny:dJ yy m](ho:o.op= .slice T x (some y) (some z) none)(hx:C.ev E.get x=lS a)(hy:C.ev E.get y=some (lit (.int k' zz)))(hz:C.ev E.get z=some (lit (.int k'' yy)))(hi:C.ti T=some i)(jc:i.b8= .str)(hb:(0<=zz/\0<=yy)/\n<=m/\m<=a.length)
  (h2:eh o.dst (lit (.string (B ((a.take m).drop n)))) E λE'=>k E' H (([],[])::t)):cS C fid o E H t k:=by
 refine rG (r:=lit (.string (B ((a.take m).drop n)))) (u:=[]) (R:=[]) (λK hK=>?_) h2;have e:zz.toNat=n:=by rw[nz.eq];simp
 have e':yy.toNat=m:=by rw[ny.eq];simp
 unfold fk;rw[ho];simp only[hx,ya,hy,hz];simp only[gm,hi,jc,Gz];refine⟨hb.1.1,hb.1.2,⟨by omega,by grind[lU]⟩,?_⟩
 grind[Zj]
end
section
variable {C:bS}{fid:Nat}{o:Oper}{E:dS}{H:Hp}{t:bn}{k:dS->Hp->bn->Prop}{T:TypeId}{x y:Operand}{p:TypeId}
def aeQ {a b:Int}(ho:o.op= .binOp .sub T x y p)(hx:C.ev E.get x=some (lit (.int .u8 a)))(hy:C.ev E.get y=some (lit (.int .u8 b)))(hb:0<=a -b/\a -b<=255)
  (h2:eh o.dst (lit (.int .u8 (a -b))) E λE'=>k E' H (([],[])::t)):cS C fid o E H t k:=by
 refine rG (r:=lit (.int .u8 (a -b))) (u:=[]) (R:=[]) (λK hK=>?_) h2;have e:IntKind.u8.wrap (a -b)=a -b:=by grind[IntKind.wrap_u8]
 unfold fk;rw[ho];simp only[hx,hy,lit,Mo];show K (lit (.int .u8 (IntKind.u8.wrap (a -b)))) [] []
 grind
def TH {i j:TI}{kd ks k':IntKind}{n:Int}{S:TypeId}(ho:o.op= .convert S T x)(hx:C.ev E.get x=some (lit (.int k' n)))(hi:C.ti S=some i)(hj:C.ti T=some j)(hs:i.b8= .int ks)(hd:j.b8= .int kd)(hb:kd.wrap n=n)
  (h2:eh o.dst (lit (.int kd n)) E λE'=>k E' H (([],[])::t)):cS C fid o E H t k:=by
 refine rG (r:=lit (.int kd n)) (u:=[]) (R:=[]) (λK hK=>?_) h2
 grind[fk,lit,yi]
def cvI {n:Int}(h: -9223372036854775808<=n/\n<=9223372036854775807):IntKind.i64.wrap n=n:=IntWalk.i64_in n h
def cv8 {n:Int}(h:0<=n/\n<=255):IntKind.u8.wrap n=n:=by grind[IntKind.wrap_u8]
end
open Classical
section
variable {C:bS}{F:gG}{β:Nat->Option Nat}{N:Nat->Prop}{H H':HF}{fid:Nat}{w w':World}{R:List Nat}
theorem Ec (Gj:F.pure)(hR:ad F β N H w){d:DC}{c:SC}(hf:Full H R d c):c.flat=true->∀ {v:Value},cw F β N H w v d->dw (dV F.PL F.base w) eU v c:=by
 have eA:=yG (F:=F) (β:=β) (H:=H) (w:=w) Gj;have Jb: ∀ {b o:Nat} {v:Value},F.dE b->rd w b o=some v->dV F.PL F.base w b o=some v:=λhb h=>by unfold dV;rw[if_pos (Gj.base hb)];exact h
 induction hf with
 |st c=>intro ov v h;exact(dw.mono eA (Mem.le_refl _) h).flat ov
 |nil k=>intro _ v h;have h:v= .slice none 0 0:=h;subst h;exact .empty _ _ Yq Yq
 |any d=>intro _ v h;exact .any h.one_cell
 | @row id m z c hr h=>
  intro ov v hv;obtain⟨hn,h1,h2⟩:=hv;obtain⟨_,⟨hz,XB,iG⟩,gC⟩:=hR.rel id _ h
  rcases h2 _ _ _ h rfl with⟨a1,a2,rfl⟩|⟨b,cap,arr,T,a1,rfl,a3,a4⟩
  ·exact .empty _ _ XB a2
  ·by_cases h0:c.len=0
   ·rw[h0];exact .empty _ _ XB h0
   rcases gC with⟨q,_⟩|⟨b',jD,q1,q2,arr',T',e1,e2,e3,e4,e5,e6,e7⟩;omega
   ·rw[a1]at q1;cases q1;rw[a3]at e1;cases e1;have fZ:cap=jD:=by exact Ym
    subst fZ;refine .view b 0 cap z (λk=>arr.getD k undef) XB K0 hz e5 iG (λk hk=>?_) λi e j x he hx=>(e7 i e j x he hx).mono eA (Mem.le_refl _);exact abX
 | @az id z l es hr h hl he hc ov ih=>
  intro _ v hv;obtain⟨hn,h1,h2⟩:=hv;obtain⟨_,⟨hz,iG⟩,gC⟩:=hR.rel id _ h;have bD:(SC.view es).len =l.length:=hl
  rcases h2 _ _ _ h rfl with⟨a1,a2,rfl⟩|⟨b,cap,arr,T,a1,rfl,a3,a4⟩
  ·exact .empty _ _ rfl K0
  ·by_cases h0:l.length=0
   ·rw[h0];exact .empty _ _ rfl K0
   rcases gC with⟨q,_⟩|⟨b',jD,arr',T',q1,q2,e1,e2,e3,e4⟩;omega
   ·rw[a1]at q1;cases q1;rw[a3]at e1;cases e1;have fZ:cap=jD:=by exact Ym
    subst fZ;rw[<- bD]
    have key: ∀(i:Nat) (e':List SC),es[i]? =some e'->∃e,l[i]? =some e/\e'.length=e.length:=λi e' hi=>by
     have al:=(kF.1 hi).1;have Pt:i<l.length:=by omega
     exact⟨l[i],by grind,he i l[i] e' bw hi⟩
    refine .view b 0 cap z (λk=>arr.getD k undef) rfl K0 hz K0 (λi e hi=>?_) (λk hk=>?_) λi e j x hi hx=>?_
    ·obtain⟨e0,g1,g2⟩:=key i e hi
     grind
    ·exact abX
    ·obtain⟨e0,g1,g2⟩:=key i e hi;have hj:=(kF.1 hx).1;have hj':j<e0.length:=by omega
     have hd:e0[j]? =some e0[j]:=by grind
     exact ih i e0 e j e0[j] x g1 hi hd hx (ov i e j x hi hx) (e4 i e0 j e0[j] g1 hd)
 |dX=>intro ov;cases ov
 |box=>intro ov;cases ov
 |XH=>intro ov;cases ov
 |aem=>intro ov;cases ov
 |sS=>intro ov;cases ov
theorem M8 (Gj:F.pure)(hR:ad F β N H w){x:DX}{y:SV}(hf:yL H R x y)(ov:oy y.2=true){v:Value}(hv:ar F β N H w v x):er (dV F.PL F.base w) eU v y:=by
 obtain⟨g,ds⟩:=x;obtain⟨g',cs⟩:=y;obtain⟨e,hl,hc⟩:=hf;simp only at e hl hc ov;subst e;cases g'
 ·obtain⟨c,Sk,hr⟩:=hv;simp only at Sk;subst Sk;obtain⟨c',rfl⟩:=xY.1 af2;exact⟨c',rfl,Ec Gj hR (hc 0 c c' rfl rfl) (lQ ov 0 c' rfl) hr⟩
 ·obtain⟨arr,h1,h2,h3⟩:=hv;simp only at h2 h3;refine⟨arr,h1,by grind,λk c hk=>?_⟩;simp only at hk;have al:=(kF.1 hk).1;have Pt:k<ds.length:=by omega
  have hd:ds[k]? =some ds[k]:=by grind
  grind[Ec,lQ]
def Zk:List SV->mc
 | [y]=>.one y
 |l=>.aI l
def Ij (H:HF)(xs:List DX)(K:mc->Prop):Prop:=∃(ys:List SV) (R:List Nat),M6 H R xs ys/\yF ys=true/\K (Zk ys)
def acS (C:bS)(fn:Func)(S:St)(K:mc->Prop):Prop:=eu C S.hp.get S.env.get fn.results.toList λxs=>Ij S.hp.get xs K
theorem Zl (Gj:F.pure)(hR:ad F β N H w){xs:List DX}{vs:List Value}{K:mc->Prop}(hl:vs.length=xs.length)(hv: ∀k x,xs[k]? =some x->ar F β N H w (vs.getD k undef) x)
  (h:Ij H xs K): ∃r,K r/\qY F.PL F.base w (BA vs) r:=by
 obtain⟨ys,R,⟨h1,h2⟩,h3,h4⟩:=h
 have hx: ∀k y,ys[k]? =some y->er (dV F.PL F.base w) eU (vs.getD k undef) y:=λk y hk=>by
  have al:=(kF.1 hk).1;have Pt:k<xs.length:=by omega
  have hd:xs[k]? =some xs[k]:=by grind
  grind[M8,BC]
 refine⟨_,h4,?_⟩;have bD:vs.length=ys.length:=by omega
 match ys,vs,bD,hx with
 | [y],[v],_,hx=>exact hx 0 y rfl
 | [],[],_,_=>exact⟨#[],rfl,rfl,by simp⟩
 |x::y::l,v::v'::vs,hg,hX=>exact⟨(v::v'::vs).toArray,rfl,by omega,λk x hk=>by simpa [sT,jX]using hX k x hk⟩
def M9 {fn:Func}(hC:C.Ok){f:FuncId}{c:Code}{args:List SV}{r:mc}(hn:iI C.P f=true)(hf:C.P.funcs[f]? =some fn)(hb:fn.body=some c)(vc:bQ fn.ntmps c=true)(dM:args.length<=fn.ntmps)
  (h:m9 C c (entry args) (λS=>acS C fn S λr'=>r'=r) (λ_ _=>False) (λS=>acS C fn S λr'=>r'=r)):nR C.P C.gl f args r:=
 D1 hC hn hf hb vc dM (λ_ hS=>⟨λH xs K=>Ij H xs K,λGj _ hR hl hv h=>Zl Gj hR hl hv h,hS⟩) h
end
structure Cj (R:Hp):Prop where
 nd:(ah R).Nodup
 key: ∀k∈ah R,17<=k/\k<4294967296/\k%2=1
 row: ∀k b,R.get k=some b->∃m z c,b= .row m z c
def mZ (R:Hp):List (Nat × Nat):=(ah R).map λk=>(k,k)
def J4 (k:Nat):Bool:=Nat.blt k 17 || Nat.beq (k%2) 0 || Nat.ble 4294967296 k
def Cj.not {R:Hp}(h:Cj R){k:Nat}(hk:J4 k=true):k∉ah R:=λhm=>by
 obtain⟨h1,h2,h3⟩:=h.key k hm;simp[J4,Bj]at hk;omega
theorem Cj.tag {R:Hp}(h:Cj R){k:Nat}(hk:k∈ah R):tag k=0:=by
 obtain⟨h1,h2,h3⟩:=h.key k hk
 grind[J1]
def TJ {R:Hp}{o n:Nat}:(o,n)∈mZ R↔o∈ah R/\n=o:=by grind[mZ]
def acT {R:Hp}{k:Nat}(h:k∈ah R):bU (mZ R) k=some k:=by
 have:mZ R=sG (ah R) λk=>k:=rfl
 grind[vm]
def Jf (m:List (Nat × Nat)):Bool:=eM (m.map Prod.fst)&&eM (m.map Prod.snd)&&m.all λp=>J4 p.1&&J4 p.2
def oK {m:List (Nat × Nat)}{R:Hp}(hT:Cj R)(hm:Jf m=true){k:Nat}(hk:k∈ah R):bU (m++mZ R) k=some k:=by
 rw[kW,D9,acT hk];intro h;obtain⟨p,hp,rfl⟩:=dC.1 h;unfold Jf at hm;simp only[sU,tM]at hm;exact hT.not (hm.2 p hp).1 hk
def cZ.tail {m:List (Nat × Nat)}{H:HF}{Y R:Hp}(hT:Cj R)(hm:Jf m=true)(hY: ∀n b',Y.get n=some b'->∃o b,(o,n)∈m/\H o=some b/\fq (m++mZ R) b=some b')
  (hYk: ∀n∈ah Y,J4 n=true)(hR: ∀k∈ah R,H k=R.get k):cZ (m++mZ R) H (Hp.get (Y++R)):=by
 have hm0:=hm;unfold Jf at hm;simp only[sU,tM]at hm;obtain⟨⟨h1,h2⟩,h3⟩:=hm;refine⟨?_,?_,λn b' e=>?_⟩
 ·rw[Aj,show(mZ R).map Prod.fst=ah R by simp[mZ,GC],LZ];refine⟨bY h1,hT.nd,λa ha b hb R3=>?_⟩;subst R3;obtain⟨p,hp,rfl⟩:=dC.1 ha;exact hT.not (h3 p hp).1 hb
 ·rw[Aj,show(mZ R).map Prod.snd=ah R by simp[mZ,GC],LZ];refine⟨bY h2,hT.nd,λa ha b hb R3=>?_⟩;subst R3;obtain⟨p,hp,rfl⟩:=dC.1 ha;exact hT.not (h3 p hp).2 hb
 ·rw[Hp.get_append,oI]at e;by_cases hn:n∈ah Y
  grind
  ·rw[if_neg hn]at e;have hk:=Hp.dU e;refine⟨n,b',ig.2 (.inr (TJ.2 ⟨hk,rfl⟩)),by grind,?_⟩;obtain⟨m',z,c,rfl⟩:=hT.row n b' e;rfl
def cZ.form {m:List (Nat × Nat)}{H:HF}{Y R:Hp}{z:Nat}{l l':List (List DC)}(hT:Cj R)(hm:Jf ((9,9)::m)=true)(h9:H 9=some (.az z l))(hl:fC ((9,9)::m++mZ R) l=some l')
  (hY:jY ((9,9)::m++mZ R) H m=some Y)(hYk:(ah Y).all J4=true)(hR: ∀k∈ah R,H k=R.get k):cZ ((9,9)::m++mZ R) H (Hp.get ((9,some (.az z l'))::Y++R)):=by
 have:=cZ.tail (Y:=(9,some (.az z l'))::Y) (H:=H) hT hm (λn b' e=>?_) (λn hn=>?_) hR;omega
 ·rw[Hp.au]at e;by_cases hn:n=9
  ·subst hn;rw[an]at e;cases e;refine⟨9,_,je,h9,?_⟩;show(match fC ((9,9)::m++mZ R) l with|some l'=>some (cC.az z l')|none=>none)=_;rw[hl]
  grind[aG,pt]
 ·rcases cF.1 hn with rfl|hn
  ·rfl
  grind
def Zm {m:List (Nat × Nat)}{l:List (List DC)}{i:Nat}{e e':List DC}(hi:i<l.length)(he:eX m e=some e')(h: ∀j x,j≠i->l[j]? =some x->eX m x=some x):fC m (l.set i e)=some (l.set i e'):=by
 induction l generalizing i with
 |nil=>grind
 |cons a l ih=>
  cases i with
  |zero=>
   have: ∀ {l:List (List DC)},(∀x∈l,eX m x=some x)->fC m l=some l:=by
    intro l
    induction l with
    |nil=>intro _;rfl
    |cons a l ih=>
     grind[fC]
   rw[SQ,SQ];unfold fC
   rw[he,this λx hx=>by
    obtain⟨j,hj,rfl⟩:=Jl.1 hx
    exact h (j+1) _ K0 bw]
  |succ i=>
   rw[X8,X8];unfold fC;rw[h 0 a K0 rfl,ih bw λj x hj hx=>h (j+1) x K0 bw]
def Ax {m:List (Nat × Nat)}: ∀ {l:List (List DC)},(∀x∈l,eX m x=some x)->fC m l=some l
 | [],_=>rfl
 |a::l,h=>by
  unfold fC;rw[h a je,Ax λx hx=>h x (jt _ hx)]
theorem Hp.kL {j:Nat}{b:Option cC}{H:Hp}{k:Nat}(h:k≠j):Hp.get ((j,b)::H) k=Hp.get H k:=by rw[Hp.au,aG _ _ _ h]
structure Na (T:Hp):Prop where
 nd:(ah T).Nodup
 lt: ∀k∈ah T,0<k/\k<4294967296/\tag k=0
 dQ: ∀k b,T.get k=some b->b.dQ (· ∈ah T)
def nf.new {T:Hp}(hT:Na T){ρ:Nat->Nat}(hi: ∀i∈ah T,∀j∈ah T,ρ i=ρ j->i=j):nf (ah T) ρ T.get (cT ρ T).get :=by
 refine⟨hT.nd,hi,hT.dQ,λn b' e=>?_⟩;have hk:=Hp.dU e;have LH:n∈(ah T).map ρ:=by grind[dp]
 obtain⟨k,hk3,rfl⟩:=dC.1 LH;rw[jQ hi k hk3]at e
 cases hg:T.get k with
 |none=>grind
 |some b=>grind
section
variable {C:bS}{f:FuncId}{fid nx:Nat}{xs:List DX}{T':Hp}{r:DV}{H:HF}
def Na.inj (hT:Na T')(n:Nat): ∀i∈ah T',∀j∈ah T',aq n 0 i=aq n 0 j->i=j:=
 λi hi j hj h=>Ih (hT.lt i hi).2.1 (hT.lt j hj).2.1 (.inr K0) h
theorem Na.tag (hT:Na T'){n k:Nat}(hk:k∈ah T'):Fw.tag (aq n 0 k)=n:=qw (by have:=(hT.lt k hk).1;omega) (hT.lt k hk).2.1
def mw (h:bA C f nx xs [] [] r T')(eP:Na T')(Cv: ∀x∈xs,ec (λ_=>False) x)(hr:lH (· ∈ah T') r):
  bI C fid f xs H (LA (aq (Fw.tag fid) 0) r) (cH [] (cT (aq (Fw.tag fid) 0) T')) []:=by
 have hi:=eP.inj (Fw.tag fid);have hg:=h.out (nf.new eP hi) hr λid hid=>by grind
 have mb: ∀k∈ah T',aq (Fw.tag fid) 0 k∈([]:List Nat)\/Fw.tag (aq (Fw.tag fid) 0 k)=Fw.tag fid:=λk hk=>.inr (eP.tag hk);refine gr hg (λid hid=>by grind) (λid hid=>by grind) (λid b e=>by grind[Hp.get]) (λx hx=>?_) (λid hid=>by grind) (λid hid=>?_) (λid b e=>?_) (yN (rK mb hr))
 ·exact λd hd=>DC.dN (λ_ h=>h.elim) (Cv x hx d hd)
 ·exact ai3
 ·exact K92
def acU {fid nx n':Nat}{T' R hp:Hp}{E E':dS}{ks:List Nat}(eP:Na T')(hR:(ah R).Nodup)(hRk: ∀k∈ah R,k∉ah T'/\Fw.tag k≠Fw.tag fid/\Fw.tag k<n')
  (hRg: ∀id b,R.get id=some b->hp.get id=some b/\b.dQ λk=>k∈ah R)(hn:0<n')(hE:eZ (gw (aq (Fw.tag fid) 0) T' R) E.get ks=some E'):
  bu ⟨E,cH [] (cT (aq (Fw.tag fid) 0) T')++hp,nx⟩ ⟨E',T'++R,n'⟩:=by
 have hi:=eP.inj (Fw.tag fid);have mb: ∀k∈ah T',aq (Fw.tag fid) 0 k∉ah R:=λk hk hm=>(hRk _ hm).2.1 (eP.tag hk);have UJ:=Ea hi mb;have jo: ∀k,k∈ah R->bU (gw (aq (Fw.tag fid) 0) T' R) k=some k:=by grind[gw,kW,vm]
 have e8:cZ (gw (aq (Fw.tag fid) 0) T' R) (Hp.get (cH [] (cT (aq (Fw.tag fid) 0) T')++hp)) (Hp.get (T'++R)):=by
  refine⟨?_,?_,λn b' e=>?_⟩
  ·exact K54
  ·exact amo
  ·rw[Hp.get_append,oI]at e;by_cases hn:n∈ah T'
   ·exact K86
   ·rw[if_neg hn]at e;have hk:=Hp.dU e;obtain⟨h1,h3,h4⟩:=hRk n hk;obtain⟨g1,g2⟩:=hRg n b' e;refine⟨n,b',?_,?_,?_⟩
    ·exact ain
    ·rw[Hp.get_append,ur,if_neg,if_neg (by simp)];omega
     ·exact amu
    ·exact amw
 rintro F nt a w ⟨N,⟨q1,q2,q0,β,q3,q4⟩,q5⟩;refine⟨yH _,⟨q1,q2,q0,pR _ β,λs d' e=>?_,e8.nC q4⟩,?_⟩
 ·exact abW
 ·rintro id ⟨o,ho⟩;unfold gw at ho;rcases ig.1 ho with ho|ho
  ·obtain⟨h1,h2⟩:=jZ.1 ho
   grind
  ·obtain⟨k,hk,e⟩:=dC.1 ho;simp only[ii]at e;obtain⟨_,rfl⟩:=e;rw[(eP.lt _ hk).2.2];exact hn
end
section
variable {C:bS}{fid:Nat}{o:Oper}{E:dS}{H:Hp}{t:bn}{k:dS->Hp->bn->Prop}{T:TypeId}{x y:Operand}{a:List UInt8}
def amH {f:FuncId}{first bM:Array Operand}{id:Nat}(ho:o.op= .makeFunc (.func f) first bM)(hf:first.toList= [])(hc:bM.toList.map (C.ev E.get)= [some (.val (false,[.ptr id 0]))])
  (h2:eh o.dst (bh (.sS f id)) E λE'=>k E' H (([],[])::t)):cS C fid o E H t k:=by
 refine rGX (P:=True) (r:=bh (.sS f id)) (u:=[]) (R:=[]) ?_ trivial h2
 grind[Qe]
def Ck {i:TI}{e:TypeId}{ie:TI}{es:List (List SC)}{zz:Int}{n:Nat}{k':IntKind} [nz:dJ zz n](hu: ∀e∈es,e.length=ie.size)(ho:o.op= .slice T x none (some y) none)(hx:C.ev E.get x=some (.val (false,[.st (.view es)])))(hy:C.ev E.get y=some (.val (false,[.st (.lit (.int k' zz))])))
  (hi:C.ti T=some i)(hc:i.b8= .slice e)(he:C.ti e=some ie)(hb:n<=es.length)
  (h2:eh o.dst (bh (.st (.view (es.take n)))) E λE'=>k E' H (([],[])::t)):cS C fid o E H t k:=by
 refine rG (r:=bh (.st (.view (es.take n)))) (u:=[]) (R:=[]) (λK hK=>?_) h2;have e0:zz.toNat=n:=by rw[nz.eq];simp
 unfold fk;rw[ho];simp only[hx,Option.map];unfold gm;simp only[hi,hc,he,bO,bz,hy,SC.ao,Gz,SC.len,SC.sub,GF];refine⟨by rw[nz.eq];omega,⟨by omega,by omega⟩,λe he=>hu e he,?_⟩
 grind
end
def nR.xV {P:Program}{gl:tR}{f:FuncId}{args:List SV}{z:Nat}{c:SC}(h:nR P gl f args (.own z c)):nR P gl f args (.one (false,[c])):=by
 rcases h with h|h
 ·refine .inl ⟨h.1,λmv w vs h1 h2 h3=>(h.2 mv w vs h1 h2 h3).mono λe w' he=>?_⟩;obtain⟨v,rfl,hb,hr⟩:=he;refine⟨v,rfl,hb,c,rfl,?_⟩
  rcases hr with⟨rfl,h0,hv,_⟩|⟨b,cap,rfl,hn,arr,T,e1,e2,e3,e4,e5,e6,e7⟩
  ·exact .empty _ _ hv h0
  ·by_cases h0:c.len=0
   ·rw[h0];exact .empty _ _ e4 h0
   ·refine .view b 0 cap z (λk=>arr.getD k undef) e4 K0 e3 e5 e6 (λk hk=>?_) λi e j x he hx=>(e7 i e j x he hx).mono (λb' o v h=>?_) (Mem.le_refl _)
    ·rw[j9];unfold dV;rw[if_pos hn]
     grind[gb,Nat.lt_of_lt_of_le,Nat.mul_le_mul_right]
    grind[Mem.but]
 ·cases h
end Go.Fw
namespace Go.Fw
open Go.RowKit (Below)
section
variable {C:bS}{f:FuncId}{nx nx0:Nat}{xs xs0:List DX}{Hs Hs0 mq Hs1:Hp}{fI roots0:List Nat}{r:DV}{ks ks':List Nat}{ρ σ:Nat->Nat}
def bA.both (h:bA C f nx (xs0.map (GR ρ)) Hs fI r mq)(hR:nf ks ρ Hs0.get Hs.get)(hall: ∀o b,Hs0.get o=some b->o∈ks/\Hs.get (ρ o)=some (b.rn ρ))(io: ∀k∈ks,tag (ρ k)<nx)(Cv: ∀x∈xs0,ec (· ∈ks) x)
  (hR2:nf ks' σ mq.get Hs1.get)(hr:lH (· ∈ks') r)(qT: ∀id∈roots0,ρ id∈fI/\id∈ks/\ρ id∈ks'/\σ (ρ id)=id):bA C f nx0 xs0 Hs0 roots0 (LA σ r) Hs1:=by
 have e8:=hR.ok;have ahg:=hR2.ok;refine⟨h.1,λF β N w vs hG C2 jo hH hN nA hv=>?_⟩;have hH2:=e8.nC hH;have e: ∀ {k:Nat},k∈ks->pR (sG ks ρ) β (ρ k)=β k:=λhk=>e8.kJ (jZ.2 ⟨hk,rfl⟩);refine(h.2 F (pR (sG ks ρ) β) (yH (sG ks ρ)) w vs hG C2 (λb hb=>?_) hH2 (λid hid=>?_) bw (λk x hk=>?_)).mono λe' w' he=>?_
 ·obtain⟨id,bC,q1,q2⟩:=jo b hb;obtain⟨q3,q4⟩:=hall id bC q1;exact⟨ρ id,_,q4,by grind⟩
 ·obtain⟨o,ho⟩:=hid;obtain⟨q1,q2⟩:=jZ.1 ho
  grind
 ·exact ahZ
 ·obtain⟨v,cQ,N',rfl,q1,q2,q3⟩:=he;refine⟨v,pR (sG ks' σ) cQ,yH (sG ks' σ),rfl,ahg.nC q1,ahg.wv q2 (Ig hr),λid hid=>?_⟩;obtain⟨a1,a2,a3,a4⟩:=qT id hid;obtain⟨b,g1,g2⟩:=q3 (ρ id) a1;refine⟨b,by grind,?_⟩;have:=ahg.kJ (β:=cQ) (jZ.2 ⟨a3,rfl⟩)
  grind
end
section
variable {C:bS}{fid:Nat}{o:Oper}{E:dS}{H:Hp}{t:bn}{k:dS->Hp->bn->Prop}{c:Call}{a b:Int}
def aeR (ho:o.op= .call c)(hc:c.callee= .builtin .max)(hx:c.args.toList.map (C.ev E.get)= [some (.val (false,[.st (.lit (.int .i64 a))])),some (.val (false,[.st (.lit (.int .i64 b))]))])(h:b<=a)
  (h2:eh o.dst (lit (.int .i64 a)) E λE'=>k E' H (([],[])::t)):cS C fid o E H t k:=by
 refine rG (r:=lit (.int .i64 a)) (u:=[]) (R:=[]) (λK hK=>?_) h2;exact aiJ
def aeS (ho:o.op= .call c)(hc:c.callee= .builtin .max)(hx:c.args.toList.map (C.ev E.get)= [some (.val (false,[.st (.lit (.int .i64 a))])),some (.val (false,[.st (.lit (.int .i64 b))]))])(h:a<b)
  (h2:eh o.dst (lit (.int .i64 b)) E λE'=>k E' H (([],[])::t)):cS C fid o E H t k:=by
 refine rG (r:=lit (.int .i64 b)) (u:=[]) (R:=[]) (λK hK=>?_) h2;exact aiJ
end
instance agi (n:Nat):dJ (((n+1:Nat):Int) -1) n:=⟨by omega⟩
theorem J5 (ρ:Nat->Nat)(x:SV):GR ρ (dyn x)=dyn x:=by
 show((dyn x).1,(dyn x).2.map (DC.rn ρ))=dyn x;exact afQ
theorem bd {ok:Nat->Prop}(x:SV):ec ok (dyn x):=afL
theorem Qx (ρ:Nat->Nat)(T:TypeId)(cs:List SC):cC.rn ρ (.box T (cs.map .st))= .box T (cs.map .st):=by
 show cC.box T ((cs.map DC.st).map (DC.rn ρ))=_;rw[Ak];congr 1
theorem ut {ok:Nat->Prop}(T:TypeId)(cs:List SC):cC.dQ ok (.box T (cs.map .st)):=afL
theorem fJ {id k:Nat}{b b':cC}(h:Hp.get [(id,some b)] k=some b'):k=id/\b'=b:=by
 rw[Hp.au]at h
 grind[an,aG,Hp.get]
theorem uv (id:Nat)(b:cC):Hp.get [(id,some b)] id=some b:=by exact P4
def Ik {C:bS}{f:FuncId}{T:TypeId}{cs xO:List SC}{ys:List SV}{r:DV}(hr: ∀ρ,LA ρ r=r)(hm: ∀ok,lH ok r)(h:bA C f 1 ((false,[.ptr 1 0])::ys.map dyn) [(1,some (.box T (cs.map .st)))] [1] r [(1,some (.box T (xO.map .st)))])
  {H:HF}{id fid:Nat}(hid:H id=some (.box T (cs.map .st))):bI C fid f ((false,[.ptr id 0])::ys.map dyn) H r (cH [(id,some (.box T (cs.map .st)))] [(id,some (.box T (xO.map .st)))]) [id]:=by
 have e1:((false,[DC.ptr id 0])::ys.map dyn).map (GR λ_=>1)=(false,[.ptr 1 0])::ys.map dyn:=by
  rw[ju,Ak];congr 1
  grind[List.map_congr_left,J5]
 have g:=bA.both (r:=r) (nx0:=tag id+1) (xs0:=(false,[.ptr id 0])::ys.map dyn) (Hs0:=[(id,some (.box T (cs.map .st)))]) (Hs1:=[(id,some (.box T (xO.map .st)))]) (roots0:=[id]) (ks:=[id]) (ks':=[1]) (ρ:=λ_=>1) (σ:=λ_=>id) (by rw[e1];exact h)
  ⟨by simp,λi hi j hj _=>by grind,λk b e=>by grind[fJ,ut],λn b' e=>by
   grind[fJ,uv,Qx]⟩
  (λo b e=>by grind[fJ,Qx,uv]) (λk _=>by decide) (λx hx=>by
   rcases cF.1 hx with rfl|hx
   ·intro d hd;rw[mA]at hd;subst hd;show id∈[id];simp
   ·obtain⟨z,_,rfl⟩:=dC.1 hx
    exact bd z)
  ⟨by simp,λi hi j hj _=>by grind,λk b e=>by grind[fJ,ut],λn b' e=>by
   grind[fJ,uv,Qx]⟩
  (hm _) (λi hi=>by grind)
 rw[hr]at g;refine gr g (λi hi=>by grind) (λi hi=>by grind[uv]) (λi b e=>by grind[fJ,ut]) (λx hx=>?_) (λi hi=>?_) (λi hi=>?_) (λi b e=>?_) (hm _)
 ·rcases cF.1 hx with rfl|hx
  ·intro d hd;rw[mA]at hd;subst hd;show id∈_;simp
  ·obtain⟨z,_,rfl⟩:=dC.1 hx;exact bd z
 ·rw[mA]at hi;subst hi;exact⟨⟨_,_,uv _ _⟩,λb' e=>by grind[fJ]⟩
 grind
 grind[fJ,ut]
def kX {C:bS}{f:FuncId}{T:TypeId}{cs xO:List SC}{ys:List SV}{y:SV}(h:bA C f 1 ((false,[.ptr 1 0])::ys.map dyn) [(1,some (.box T (cs.map .st)))] [1] (.val (dyn y)) [(1,some (.box T (xO.map .st)))])
  {H:HF}{id fid:Nat}(hid:H id=some (.box T (cs.map .st))):bI C fid f ((false,[.ptr id 0])::ys.map dyn) H (.val (dyn y)) (cH [(id,some (.box T (cs.map .st)))] [(id,some (.box T (xO.map .st)))]) [id]:=
 Ik (λρ=>by show DV.val (GR ρ (dyn y))=_;rw[J5]) (λ_=>show lH _ (.val (dyn y))from bd y) h hid
def aeT (C:bS)(fn:Func)(T:TypeId)(xO:List SC)(r:DV)(S:St):Prop:=
 S.env.get 0=some (.val (false,[.ptr 1 0]))/\S.hp.get 1=some (.box T (xO.map .st))/\eu C S.hp.get S.env.get fn.results.toList λys=>∃zs,kV [(1,1)] ys=some zs/\pv zs=r
def acV (C:bS)(fn:Func)(T:TypeId)(xO:List SC)(y:SV)(S:St):Prop:=
 S.env.get 0=some (.val (false,[.ptr 1 0]))/\S.hp.get 1=some (.box T (xO.map .st))/\eu C S.hp.get S.env.get fn.results.toList λys=>∃zs,kV [(1,1)] ys=some zs/\pv zs= .val (dyn y)
def Zn {C:bS}(hC:C.Ok){f:FuncId}{fn:Func}{c:Code}{T:TypeId}{cs xO:List SC}{ys:List SV}{r:DV}(hn:iI C.P f=true)(hf:C.P.funcs[f]? =some fn)(hb:fn.body=some c)(vc:bQ fn.ntmps c=true)(dM:ys.length+1<=fn.ntmps)(Po:aJ [0] c=true)
  (h:m9 C c ⟨iz 0 ((false,[.ptr 1 0])::ys.map dyn),[(1,some (.box T (cs.map .st)))],1⟩ (aeT C fn T xO r) (λ_ _=>False) (aeT C fn T xO r)):
  bA C f 1 ((false,[.ptr 1 0])::ys.map dyn) [(1,some (.box T (cs.map .st)))] [1] r [(1,some (.box T (xO.map .st)))]:=by
 refine fw hC hn hf hb vc bw [(0,1)] (λp hp=>?_) Po (λS hS=>?_) h
 grind
 ·obtain⟨h1,h2,h3⟩:=hS;refine⟨[(1,1)],⟨by simp,by simp,λn b' e=>?_⟩,λp hp=>?_,?_⟩
  ·obtain⟨rfl,rfl⟩:=fJ e;refine⟨1,_,by simp,h2,?_⟩
   have: ∀l:List SC,eX [(1,1)] (l.map .st)=some (l.map .st):=by
    intro l
    induction l with
    |nil=>rfl
    |cons a l ih=>grind[eX,na]
   grind[fq]
  grind
  omega
def akG {C:bS}(hC:C.Ok){f:FuncId}{fn:Func}{c:Code}{T:TypeId}{cs xO:List SC}{ys:List SV}{y:SV}(hn:iI C.P f=true)(hf:C.P.funcs[f]? =some fn)(hb:fn.body=some c)(vc:bQ fn.ntmps c=true)(dM:ys.length+1<=fn.ntmps)(Po:aJ [0] c=true)
  (h:m9 C c ⟨iz 0 ((false,[.ptr 1 0])::ys.map dyn),[(1,some (.box T (cs.map .st)))],1⟩ (acV C fn T xO y) (λ_ _=>False) (acV C fn T xO y)):
  bA C f 1 ((false,[.ptr 1 0])::ys.map dyn) [(1,some (.box T (cs.map .st)))] [1] (.val (dyn y)) [(1,some (.box T (xO.map .st)))]:=
 Zn hC hn hf hb vc dM Po h
open Go.Shelf
variable {P:Program}{gl:tR}
def yO {mv mr:Mem}{vs:Array Value}{c:SC}(h:pg mv mr vs [(false,[c])]): ∃v,vs= #[v]/\dw mv mr v c:=by
 obtain⟨h1,h2⟩:=h;obtain⟨c',e,hr⟩:=h2 0 _ rfl;simp at e;subst e;refine⟨vs.getD 0 undef,?_,hr⟩;have h1:vs.size=1:=h1;apply Bk;omega;simp_all
def pS {enc:Int->Value}{w:World}{b:Nat}{arr:Array Value}{T:TypeId}(h:w.heap[b]? =some (.cells arr T))(d:Array Int):Sort.putRow enc w b 0 d=w.setRow b (Sort.putCells enc 0 d arr):=by
 have al:b<w.heap.size:=(GB.1 h).1;have hv:w.heap[b]= .cells arr T:=(GB.1 h).2;unfold Sort.putRow Sort.mapBlock World.setRow;congr 1;apply Bk
 ·simp
 ·intro i h1 h2;simp only[SK];by_cases hi:b=i
  ·subst hi;simp only[if_true,hv,Sort.onCells]
  grind
def dk {E:dS}{Hh:Hp}{nx:Nat}(id:Nat){m:Bool}{z:Nat}{c:SC}(hb:Hh.get id=some (.row m z c)):bu ⟨E,Hh,nx⟩ ⟨E,(id,some (.row false z c))::Hh,nx⟩:=K38
def jz {E:dS}{Hh:Hp}{nx:Nat}(s z:Nat)(c:SC)(hz:0<z)(hv:c.ao=true)(h0:c.len=0)(hE:E.get s=some (bh .nil)):
  bu ⟨E,Hh,nx⟩ ⟨(s,some (bh (.own (2*nx))))::E,((2*nx),some (.row true z c))::Hh,nx+1⟩:=by
 rintro F nt a w ⟨N,⟨q1,q2,q0,β,q3,q4⟩,q5⟩;have hf: ¬N (2*nx):=λh=>by have:=q5 _ h;rw[jP]at this;grind
 have hu: ∀i e,c.elem i=some e->e.length=z:=λi e he=>by exact ace
 have t2:=Tr.new q4 (Below.refl _ w) hf none (by simp) (.row true z c);have hN:=ad.new q4 (Below.refl _ w) hf none (by simp) (.row true z c) ⟨⟨hz,hv,hu⟩,.inl ⟨by simp[cW],h0⟩⟩;rw[<- Hp.au]at t2 hN;refine⟨Fw.bg N (2*nx),⟨q1,q2,q0,cW β (2*nx) none,?_,hN⟩,λid h=>?_⟩
 ·intro u dv hu;rw[dS.au]at hu;simp only at hu;split at hu
  ·rename_i e;subst e;cases hu;have Ct:a.tmps.getD u undef= .slice none 0 0:=(q3 u _ hE).am;refine cM ⟨.inr rfl,by rw[Ct];rfl,λnQ z' n' hb wV=>?_⟩;rw[Hp.au,an]at hb;cases hb;cases wV;exact .inl ⟨by simp[cW],h0,Ct⟩
  ·exact t2.env q4 q3 u dv hu
 ·exact ajQ
end Go.Fw
