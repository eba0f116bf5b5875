import Derived.Test.YtackacoaaihcjaaGreatDoorPkM0
import Derived.MapKept
import Derived.Laws.IdiomStrings
import Derived.Tactics
import Derived.Orders
import Derived.OrdersIn
import Derived.TacticsIn
import Derived.Scope
import Derived.ProofKit
import Derived.OpenShut
import Derived.IntWalk
import Derived.Lib.Strings
import Derived.Shelf.Slices.Reverse
import Derived.Shelf.Slices.Clone
import Derived.Shelf.Spec.SlicesGrow
set_option linter.all false
namespace Go.Fw
section
variable {C:bU}{H H':HF}{fid:Nat}{K:j8}
theorem I8 {op:BinOp}{k:IntKind}{a b:Int}{K:Value->Prop}(h:tv op k a b K): ∃v,K v/\∀K':Value->Prop,K' v->tv op k a b K':=by
 cases op<;>simp only[tv]at h ⊢ <;>first
  |grind
  |grind
  |grind
theorem I9 {op:BinOp}{a b:ByteArray}{K:Value->Prop}(h:wO op a b K): ∃v,K v/\∀K':Value->Prop,K' v->wO op a b K':=by
 cases op<;>simp only[wO]at h ⊢ <;>first
  |grind
  |grind
  |grind
theorem Ja {op:BinOp}{x y:Value}{K:Value->Prop}(h:rc op x y K): ∃v,K v/\∀K':Value->Prop,K' v->rc op x y K':=by
 unfold rc at h ⊢;split at h
 grind[I8]
 grind[I9]
 grind
def Ve (nc:Bool)(op:BinOp)(T:TypeId)(x y:DX):mC λ_ K=>L1 C nc op T x y λv=>K v [] []:=by
 refine mC.const λK h=>?_;unfold L1 at h ⊢;split at h
 grind
 grind
 grind
 grind
 grind[Ja]
 ·split at h
  ·rename_i i hi;split at h
   grind
   grind
  grind
 grind
def YN (op:UnOp)(x:DX):mC λ_ K=>Pm op x λv=>K v [] []:=by
 refine mC.const λK h=>?_;unfold Pm at h ⊢
 grind
def PP (S T:TypeId)(x:DX):mC (yb C S T x):=by
 intro H K h;unfold yb at h;split at h
 ·rename_i i j hi hj;split at h
  grind[yb]
  grind[yb]
  ·rename_i e h1;split at h
   ·rename_i d h2;split at h
    ·rename_i es uu rr hby dw;split at h
     grind[yb,jl]
     grind
    grind
   grind
  grind
 grind
def Dl (f:FuncId)(a b:List (Option DV)):mC (cH C f a b):=by
 intro H K h;unfold cH at h;split at h
 ·rename_i fs u r h1;split at h
  grind[cH,yn,po]
  grind
 grind
def BW (T:TypeId)(x y:DX):mC λ_ K=>lQ C fid T x y K:=by
 refine mC.const λK h=>?_;unfold lQ at h;split at h
 ·grind
 rename_i i hi;split at h
 ·rename_i e k1 n k2 m bW;split at h
  ·grind
  rename_i ie l7;split at h
  ·rename_i hb;obtain⟨h0,h⟩:=h;split at h
   ·exact akE
   ·exact akE
  grind
 grind
def Jb (T:TypeId)(x y:DX):mC (rg C fid T x y):=by
 intro H K h;unfold rg at h;split at h
 ·grind
 rename_i i hi;split at h
 ·rename_i e yc bW;split at h
  ·grind
  rename_i ie l7;split at h
  ·grind
  rename_i hb;split at h
  ·grind
  rename_i cy uy ry dw;split at h
  ·split at h
   grind[rg,jl]
   grind
  ·rename_i id;split at h
   ·rename_i m z c hbk;split at h
    ·rename_i c' qb zN;obtain⟨h1,h2,h⟩:=h;refine⟨_,_,_,h,λH' K' hH hK=>?_⟩;simp only[rg,hi,bW,l7,hb,jl dw λj hj=>hH j bv,hH id (by simp),hbk,qb,zN]
     grind
    grind
   grind
  grind
 grind
def F8 (T:TypeId)(x y:DX):mC (qe C fid T x y):=by
 intro H K h;unfold qe at h;split at h
 ·grind
 rename_i i hi;split at h
 ·rename_i e k n bW;split at h
  ·grind
  rename_i ie l7;split at h
  ·grind
  rename_i hb;obtain⟨h0,h⟩:=h;split at h
  ·grind
  rename_i cy hz;split at h
  ·rename_i id;split at h
   ·rename_i m z c hid;split at h
    ·rename_i c' qb zN;obtain⟨h1,h⟩:=h;exact⟨_,_,_,h,λH' K' hH hK=>by grind[qe]⟩
    grind
   grind
  grind
 grind
theorem rx {mx:Bool}{k:IntKind}: ∀ {xs:List DX} {a:Int} {K:Value->Prop},tC mx k a xs K->∃v,K v/\∀K':Value->Prop,K' v->tC mx k a xs K'
 | [],a,K,h=>⟨_,h,λ_ hK=>hK⟩
 |x::xs,a,K,h=>by
  unfold tC at h ⊢;split at h
  grind
  ·rename_i k' b r vU;cases vU;split at h
   ·rename_i hk;obtain⟨v,h1,h2⟩:=rx h
    grind
   grind
  grind
def Ga (b:Builtin)(Sa:List TypeId)(args:List (Option DV)):mC (eZ C fid b Sa args):=by
 intro H K h;unfold eZ at h;split at h
 ·split at h
  ·grind
  rename_i i hi;split at h
  grind[eZ]
  grind[eZ]
  grind[eZ]
  grind[eZ]
  grind[eZ]
  grind
 ·split at h
  ·rename_i i' lA;split at h
   ·rename_i bW;obtain⟨r,u,R,h1,h2⟩:=Jb _ _ _ _ _ h
    grind[eZ]
   ·rename_i bW;obtain⟨r,u,R,h1,h2⟩:=F8 _ _ _ _ _ h
    grind[eZ]
   grind
  grind
 grind[rx,eZ]
 grind[rx,eZ]
 grind
def kP {f:FuncId}{xs:List DX}(fC:okN xs=true)(h: ∃r,akQ C.P C.gl f xs r/\je fid [] [] K r):wP C fid f [] [] xs K:=by grind[wP]
theorem Gb (fv:Option DV)(args:List (Option DV))(Sa:List TypeId):mC (jk C fid fv args Sa):=by
 intro H K h;unfold jk at h;split at h
 ·rename_i f first bM xs hv
  split at h
  ·rename_i l u rs dw;obtain⟨r,i8,h⟩:=h
   cases r with
   |one x=>exact⟨_,_,_,h,λH' K' hH hK=>by simp only[jk,hv,jm dw hH];exact⟨.one x,i8,hK⟩⟩
   |aI x=>exact⟨_,_,_,h,λH' K' hH hK=>by simp only[jk,hv,jm dw hH];exact⟨.aI x,i8,hK⟩⟩
   |own z c=>exact⟨_,_,_,h,λH' K' hH hK=>by simp only[jk,hv,jm dw hH];exact⟨.own z c,i8,hK⟩⟩
   |mix t x z c=>
    cases t
    ·match x,i8,h with
     | [y],i8,h=>exact⟨_,_,_,h,λH' K' hH hK=>by simp only[jk,hv,jm dw hH];exact⟨.mix false [y] z c,i8,hK⟩⟩
     | [],_,h=>exact h.elim
     |_::_::_,_,h=>exact h.elim
    ·exact⟨_,_,_,h,λH' K' hH hK=>by simp only[jk,hv,jm dw hH];exact⟨.mix true x z c,i8,hK⟩⟩
   |uV z c=>
    simp only[je]at h;split at h
    ·rename_i id z' c' iW;split at h
     ·rename_i hb
      exact⟨_,_,_,h,λH' K' hH hK=>by
       have hH': ∀i∈[iW],H' i=H i:=λi hi=>by simp_all
       simp only[jk,hv,jm dw hH']
       exact⟨.uV z c,i8,by grind[je]⟩⟩
     grind
    grind
  grind
 grind
theorem Jc (nx:Bool)(fv:Option DV)(args:List (Option DV))(Sa:List TypeId):mC (rh C fid nx fv args Sa):=by
 cases nx
 ·exact Gb fv args Sa
 intro H K h;unfold rh at h;simp only at h;split at h
 ·rename_i f first bM xs hv
  have key: ∀K':j8,wP C fid f first bM xs K'->∀H',rh C fid true (some (.val (false,[.st (.fn f first bM)]))) args Sa H' K':=λK' hK H'=>by simp only[rh,hv];exact hK
  unfold wP at h;split at h;case h_2=>grind
  rename_i fC;obtain⟨r,i8,h⟩:=h
  cases r with
  |one x=>exact⟨_,_,_,h,λH' K' hH hK=>key K' (kP K0 ⟨.one x,i8,hK⟩) H'⟩
  |aI x=>exact⟨_,_,_,h,λH' K' hH hK=>key K' (kP K0 ⟨.aI x,i8,hK⟩) H'⟩
  |own z c=>exact⟨_,_,_,h,λH' K' hH hK=>key K' (kP K0 ⟨.own z c,i8,hK⟩) H'⟩
  |mix t x z c=>
   cases t
   ·match x,i8,h with
    | [y],i8,h=>exact⟨_,_,_,h,λH' K' hH hK=>key K' (kP K0 ⟨.mix false [y] z c,i8,hK⟩) H'⟩
    | [],_,h=>exact h.elim
    |_::_::_,_,h=>exact h.elim
   ·exact⟨_,_,_,h,λH' K' hH hK=>key K' (kP K0 ⟨.mix true x z c,i8,hK⟩) H'⟩
  |uV z c=>grind[je]
 grind
theorem Vf {o:Oper}{ev:Operand->Option DV}(h:fw C fid o ev H K): ∃r u R,K r u R/\∀(j6:Operand->Option DV) (H':HF) (K':j8),(∀x∈o.op.operands.toList,j6 x=ev x)->(∀id∈R,H' id=H id)->K' r u R->fw C fid o j6 H' K':=by
 have key: ∀ {p:Op} {f:HF->j8->Prop},mC f->f H K->(∀(j6:Operand->Option DV) (H':HF) (K':j8),(∀x∈p.operands.toList,j6 x=ev x)->f H' K'->fw C fid o j6 H' K')->
   ∃r u R,K r u R/\∀(j6:Operand->Option DV) (H':HF) (K':j8),(∀x∈p.operands.toList,j6 x=ev x)->(∀id∈R,H' id=H id)->K' r u R->fw C fid o j6 H' K':=by
  intro p f hL hf hx;obtain⟨r,u,R,h1,h2⟩:=hL H K hf
  grind
 have aex: ∀ {l:List Operand} {j6:Operand->Option DV},(∀x∈l,j6 x=ev x)->l.map j6=l.map ev:=λh=>Lt h
 cases ho:o.op with
 |move x=>
  exact vO
 |assign x=>
  exact vO
 |pick c x y=>
  unfold fw at h;rw[ho]at h;simp only at h;split at h
  ·rename_i t hc;cases t
   grind[fw,Op.operands]
   exact vO
  grind
 |alloc T=>
  unfold fw at h;rw[ho]at h;simp only at h;split at h
  grind[fw]
  grind
 |box T x=>
  exact vO
 |build T parts=>
  have FP: ∀ {j6:Operand->Option DV},(∀x∈(Op.build T parts).operands.toList,j6 x=ev x)->(parts.toList.map λp=>(p.1,j6 p.2))=parts.toList.map λp=>(p.1,ev p.2):=by grind[List.map_congr_left,Op.operands]
  unfold fw at h;rw[ho]at h;simp only at h;split at h
  ·rename_i i hi;split at h
   ·rename_i zs hz;split at h
    ·rename_i fs bW;split at h
     ·rename_i cs OZ;exact⟨_,_,_,h,λj6 H' K' he hH hK=>by unfold fw;simp only[ho,hi,hz,bW,FP he];grind⟩
     grind
    ·rename_i n e bW;split at h
     ·rename_i ie l7;split at h
      ·rename_i cs OZ;exact⟨_,_,_,h,λj6 H' K' he hH hK=>by unfold fw;simp only[ho,hi,hz,bW,l7,FP he];grind⟩
      grind
     grind
    grind
   grind
  grind
 |buildSlice T len parts=>
  have FP: ∀ {j6:Operand->Option DV},(∀x∈(Op.buildSlice T len parts).operands.toList,j6 x=ev x)->(parts.toList.map λp=>(p.1,j6 p.2))=parts.toList.map λp=>(p.1,ev p.2):=by grind[List.map_congr_left,Op.operands]
  unfold fw at h;rw[ho]at h;simp only at h;split at h
  ·rename_i i hi;split at h
   ·rename_i e bW;split at h
    ·rename_i ie l7;split at h
     ·rename_i hb;split at h
      ·rename_i es u r hes;split at h
       ·rename_i c hc;refine⟨_,_,_,h,λj6 H' K' he hH hK=>?_⟩;unfold fw;simp only[ho,hi,bW,l7,hb,FP he,tO hes hH]
        grind
       grind
      grind
     grind
    grind
   grind
  grind
 |load T x=>
  unfold fw at h;rw[ho]at h;simp only at h;split at h
  ·rename_i d hd;exact key (PO T d) h λj6 H' K' he hf=>by exact vO
  grind
 |store T x y=>
  unfold fw at h;rw[ho]at h;simp only at h;split at h
  ·rename_i d e hd CJ;exact key (Md T d e) h λj6 H' K' he hf=>by exact vO
  grind
 |fieldAddr T x n=>
  unfold fw at h;rw[ho]at h;simp only at h;split at h
  ·rename_i d hd;exact key (BU T d n) h λj6 H' K' he hf=>by exact vO
  grind
 |indexAddr T x y=>
  unfold fw at h;rw[ho]at h;simp only at h;split at h
  ·rename_i d e hd CJ;exact key (BV T d e) h λj6 H' K' he hf=>by exact vO
  grind
 |index T x y=>
  unfold fw at h;rw[ho]at h;simp only at h;split at h
  ·rename_i d e hd CJ;exact key (Me T d e) h λj6 H' K' he hf=>by exact vO
  grind
 |field T x n=>
  unfold fw at h;rw[ho]at h;simp only at h;split at h
  ·rename_i d hd;exact key (Mf T d n) h λj6 H' K' he hf=>by exact vO
  grind
 |slice T x lo hi mx=>
  unfold fw at h;rw[ho]at h;simp only at h;split at h
  ·rename_i d hd;refine key (Mg T d (lo.map ev) (hi.map ev)) h λj6 H' K' he hf=>?_
   have e1:lo.map j6=lo.map ev:=by
    cases lo with
    |none=>rfl
    |some z=>grind[Op.operands]
   have e2:hi.map j6=hi.map ev:=by
    cases hi with
    |none=>rfl
    |some z=>grind[Op.operands]
   exact vO
  grind
 |binOp op T x y yT=>
  unfold fw at h;rw[ho]at h;simp only at h;split at h
  ·rename_i d e hd CJ;exact key (Ve _ op T d e) h λj6 H' K' he hf=>by exact vO
  grind
 |unOp op T x=>
  unfold fw at h;rw[ho]at h;simp only at h;split at h
  ·rename_i d hd;exact key (YN op d) h λj6 H' K' he hf=>by exact vO
  grind
 |convert s t x=>
  unfold fw at h;rw[ho]at h;simp only at h;split at h
  ·rename_i d hd;exact key (PP s t d) h λj6 H' K' he hf=>by exact vO
  grind
 |extract t n=>
  unfold fw at h;rw[ho]at h;simp only at h;split at h
  grind[fw,Op.operands]
  grind
 |makeFunc fn first bM=>
  cases fn with
  |func f=>
   unfold fw at h;rw[ho]at h;simp only at h;refine key (Dl f _ _) h λj6 H' K' he hf=>?_;exact vO
  |_=>grind[fw]
 |makeSlice T x y=>
  unfold fw at h;rw[ho]at h;simp only at h;split at h
  ·rename_i d e hd CJ;exact key (BW T d e) h λj6 H' K' he hf=>by exact vO
  grind
 |call c=>
  cases hc:c.callee with
  |value fo=>
   unfold fw at h;rw[ho]at h;simp only[hc]at h;refine key (Jc _ _ _ _) h λj6 H' K' he hf=>?_
   grind[fw,Op.operands,Call.operands]
  |invoke r m=>grind[fw]
  |builtin b=>
   unfold fw at h;rw[ho]at h;simp only[hc]at h;refine key (Ga b _ _) h λj6 H' K' he hf=>?_
   grind[fw,Op.operands,Call.operands]
 |_=>unfold fw at h;rw[ho]at h;exact h.elim
end
open Go.RowKit (Below)
open Classical
def Vg (z:Nat):Nat->List (Nat × Option DV)->Option (List (List DC))
 |_,[]=>some []
 |n,(i,some (.val x))::rest=>match Nat.beq i n&&Nat.beq x.2.length z with
  |true=>match Vg z (n+1) rest with
   |some l=>some (x.2::l)
   |none=>none
  |false=>none
 |_,_=>none
def j9 (H:HF)(z:Nat):DC->Option (List (List DC) × List Nat)
 | .nil =>some ([],[])
 | .own id=>match H id with
  |some (.aD z' l)=>match Nat.beq z' z with
   |true=>some (l,[id])
   |false=>none
  |_=>none
 | .st (.view es)=>some (es.map λe=>e.map .st,[])
 |_=>none
def kQ (s:ByteArray):List (List SC):=s.data.toList.map λb=>[.lit (.int .u8 (b.toNat:Nat))]
def pp:List DC->Option (List SC)
 | []=>some []
 | .st c::l=>match pp l with
  |some cs=>some (c::cs)
  |none=>none
 |_=>none
def ja:List (ByteArray × SV)->ByteArray->Option SV
 | [],_=>none
 |(k,x)::es,a=>match a==k with
  |true=>some x
  |false=>ja es a
def Ae:List (ByteArray × SV)->ByteArray->SV->List (ByteArray × SV)
 | [],a,x=>[(a,x)]
 |(k,y)::es,a,x=>match a==k with
  |true=>(k,x)::es
  |false=>(k,y)::Ae es a x
def wR (C:bU)(k:TypeId):Bool:=match C.ti k with
 |some i=>match i.b8 with
  | .str =>true
  |_=>false
 |none=>false
def Mh:List (Nat × Bool)->Nat->Option Bool
 | [],_=>none
 |(j,b)::H,i=>match Nat.beq i j with
  |true=>some b
  |false=>Mh H i
def Ta (C:bU)(e:TypeId):Option SV:=match C.ti e,Mh C.mz e with
 |some ie,some ag=>match qZ ie.kinds ie.zero with
  |some cs=>some (ag,cs)
  |none=>none
 |_,_=>none
def orZ:Option SV->SV->SV
 |some x,_=>x
 |none,z=>z
def isS:Option SV->Bool
 |some _=>true
 |none=>false
def uX (abJ:Option SV)(zero:SV)(ok:Bool):DV:=match ok with
 |false=>.val (dyn (orZ abJ zero))
 |true=>.aI [dyn (orZ abJ zero),(false,[.st (.lit (.bool (isS abJ)))])]
def PS (C:bU)(fid:Nat)(o:Oper)(ev:Operand->Option DV)(H:HF):Option (Prop × DV × Hp × List Nat):=match o.op with
 | .buildSlice T len parts=>match C.ti T with
  |some i=>match i.b8 with
   | .slice e=>match C.ti e,ya e C.deep with
    |some ie,true=>match Nat.ble 1 ie.size&&Nat.ble (len*ie.size) 16777216&&Nat.beq parts.size len with
     |true=>match Vg ie.size 0 (parts.toList.map λp=>(p.1,ev p.2))with
      |some l=>some (True,bm (.own fid),[(fid,some (.aD ie.size l))],[])
      |none=>none
     |false=>none
    |_,_=>none
   |_=>none
  |none=>none
 | .call c=>match c.callee,c.argTypes.toList,c.args.toList.map ev with
  | .builtin .append,[t,t'],[some (.val (false,[x])),some (.val (false,[y]))]=>match C.ti t,C.ti t' with
   |some i,some i'=>match i.b8,i'.b8 with
    | .slice e,.slice _=>match C.ti e,ya e C.deep with
     |some ie,true=>match Nat.ble 1 ie.size&&Nat.ble ie.bytes 4096&&Nat.beq ie.zero.length ie.size with
      |true=>match j9 H ie.size y with
       |some (ly,ry)=>match x with
        | .nil =>some ((∀e∈ly,e.length=ie.size)/\ly.length<=xE,bm (.own fid),[(fid,some (.aD ie.size ly))],ry)
        | .own id=>match H id with
         |some (.aD z l)=>match Nat.beq z ie.size with
          |true=>some ((∀e∈ly,e.length=ie.size)/\l.length+ly.length<=xE,bm (.own fid),[(fid,some (.aD z (l++ly))),(id,none)],id::ry)
          |false=>none
         |_=>none
        |_=>none
       |none=>none
      |false=>none
     |_,_=>none
    |_,_=>none
   |_,_=>none
  |_,_,_=>none
 | .makeMap T none=>match C.ti T with
  |some i=>match i.b8 with
   | .map _ _=>some (True,bm (.mp fid),[(fid,some (.map []))],[])
   |_=>none
  |none=>none
 | .insert T m k v=>match C.ti T,ev m,ev k,ev v with
  |some i,some (.val (false,[.mp id])),some (.val (false,[.st (.lit (.string a))])),some (.val (ag,cs))=>match i.b8,H id,pp cs with
   | .map kt _,some (.map es),some l=>match wR C kt with
    |true=>some (True,.aI [],[(id,some (.map (Ae es a (ag,l))))],[id])
    |false=>none
   |_,_,_=>none
  |_,_,_,_=>none
 | .mapUpdate T m k v=>match C.ti T,ev m,ev k,ev v with
  |some i,some (.val (false,[.mp id])),some (.val (false,[.st (.lit (.string a))])),some (.val (ag,cs))=>match i.b8,H id,pp cs with
   | .map kt _,some (.map es),some l=>match wR C kt with
    |true=>some (True,.aI [],[(id,some (.map (Ae es a (ag,l))))],[id])
    |false=>none
   |_,_,_=>none
  |_,_,_,_=>none
 | .lookup T m k ok=>match C.ti T,ev m,ev k with
  |some i,some (.val (false,[.mp id])),some (.val (false,[.st (.lit (.string a))]))=>match i.b8,H id with
   | .map kt et,some (.map es)=>match wR C kt,Ta C et with
    |true,some z=>some (True,uX (ja es a) z ok,[],[id])
    |_,_=>none
   |_,_=>none
  |_,_,_=>none
 | .convert src dst x=>match C.ti src,C.ti dst,ev x with
  |some i,some j,some (.val (false,[.st (.lit (.string s))]))=>match i.b8,j.b8 with
   | .str,.slice e=>match z8 C e with
    |true=>some (True,bm (.st (.view (kQ s))),[],[])
    |false=>none
   |_,_=>none
  |_,_,_=>none
 | .nilCheck x=>match ev x with
  |some (.val (false,[d]))=>match L0 d with
   |some true=>some (True,bm d,[],[])
   |_=>none
  |_=>none
 | .slice T (.global g) none none none=>match C.ti T with
  |some i=>match i.b8 with
   | .array n e=>match C.ti e with
    |some _=>some (True,bm (.st (.raw (.slice (some ⟨g,0,none⟩) n n))),[],[])
    |none=>none
   |_=>none
  |none=>none
 | .sliceToArrayPointer T x=>match C.ti T,ev x with
  |some i,some (.val (false,[.st (.ints l)]))=>match i.b8 with
   | .array n _=>some (1<=n/\n<=l.length,bm (.st (.ref ((l.take n).map λk=>.lit (.int .i64 k)))),[],[])
   |_=>none
  |_,_=>none
 | .makeFunc (.func f) first bM=>match first.toList,bM.toList.map ev with
  | [],[some (.val (false,[.ptr id 0]))]=>some (True,bm (.sL f id),[],[])
  |_,_=>none
 |_=>none
def opX (C:bU)(fid:Nat)(o:Oper)(ev:Operand->Option DV)(H:HF)(K:j8):Prop:=match PS C fid o ev H with
 |some (P,r,u,R)=>P/\K r u R
 |none=>False
theorem yp {H H':HF}{z:Nat}{d:DC}{l:List (List DC)}{R:List Nat}(h:j9 H z d=some (l,R))(hH: ∀id∈R,H' id=H id):j9 H' z d=some (l,R):=by
 cases d with
 |own id=>
  grind[j9]
 |st c=>cases c<;>exact h
 |_=>exact h
section
variable {C:bU}{fid:Nat}
theorem PT {o:Oper}{ev j6:Operand->Option DV}{H H':HF}{P:Prop}{r:DV}{u:Hp}{R:List Nat}(h:PS C fid o ev H=some (P,r,u,R))(he: ∀x∈o.op.operands.toList,j6 x=ev x)(hH: ∀id∈R,H' id=H id):
  PS C fid o j6 H'=some (P,r,u,R):=by
 unfold PS at h ⊢
 cases ho:o.op with
 |buildSlice T len parts=>
  rw[ho]at h;simp only at h ⊢;have FP:(parts.toList.map λp=>(p.1,j6 p.2))=parts.toList.map λp=>(p.1,ev p.2):=by grind[List.map_congr_left,Op.operands]
  grind
 |call c=>
  rw[ho]at h;simp only at h ⊢;have aex:c.callee= .builtin .append ->c.args.toList.map j6=c.args.toList.map ev:=λhc=>Lt λx hx=>he x (by grind[Op.operands,Call.operands]);split at h;rotate_left
  ·cases h
  rename_i t t' x y hc vX dQ;rw[aex hc,hc,vX,dQ];simp only;split at h;rotate_left
  ·cases h
  rename_i i i' hi lA;split at h;rotate_left
  ·cases h
  rename_i e _ jg ahN;split at h;rotate_left
  ·cases h
  rename_i ie l7 hdp;split at h;rotate_left
  ·cases h
  rename_i hb;split at h;rotate_left
  ·cases h
  rename_i ly ry hdy;split at h
  grind[yp]
  ·rename_i id;split at h
   grind[yp]
   grind
  grind
 |makeMap T r=>
  grind
 |insert T m k v=>
  exact aiC
 |mapUpdate T m k v=>
  exact aiC
 |lookup T m k ok=>
  rw[ho]at h
  grind[Op.operands]
 |convert src dst x=>
  grind[Op.operands]
 |nilCheck x=>
  grind[Op.operands]
 |sliceToArrayPointer T x=>
  grind[Op.operands]
 |slice T x lo hi mx=>
  grind
 |makeFunc fn first bM=>
  rw[ho]at h
  cases fn with
  |func f=>
   grind[List.map_congr_left,Op.operands]
  |_=>cases h
 |_=>grind
def Vh {o:Oper}{ev:Operand->Option DV}{H:HF}{K:j8}(h:opX C fid o ev H K): ∃r u R,K r u R/\∀(j6:Operand->Option DV) (H':HF) (K':j8),(∀x∈o.op.operands.toList,j6 x=ev x)->(∀id∈R,H' id=H id)->K' r u R->opX C fid o j6 H' K':=by grind[opX,PT]
end
section
variable {C:bU}{F:gN}{β:Nat->Option Nat}{N:Nat->Prop}{H:HF}{fid:Nat}{K:j8}{w w':World}{P:Program}
theorem Tb {z:Nat}: ∀ {ps:List (Nat × Option DV)} {n:Nat} {l:List (List DC)},Vg z n ps=some l->l.length=ps.length/\∀(k:Nat) (e:List DC),l[k]? =some e->∃ag,ps[k]? =some (n+k,some (.val (ag,e)))/\e.length=z
 | [],n,l,h=>by grind[Vg]
 |p::ps,n,l,h=>by
  unfold Vg at h;split at h
  grind
  ·rename_i n0 i x rest vU;cases vU;split at h
   ·rename_i hb;obtain⟨h1,h2⟩:=aH hb;have h1:=pb h1;have h2:=pb h2;subst h1;split at h
    ·rename_i l' hl;simp at h;subst h;obtain⟨q1,q2⟩:=Tb hl
     grind
    grind
   grind
  grind
def Jd (hC:C.Ok)(hG:bJ C F)(hR:ad F β N H w)(hf: ¬N fid){E:EF}{a:Act}(hE:dM F β N H w E a){T:TypeId}{len:Nat}{parts:Array (Nat × Operand)}{i ie:TI}{e:TypeId}{l:List (List DC)}
  (hi:C.ti T=some i)(bW:i.b8= .slice e)(l7:C.ti e=some ie)(h1:1<=ie.size)(h2:len*ie.size<=16777216)(h3:parts.size=len)(hl:Vg ie.size 0 (parts.toList.map λp=>(p.1,C.ev E p.2))=some l):
  ∃v w',(Instr.buildSlice T len (parts.map λp=>(p.1,a.eval p.2))).run C.P w= .ok v w'/\bn F β N H fid (λr u R=>r=bm (.own fid)/\u= [(fid,some (.aD ie.size l))]/\R= []) w v w':=by
 obtain⟨aoF,hp⟩:=C9 hG hR hE parts;obtain⟨tf,d,z,hT⟩:=hC.get hi;have hd:=dq (hT.b8.trans bW);obtain⟨ef,ed,ez,GX⟩:=hC.get l7;obtain⟨q2,q3⟩:=Tb hl;have bG:l.length=len:=by grind
 have FK: ∃xq:Array Value,xq.size=len*ie.size/\∀cells,Instr.fill (λi=>some (i*ie.size,ie.size)) xq (parts.map λ(p:Nat × Operand)=>(p.1,a.eval p.2)).toList =some cells->
   (Instr.buildSlice T len (parts.map λ(p:Nat × Operand)=>(p.1,a.eval p.2))).run C.P w= .ok (.slice (some ⟨w.heap.size,0,none⟩) len len) (w.alloc (.cells cells e)):=by
  exact K34
 obtain⟨xq,hs0,bH⟩:=FK;have pL:(parts.map λ(p:Nat × Operand)=>(p.1,a.eval p.2)).toList.length =len:=by omega
 have Pc: ∀(k:Nat) (p:Nat × Value),(parts.map λ(p:Nat × Operand)=>(p.1,a.eval p.2)).toList[k]? =some p->∃ag e,l[k]? =some e/\p.1=k/\e.length=ie.size/\au F β N H w p.2 (ag,e):=by
  intro k p hk;have xw:k<l.length:=by grind
  obtain⟨ag,a1,a2⟩:=q3 k l[k] bv;obtain⟨b1,b2⟩:=hp k p _ hk a1;exact⟨ag,l[k],by grind,by omega,a2,b2 _ rfl⟩
 obtain⟨arr',f1,f2,f3,f4⟩:=Da (z:=ie.size) (parts:=(parts.map λ(p:Nat × Operand)=>(p.1,a.eval p.2)).toList) (n:=0) (arr:=xq) (λk p hk=>by
  obtain⟨ag,e,a1,a2,a3,a4⟩:=Pc k p hk
  exact⟨by omega,by rw[a4.cells.1,a3]⟩) bv
 refine⟨.slice (some ⟨w.heap.size,0,none⟩) len len,w.alloc (.cells arr' e),bH _ f1,?_⟩;refine bn.new (u:=[]) (b:=some w.heap.size) hR Tr.refl hf (Below.oy w _) (by simp) ⟨rfl,rfl,rfl⟩ (λH1 xI t1 t2=>?_) (λH1 xI=>cK ⟨.inr rfl,rfl,λnV z' n' hb wI=>?_⟩)
 ·have iL: ∀(i:Nat) (e:List DC),l[i]? =some e->e.length=ie.size:=λi e he=>let⟨_,_,h⟩:=q3 i e he;h;refine⟨⟨h1,iL⟩,.inr ⟨w.heap.size,len,arr',e,by simp[cV],gN.gG hR.below.size,gO w _,by omega,by omega,λi e j x he hx=>?_⟩⟩;have XC:i< (parts.map λ(p:Nat × Operand)=>(p.1,a.eval p.2)).toList.length :=by grind
  obtain⟨ag,e0,a1,a2,a3,a4⟩:=Pc i _ (pj XC);rw[he]at a1;cases a1;have hjz:j<ie.size:=by grind
  have:=f3 i _ j (pj XC) hjz;rw[j7]at this;rw[bQ this];exact t1.jw hR (a4.cells.2 j x hx)
 ·exact aiF
structure qi (F:gN) (β:Nat->Option Nat) (N:Nat->Prop) (H:HF) (w:World) (z:Nat) (l:List (List DC)) (arr:Array Value):Prop where
 size:arr.size=l.length*z
 zW: ∀(i:Nat) (e:List DC),l[i]? =some e->e.length=z
 rep: ∀(i:Nat) (e:List DC) (j:Nat) (x:DC),l[i]? =some e->e[j]? =some x->cw F β N H w (arr.getD (i*z+j) undef) x
def qi.one {z:Nat}{l:List (List DC)}{new:Array Value}(hc:qi F β N H w z l new)(hz:0<z): ∀u∈new.toList,u.oneCell'=true:=by
 intro u hu;obtain⟨k,hk⟩:=UP.1 hu;have qR:new[k]? =some u:=by grind
 have ak:k<new.size:=(FV.1 qR).1;have hi:k/z<l.length:=by rw[XV hz,<- hc.size];omega
 have he:l[k/z]? =some l[k/z]:=by grind
 have hj:k%z< (l[k/z]).length :=by rw[hc.zW _ _ he];exact tq _ hz
 have:=hc.rep _ _ (k%z) (l[k/z])[k%z] he bv;rw[Nat.mul_comm,Nat.div_add_mod,mi qR]at this;exact this.one_cell
def qi.cat {z:Nat}{c d:List (List DC)}{a b rest:Array Value}(hc:qi F β N H w z c a)(hd:qi F β N H w z d b):
  (∀(i:Nat) (e:List DC),(c++d)[i]? =some e->e.length=z)/\∀(i:Nat) (e:List DC) (j:Nat) (x:DC),(c++d)[i]? =some e->e[j]? =some x->cw F β N H w ((a++b++rest).getD (i*z+j) undef) x:=by
 have uR: ∀(i:Nat) (e:List DC),(c++d)[i]? =some e->e.length=z:=by
  intro i e he;rw[Ss]at he;by_cases hi:i<c.length
  ·rw[if_pos hi]at he;exact hc.zW i e he
  ·rw[if_neg hi]at he;exact hd.zW _ e he
 refine⟨uR,λi e j x he hx=>?_⟩;have hj:j<z:=by grind
 rw[Ss]at he;by_cases hi:i<c.length
 ·rw[if_pos hi]at he
  have ak:i*z+j<a.size:=by
   rw[hc.size];have:(i+1)*z<=c.length*z:=kE _ hi
   grind
  rw[bQ (b:=a) (l:=i*z+j) bv];exact hc.rep i e j x he hx
 ·rw[if_neg hi]at he;have hi2:=(kJ.1 he).1;have e1:(i -c.length)*z+c.length*z=i*z:=by exact aci
  have ak:(i -c.length)*z+j<b.size:=by
   rw[hd.size];have:(i -c.length+1)*z<=d.length*z:=kE _ hi2
   grind
  rw[bQ (b:=b) (l:=(i -c.length)*z+j) (by
   rw[XO akH,XT (by rw[hc.size];omega),hc.size]
   grind)]
  exact hd.rep _ e j x he hx
theorem iX (hG:bJ C F)(hR:ad F β N H w){z:Nat}{v:Value}{d:DC}{l:List (List DC)}{R:List Nat}(hd:cw F β N H w v d)(h:j9 H z d=some (l,R))(hz:0<z)(hu: ∀e∈l,e.length=z):
  ∃a cap new,v= .slice a l.length cap/\(Builtin.firstCells z l.length v).run P w= .ok new w/\l.length<=cap/\qi F β N H w z l new:=by
 have dw: ∀ {es:List (List SC)},dy (MV F β H w) (MR F β H w) v (.view es)->(∀e∈es,e.length=z)->∃a cap new,v= .slice a es.length cap/\(Builtin.firstCells z es.length v).run P w= .ok new w/\es.length<=cap/\qi F β N H w z (es.map λe=>e.map .st) new:=by
  intro es hv hes;obtain⟨a,cap,new,q1,q2,q3,q4,q5⟩:=gd (P:=P) (z:=z) (d:=.st (.view es)) (c:=.view es) (k:=false) hG hR hv rfl rfl hz (λi e he=>hes e (jI (by simpa [SC.elem]using he)));refine⟨a,cap,new,q1,q2,q4,by grind[SC.len],λi e he=>?_,λi e j x he hx=>?_⟩
  grind
  ·rw[gK,mZ]at he;obtain⟨y,hy,rfl⟩:=he;rw[gK,mZ]at hx;obtain⟨c,hc,rfl⟩:=hx;exact(q5 i y j c ab3 hc).mono (Mem.le_refl _) (ee _)
 cases d with
 |nil=>
  simp[j9]at h;obtain⟨rfl,_⟩:=h;have hv:v= .slice none 0 0:=hd;subst hv;exact aku
 |st c=>
  cases c<;>simp[j9]at h;rename_i es;obtain⟨rfl,_⟩:=h;obtain⟨a,cap,new,q1,q2,q3,q4⟩:=dw (es:=es) hd λe he=>by simp_all
  grind
 |own id=>
  simp only[j9]at h;split at h
  ·rename_i z' l' e;split at h
   ·rename_i qb;have qb:=pb qb;subst qb;simp at h;obtain⟨rfl,_⟩:=h;obtain⟨hn,_,jr⟩:=hd;obtain⟨_,⟨_,hl⟩,gC⟩:=hR.rel id _ e
    rcases jr _ z' l'.length e rfl with⟨b1,b2,rfl⟩|⟨b,cap,arr,T,b1,rfl,b3,b4⟩
    ·have sI:l'= []:=IR b2;subst sI;exact aku
    ·rcases gC with q|⟨b',jE,arr',T',q1,q2,q3,q4,q5,q6⟩
     ·grind
     rw[b1]at q1;cases q1;rw[b3]at q3;cases q3;have fZ:cap=jE:=UK hz K0;subst fZ;have eC:l'.length*z'<=arr.size:=by rw[q4];exact kE _ q5
     refine⟨_,cap,((List.range (l'.length*z')).map λk=>arr.getD k undef).toArray,rfl,?_,q5,by simp,hl,λi e j x he hx=>?_⟩
     ·exact SO w _ _ _ (λj hj=>by rw[addr_add,j7];exact gb b3 K0)
     ·have hj:j<z':=by grind
      have ak:i*z'+j<l'.length*z':=by
       have:(i+1)*z'<=l'.length*z':=kE _ (kJ.1 he).1
       grind
      simp_all
   grind
  grind
 |ptr _ _=>grind[j9]
 |cI _ _ _ _=>grind[j9]
 |sL _ _=>grind[j9]
 |mp _=>grind[j9]
def Hm (hR:ad F β N H w)(hf: ¬N fid){z:Nat}{c d:List (List DC)}{a b rest:Array Value}{e:TypeId}{dP:Nat}{H0:HF}{u:Hp}{R:List Nat}(hz:0<z)(hc:qi F β N H w.drew z c a)(hd:qi F β N H w.drew z d b)
  (fZ:(c++d).length <=dP)(Pa:rest.size=(dP -(c++d).length)*z)(h0: ∀H1,H1=u.on H->H1=bt H0 fid (some (.aD z (c++d))))(ht:Tr F β N H w.drew β N H0 w.drew)(UA:ad F β N H0 w.drew)
  (hK:K (bm (.own fid)) u R):bn F β N H fid K w (.slice (some ⟨w.heap.size,0,none⟩) (c++d).length dP) (w.drew.alloc (.cells (a++b++rest) e)):=by
 obtain⟨uR,ip⟩:=qi.cat (rest:=rest) hc hd;have CE:Below w.heap.size w w.drew:=(Below.refl _ _).drew;have td:Tr F β N H w β N H w.drew:=Tr.grow hR CE;have s9:Below w.drew.heap.size w.drew (w.drew.alloc (.cells (a++b++rest) e)):=Below.oy _ _;have jv: ∀x,some w.heap.size=some x->w.drew.heap.size<=x:=λx hx=>by simp_all
 have t2:=Tr.new (w':=w.drew.alloc (.cells (a++b++rest) e)) UA s9 hf (some w.heap.size) jv (.aD z (c++d))
 have II:(a++b++rest).size =dP*z:=by
  have e1:dP*z=(dP -(c++d).length)*z+(c++d).length *z:=by exact aci
  exact aj2
 have qc:(w.drew.alloc (.cells (a++b++rest) e)).heap[w.heap.size]? =some (.cells (a++b++rest) e):=gO w.drew _;have Pe:ad F β N H w.drew:=hR.grow CE
 have abO:iB F (cV β fid (some w.heap.size)) (Fw.bk N fid) (bt H0 fid (some (.aD z (c++d)))) (w.drew.alloc (.cells (a++b++rest) e)) fid (.aD z (c++d)):=
  ⟨⟨hz,uR⟩,.inr ⟨w.heap.size,dP,_,e,by simp[cV],gN.gG hR.below.size,qc,II,fZ,λi e' j x he hx=>(ht.trans t2).jw Pe (ip i e' j x he hx)⟩⟩
 have hH:=ad.new UA s9 hf (some w.heap.size) jv (.aD z (c++d)) abO;exact K81
def Mi (hf: ¬N fid){z:Nat}{H0:HF}{u:Hp}{R:List Nat}(hz:0<z)
  (hH0: ∀H1,H1=u.on H->H1=bt H0 fid (some (.aD z [])))(ht:Tr F β N H w β N H0 w)(UA:ad F β N H0 w)(hK:K (bm (.own fid)) u R):bn F β N H fid K w (.slice none 0 0) w:=by
 have hw:Below w.heap.size w w:=Below.refl _ _;have t2:=Tr.new UA hw hf none (by simp) (.aD z []);have hH:=ad.new UA hw hf none (by simp) (.aD z []) ⟨⟨hz,by simp⟩,.inl ⟨by simp[cV],rfl⟩⟩;have hu1:=hH0 _ rfl;refine⟨cV β fid none,_,u,R,hK,by rw[hu1];exact ht.trans t2,by grind,?_⟩;rw[hu1];refine cK ⟨.inr rfl,rfl,λnV z' n' hb wI=>?_⟩;rw[an]at hb;cases hb;cases wI;exact .inl ⟨by simp[cV],rfl,rfl⟩
def Vi (hR:ad F β N H w)(hf: ¬N fid){z id b cap:Nat}{c d:List (List DC)}{arr new:Array Value}{T:TypeId}{R:List Nat}(hb:H id=some (.aD z c))(xC:β id=some b)(lF:w.heap[b]? =some (.cells arr T))
  (nC:arr.size=cap*z)(hd:qi F β N H w z d new)(eC:c.length+d.length<=cap)
  (hK:K (bm (.own fid)) [(fid,some (.aD z (c++d))),(id,none)] R):bn F β N H fid K w (.slice (some ⟨b,0,none⟩) (c++d).length cap) (w.setRow b (aP arr (c.length*z) new.toList)):=by
 obtain⟨hn,⟨hz,sI⟩,gC⟩:=hR.rel id _ hb
 rcases gC with⟨q,_⟩|⟨b',jE,arr',T',q1,q2,q3,q4,q5,q9⟩
 ·grind
 rw[xC]at q1;cases q1;rw[lF]at q3;cases q3;have fZ:cap=jE:=UK hz K0;subst fZ;have AX:new.toList.length=d.length*z:=by simpa using hd.size
 have Pd:c.length*z+d.length*z<=arr.size:=aj6;have O3:(aP arr (c.length*z) new.toList).size =arr.size:=fk K0;have Xm:id≠fid:=λe=>hf (e▸hn);have qc:(w.setRow b (aP arr (c.length*z) new.toList)).heap[b]? =some (.cells (aP arr (c.length*z) new.toList) T):=xV w b arr _ T (0,0) lF;have live: ∀ {k:Nat} {b0:cD},k≠fid->bt (bt H id none) fid (some (.aD z (c++d))) k=some b0->k≠id/\H k=some b0:=by grind[aG,an]
 have hT:Tr F β N H w (cV β fid (some b)) (Fw.bk N fid) (bt (bt H id none) fid (some (.aD z (c++d)))) (w.setRow b (aP arr (c.length*z) new.toList)):=by
  refine⟨jy.setRow (hR.fY hb xC).2 _,λb' o v _ hs e=>⟨λiW bC e' jW=>?_,?_⟩,λ_ h=>.inl h,λiW Lh=>iC _ _ _ λe=>hf (e▸Lh),λiW blk' Lh e=>?_,λ_ _ _ b' xq T0 _ _ _ _ _ e=>?_,mh ⟨_,_,lF⟩ _⟩
  ·by_cases hk:iW=fid
   ·subst hk;rw[jz]at jW;cases jW;exact(hs id _ hb xC).elim
   ·exact af1
  ·by_cases hk:b'=b
   ·subst hk;exact(hs id _ hb xC).elim
   exact ach
  ·exact afP
  grind[setRow_other]
 have hc:qi F β N H w z c (arr.extract 0 (c.length*z)):=by
  refine⟨by grind,sI,λi e j x he hx=>?_⟩;have hj:j<z:=by grind
  have ak:i*z+j<c.length*z:=by
   have:(i+1)*z<=c.length*z:=kE _ (kJ.1 he).1
   grind
  grind[bQ]
 obtain⟨uR,ip⟩:=qi.cat (rest:=arr.extract (c.length*z+d.length*z) arr.size) hc hd
 have anV:aP arr (c.length*z) new.toList=arr.extract 0 (c.length*z)++new++arr.extract (c.length*z+d.length*z) arr.size:=by
  apply Ha
  grind[aP,Array.toList_extract,List.take_of_length_le]
 have hH:ad F (cV β fid (some b)) (Fw.bk N fid) (bt (bt H id none) fid (some (.aD z (c++d)))) (w.setRow b (aP arr (c.length*z) new.toList)):=by
  refine hR.step hT (λi=>i=fid) (λi bC hi e=>?_) (λi bC hi e=>?_) (λi j x y y' hi hj bi bj=>?_)
  ·exact K73
  ·subst hi;rw[an]at e;cases e;refine⟨.inr rfl,⟨hz,uR⟩,.inr ⟨b,cap,_,T,by simp[cV],q2,qc,by omega,by grind,λi e' j x he hx=>?_⟩⟩;have:=hT.jw hR (ip i e' j x he hx)
   grind
  ·exact K21
 refine⟨_,_,_,R,hK,hT,hH,cK ⟨.inr rfl,rfl,λnV z' n' jW wI=>?_⟩⟩;have:bt (bt H id none) fid (some (.aD z (c++d))) fid=some nV:=jW;exact afM
def wh (hC:C.Ok)(hG:bJ C F)(hR:ad F β N H w)(hf: ¬N fid){T T' ty:TypeId}{i i' ie:TI}{e e':TypeId}{x y:DC}{v0 v1:Value}{ly:List (List DC)}{ry:List Nat}(hi:C.ti T=some i)(bW:i.b8= .slice e)(lA:C.ti T'=some i')(ID:i'.b8= .slice e')(l7:C.ti e=some ie)
  (h1:1<=ie.size)(h2:ie.bytes<=4096)(hzl:ie.zero.length=ie.size)(hx:cw F β N H w v0 x)(hy:cw F β N H w v1 y)(hdy:j9 H ie.size y=some (ly,ry))(Pw: ∀e∈ly,e.length=ie.size)
  (hc:(x= .nil /\ly.length<=xE/\K (bm (.own fid)) [(fid,some (.aD ie.size ly))] ry)\/∃id l,x= .own id/\H id=some (.aD ie.size l)/\l.length+ly.length<=xE/\K (bm (.own fid)) [(fid,some (.aD ie.size (l++ly))),(id,none)] (id::ry)):
  ∃v w',(Builtin.append_ #[T,T'] ty #[v0,v1]).run C.P w= .ok v w'/\bn F β N H fid K w v w':=by
 obtain⟨tf',d',zv',eJ⟩:=hC.get lA;have xn:=dq (eJ.b8.trans ID);have O6:C.P.underlying T'=some (.slice e'):=by rw[eJ.IP,xn]
 obtain⟨tf,d,zv,hT⟩:=hC.get hi;have hd:=dq (hT.b8.trans bW);have hu:C.P.underlying T=some (.slice e):=by rw[hT.IP,hd]
 obtain⟨ef,ed,ez,hE⟩:=hC.get l7;have hzc:ez.cells.size=ie.size:=by exact agl
 have CE:Below w.heap.size w w.drew:=(Below.refl _ _).drew;have td:Tr F β N H w β N H w.drew:=Tr.grow hR CE;have Pe:ad F β N H w.drew:=hR.grow CE;have abF:=td.jw hR hy;have hL:xE=4294967296:=rfl
 rcases hc with⟨rfl,FN,hK⟩|⟨id,l,rfl,hid,FN,hK⟩
 ·have Cg:v0= .slice none 0 0:=hx;subst Cg;by_cases GV:ly.length=0
  ·obtain⟨a,cap,new,rfl,np,Xv,KZ⟩:=iX hG hR hy hdy h1 Pw;have bH:=(gq (P:=C.P) (w:=w) (ty:=ty) (base:=none) (sLen:=0) (sCap:=0) (old:= #[]) hu O6 hE.ow hE.size hE.bytes hE.zero h2 (show 0+ly.length<=4294967296 by omega)).1 K0 np w rfl;rw[GV]at bH;have sI:=IR GV;subst sI;exact⟨_,w,bH,Mi (u:=[(fid,some (.aD ie.size []))]) hf h1 (λ_ h=>h) Tr.refl hR hK⟩
  ·obtain⟨a,cap,new,rfl,np,Xv,KZ⟩:=iX hG Pe abF hdy h1 Pw;obtain⟨dP,rest,g1,g2,bH⟩:=(gq (P:=C.P) (w:=w) (ty:=ty) (base:=none) (sLen:=0) (sCap:=0) (old:= #[]) hu O6 hE.ow hE.size hE.bytes hE.zero h2 (show 0+ly.length<=4294967296 by omega)).2 K0 akI np;have e0:0+ly.length=([]++ly).length :=by simp
   rw[e0]at bH g1 g2;refine⟨_,_,bH,?_⟩;exact Hm (u:=[(fid,some (.aD ie.size ly))]) (c:=[]) (d:=ly) (a:= #[]) (b:=new) hR hf h1 ⟨by simp,by simp,by simp⟩ KZ g1 bv (λ_ h=>h) Tr.refl Pe hK
 ·obtain⟨hn,h1c,jr⟩:=hx;have hxd:cw F β N H w v0 (.own id):=⟨hn,h1c,jr⟩;obtain⟨_,⟨hz,sI⟩,gC⟩:=hR.rel id _ hid;have hlu: ∀e∈l,e.length=ie.size:=λe he=>let⟨k,hk⟩:=UP.1 he;sI k e hk;have hdx:j9 H ie.size (.own id)=some (l,[id]):=by simp[j9,hid]
  have afu: ∀(base:Option Addr) (cap:Nat),v0= .slice base l.length cap->¬l.length+ly.length<=cap->∃v w',(Builtin.append_ #[T,T'] ty #[v0,v1]).run C.P w= .ok v w'/\bn F β N H fid K w v w':=by
   rintro base cap rfl hgt;obtain⟨a,Pg,new,rfl,np,Xv,KZ⟩:=iX hG Pe abF hdy h1 Pw;obtain⟨a0,ahD,old,e0,xA,amP,amW⟩:=iX hG Pe (td.jw hR hxd) hdx h1 hlu;cases e0;obtain⟨dP,rest,g1,g2,bH⟩:=(gq (P:=C.P) (w:=w) (ty:=ty) (base:=base) (sLen:=l.length) (sCap:=cap) hu O6 hE.ow hE.size hE.bytes hE.zero h2 K0).2 hgt xA np;rw[<- sO]at bH g1 g2;refine⟨_,_,bH,?_⟩;exact Hm (u:=[(fid,some (.aD ie.size (l++ly))),(id,none)]) (H0:=bt H id none) hR hf h1 amW KZ g1 bv (λ_ h=>h) (Tr.del id) (Pe.del id) hK
  rcases jr _ ie.size l.length hid rfl with⟨b1,b2,rfl⟩|⟨b,cap,arr,T0,b1,rfl,b3,b4⟩
  ·by_cases GV:ly.length=0
   ·obtain⟨a,cap,new,rfl,np,Xv,KZ⟩:=iX hG hR hy hdy h1 Pw;have bH:=(gq (P:=C.P) (w:=w) (ty:=ty) (base:=none) (sLen:=0) (sCap:=0) (old:= #[]) hu O6 hE.ow hE.size hE.bytes hE.zero h2 (show 0+ly.length<=4294967296 by omega)).1 K0 np w rfl;rw[GV]at bH;have e1:=IR GV;have e2:=IR b2;subst e1 e2;exact⟨_,w,bH,Mi (u:=[(fid,some (.aD ie.size [])),(id,none)]) (H0:=bt H id none) hf h1 (λ_ h=>h) (Tr.del id) (hR.del id) hK⟩
   grind
  ·by_cases nB:l.length+ly.length<=cap
   ·obtain⟨a,Pg,new,rfl,np,Xv,KZ⟩:=iX hG hR hy hdy h1 Pw;have s8:=KZ.one h1
    have Pd:l.length*ie.size+new.toList.length<=arr.size:=by
     have:new.toList.length=ly.length*ie.size:=by simpa using KZ.size
     exact ajU
    have am4:=Su C.P b (l.length*ie.size) T0 new.toList 0 arr w b3 K0 s8
    have bH:=(gq (P:=C.P) (w:=w) (ty:=ty) (base:=some ⟨b,0,none⟩) (sLen:=l.length) (sCap:=cap) (old:= #[]) hu O6 hE.ow hE.size hE.bytes hE.zero h2 K0).1 nB np (w.setRow b (aP arr (l.length*ie.size) new.toList)) (by
     simp only[addr_add,j7]
     grind[aP])
    rw[<- sO]at bH;exact⟨_,_,bH,Vi hR hf hid b1 b3 b4 KZ nB hK⟩
   grind
end
section
variable {C:bU}{F:gN}{β:Nat->Option Nat}{N:Nat->Prop}{H:HF}{fid:Nat}{K:j8}{w w':World}{P:Program}
def Tc {d:TypeDesc}{k e:TypeId}(h:eD d= .map k e):d= .map k e:=by exact UW
theorem Hn: ∀ {l:List (Nat × Bool)} {t:Nat} {b:Bool},Mh l t=some b->(t,b)∈l
 | [],_,_,h=>by grind[Mh]
 |(j,b)::l,t,i,h=>by
  simp only[Mh]at h;split at h;simp_all
  ·exact ji _ (Hn h)
def YO (hC:C.Ok){e:TypeId}{x:SV}(h:Ta C e=some x): ∃f v,C.P.info? e=some f/\f.zero=some v/\∀mv mr:Mem,eu mv mr v x:=by
 unfold Ta at h;split at h
 ·rename_i ie ag l7 hmz;split at h
  ·rename_i cs hzs;simp at h;subst h;obtain⟨f,d,v,hE⟩:=hC.get l7;have hm:=Hn hmz;obtain⟨k,hk⟩:=UP.1 hm;have hty:=aQ (·[k]?) hC.mz;simp only[gK,hk,xR,lM]at hty
   have XH:(ag=true->∃arr,v= .agg arr)/\(ag=false->v.oneCell'=true):=by
    simp only[Ys,hE.ow,hE.zero]at hty
    grind
   rw[<- hE.xN]at hzs;obtain⟨b1,_,b3⟩:=qg hzs;refine⟨f,v,hE.ow,hE.zero,λmv mr=>?_⟩;unfold eu;cases ag
   ·have h1:=XH.2 rfl;rw[Hf h1]at b1 b3;obtain⟨c,rfl⟩: ∃c,cs= [c]:=xO.1 K0;obtain⟨v',q1,q2⟩:=b3 mv mr 0 c rfl
    grind
   ·obtain⟨arr,rfl⟩:=XH.1 rfl;refine⟨arr,rfl,by grind[Value.cells],λk c hk=>?_⟩;obtain⟨v',q1,q2⟩:=b3 mv mr k c hk
    grind[Value.cells,mi]
  grind
 grind
def pq (mv mr:Mem)(es:List (ByteArray × SV))(l:List MapEntry):Prop:=l.length=es.length/\∀(i:Nat) (k:ByteArray) (x:SV) (e:MapEntry),es[i]? =some (k,x)->l[i]? =some e->e.key= .string k/\eu mv mr e.val x
theorem Je {mv mr:Mem}{a:ByteArray}: ∀ {es:List (ByteArray × SV)} {l:List MapEntry} (i0:Nat),pq mv mr es l->
  (ja es a=none/\Instr.findNow .string (.string a) l i0=some none/\∀(v:Value) (x:SV) (n:Nat),eu mv mr v x->pq mv mr (Ae es a x) (l++[⟨.string a,v,n⟩]))\/
   ∃x j e,ja es a=some x/\l[j]? =some e/\Instr.findNow .string (.string a) l i0=some (some (i0+j,e.val))/\e.key= .string a/\eu mv mr e.val x/\∀(v:Value) (x:SV),eu mv mr v x->pq mv mr (Ae es a x) (l.set j {e with val:=v})
 | [],l,i0,h=>by
  have hl:l= []:=IR (by simpa using h.1);subst hl;refine .inl ⟨rfl,rfl,λv x n hv=>⟨rfl,λi k y e h1 h2=>?_⟩⟩
  grind[Ae]
 |(k,x)::es,[],i0,h=>by have:=h.1;grind
 |(k,x)::es,e::l,i0,h=>by
  obtain⟨h0,h1⟩:=h;obtain⟨hk,hv⟩:=h1 0 k x e rfl rfl;have amY:pq mv mr es l:=⟨by grind,λi k' x' e' q1 q2=>h1 (i+1) k' x' e' bv bv⟩;have wK:Instr.sameNow .string (.string a) e.key=some (a==k):=by rw[hk];rfl
  have aow: ∀ {Xs:List (ByteArray × SV)} {l':List MapEntry} {y:SV} {e':MapEntry},e'.key= .string k->eu mv mr e'.val y->pq mv mr Xs l'->pq mv mr ((k,y)::Xs) (e'::l'):=by
   intro Xs l' y e' g1 g2 g3;refine⟨by simp[g3.1],λi k' x' e2 q1 q2=>?_⟩
   cases i with
   |zero=>grind
   |succ i=>exact g3.2 i k' x' e2 bv bv
  cases hak:(a==k)
  ·rw[hak]at wK
   rcases Je (a:=a) (i0+1) amY with⟨q1,q2,q3⟩|⟨y,j,e',q1,q2,q3,q4,q5,q6⟩
   grind[ja,Instr.findNow,Ae]
   ·refine .inr ⟨y,j+1,e',by grind[ja],by grind,by grind[Instr.findNow],q4,q5,λv x' Ps=>?_⟩
    grind[Ae]
  ·rw[hak]at wK;have e0:a=k:=(Go.MapKept.bytes_beq a k).1 hak;subst e0;refine .inr ⟨x,0,e,by grind[ja],rfl,by grind[Instr.findNow],hk,hv,λv x' Ps=>?_⟩
   grind[Ae]
def Dm (hC:C.Ok){k:TypeId}(h:wR C k=true):C.P.underlying k=some .string :=by
 unfold wR at h;split at h
 ·rename_i i hi;obtain⟨tf,d,z,hT⟩:=hC.get hi;split at h
  ·rename_i hc;rw[hT.IP,mf (hT.b8.trans hc)]
  grind
 grind
def Be (hR:ad F β N H w){v:Value}{id:Nat}{es:List (ByteArray × SV)}(hv:cw F β N H w v (.mp id))(he:H id=some (.map es)): ∃b arr ck,β id=some b/\v= .map (some b)/\F.dL b/\w.heap[b]? =some (.map arr ck)/\pq (MV F β H w) (MR F β H w) es arr.toList:=by
 obtain⟨_,b,h1,rfl⟩:=hv;obtain⟨_,b',arr,ck,q1,q2,q3,q4,q5⟩:=hR.rel id _ he;rw[h1]at q1;cases q1;exact⟨b,arr,ck,h1,rfl,q2,q3,by omega,λi k x e h2 h3=>q5 i k x e h2 bv⟩
theorem Vj (hC:C.Ok)(hR:ad F β N H w){T kt et:TypeId}{i:TI}{v:Value}{id:Nat}{a:ByteArray}{es:List (ByteArray × SV)}{z:SV}{ok:Bool}(hi:C.ti T=some i)(jg:i.b8= .map kt et)(hs:wR C kt=true)(hz:Ta C et=some z)
  (hv:cw F β N H w v (.mp id))(he:H id=some (.map es)): ∃r,(Instr.lookup T v (.string a) ok).run C.P w= .ok r w/\co F β N H w r (uX (ja es a) z ok):=by
 obtain⟨tf,d,zt,hT⟩:=hC.get hi;have hd:=Tc (hT.b8.trans jg);have abK:C.P.underlying T=some (.map kt et):=by rw[hT.IP,hd]
 have hk:=Dm hC hs;obtain⟨b,arr,ck,h1,rfl,h2,h3,h4⟩:=Be hR hv he;obtain⟨f,zv,f1,f2,f3⟩:=YO hC hz;have hck:=λem=>Go.MapKept.run_checkKey (P:=C.P) (w:=w) (k:=.string a) hk trivial em 9999;have hzr:(zeroValue et).run C.P w= .ok zv w:=by simp[zeroValue,typeInfo,f1,f2]
 have Sc: ∀(r:Value) (x:SV) (bb:Bool),eu (MV F β H w) (MR F β H w) r x->orZ (ja es a) z=x->isS (ja es a)=bb->
   co F β N H w (if ok then .tuple #[r,.bool bb]else r) (uX (ja es a) z ok):=by
  intro r x bb hr e1 e2;unfold uX;rw[e1,e2];cases ok
  ·exact eu.dyn hr
  ·refine⟨#[r,.bool bb],rfl,rfl,λk y hk=>?_⟩
   match k with
   |0=>simp at hk;subst hk;exact eu.dyn hr
   |1=>simp at hk;subst hk;exact⟨_,rfl,.lit rfl⟩
   |k+2=>grind
 rcases Je (a:=a) 0 h4 with⟨q1,q2,_⟩|⟨x,j,e,q1,q2,q3,q4,q5,_⟩
 ·refine⟨if ok then .tuple #[zv,.bool false]else zv,?_,Sc zv z false (f3 _ _) acj acj⟩;simp only[Instr.lookup,eL,tp abK,my,Sh h3,lN,hck,Sl hk q2,hzr]
 ·refine⟨if ok then .tuple #[e.val,.bool true]else e.val,?_,Sc e.val x true q5 acj acj⟩;simp only[Instr.lookup,eL,tp abK,my,Sh h3,lN,hck,Sl hk q3]
theorem Bf: ∀ {cs:List DC} {l:List SC},pp cs=some l->l.length=cs.length/\∀(k:Nat) (c:SC),l[k]? =some c->cs[k]? =some (.st c)
 | [],l,h=>by grind[pp]
 |d::cs,l,h=>by
  cases d<;>simp only[pp]at h<;>try cases h
  split at h
  ·rename_i l' hl;simp at h;subst h;obtain⟨h1,h2⟩:=Bf hl
   grind
  grind
def Mj {v:Value}{ag:Bool}{cs:List DC}{l:List SC}(h:au F β N H w v (ag,cs))(hs:pp cs=some l):eu (MV F β H w) (MR F β H w) v (ag,l):=by
 obtain⟨h1,h2⟩:=Bf hs;unfold au at h;unfold eu;cases ag
 ·obtain⟨c,e,hc⟩:=h;simp at e;subst e;obtain⟨x,rfl⟩: ∃x,l= [x]:=xO.1 K0;have:=h2 0 x rfl;simp at this;subst this;exact⟨x,rfl,hc⟩
 ·obtain⟨arr,e1,e2,e3⟩:=h;exact⟨arr,e1,by grind,λk c hk=>e3 k _ (h2 k c hk)⟩
def Td {id b:Nat}{es Xs:List (ByteArray × SV)}{arr arr':Array MapEntry}{ck ck':Nat}(hR:ad F β N H w)(hid:H id=some (.map es))(xC:β id=some b)(hm:F.dL b)(hb:w.heap[b]? =some (.map arr ck))(hen:pq (MV F β H w) (MR F β H w) Xs arr'.toList):
  Tr F β N H w β N (bt H id (some (.map Xs))) {w with heap:=w.heap.setIfInBounds b (.map arr' ck')}/\ad F β N (bt H id (some (.map Xs))) {w with heap:=w.heap.setIfInBounds b (.map arr' ck')}:=by
 obtain⟨qc,eU⟩:=Go.MapKept.heap_set (o':=.map arr' ck') hb
 have IF:rd {w with heap:=w.heap.setIfInBounds b (.map arr' ck')}=rd w:=by
  funext b' x
  grind[rd,World.cell?]
 have live: ∀ {k:Nat} {b0:cD},k≠id->bt H id (some (.map Xs)) k=some b0->H k=some b0:=λhk h=>by grind[aG]
 have tr:Tr F β N H w β N (bt H id (some (.map Xs))) {w with heap:=w.heap.setIfInBounds b (.map arr' ck')}:=by
  refine⟨⟨rfl,rfl,rfl,by simp,λk hk hn=>eU k λe=>hn (e▸hm)⟩,λb' o v _ hs e=>⟨λiW bC e' jW=>?_,by simp_all⟩,λ_ h=>h,λ_ _=>rfl,λiW blk' hn e=>?_,λiW blk' zn b' xq T _ e hz jW _ he=>?_,λk x e=>?_⟩
  ·by_cases hk:iW=id
   ·subst hk;exact(hs iW _ hid jW).elim
   ·exact hs iW bC (live hk e') jW
  ·by_cases hk:iW=id
   ·subst hk;rw[an]at e;cases e;exact⟨_,hid,trivial⟩
   ·exact⟨blk',live hk e,blk'.fV⟩
  grind
  grind
 refine⟨tr,hR.step tr (λi=>i=id) (λi bC hi e=>⟨live hi e,(hR.rel i bC (live hi e)).1,λb' jW=>eU b' λh=>hi ?_⟩) (λi bC hi e=>?_) (λi j x y y' hi hj bi bj=>?_)⟩
 ·subst h;exact hR.inj i id b' bC _ (live hi e) hid jW xC
 ·subst hi;rw[an]at e;cases e;refine⟨(hR.rel i _ hid).1,b,arr',ck',xC,hm,qc,by simpa using hen.1,λj k x e h1 h2=>?_⟩;obtain⟨a1,a2⟩:=hen.2 j k x e h1 bv;exact⟨a1,a2.mono tr.mv tr.mr⟩
 ·have f: ∀ {i:Nat} {y:cD},bt H id (some (.map Xs)) i=some y->∃y0,H i=some y0:=by
   grind
  obtain⟨y0,h0⟩:=f hi;obtain⟨y1,h1⟩:=f hj;exact hR.inj i j x y0 y1 h0 h1 bi bj
def Ho (hC:C.Ok)(hR:ad F β N H w){T kt et:TypeId}{i:TI}{v vv:Value}{id:Nat}{a:ByteArray}{es:List (ByteArray × SV)}{ag:Bool}{cs:List DC}{l:List SC}(hi:C.ti T=some i)(jg:i.b8= .map kt et)(hs:wR C kt=true)
  (hv:cw F β N H w v (.mp id))(he:H id=some (.map es))(hvv:au F β N H w vv (ag,cs))(hl:pp cs=some l):
  ∃w',(Instr.mapUpdate T v (.string a) vv).run C.P w= .ok () w'/\Tr F β N H w β N (bt H id (some (.map (Ae es a (ag,l))))) w'/\ad F β N (bt H id (some (.map (Ae es a (ag,l))))) w':=by
 obtain⟨tf,d,zt,hT⟩:=hC.get hi;have hd:=Tc (hT.b8.trans jg);have abK:C.P.underlying T=some (.map kt et):=by rw[hT.IP,hd]
 have hk:=Dm hC hs;obtain⟨b,arr,ck,h1,rfl,h2,h3,h4⟩:=Be hR hv he;have hck:=Go.MapKept.run_checkKey (P:=C.P) (w:=w) (k:=.string a) hk trivial false 9999;have ip:=Mj hvv hl
 rcases Je (a:=a) 0 h4 with⟨q1,q2,q3⟩|⟨x,j,e,q1,q2,q3,q4,q5,q6⟩
 ·obtain⟨t1,t2⟩:=Td (arr':=arr.push ⟨.string a,vv,ck⟩) (ck':=ck+1) hR he h1 h2 h3 (by simpa using q3 vv _ ck ip);refine⟨_,?_,t1,t2⟩;simp only[Instr.mapUpdate,eL,tp abK,my,Sh h3,hck,Sl hk q2,Go.MapKept.run_setObj_map _ h3]
 ·have nq:(arr.modify j λe=>{e with key:=.string a,val:=vv}).toList =arr.toList.set j {e with val:=vv}:=by
   have ak:j<arr.size:=by grind
   apply SJ
   grind
  obtain⟨t1,t2⟩:=Td (arr':=arr.modify j λe=>{e with key:=.string a,val:=vv}) (ck':=ck) hR he h1 h2 h3 (by rw[nq];exact q6 vv _ ip);refine⟨_,?_,t1,t2⟩;have hq:arr[j]? =some e:=by grind
  have hq':arr[0+j]? =some e:=by grind
  have dw:(Instr.keyThatStays (.string a) (.string a)).run C.P w= .ok (.string a) w:=by
   have:Instr.sameBits 10000 (.string a) (.string a)=true:=by
    show(a==a)=true
    grind[Go.MapKept.bytes_beq]
   simp only[Instr.keyThatStays,this,if_true,lN]
  simp only[Instr.mapUpdate,eL,tp abK,my,Sh h3,hck,Sl hk q3,hq',xR,vK,q4,dw,Go.MapKept.run_setObj_map _ h3]
  grind
def PU (hR:ad F β N H w)(hf: ¬N fid){T:TypeId}:
  ∃v w',(Instr.makeMap T none).run C.P w= .ok v w'/\bn F β N H fid (λr u R=>r=bm (.mp fid)/\u= [(fid,some (.map []))]/\R= []) w v w':=by
 refine⟨.map (some w.heap.size),w.alloc (.map #[] 0),by simp[Instr.makeMap,newObj,Sem.run],?_⟩;refine bn.new (u:=[]) (b:=some w.heap.size) hR Tr.refl hf (Below.oy w _) (by simp) ⟨rfl,rfl,rfl⟩ (λH1 xI t1 t2=>?_) (λH1 xI=>cK ⟨.inr rfl,w.heap.size,by simp[cV],rfl⟩);exact⟨w.heap.size,#[],0,by simp[cV],gN.gG hR.below.size,gO w _,rfl,by simp⟩
def PV (hC:C.Ok){e:TypeId}(h:z8 C e=true):C.P.underlying e=some (.int .u8):=by
 unfold z8 at h;split at h
 ·rename_i i hi;obtain⟨tf,d,z,hT⟩:=hC.get hi;split at h
  ·rename_i hc;rw[hT.IP,rj (hT.b8.trans hc)]
  grind
 grind
theorem PW (hC:C.Ok)(hR:ad F β N H w){src dst e:TypeId}{i j:TI}{s:ByteArray}(hi:C.ti src=some i)(hj:C.ti dst=some j)(h1:i.b8= .str)(h2:j.b8= .slice e)(h3:z8 C e=true):
  ∃v w',(convert src dst (.string s)).run C.P w= .ok v w'/\bn F β N H fid (λr u R=>r=bm (.st (.view (kQ s)))/\u= []/\R= []) w v w':=by
 obtain⟨tf,d,z,hT⟩:=hC.get hi;obtain⟨tf',d',z',eJ⟩:=hC.get hj;have hu1:C.P.underlying src=some .string :=by rw[hT.IP,mf (hT.b8.trans h1)]
 have hu2:C.P.underlying dst=some (.slice e):=by rw[eJ.IP,dq (eJ.b8.trans h2)]
 refine⟨_,_,run_bytes_of_string w src dst e s hu1 hu2 (PV hC h3),?_⟩;generalize fZ:grownCap w s.size 0 e=cap;generalize mb:((bytesRow s cap).size,(bytesRow s cap).size +1)=fr;have hB:Below w.heap.size w (w.drew.alloc (.cells (bytesRow s cap) e fr)):=(Below.refl _ _).drew.trans (Below.oy w.drew _);have hR2:=hR.grow hB;have t2:=Tr.grow hR hB;have qc:(w.drew.alloc (.cells (bytesRow s cap) e fr)).heap[w.heap.size]? =some (.cells (bytesRow s cap) e fr):=gO w.drew _
 have bG:(kQ s).length =s.size:=by
  show(s.data.toList.map _).length =s.data.size
  grind
 have aop:s.size<=cap:=by grind[grownCap,Question.cut]
 refine⟨β,_,_,_,⟨rfl,rfl,rfl⟩,t2.bk,hR2.bk,co.bk (cK ?_)⟩;show dy _ _ _ _;by_cases h0:s.size=0
 ·rw[h0];exact .empty _ _ rfl aky
 ·have e1:s.size=(SC.view (kQ s)).len :=by grind[SC.len]
  rw[e1];refine .view w.heap.size 0 cap 1 (λk=>(bytesRow s cap).getD k undef) rfl K0 K0 K0 (λi e he=>?_) (λk hk=>?_) (λi e j x he hx=>?_)
  grind[SC.elem,kQ]
  ·rw[j7,ri (gN.gG hR.below.size) (λid bC e' hb=>by have:=(hR.fY e' hb).1;omega)]
   have qR:k< (bytesRow s cap).size :=by
    simp only[bytesRow,SI,Yh,Array.size_replicate];have:s.data.size=s.size:=rfl;omega
   unfold rd World.cell?;simp_all
  ·simp only[SC.elem,kQ,gK,mZ]at he;obtain⟨b,hb,rfl⟩:=he
   cases j with
   |succ j=>grind
   |zero=>
    simp at hx;subst hx;have jW:s.data[i]? =some b:=by grind
    have ak:i<s.data.size:=(FV.1 jW).1
    have:(bytesRow s cap).getD (i*1+0) undef= .int .u8 (b.toNat:Nat):=by
     refine mi ?_;simp only[bytesRow,A0,CU]
     grind
    exact agm
theorem YP {v:Value}{d:DC}(h:cw F β N H w v d)(hp:L0 d=some true): ∃a,v= .pointer (some a):=by
 unfold L0 at hp;split at hp
 ·obtain⟨_,b,_,rfl⟩:=h;grind
 ·obtain⟨_,b,_,rfl⟩:=h;grind
 ·cases h with
  |empty a cap hv=>grind[SC.ao]
  |view _ _ _ _ _ hv=>grind[SC.ao]
  |ref b o f hc hr=>grind
 grind
 grind
theorem Vk (hC:C.Ok)(hG:bJ C F)(hR:ad F β N H w){T e:TypeId}{i:TI}{n:Nat}{l:List Int}{v:Value}(hi:C.ti T=some i)(jg:i.b8= .array n e)(hv:cw F β N H w v (.st (.ints l)))(h1:1<=n)(h2:n<=l.length):
  ∃u,(Instr.arrayAt T v).run C.P w= .ok u w/\cw F β N H w u (.st (.ref ((l.take n).map λk=>.lit (.int .i64 k)))):=by
 obtain⟨tf,d,z,hT⟩:=hC.get hi;have hd:d= .array n e:=kp (hT.b8.trans jg);have hv:dy (MV F β H w) (MR F β H w) v (.ints l):=hv
 cases hv with
 |empty a cap hv h0=>exfalso;have h0:l.length=0:=h0;omega
 |view b o cap z f hv fN hz fZ hl hc hr=>
  have fN:0<l.length:=fN;obtain⟨e0,R2⟩:=SC.ov (c:=.ints l) fN;have hz1:z=1:=by grind[SC.elem]
  subst hz1;refine⟨.pointer (some ⟨b,o,none⟩),?_,?_⟩
  ·have: ¬(SC.ints l).len <n:=by grind[SC.len]
   simp[Instr.arrayAt,hT.cX,hd,this]
  ·refine .ref b o f (λk hk=>tH hG hR _ _ _ (hc k aky)) λk x hx=>?_;simp only[gK,mZ,PE]at hx;obtain⟨m,hm,rfl⟩:=hx;split at hm
   ·have:=hr k [.lit (.int .i64 m)] 0 (.lit (.int .i64 m)) ab3 rfl;simp only[A0,CU]at this;obtain⟨e1,e2⟩:=cw.bB (F:=F) (β:=β) (N:=N) (H:=H) (w:=w) (dy.mono (Mem.le_refl _) (ee _) this);rw[e1];exact .lit e2
   grind
theorem Vl (hC:C.Ok)(hG:bJ C F)(hR:ad F β N H w)(hf: ¬N fid){E:EF}{a:Act}(hE:dM F β N H w E a){o:Oper}{Q:Exit->Act->World->Prop}(h:opX C fid o (C.ev E) H K):
  o.wp C.P a w (λa' w'=>∃v,a'=a.put o.dst v/\bn F β N H fid K w v w') Q:=by
 have ev: ∀ {x:Operand} {d:DV},C.ev E x=some d->co F β N H w (a.eval x) d:=λh=>mB hG hR hE h;unfold opX at h;split at h;rotate_left
 ·grind
 rename_i P r u R hx;obtain⟨hP,hK⟩:=h
 have conv: ∀ {v:Value} {w':World},bn F β N H fid (λr' u' R'=>r'=r/\u'=u/\R'=R) w v w'->bn F β N H fid K w v w':=by
  rintro v w' ⟨cQ,r',u',R',⟨rfl,rfl,rfl⟩,q1,q2,q3⟩;exact⟨cQ,_,_,_,hK,q1,q2,q3⟩
 unfold PS at hx
 cases ho:o.op with
 |buildSlice T len parts=>
  rw[ho]at hx;simp only at hx;split at hx;rotate_left
  ·cases hx
  rename_i i hi;split at hx;rotate_left
  ·cases hx
  rename_i e bW;split at hx;rotate_left
  ·cases hx
  rename_i ie l7 hdp;split at hx;rotate_left
  ·cases hx
  rename_i hb;obtain⟨hb,h3⟩:=aH hb;obtain⟨h1,h2⟩:=aH hb;split at hx;rotate_left
  ·cases hx
  rename_i l hl;simp only[lM,ij]at hx;obtain⟨rfl,rfl,rfl,rfl⟩:=hx;obtain⟨v,w',hr,hp⟩:=Jd hC hG hR hf hE hi bW l7 (fO h1) (fO h2) (pb h3) hl;exact bN Hb ⟨_,rfl,conv hp⟩
 |call c=>
  rw[ho]at hx;simp only at hx;split at hx;rotate_left
  ·cases hx
  rename_i t t' x y hc vX dQ;split at hx;rotate_left
  ·cases hx
  rename_i i i' hi lA;split at hx;rotate_left
  ·cases hx
  rename_i e e' jg ahN;split at hx;rotate_left
  ·cases hx
  rename_i ie l7 hdp;split at hx;rotate_left
  ·cases hx
  rename_i hb;obtain⟨hb,h3⟩:=aH hb;obtain⟨h1,h2⟩:=aH hb;split at hx;rotate_left
  ·cases hx
  rename_i ly ry hdy;have h0:c.args.size=2:=by exact aga
  obtain⟨x0,x1,Sd⟩: ∃x0 x1,c.args= #[x0,x1]:=ai9;have o9:C.ev E x0=some (.val (false,[x]))/\C.ev E x1=some (.val (false,[y])):=by grind
  have qc:c.argTypes= #[t,t']:=by grind
  have key: ∀ {v:Value} {w':World},(Builtin.append_ #[t,t'] o.type #[a.eval x0,a.eval x1]).run C.P w= .ok v w'->bn F β N H fid K w v w'->
    o.wp C.P a w (λa' w'=>∃v,a'=a.put o.dst v/\bn F β N H fid K w v w') Q:=by
   intro v w' hr hp;refine bN ?_ ⟨v,rfl,hp⟩;simp only[execOp,ho,resolve,hc,eL,lN,my,invoke];exact afG
  split at hx
  ·simp only[lM,ij]at hx;obtain⟨rfl,rfl,rfl,rfl⟩:=hx;obtain⟨v,w',hr,hp⟩:=wh (K:=K) (ty:=o.type) hC hG hR hf hi jg lA ahN l7 (fO h1) (fO h2) (pb h3) (au.am (ev o9.1)) (au.am (ev o9.2)) hdy hP.1 (.inl ⟨rfl,hP.2,hK⟩)
   grind
  ·rename_i id;split at hx
   ·rename_i z l hid;split at hx
    ·rename_i hz;have hz:=pb hz;subst hz;simp only[lM,ij]at hx;obtain⟨rfl,rfl,rfl,rfl⟩:=hx;obtain⟨v,w',hr,hp⟩:=wh (K:=K) (ty:=o.type) hC hG hR hf hi jg lA ahN l7 (fO h1) (fO h2) (pb h3) (au.am (ev o9.1)) (au.am (ev o9.2)) hdy hP.1 (.inr ⟨id,l,rfl,hid,hP.2,hK⟩)
     grind
    grind
   grind
  grind
 |makeMap T m=>
  rw[ho]at hx
  cases m with
  |some y=>cases hx
  |none=>
   simp only at hx;split at hx;rotate_left
   ·cases hx
   split at hx;rotate_left
   ·cases hx
   simp only[lM,ij]at hx;obtain⟨rfl,rfl,rfl,rfl⟩:=hx;obtain⟨v,w',hr,hp⟩:=PU (C:=C) (T:=T) hR hf;exact bN ai8 ⟨_,rfl,conv hp⟩
 |insert T m k v=>
  rw[ho]at hx;simp only at hx;split at hx;rotate_left
  ·cases hx
  rename_i i id s ag cs hi hm hk hv;split at hx;rotate_left
  ·cases hx
  rename_i kt et es l jg hid hl;split at hx;rotate_left
  ·cases hx
  rename_i hs;simp only[lM,ij]at hx;obtain⟨rfl,rfl,rfl,rfl⟩:=hx;obtain⟨w',hr,t1,t2⟩:=Ho hC hR hi jg hs (au.am (ev hm)) hid (ev hv) hl;have hke:a.eval k= .string s:=(au.am (ev hk)).bB.1;rw[<- hke]at hr;exact Dj Hb ⟨_,rfl,⟨β,_,_,_,hK,t1.bk,t2.bk,⟨#[],rfl,rfl,by simp⟩⟩⟩
 |mapUpdate T m k v=>
  rw[ho]at hx;simp only at hx;split at hx;rotate_left
  ·cases hx
  rename_i i id s ag cs hi hm hk hv;split at hx;rotate_left
  ·cases hx
  rename_i kt et es l jg hid hl;split at hx;rotate_left
  ·cases hx
  rename_i hs;simp only[lM,ij]at hx;obtain⟨rfl,rfl,rfl,rfl⟩:=hx;obtain⟨w',hr,t1,t2⟩:=Ho hC hR hi jg hs (au.am (ev hm)) hid (ev hv) hl;have hke:a.eval k= .string s:=(au.am (ev hk)).bB.1;rw[<- hke]at hr;exact Dj Hb ⟨_,rfl,⟨β,_,_,_,hK,t1.bk,t2.bk,⟨#[],rfl,rfl,by simp⟩⟩⟩
 |lookup T m k ok=>
  rw[ho]at hx;simp only at hx;split at hx;rotate_left
  ·cases hx
  rename_i i id s hi hm hk;split at hx;rotate_left
  ·cases hx
  rename_i kt et es jg hid;split at hx;rotate_left
  ·cases hx
  rename_i z hs hz;simp only[lM,ij]at hx;obtain⟨rfl,rfl,rfl,rfl⟩:=hx;obtain⟨v,hr,hp⟩:=Vj (ok:=ok) (a:=s) hC hR hi jg hs hz (au.am (ev hm)) hid;have hke:a.eval k= .string s:=(au.am (ev hk)).bB.1;rw[<- hke]at hr;exact bN Hb ⟨_,rfl,bn.pure hR hK hp⟩
 |convert src dst y=>
  rw[ho]at hx;simp only at hx;split at hx;rotate_left
  ·cases hx
  rename_i i j s hi hj hy;split at hx;rotate_left
  ·cases hx
  rename_i e h1 h2;split at hx;rotate_left
  ·cases hx
  rename_i h3;simp only[lM,ij]at hx;obtain⟨rfl,rfl,rfl,rfl⟩:=hx;obtain⟨v,w',hr,hp⟩:=PW (fid:=fid) (s:=s) hC hR hi hj h1 h2 h3;have hye:a.eval y= .string s:=(au.am (ev hy)).bB.1;rw[<- hye]at hr;exact bN Hb ⟨_,rfl,conv hp⟩
 |nilCheck x=>
  rw[ho]at hx;simp only at hx;split at hx;rotate_left
  ·cases hx
  rename_i d hd;split at hx;rotate_left
  ·cases hx
  rename_i hp;simp only[lM,ij]at hx;obtain⟨rfl,rfl,rfl,rfl⟩:=hx;have hr:=au.am (ev hd);obtain⟨p,hv⟩:=YP hr hp;exact bN (v:=a.eval x) (by simp only[execOp,ho,hv];rfl) ⟨_,rfl,bn.pure hR hK (cK hr)⟩
 |sliceToArrayPointer T x=>
  rw[ho]at hx;simp only at hx;split at hx;rotate_left
  ·cases hx
  rename_i i l hi hl;split at hx;rotate_left
  ·cases hx
  rename_i n e jg;simp only[lM,ij]at hx;obtain⟨rfl,rfl,rfl,rfl⟩:=hx;obtain⟨u,hr,hp⟩:=Vk hC hG hR hi jg (au.am (ev hl)) hP.1 hP.2;exact bN Hb ⟨_,rfl,bn.pure hR hK (cK hp)⟩
 |slice T x lo hi mx=>
  rw[ho]at hx
  cases x with
  |global g=>
   cases lo<;>cases hi<;>cases mx<;>simp only at hx<;>try(cases hx;done)
   split at hx;rotate_left
   ·cases hx
   rename_i i hi;split at hx;rotate_left
   ·cases hx
   rename_i n e jg;split at hx;rotate_left
   ·cases hx
   rename_i ie l7;simp only[lM,ij]at hx;obtain⟨rfl,rfl,rfl,rfl⟩:=hx;obtain⟨tf,d,z,hT⟩:=hC.get hi;obtain⟨ef,ed,ez,GX⟩:=hC.get l7;have hd:d= .array n e:=kp (hT.b8.trans jg)
   have bH:(Instr.sliceAt T (a.eval (.global g)) none none none).run C.P w= .ok (.slice (some ⟨g,0,none⟩) n n) w:=by
    show(Instr.sliceAt T (.pointer (some ⟨g,0,none⟩)) none none none).run C.P w=_;exact afQ
   exact bN (by simp only[execOp,ho,eL,SQ,bH,my];rfl) ⟨_,rfl,bn.pure hR hK (cK (.raw rfl))⟩
  |_=>cases hx
 |makeFunc fn first bM=>
  rw[ho]at hx
  cases fn with
  |func f=>
   simp only at hx;split at hx;rotate_left
   ·cases hx
   rename_i id kG hca;simp only[lM,ij]at hx;obtain⟨rfl,rfl,rfl,rfl⟩:=hx;obtain⟨c,hc⟩: ∃c,bM.toList= [c]:=xO.1 (by have:=aQ List.length hca;grind);rw[hc,jd,CT]at hca;have o9:C.ev E c=some (.val (false,[.ptr id 0])):=by grind
   obtain⟨hn,b,hb,hv⟩:=au.am (ev o9);have FD:first= #[]:=by grind
   have hce:bM= #[c]:=by grind
   have bH:(Instr.makeFunc (.func f) (first.map a.eval) (bM.map a.eval)).run C.P w= .ok (.func (.func f) #[] #[.pointer (some ⟨b,0,none⟩)]) w:=by
    rw[FD,hce];show Result.ok (Value.func (.func f) (#[].map a.eval) (#[c].map a.eval)) w=_
    grind
   exact bN (by simp only[execOp,ho,eL,bH,my];rfl) ⟨_,rfl,bn.pure hR hK (cK ⟨hn,b,hb,rfl⟩)⟩
  |_=>cases hx
 |_=>grind
end
def bX (C:bU)(fid:Nat)(f:FuncId)(xs:List DX)(H:HF)(r:DV)(u:Hp)(R:List Nat):Prop:=
 iN C.P f=true/\∀(F:gN) (β:Nat->Option Nat) (N:Nat->Prop) (H':HF) (w:World) (vs:Array Value),(∀id∈R,H' id=H id)->bJ C F->ad F β N H' w->(∀id,N id->tag id≠tag fid)->
  vs.size=xs.length->(∀k x,xs[k]? =some x->au F β N H' w (vs.getD k undef) x)->
  Calls C.P f vs w λe w'=>∃v cQ,e= .returned v/\Tr F β N H' w cQ (bk N fid) (u.on H') w'/\ad F cQ (bk N fid) (u.on H') w'/\co F cQ (bk N fid) (u.on H') w' v r
def bX.local {C:bU}{fid:Nat}{f:FuncId}{xs:List DX}{H H':HF}{r:DV}{u:Hp}{R:List Nat}(h:bX C fid f xs H r u R)(hH: ∀id∈R,H' id=H id):bX C fid f xs H' r u R:=
 ⟨h.1,λF β N H0 w vs hR=>h.2 F β N H0 w vs λid hi=>(hR id hi).trans (hH id hi)⟩
def Dn (ev:Operand->Option DV)(o:Oper):Option (FuncId × List SV × List (List SC) × List DX):=match o.op with
 | .call c=>match c.callee with
  | .value f=>match ev f with
   |some (.val (false,[.st (.fn g first bM)]))=>match IY (c.args.toList.map ev)with
    |some xs=>some (g,first,bM,xs)
    |none=>none
   |_=>none
  |_=>none
 |_=>none
def hcA (C:bU)(fid:Nat)(o:Oper)(ev:Operand->Option DV)(H:HF)(K:j8):Prop:=match Dn ev o with
 |some (g,first,bM,xs)=>∃r u R,bX C fid g (first.map dyn++xs++bM.map λcs=>(false,[.st (.ref cs)])) H r u R/\K r u R
 |none=>False
def opH (C:bU)(fid:Nat)(o:Oper)(ev:Operand->Option DV)(H:HF)(K:j8):Prop:=fw C fid o ev H K\/opX C fid o ev H K\/hcA C fid o ev H K
section
variable {C:bU}{F:gN}{β:Nat->Option Nat}{N:Nat->Prop}{H:HF}{fid:Nat}{K:j8}{w:World}
theorem Jf {o:Oper}{ev j6:Operand->Option DV}(he: ∀x∈o.op.operands.toList,j6 x=ev x):Dn j6 o=Dn ev o:=by
 unfold Dn
 cases ho:o.op with
 |call c=>
  grind[Op.operands,Call.operands,List.map_congr_left]
 |_=>rfl
def Vm {o:Oper}{ev:Operand->Option DV}(h:hcA C fid o ev H K): ∃r u R,K r u R/\∀(j6:Operand->Option DV) (H':HF) (K':j8),(∀x∈o.op.operands.toList,j6 x=ev x)->(∀id∈R,H' id=H id)->K' r u R->hcA C fid o j6 H' K':=by
 unfold hcA at h;split at h
 ·rename_i g first bM xs hx
  obtain⟨r,u,R,h1,h2⟩:=h;refine⟨r,u,R,h2,λj6 H' K' he hH hK=>?_⟩;unfold hcA;rw[Jf he,hx];exact⟨r,u,R,h1.local hH,hK⟩
 grind
theorem Hq {o:Oper}{ev:Operand->Option DV}(h:opH C fid o ev H K): ∃r u R,K r u R/\∀(j6:Operand->Option DV) (H':HF) (K':j8),(∀x∈o.op.operands.toList,j6 x=ev x)->(∀id∈R,H' id=H id)->K' r u R->opH C fid o j6 H' K':=by
 rcases h with h|h|h
 ·obtain⟨r,u,R,h1,h2⟩:=Vf h;exact⟨r,u,R,h1,λj6 H' K' he hH hK=>.inl (h2 j6 H' K' he hH hK)⟩
 ·obtain⟨r,u,R,h1,h2⟩:=Vh h;exact⟨r,u,R,h1,λj6 H' K' he hH hK=>.inr (.inl (h2 j6 H' K' he hH hK))⟩
 ·obtain⟨r,u,R,h1,h2⟩:=Vm h;exact⟨r,u,R,h1,λj6 H' K' he hH hK=>.inr (.inr (h2 j6 H' K' he hH hK))⟩
theorem YQ (hG:bJ C F)(hR:ad F β N H w)(hf: ∀id,N id->tag id≠tag fid){E:EF}{a:Act}(hE:dM F β N H w E a){o:Oper}{Q:Exit->Act->World->Prop}(h:hcA C fid o (C.ev E) H K):
  o.wp C.P a w (λa' w'=>∃v,a'=a.put o.dst v/\bn F β N H fid K w v w') Q:=by
 unfold hcA at h;split at h;rotate_left
 ·grind
 rename_i g first bM xs hx
 obtain⟨r,u,R,aft,hK⟩:=h;unfold Dn at hx;split at hx;rotate_left
 ·cases hx
 rename_i c ho;split at hx;rotate_left
 ·cases hx
 rename_i fo hc;split at hx;rotate_left
 ·cases hx
 rename_i f' an8 aov KY;split at hx;rotate_left
 ·cases hx
 rename_i xs' FF;cases hx;have mb:au F β N H w (a.eval fo) _:=mB hG hR hE KY;have GP:dy (MV F β H w) (MR F β H w) (a.eval fo) (.fn g first bM):=mb.am;obtain⟨fv,cv,FD,uU,Uz⟩:=Di GP;obtain⟨v1,v2⟩:=ym FF
 have bH:(execOp a.eval o).run C.P w= .ok (.enter g (fv++c.args.map a.eval++cv)) w:=by
  have XE:=aft.1;exact K53
 have s1:fv.size=first.length:=uU.1
 have s2:c.args.size=xs.length:=by grind
 have s3:cv.size=bM.length:=by have:=Uz.1;grind
 have dQ: ∀k x,(first.map dyn++xs++bM.map λcs=>(false,[DC.st (.ref cs)]))[k]? =some x->au F β N H w ((fv++c.args.map a.eval++cv).getD k undef) x:=by
  intro k x hk;by_cases h1:k<first.length
  ·rw[G3,UN bv]at hk;rw[gK,mZ]at hk;obtain⟨y,hy,rfl⟩:=hk;have iV:(fv++c.args.map a.eval++cv).getD k undef=fv.getD k undef:=by simp[sN,s1,h1,X4 h1 (Nat.le_add_right _ _)]
   rw[iV];exact eu.dyn ((uU.2 k y hy))
  ·by_cases h2:k<first.length+xs.length
   ·rw[G3,XP bv,UN bv]at hk;rw[jj]at hk;have hd:=v2 _ x hk;simp at hd;obtain⟨oo,ho1,ho2⟩:=hd
    have iV:(fv++c.args.map a.eval++cv).getD k undef=a.eval oo:=by
     have e2:k<first.length+c.args.size:=by omega
     simp only[sN,Sm,SI,Yh,h1,e2,if_true,kK,s1,Array.getElem?_map,ho1];rfl
    rw[iV];exact mB hG hR hE ho2
   ·rw[XP bv]at hk;simp at hk;obtain⟨cs,UC,rfl⟩:=hk
    have iV:(fv++c.args.map a.eval++cv).getD k undef=cv.getD (k -(first.length+xs.length)) undef:=by
     have e1: ¬k<first.length+xs.length:=h2
     simp only[sN,Sm,SI,Yh,s1,s2,e1,kK]
    rw[iV];have:=Uz.2 (k -(first.length+xs.length)) (false,[.ref cs]) bv;exact eu.dyn this
 have RZ:=aft.2 F β N H w (fv++c.args.map a.eval++cv) (λ_ _=>rfl) hG hR hf bv dQ;unfold Oper.wp;rw[bH];refine RZ.mono λe w1 he=>?_;obtain⟨v,cQ,rfl,h1,h2,h3⟩:=he;exact⟨v,rfl,cQ,r,u,R,hK,h1,h2,h3⟩
def Vn (hC:C.Ok)(hG:bJ C F)(hR:ad F β N H w)(hf: ∀id,N id->tag id≠tag fid){E:EF}{a:Act}(hE:dM F β N H w E a){o:Oper}{Q:Exit->Act->World->Prop}(h:opH C fid o (C.ev E) H K):
  o.wp C.P a w (λa' w'=>∃v,a'=a.put o.dst v/\bn F β N H fid K w v w') Q:=by
 rcases h with h|h|h
 grind[YM]
 grind[Vl]
 grind[YQ]
end
end Go.Fw
namespace Go.Fw
open Go.RowKit (Below)
abbrev Gc:=DV × Hp × List Nat
def YR:List Oper->Nat->Option Oper
 | [],_=>none
 |o::_,0=>some o
 |_::l,i+1=>YR l i
theorem Jg (l:List Oper)(i:Nat):YR l i=l[i]? :=by
 induction l generalizing i with
 |nil=>rfl
 |cons o l ih=>cases i with
  |zero=>rfl
  |succ i=>grind[YR]
def jF (l:List Oper)(i:Nat):Option Tmp:=match YR l i with
 |some o=>o.dst
 |none=>none
theorem Mk (cC:Array Oper)(i:Nat):jF cC.toList i=(cC[i]?).bind (·.dst):=by grind[jF,Jg]
def akS (d:Option Tmp)(r:DV)(E:dG):dG:=match d with
 |none=>E
 |some d=>(d,some r)::E
def Jh (d:Option Tmp)(r:DV)(E:EF):EF:=match d with
 |none=>E
 |some d=>λs=>if s=d then some r else E s
theorem dG.av (j:Nat)(b:Option DV)(E:dG):dG.get ((j,b)::E)=λs=>if s=j then b else dG.get E s:=by
 funext i;by_cases h:i=j
 ·subst h;simp[dG.get]
 grind[Nat.eq_of_beq_eq_true,dG.get]
def Ml (d:Option Tmp)(r:DV)(E:dG):(akS d r E).get =Jh d r E.get:=by
 cases d with
 |none=>rfl
 |some d=>exact dG.av _ _ _
def Xw (b:Bool)(X Y:Prop):Prop:=match b with
 |true=>X
 |false=>Y
def Af {b:Bool}{X Y:Prop}(h:b=true->X)(h':b=false->Y):Xw b X Y:=by
 cases b
 ·exact h' rfl
 ·exact h rfl
theorem Mm {X Y:Prop}(h:X):Xw true X Y:=h
theorem Ht {X Y:Prop}(h:Y):Xw false X Y:=h
theorem qj {X Y:Prop}(h:Xw true X Y):X:=h
theorem oE {X Y:Prop}(h:Xw false X Y):Y:=h
attribute [irreducible] Xw
abbrev vP (b:Bool):DV:=lit (.bool b)
abbrev bq:=List (List Nat × List Nat)
def eA (d:Option Tmp)(r:DV)(E:dG)(K:dG->Prop):Prop:=match d with
 |none=>K E
 |some d=>K ((d,some r)::E)
def Gd:Hp->Hp->(Hp->Prop)->Prop
 | [],H,K=>K H
 |p::u,H,K=>Gd u H λH=>K (p::H)
theorem yq {d:Option Tmp}{r:DV}{E:dG}{K:dG->Prop}:eA d r E K↔K (akS d r E):=by cases d<;>exact Iff.rfl
theorem Do {u H:Hp}{K:Hp->Prop}:Gd u H K↔K (u++H):=by
 induction u generalizing K with
 |nil=>exact Iff.rfl
 |cons p u ih=>unfold Gd;grind
def Ge (C:bU)(fid:Nat)(o:Oper)(E:dG)(H:Hp)(t:bq)(k:dG->Hp->bq->Prop):Prop:=
 opH C fid o (C.ev E.get) H.get λr u R=>Gd u H λH'=>eA o.dst r E λE'=>k E' H' ((R,u.map Prod.fst)::t)
def kR (o:Oper)(E:dG)(H:Hp)(t:bq)(k:dG->Hp->bq->Prop):Prop:=
 eA o.dst (.aI []) E λE'=>k E' H (([],[])::t)
def agu (C:bU)(fid:Nat)(o:Oper)(g:Nat)(FR b:Bool)(E:dG)(H:Hp)(t:bq)(k:dG->Hp->bq->Prop):Prop:=
 (b=FR/\Ge C fid o E H t k)\/(b= !FR/\kR o E H t k)\/
  (FR=true/\Xw b (Ge C fid o ((g,some (vP true))::E) H t k) (kR o ((g,some (vP false))::E) H t k))\/
  (FR=false/\Xw b (kR o ((g,some (vP true))::E) H t k) (Ge C fid o ((g,some (vP false))::E) H t k))
def qk (C:bU)(all:List Oper)(n0:Nat):List Oper->Nat->dG->Hp->bq->(dG->Hp->Nat->bq->Prop)->Prop
 | [],i,E,H,t,K=>K E H i t
 |o::rest,i,E,H,t,K=>match o.guard with
  |none=>Ge C (2*(n0+i)) o E H t λE' H' t'=>qk C all n0 rest (i+1) E' H' t' K
  |some (j,FR)=>match jF all j with
   |none=>False
   |some g=>match E.get g with
    |some (.val (false,[.st (.lit (.bool b))]))=>agu C (2*(n0+i)) o g FR b E H t λE' H' t'=>qk C all n0 rest (i+1) E' H' t' K
    |some (.aI [])=>kR o E H t λE' H' t'=>qk C all n0 rest (i+1) E' H' t' K
    |_=>False
def jJ (all:List Oper)(E:EF)(o:Oper):Option Bool:=match o.guard with
 |none=>some true
 |some (j,FR)=>match jF all j with
  |none=>none
  |some g=>match E g with
   |some (.val (false,[.st (.lit (.bool b))]))=>some (b==FR)
   |some (.aI [])=>some false
   |_=>none
inductive Dp (C:bU) (all:List Oper) (fid:Nat) (o:Oper) (E:EF) (H:HF):Gc->Prop
 |run (r:DV) (u:Hp) (R:List Nat) (hg:jJ all E o=some true)
   (h: ∀(j6:Operand->Option DV) (H':HF) (K':j8),(∀x∈o.op.operands.toList,j6 x=C.ev E x)->(∀id∈R,H' id=H id)->K' r u R->opH C fid o j6 H' K'):Dp C all fid o E H (r,u,R)
 |skip (hg:jJ all E o=some false):Dp C all fid o E H (.aI [],[],[])
inductive Ji (C:bU) (all:List Oper) (n0:Nat):List Oper->Nat->EF->HF->List Gc->EF->HF->Prop
 |nil (i:Nat) (E:EF) (H:HF):Ji C all n0 [] i E H [] E H
 |cons {o:Oper} {rest:List Oper} {i:Nat} {E:EF} {H:HF} {e:Gc} {es:List Gc} {E':EF} {H':HF}
   (h:Dp C all (2*(n0+i)) o E H e) (t:Ji C all n0 rest (i+1) (Jh o.dst e.1 E) (e.2.1.on H) es E' H'):Ji C all n0 (o::rest) i E H (e::es) E' H'
def rz (es:List Gc)(t:bq):bq:=es.foldl (λt e=>(e.2.2,e.2.1.map Prod.fst)::t) t
section
variable {C:bU}{all:List Oper}{n0:Nat}
def yr {E:dG}{g:Nat}{d:DV}(h:E.get g=some d):dG.get ((g,some d)::E)=E.get:=by
 rw[dG.av]
 grind
theorem Hu {rest:List Oper}: ∀ {i:Nat} {E:dG} {H:Hp} {t:bq} {K:dG->Hp->Nat->bq->Prop},qk C all n0 rest i E H t K->
  ∃es E' H',Ji C all n0 rest i E.get H.get es E'.get H'.get/\K E' H' (i+rest.length) (rz es t):=by
 induction rest with
 |nil=>intro i E H t K h;exact⟨[],E,H,.nil _ _ _,h⟩
 |cons o rest ih=>
  intro i E H t K h;have el:i+1+rest.length=i+(o::rest).length :=by grind
  have afx: ∀ {E0:dG},E0.get=E.get->jJ all E.get o=some true->(Ge C (2*(n0+i)) o E0 H t λE' H' t'=>qk C all n0 rest (i+1) E' H' t' K)->
    ∃es E' H',Ji C all n0 (o::rest) i E.get H.get es E'.get H'.get/\K E' H' (i+(o::rest).length) (rz es t):=by
   intro E0 hE0 hg h;unfold Ge at h;obtain⟨r,u,R,h1,h2⟩:=Hq h;rw[Do,yq]at h1;obtain⟨es,E',H',hr,hK⟩:=ih h1;rw[el]at hK;rw[Ml,Hp.get_append,hE0]at hr;rw[hE0]at h2;exact⟨(r,u,R)::es,E',H',.cons (.run r u R hg h2) hr,hK⟩
  have R0: ∀ {E0:dG},E0.get=E.get->jJ all E.get o=some false->(kR o E0 H t λE' H' t'=>qk C all n0 rest (i+1) E' H' t' K)->
    ∃es E' H',Ji C all n0 (o::rest) i E.get H.get es E'.get H'.get/\K E' H' (i+(o::rest).length) (rz es t):=by
   intro E0 hE0 hg h;unfold kR at h;rw[yq]at h;obtain⟨es,E',H',hr,hK⟩:=ih h;rw[el]at hK;rw[Ml,hE0]at hr;exact⟨(.aI [],[],[])::es,E',H',.cons (.skip hg) hr,hK⟩
  unfold qk at h;split at h
  grind[jJ]
  ·rename_i j FR hg;split at h
   ·grind
   rename_i g hj;split at h
   ·rename_i b hb
    rcases h with⟨rfl,h⟩|⟨rfl,h⟩|⟨rfl,h⟩|⟨rfl,h⟩
    ·grind[jJ]
    ·exact R0 rfl (by simp[jJ,hg,hj,hb]) h
    ·cases b
     ·exact R0 (yr hb) acf (oE h)
     ·exact afx (yr hb) acf (qj h)
    ·cases b
     ·exact afx (yr hb) acf (oE h)
     ·exact R0 (yr hb) acf (qj h)
   grind[jJ]
   grind
def yt {b:Bool}{X Y X' Y':Prop}(h:Xw b X Y)(hx:X->X')(hy:Y->Y'):Xw b X' Y':=by
 cases b
 grind[Ht,oE]
 grind[Mm,qj]
def YS {fid:Nat}{o:Oper}{ev:Operand->Option DV}{H:HF}{K K':j8}(h:opH C fid o ev H K)(hK: ∀r u R,K r u R->K' r u R):opH C fid o ev H K':=by grind[Hq]
theorem ql {fid:Nat}{o:Oper}{E:dG}{H:Hp}{t:bq}{k k':dG->Hp->bq->Prop}(h:Ge C fid o E H t k)(hk: ∀E H t,k E H t->k' E H t):Ge C fid o E H t k':=by
 refine YS h λr u R h=>?_
 grind[Do,yq]
theorem oF {o:Oper}{E:dG}{H:Hp}{t:bq}{k k':dG->Hp->bq->Prop}(h:kR o E H t k)(hk: ∀E H t,k E H t->k' E H t):kR o E H t k':=by grind[kR,yq]
theorem Vo {rest:List Oper}: ∀ {i:Nat} {E:dG} {H:Hp} {t:bq} {K K':dG->Hp->Nat->bq->Prop},qk C all n0 rest i E H t K->(∀E H n t,K E H n t->K' E H n t)->
  qk C all n0 rest i E H t K':=by
 induction rest with
 |nil=>intro i E H t K K' h hK;exact hK _ _ _ _ h
 |cons o rest ih=>
  intro i E H t K K' h hK;unfold qk at h ⊢;split at h
  grind[ql]
  ·split at h
   ·omega
   split at h
   ·rcases h with⟨e,h⟩|⟨e,h⟩|⟨e,h⟩|⟨e,h⟩
    ·exact .inl ⟨e,ql h λ_ _ _ h=>ih h hK⟩
    ·exact .inr (.inl ⟨e,oF h λ_ _ _ h=>ih h hK⟩)
    ·exact .inr (.inr (.inl ⟨e,yt h (λh=>ql h λ_ _ _ h=>ih h hK) λh=>oF h λ_ _ _ h=>ih h hK⟩))
    ·exact .inr (.inr (.inr ⟨e,yt h (λh=>oF h λ_ _ _ h=>ih h hK) λh=>ql h λ_ _ _ h=>ih h hK⟩))
   grind[oF]
   omega
end
structure jA (C:bU) (all:List Oper) (n0:Nat) (rest:List Oper) (i:Nat) (E:dG) (H:Hp) (t:bq) (K:dG->Hp->Nat->bq->Prop):Prop where
 out:qk C all n0 rest i E H t K
structure cW (C:bU) (fid:Nat) (o:Oper) (E:dG) (H:Hp) (t:bq) (k:dG->Hp->bq->Prop):Prop where
 out:Ge C fid o E H t k
section
variable {C:bU}{all:List Oper}{n0 i fid:Nat}{o:Oper}{rest:List Oper}{E:dG}{H:Hp}{t:bq}{K:dG->Hp->Nat->bq->Prop}{k:dG->Hp->bq->Prop}
def oN (h:K E H i t):jA C all n0 [] i E H t K:=⟨h⟩
def cW.go {E:dG}(h:cW C fid o E H t λE' H' t'=>jA C all n0 rest (i+1) E' H' t' K):Ge C fid o E H t λE' H' t'=>qk C all n0 rest (i+1) E' H' t' K:=
 ql h.out λ_ _ _ h=>h.out
def rA {E:dG}(h:kR o E H t λE' H' t'=>jA C all n0 rest (i+1) E' H' t' K):kR o E H t λE' H' t'=>qk C all n0 rest (i+1) E' H' t' K:=
 oF h λ_ _ _ h=>h.out
def oP (hg:o.guard=none)(h:cW C (2*(n0+i)) o E H t λE' H' t'=>jA C all n0 rest (i+1) E' H' t' K):jA C all n0 (o::rest) i E H t K:=by
 refine⟨?_⟩;unfold qk;rw[hg];exact h.go
def oY {g j:Nat}{b:Bool}(hg:o.guard=some (j,b))(hd:jF all j=some g)(hv:E.get g=some (.val (false,[.st (.lit (.bool b))])))
  (h:cW C (2*(n0+i)) o E H t λE' H' t'=>jA C all n0 rest (i+1) E' H' t' K):jA C all n0 (o::rest) i E H t K:=by
 refine⟨?_⟩;unfold qk;simp only[hg,hd,hv];exact .inl ⟨rfl,h.go⟩
def oZ {g j:Nat}{b:Bool}(hg:o.guard=some (j,b))(hd:jF all j=some g)(hv:E.get g=some (.val (false,[.st (.lit (.bool (!b)))])))
  (h:kR o E H t λE' H' t'=>jA C all n0 rest (i+1) E' H' t' K):jA C all n0 (o::rest) i E H t K:=by
 refine⟨?_⟩;unfold qk;simp only[hg,hd,hv];exact .inr (.inl ⟨rfl,rA h⟩)
def oO {g j:Nat}{b:Bool}(hg:o.guard=some (j,b))(hd:jF all j=some g)(hv:E.get g=some (.aI []))
  (h:kR o E H t λE' H' t'=>jA C all n0 rest (i+1) E' H' t' K):jA C all n0 (o::rest) i E H t K:=by
 refine⟨?_⟩;unfold qk;simp only[hg,hd,hv];exact rA h
def Jj {g j:Nat}{b:Bool}(hg:o.guard=some (j,true))(hd:jF all j=some g)(hv:E.get g=some (.val (false,[.st (.lit (.bool b))])))
  (h:b=true->cW C (2*(n0+i)) o ((g,some (vP true))::E) H t λE' H' t'=>jA C all n0 rest (i+1) E' H' t' K)
  (h':b=false->kR o ((g,some (vP false))::E) H t λE' H' t'=>jA C all n0 rest (i+1) E' H' t' K):jA C all n0 (o::rest) i E H t K:=by
 refine⟨?_⟩;unfold qk;simp only[hg,hd,hv];exact .inr (.inr (.inl ⟨rfl,Af (λe=>(h e).go) λe=>rA (h' e)⟩))
def Mn {g j:Nat}{b:Bool}(hg:o.guard=some (j,false))(hd:jF all j=some g)(hv:E.get g=some (.val (false,[.st (.lit (.bool b))])))
  (h:b=true->kR o ((g,some (vP true))::E) H t λE' H' t'=>jA C all n0 rest (i+1) E' H' t' K)
  (h':b=false->cW C (2*(n0+i)) o ((g,some (vP false))::E) H t λE' H' t'=>jA C all n0 rest (i+1) E' H' t' K):jA C all n0 (o::rest) i E H t K:=by
 refine⟨?_⟩;unfold qk;simp only[hg,hd,hv];exact .inr (.inr (.inr ⟨rfl,Af (λe=>rA (h e)) λe=>(h' e).go⟩))
def rG {r:DV}{u:Hp}{R:List Nat}(h1: ∀K:j8,K r u R->fw C fid o (C.ev E.get) H.get K)
  (h2:Gd u H λH'=>eA o.dst r E λE'=>k E' H' ((R,u.map Prod.fst)::t)):cW C fid o E H t k:=⟨.inl (h1 _ h2)⟩
def im {r:DV}{u:Hp}{R:List Nat}(h1: ∀K:j8,K r u R->hcA C fid o (C.ev E.get) H.get K)
  (h2:Gd u H λH'=>eA o.dst r E λE'=>k E' H' ((R,u.map Prod.fst)::t)):cW C fid o E H t k:=⟨.inr (.inr (h1 _ h2))⟩
def rGX {P:Prop}{r:DV}{u:Hp}{R:List Nat}(h1:PS C fid o (C.ev E.get) H.get=some (P,r,u,R))(hP:P)
  (h2:Gd u H λH'=>eA o.dst r E λE'=>k E' H' ((R,u.map Prod.fst)::t)):cW C fid o E H t k:=⟨.inr (.inl (by grind[opX]))⟩
end
structure eE (B:Nat) (l:List Deferred) (w:World):Prop where
 all: ∀d∈l,∃D,d= {target:=.collected D,args:= #[]}/\w.heap[D]? =some (.deferred (some []))/\B<=D
 nodup:l.Nodup
def eE.nil (B:Nat)(w:World):eE B [] w:=⟨by simp,LN⟩
def eE.keep {B:Nat}{l:List Deferred}{w w':World}(h:eE B l w)(k: ∀(k:Nat) (x:Option (List Deferred)),w.heap[k]? =some (.deferred x)->w'.heap[k]? =some (.deferred x)):eE B l w':=
 ⟨λd hd=>let⟨D,h1,h2,h3⟩:=h.all d hd;⟨D,h1,k D _ h2,h3⟩,h.nodup⟩
def gN.okD (F:gN)(nt t:Nat):Prop:=t<nt/\∀p∈F.fixed,p.1≠t
structure BX (F:gN) (nt:Nat) (E:EF) (H:HF) (N:Nat->Prop) (a:Act) (w:World):Prop where
 size:a.tmps.size=nt
 defers:eE F.db a.defers w
 fix: ∀p∈F.fixed,a.tmps.getD p.1 undef=p.2
 rel: ∃β,dM F β N H w E a/\ad F β N H w
section
variable {C:bU}{F:gN}{nt:Nat}{E:EF}{H:HF}{N:Nat->Prop}{a:Act}{w:World}{cC:Array Oper}{o:Oper}{fid:Nat}{e:Gc}{Q:Exit->Act->World->Prop}{K:Act->World->Prop}
theorem wj {β:Nat->Option Nat}(hE:dM F β N H w E a){b:Bool}(h:jJ cC.toList E o=some b):Region.wanted o (yielded cC a.tmps)=b:=by
 unfold jJ at h;unfold Region.wanted;split at h
 grind
 ·rename_i j FR hg;simp only[hg];split at h
  ·cases h
  rename_i g hj;rw[Mk]at hj;unfold yielded;rw[hj];simp only[LI];split at h
  ·rename_i c hc;have:=hE g _ hc;have hv:=(au.am this).bB.1
   have ak:a.tmps[g]? =some (.bool c):=by
    rw[sN]at hv
    cases h':a.tmps[g]? with
    |none=>rw[h']at hv;cases hv
    |some x=>grind
   simp_all
  ·rename_i hc;obtain⟨arr,h1,h2,_⟩:=hE g _ hc;simp only[lM]at h;rw[<- h];rw[sN]at h1
   grind
  grind
theorem dM.put {β:Nat->Option Nat}{d:Option Tmp}{v:Value}{r:DV}(hE:dM F β N H w E a)(hv:co F β N H w v r)(hd: ∀t,d=some t->t<a.tmps.size):
  dM F β N H w (Jh d r E) (a.put d v):=by
 cases d with
 |none=>exact hE
 |some d=>
  intro s dv hs;simp only[Jh]at hs;have ak:=hd d rfl;by_cases h:s=d
  ·subst h;simp at hs;subst hs;simp[Act.put,ak];exact hv
  ·rw[if_neg h]at hs;have:=hE s dv hs;have e:(a.put (some d) v).tmps.getD s undef=a.tmps.getD s undef:=by simp[Act.put,XS (oz h)]
   grind
theorem Mo (a:Act)(d:Option Tmp)(v:Value):(a.put d v).tmps.size =a.tmps.size:=by cases d<;>simp[Act.put]
theorem Te {F:gN}{a:Act}(h: ∀p∈F.fixed,a.tmps.getD p.1 undef=p.2)(d:Option Tmp)(v:Value)(hd: ∀t,d=some t->∀p∈F.fixed,p.1≠t): ∀p∈F.fixed,(a.put d v).tmps.getD p.1 undef=p.2:=by
 intro p hp
 cases d with
 |none=>exact h p hp
 |some t=>
  have:=hd t rfl p hp;rw[<- h p hp];simp[Act.put,XS (oz this)]
theorem Dq (a:Act)(d:Option Tmp)(v:Value):(a.put d v).defers =a.defers:=by cases d<;>rfl
theorem Tf (hC:C.Ok)(hG:bJ C F)(hd: ∀t,o.dst=some t->F.okD nt t){E0:EF}{H0:HF}(h:Dp C cC.toList fid o E0 H0 e)
  (hop: ∀x∈o.op.operands.toList,C.ev E x=C.ev E0 x)(hgd:jJ cC.toList E o=jJ cC.toList E0 o)(IF: ∀id∈e.2.2,H id=H0 id)
  (hrel:BX F nt E H N a w)(hf: ∀id,N id->tag id≠tag fid)
  (hK: ∀a' w',BX F nt (Jh o.dst e.1 E) (e.2.1.on H) (bk N fid) a' w'->K a' w'):
  if Region.wanted o (yielded cC a.tmps)then o.wp C.P a w K Q\/(o.asks C.P a w/\LetsOut Q)else K (a.put o.dst undef) w:=by
 obtain⟨hs,hdf,hfx,β,hE,hR⟩:=hrel
 cases h with
 |run r u R hg h=>
  rw[wj hE (hgd.trans hg)];simp only[if_true];refine .inl ?_;have h1:=h (C.ev E) H (λr' u' R'=>r'=r/\u'=u/\R'=R) hop IF ⟨rfl,rfl,rfl⟩;refine Oper.wp_mono ?_ (Vn (Q:=Q) hC hG hR hf hE h1);rintro a' w' ⟨v,rfl,cQ,r',u',R',⟨rfl,rfl,rfl⟩,ht,zU,hv⟩;exact hK _ _ ⟨by grind[Mo],by rw[Dq];exact hdf.keep ht.aw,Te hfx _ _ λt e=>(hd t e).2,cQ,(ht.env hR hE).put hv aj9,zU⟩
 |skip hg=>
  rw[wj hE (hgd.trans hg)];simp only[to,kK];refine hK _ _ ⟨by grind[Mo],by grind[Dq],Te hfx _ _ λt e=>(hd t e).2,β,?_,hR.bk⟩;refine dM.put (λs dv h=>(hE s dv h).bk) ?_ aj9;exact⟨#[],rfl,rfl,by simp⟩
theorem Vp (hC:C.Ok)(hG:bJ C F){n0:Nat}{rest:List Oper}{es:List Gc}{E':EF}{H':HF}: ∀ {i:Nat} {E:EF} {H:HF} {N:Nat->Prop} {a:Act} {w:World},Ji C cC.toList n0 rest i E H es E' H'->
  (∀o∈rest,∀t,o.dst=some t->F.okD nt t)->BX F nt E H N a w->(∀id,N id->tag id<n0+i)->
  (∀a' w' N',BX F nt E' H' N' a' w'->(∀id,N' id->tag id<n0+(i+rest.length))->Q .normal a' w')->wpList C.P cC Q rest a w:=by
 induction rest generalizing es with
 |nil=>
  intro i E H N a w h _ hrel hN hQ;cases h;exact hQ a w N hrel hN
 |cons o rest ih=>
  intro i E H N a w h hd hrel hN hQ
  cases h with
  |cons h t=>
   unfold wpList;refine Tf hC hG (hd o jx) h (λ_ _=>rfl) rfl (λ_ _=>rfl) hrel (λid hn=>by have:=hN _ hn;rw[jQ];omega) ?_;intro a' w' afq;refine ih t (λo' ho'=>hd o' (ji _ ho')) afq ?_ ?_
   ·rintro id (hn|hn)
    grind
    ·rw[jQ]at hn;omega
   grind
end
section
variable {α:Type}(uV:Nat->(Nat->α)->Nat->α)(wr:Nat->Nat->Prop)(f0:Nat->α)
structure Tg:Prop where
 same: ∀i k f g,wr i k->uV i f k=uV i g k
 other: ∀i k f,¬wr i k->uV i f k=f k
def cY (X:Nat->Bool):Nat->Nat->α
 |0=>f0
 |n+1=>if X n then uV n (cY X n)else cY X n
variable {uV wr f0}
theorem ku (h:Tg uV wr){X Y:Nat->Bool}{k:Nat}: ∀ {n:Nat},(∀i,i<n->wr i k->X i=Y i)->cY uV f0 X n k=cY uV f0 Y n k
 |0,_=>rfl
 |n+1,hXY=>by
  have ih:=ku h (n:=n) λi hi=>hXY i K0
  have aoH: ∀f g:Nat->α,f k=g k->uV n f k=uV n g k:=λf g e=>by
   by_cases hw:wr n k
   ·exact h.same _ _ _ _ hw
   ·rw[h.other _ _ _ hw,h.other _ _ _ hw,e]
  simp only[cY];by_cases hw:wr n k
  grind
  ·split<;>split
   grind
   ·rw[h.other _ _ _ hw,ih]
   ·rw[h.other _ _ _ hw,ih]
   omega
theorem Mp (j:Nat): ∀ {n:Nat},j<=n->cY uV f0 (λi=>decide (i<j)) n=cY uV f0 (λ_=>true) j:=by
 have h1: ∀n,n<=j->cY uV f0 (λi=>decide (i<j)) n=cY uV f0 (λ_=>true) n:=by
  intro n
  induction n with
  |zero=>intro _;rfl
  |succ n ih=>intro hn;simp only[cY,if_true];grind
 intro n hn
 induction n with
 |zero=>grind
 |succ n ih=>
  by_cases e:j=n+1
  grind
  ·simp only[cY]
   grind
def qo (X:Nat->Bool)(j:Nat):Nat->Bool:=λi=>if i=j then true else X i
theorem Hv (h:Tg uV wr){X:Nat->Bool}{j n:Nat}(hj:j<n)(hX:X j=false)(dp: ∀i,j<i->i<n->X i=true->∀k,wr i k->wr j k->False):
  cY uV f0 (qo X j) n=uV j (cY uV f0 X n):=by
 funext k;by_cases hw:wr j k
 ·have key: ∀m,j<m->m<=n->∃g,cY uV f0 (qo X j) m k=uV j g k:=by
   intro m
   induction m with
   |zero=>omega
   |succ m ih=>
    intro hm hmn;simp only[cY];by_cases e:m=j
    ·subst e;rw[if_pos (by simp[qo])];grind
    ·obtain⟨g,hg⟩:=ih K0 K0;split
     ·rename_i hx;have hx:X m=true:=by grind[qo]
      rw[h.other _ _ _ λhm'=>dp m K0 K0 hx k hm' hw]
      grind
     grind
  obtain⟨g,hg⟩:=key n hj (dE _);rw[hg];exact h.same _ _ _ _ hw
 ·rw[h.other _ _ _ hw]
  grind[ku,qo]
end
def kS (o:Oper):List Nat:=(o.after.toList.filter (Region.binds .any)).map (·.on)
def nH (all:List Oper):Nat->Nat->Nat->Bool
 |0,_,_=>false
 |f+1,i,j=>match YR all j with
  |none=>false
  |some o=>(kS o).any (λk=>Nat.beq k i) || (kS o).any λk=>Nat.blt i k&&nH all f i k
def Hw:List Operand->List Tmp
 | []=>[]
 | .tmp t::l=>t::Hw l
 |_::l=>Hw l
def acA:Op->List Operand
 | .build _ ps=>ps.toList.map (·.2)
 | .buildSlice _ _ ps=>ps.toList.map (·.2)
 | .makeFunc _ first captured=>first.toList++captured.toList
 | .slice _ x l h m=>x::(l.toList++h.toList++m.toList)
 | .call c=>(match c.callee with| .value f=>[f]| .invoke r _=>[r]| .builtin _=>[])++c.args.toList
 |op=>op.operands.toList
theorem acB (op:Op):acA op=op.operands.toList:=by
 cases op<;>first
  |rfl
  |grind[acA,Op.operands]
  |grind[acA,Op.operands,Call.operands]
def looks (all:List Oper)(o:Oper):List Tmp:=Hw (acA o.op)++(match o.guard with
 |some (g,_)=>(jF all g).toList
 |none=>[])
def Dr (all:List Oper)(x y:Oper):Bool:=match x.dst with
 |some d=>(looks all y).any (λt=>Nat.beq t d) || (match y.dst with
  |some e=>Nat.beq e d
  |none=>false)
 |none=>false
def Hx (a b:List Nat):Bool:=a.any λi=>b.any λj=>Nat.beq i j
def Jk (x y:List Nat × List Nat):Bool:=Hx x.2 y.1 || Hx x.2 y.2
def Gf:bq->Nat->List Nat × List Nat
 | [],_=>([],[])
 |x::_,0=>x
 |_::l,i+1=>Gf l i
def yu (all:List Oper)(tr:bq)(j:Nat)(oj:Oper)(tj:List Nat × List Nat):Nat->List Oper->Bool
 |_,[]=>true
 |i,o::l=>match Nat.blt i j with
  |false=>true
  |true=>(!(Dr all o oj || Dr all oj o || Jk (Gf tr i) tj || Jk tj (Gf tr i)) || nH all 6 i j)&&yu all tr j oj tj (i+1) l
def Jl (all:List Oper)(tr:bq):Nat->List Oper->Bool
 |_,[]=>true
 |j,o::l=>(kS o).all (λk=>Nat.blt k j)&&yu all tr j o (Gf tr j) 0 all&&Jl all tr (j+1) l
def Ag (all:List Oper)(t:bq):Bool:=Jl all t.reverse 0 all
theorem acC (t:bq)(i:Nat):Gf t i=t.getD i ([],[]):=by
 induction t generalizing i with
 |nil=>rfl
 |cons x l ih=>cases i with
  |zero=>rfl
  |succ i=>grind[Gf]
def yv {all:List Oper}{tr:bq}{j:Nat}{oj:Oper}{tj:List Nat × List Nat}: ∀ {l:List Oper} {k:Nat},yu all tr j oj tj k l=true->
  ∀i o,l[i]? =some o->k+i<j->(Dr all o oj || Dr all oj o || Jk (Gf tr (k+i)) tj || Jk tj (Gf tr (k+i)))=true->nH all 6 (k+i) j=true
 | [],_,_,i,o,h,_,_=>by grind
 |x::l,k,h,i,o,hi,ak,hh=>by
  unfold yu at h;have hk:Nat.blt k j=true:=by grind[Nat.blt_eq]
  rw[hk]at h;simp only[sQ]at h
  cases i with
  |zero=>
   grind
  |succ i=>
   have e:k+(i+1)=(k+1)+i:=by omega
   rw[e]at hh ⊢;exact yv h.2 i o bv K0 hh
def tQ {all:List Oper}{tr:bq}: ∀ {l:List Oper} {k:Nat},Jl all tr k l=true->∀j o,l[j]? =some o->
  (∀e∈kS o,e<k+j)/\yu all tr (k+j) o (Gf tr (k+j)) 0 all=true
 | [],_,_,i,o,h=>by grind
 |x::l,k,h,j,o,hj=>by
  unfold Jl at h;simp only[sQ,wL,vZ]at h
  cases j with
  |zero=>
   grind
  |succ j=>
   have e:k+(j+1)=(k+1)+j:=by omega
   rw[e];exact tQ h.2 j o bv
def Mq {o:Oper}{e:Edge}(he:e∈o.after)(hb:Region.binds .any e=true):e.on∈kS o:=
 dT.2 ⟨e,List.mem_filter.2 ⟨by grind,hb⟩,rfl⟩
theorem Mr {o:Oper}{k:Nat}(h:k∈kS o): ∃e∈o.after,Region.binds .any e=true/\e.on=k:=by
 obtain⟨e,he,rfl⟩:=dT.1 h
 grind
def oG {all:List Oper}{X:Nat->Bool}(jg: ∀j o,all[j]? =some o->X j=true->∀k∈kS o,X k=true):
  ∀ {f i j:Nat},nH all f i j=true->(∀o,all[j]? =some o->∀k∈kS o,X k=true)->X i=true
 |0,_,_,h,_=>by grind[nH]
 |f+1,i,j,h,hj=>by
  unfold nH at h;rw[Jg]at h;split at h
  grind
  ·rename_i o ho;simp only[Yd,G4,sQ]at h
   rcases h with⟨k,hk,he⟩|⟨k,hk,_,he⟩;simp_all
   ·exact oG jg he λo' ho'=>jg k o' ho' (hj o ho k hk)
def iO (X:Nat->Bool):Nat->Nat
 |0=>0
 |n+1=>iO X n+if X n then 0 else 1
def wl {X:Nat->Bool}{j:Nat}: ∀ {n:Nat},n<=j->iO (qo X j) n=iO X n
 |0,_=>rfl
 |n+1,h=>by
  simp only[iO];rw[wl K0]
  grind[qo]
theorem yw {X:Nat->Bool}{j:Nat}(hX:X j=false): ∀ {n:Nat},j<n->iO (qo X j) n+1=iO X n
 |0,h=>by omega
 |n+1,h=>by
  simp only[iO];by_cases e:n=j
  ·subst e;rw[wl (dE _)]
   grind[qo]
  ·have:=yw hX (n:=n) K0
   grind[qo]
theorem wq {X:Nat->Bool}: ∀ {n:Nat},iO X n=0->∀i,i<n->X i=true
 |0,_,i,h=>by omega
 |n+1,h,i,hi=>by
  simp only[iO]at h;by_cases e:i=n
  grind
  ·exact wq (n:=n) K0 i K0
theorem Ds (n:Nat):iO (λ_=>false) n=n:=by
 induction n with
 |zero=>rfl
 |succ n ih=>grind[iO]
def gA (es:List Gc)(i:Nat):Gc:=es.getD i (.aI [],[],[])
def gQ (l:List Oper)(es:List Gc)(i:Nat)(E:EF):EF:=Jh (jF l i) (gA es i).1 E
def Ms (l:List Oper)(i k:Nat):Prop:=jF l i=some k
def jB (es:List Gc)(i:Nat)(H:HF):HF:=(gA es i).2.1.on H
def agv (es:List Gc)(i k:Nat):Prop:=k∈(gA es i).2.1.map Prod.fst
def agw (l:List Oper)(es:List Gc):Tg (gQ l es) (Ms l) where
 same:=λi k f g h=>by grind[gQ,Ms,Jh]
 other:=λi k f h=>by
  unfold gQ;unfold Ms at h
  cases hd:jF l i with
  |none=>rfl
  |some d=>
   grind[Jh]
def acD {u:Hp}{k:Nat}(f g:HF)(h:k∈u.map Prod.fst):u.on f k=u.on g k:=by
 induction u with
 |nil=>grind
 |cons p u ih=>
  show bt _ _ _ k=bt _ _ _ k;unfold bt
  grind
def YT {u:Hp}{k:Nat}(f:HF)(h:k∉u.map Prod.fst):u.on f k=f k:=by
 induction u with
 |nil=>rfl
 |cons p u ih=>
  show bt _ _ _ k=_;unfold bt
  grind
def acE (es:List Gc):Tg (jB es) (agv es) where
 same:=λ_ _ f g h=>acD f g h
 other:=λ_ _ f h=>YT f h
def Vq {C:bU}{all:List Oper}{n0:Nat}{E0:EF}{H0:HF}{es0:List Gc}: ∀ {rest:List Oper} {i:Nat} {es:List Gc} {E:EF} {H:HF} {E':EF} {H':HF},Ji C all n0 rest i E H es E' H'->
  (∀k,rest[k]? =all[i+k]?)->(∀k,es[k]? =es0[i+k]?)->E=cY (gQ all es0) E0 (λ_=>true) i->H=cY (jB es0) H0 (λ_=>true) i->
  (∀k o,rest[k]? =some o->Dp C all (2*(n0+(i+k))) o (cY (gQ all es0) E0 (λ_=>true) (i+k)) (cY (jB es0) H0 (λ_=>true) (i+k)) (gA es0 (i+k)))/\
   E'=cY (gQ all es0) E0 (λ_=>true) (i+rest.length)/\H'=cY (jB es0) H0 (λ_=>true) (i+rest.length):=by
 intro rest
 induction rest with
 |nil=>intro i es E H E' H' h _ _ hE hH;cases h;grind
 |cons o rest ih=>
  intro i es E H E' H' h hr he hE hH
  cases h with
  | @cons _ _ _ _ _ e es _ _ h t=>
   have h0:es0[i]? =some e:=by simpa using(he 0).symm
   have aoL:gA es0 i=e:=by grind[gA]
   have hd:jF all i=o.dst:=by
    have:all[i]? =some o:=by simpa using(hr 0).symm
    grind[jF,Jg]
   obtain⟨h1,h2,h3⟩:=ih t (λk=>by have:=hr (k+1);grind) (λk=>by have:=he (k+1);grind)
    (by simp only[cY,if_true];grind[gQ]) (by simp only[cY,if_true];grind[jB])
   grind
theorem PX (es:List Gc)(t:bq):rz es t=(es.map λe=>(e.2.2,e.2.1.map Prod.fst)).reverse ++t:=by
 unfold rz;simp_all
def Dt {es:List Gc}{i:Nat}:Gf (rz es []).reverse i=((gA es i).2.2,(gA es i).2.1.map Prod.fst):=by grind[PX,acC,gA]
def Hy {a b:List Nat}:Hx a b=true↔∃k,k∈a/\k∈b:=by
 simp only[Hx,G4];simp_all
def Vr {l:List Operand}{t:Tmp}(h: .tmp t∈l):t∈Hw l:=by
 induction l with
 |nil=>cases h
 |cons x l ih=>
  rcases dl.1 h with rfl|h'
  ·simp[Hw]
  ·have:=ih K0;cases x<;>simp[Hw,this]
section
variable {C:bU}{F:gN}{nt:Nat}{cC:Array Oper}{Q:Exit->Act->World->Prop}
def NX (N0:Nat->Prop)(n0 n:Nat)(X:Nat->Bool)(id:Nat):Prop:=N0 id\/∃i,i<n/\X i=true/\tag id=n0+i
theorem YU (hC:C.Ok)(hG:bJ C F){n0:Nat}{es:List Gc}{E0 E':EF}{H0 H':HF}{N0:Nat->Prop}{a:Act}{w:World}(h:Ji C cC.toList n0 cC.toList 0 E0 H0 es E' H')
  (hdr:Ag cC.toList (rz es [])=true)(hd: ∀o∈cC.toList,∀t,o.dst=some t->F.okD nt t)(hrel:BX F nt E0 H0 N0 a w)(hN: ∀id,N0 id->tag id<n0)
  (hQ: ∀a' w' N',BX F nt E' H' N' a' w'->(∀id,N' id->tag id<n0+cC.size)->Q .normal a' w'):wpAny C.P .any cC Q cC.size (Array.replicate cC.size false) a w:=by
 obtain⟨dw,GX,hH'⟩:=Vq (es0:=es) h (by simp) (by simp) rfl rfl;simp only[j7,Array.length_toList]at dw GX hH';have hlE:=agw cC.toList es;have hlH:=acE es
 have amX: ∀i j,i<j->j<cC.size->(∃oi oj,cC[i]? =some oi/\cC[j]? =some oj/\(Dr cC.toList oi oj || Dr cC.toList oj oi ||
   Jk ((gA es i).2.2,(gA es i).2.1.map Prod.fst) ((gA es j).2.2,(gA es j).2.1.map Prod.fst) || Jk ((gA es j).2.2,(gA es j).2.1.map Prod.fst) ((gA es i).2.2,(gA es i).2.1.map Prod.fst))=true)->nH cC.toList 6 i j=true:=by
  rintro i j Pv hj ⟨oi,oj,hoi,hoj,hh⟩;have h1:=(tQ hdr j oj bv).2;rw[j7]at h1;have h2:=yv h1 i oi bv K0;rw[j7,Dt,Dt]at h2
  grind
 have amG: ∀j o,cC[j]? =some o->∀e∈kS o,e<j:=λj o ho=>by
  have:=(tQ hdr j o bv).1
  grind
 have ahO: ∀i o,cC[i]? =some o->jF cC.toList i=o.dst:=λi o ho=>by grind[Mk]
 have ahG: ∀(AY:Nat) (X:Nat->Bool) (km:Array Bool) (a:Act) (w:World),km.size=cC.size->(∀i,i<cC.size->km.getD i true=X i)->
   (∀j o,cC.toList[j]? =some o->X j=true->∀k∈kS o,X k=true)->iO X cC.size<=AY->
   BX F nt (cY (gQ cC.toList es) E0 X cC.size) (cY (jB es) H0 X cC.size) (NX N0 n0 cC.size X) a w->wpAny C.P .any cC Q AY km a w:=by
  have O8: ∀(X:Nat->Bool) (km:Array Bool) (a:Act) (w:World),km.size=cC.size->(∀i,i<cC.size->km.getD i true=X i)->
    Region.ready .any cC km= []->BX F nt (cY (gQ cC.toList es) E0 X cC.size) (cY (jB es) H0 X cC.size) (NX N0 n0 cC.size X) a w->Q .normal a w:=by
   intro X km a w hls hX hr hrel
   have hall: ∀i,i<cC.size->X i=true:=by
    intro i
    induction i using Nat.strongRecOn with
    |_ i ih=>
     intro hi;cases hx:X i
     ·exfalso
      have:i∈Region.ready .any cC km:=by
       rw[mem_ready];refine⟨by grind,cC[i],by grind,λe he hb=>?_⟩;have ak:=amG i cC[i] bv e.on (Mq he hb)
       grind
      grind
     ·rfl
   have e1:cY (gQ cC.toList es) E0 X cC.size=E':=by rw[GX];funext k;grind[ku]
   have e2:cY (jB es) H0 X cC.size=H':=by rw[hH'];funext k;grind[ku]
   rw[e1,e2]at hrel;refine hQ a w _ hrel ?_;rintro id (hn|⟨i,hi,_,e⟩)
   grind
   ·omega
  intro AY
  induction AY with
  |zero=>
   intro X km a w hls hX jg hu hrel
   have hr:Region.ready .any cC km= []:=by
    rw[List.eq_nil_iff_forall_not_mem];intro j hj;obtain⟨h0,o,ho,_⟩:=mem_ready.1 hj
    grind[wq]
   exact⟨hr,O8 X km a w hls hX hr hrel⟩
  |succ AY ih=>
   intro X km a w hls hX jg hu hrel;refine⟨λhr=>O8 X km a w hls hX hr hrel,λj hj=>?_⟩;obtain⟨h0,o,ho,hall⟩:=mem_ready.1 hj;have ak:j<cC.size:=(FV.1 ho).1;have hXj:X j=false:=by grind
   have aog: ∀k∈kS o,X k=true:=by grind[Mr]
   have RW: ∀i,i<j->nH cC.toList 6 i j=true->X i=true:=λi _ ho'=>
    oG jg ho' λo' amA k hk=>by grind
   have abB: ∀i,j<i->i<cC.size->X i=true->nH cC.toList 6 j i=true->False:=λi _ hi hXi ho'=>by
    have:=oG jg ho' λo' amA k hk=>jg i o' amA hXi k hk
    grind
   have wK: ∀i,i<cC.size->(∃oi,cC[i]? =some oi/\(Dr cC.toList oi o || Jk ((gA es i).2.2,(gA es i).2.1.map Prod.fst) ((gA es j).2.2,(gA es j).2.1.map Prod.fst))=true)->i≠j->X i=decide (i<j):=by grind
   have UE:=dw j o bv
   have afr: ∀t∈looks cC.toList o,cY (gQ cC.toList es) E0 X cC.size t=cY (gQ cC.toList es) E0 (λ_=>true) j t:=by
    intro t ht;rw[<- Mp (n:=cC.size) j K0];refine ku hlE λi hi hw=>?_;by_cases eU:i=j
    grind
    ·refine wK i hi ⟨cC[i],by grind,?_⟩ eU;unfold Ms at hw;rw[ahO i cC[i] bv]at hw
     have:Dr cC.toList cC[i] o=true:=by
      simp only[Dr,hw,Yd,G4]
      grind[Nat.beq_refl]
     grind
   have hop: ∀x∈o.op.operands.toList,C.ev (cY (gQ cC.toList es) E0 X cC.size) x=C.ev (cY (gQ cC.toList es) E0 (λ_=>true) j) x:=by
    intro x hx
    cases x with
    |tmp t=>
     refine afr t (XX _ (Vr ?_))
     grind[acB]
    |_=>rfl
   have hgd:jJ cC.toList (cY (gQ cC.toList es) E0 X cC.size) o=jJ cC.toList (cY (gQ cC.toList es) E0 (λ_=>true) j) o:=by
    unfold jJ;split
    ·rfl
    ·rename_i g FR hg;split
     ·rfl
     ·rename_i t ht;rw[afr t (List.mem_append_right _ bv)]
   have IF: ∀id∈(gA es j).2.2,cY (jB es) H0 X cC.size id=cY (jB es) H0 (λ_=>true) j id:=by
    intro id hid;rw[<- Mp (n:=cC.size) j K0];refine ku hlH λi hi hw=>?_;by_cases eU:i=j
    grind
    ·refine wK i hi ⟨cC[i],by grind,?_⟩ eU;have:Hx ((gA es i).2.1.map Prod.fst) (gA es j).2.2=true:=Hy.2 ⟨id,hw,hid⟩
     grind[Jk]
   unfold wpOp;rw[ho];have ahr: ∀t,o.dst=some t->F.okD nt t:=hd o bv;refine Tf hC hG ahr UE hop hgd IF hrel ?_ ?_
   ·rw[jQ];rintro id (hn|⟨i,hi,hx,e⟩)
    grind
    grind
   ·intro a' w' afq;refine ih (qo X j) _ a' w' bv ?_ ?_ ?_ ?_
    ·intro i hi;by_cases e:i=j
     ·subst e;have:i<km.size:=by omega
      simp[qo,this]
     ·rw[getD_set_ne true (oz e),hX i hi];simp[qo,e]
    grind[qo]
    grind[yw]
    ·have e1:cY (gQ cC.toList es) E0 (qo X j) cC.size=Jh o.dst (gA es j).1 (cY (gQ cC.toList es) E0 X cC.size):=by
      rw[Hv hlE ak hXj ?_]
      grind[gQ]
      ·intro i Pv hi hx k s9 hw2;refine abB i Pv hi hx (amX j i Pv hi ⟨o,cC[i],ho,by grind,?_⟩);unfold Ms at s9 hw2;rw[ahO i cC[i] bv]at s9;rw[ahO j o ho]at hw2
       have:Dr cC.toList o cC[i]=true:=by
        simp only[Dr,s9,hw2,Yd]
        grind[Nat.beq_refl]
       grind
     have e2:cY (jB es) H0 (qo X j) cC.size=(gA es j).2.1.on (cY (jB es) H0 X cC.size):=by
      rw[Hv hlH ak hXj ?_]
      ·rfl
      ·intro i Pv hi hx k s9 hw2;refine abB i Pv hi hx (amX j i Pv hi ⟨o,cC[i],ho,by grind,?_⟩);have:Hx ((gA es j).2.1.map Prod.fst) ((gA es i).2.1.map Prod.fst)=true:=Hy.2 ⟨k,hw2,s9⟩
       grind[Jk]
     have e3:NX N0 n0 cC.size (qo X j)=bk (NX N0 n0 cC.size X) (2*(n0+j)):=by
      funext id;apply propext;constructor
      ·rintro(hn|⟨i,hi,hx,et⟩)
       ·exact .inl (.inl hn)
       ·by_cases e:i=j
        ·subst e;exact .inr (by rw[jQ];exact et)
        ·exact .inl (.inr ⟨i,hi,by grind[qo],et⟩)
      ·rintro((hn|⟨i,hi,hx,et⟩)|et)
       ·exact .inl hn
       ·refine .inr ⟨i,hi,?_,et⟩
        grind[qo]
       ·rw[jQ]at et;exact .inr ⟨j,ak,by simp[qo],et⟩
     grind
 refine ahG cC.size (λ_=>false) _ a w (by simp) (λi hi=>by simp[hi]) (λ_ _ _ h=>by grind) (by grind[Ds]) ?_;have e1: ∀n,cY (gQ cC.toList es) E0 (λ_=>false) n=E0:=λn=>by exact aka
 have e2: ∀n,cY (jB es) H0 (λ_=>false) n=H0:=λn=>by exact aka
 have e3:NX N0 n0 cC.size (λ_=>false)=N0:=by funext id;simp[NX]
 grind
end
def dI {l:List Oper}{t:bq}{X:Prop}(h:Ag l t=true)(x:X):Ag l t=true/\X:=⟨h,x⟩
attribute [irreducible] Ag
def akT (P:Program)(g:Nat)(fb cv:Array Value)(xs:List (Array Value))(mv:Mem)(w:World):Prop:=
 ∀(l:Nat) (J:Nat × (Nat->Prop)->World->Prop) (Jx:Unit->World->Prop) (W:World) (M0:Nat->Prop),Below w.heap.size w W->(∀b,M0 b->b<W.heap.size)->AbidesFrom W.heap.size J->AbidesFrom W.heap.size Jx->
  (∀s W1,J s W1->mv.le (rd W1))->
  (∀i M x W1,xs[i]? =some x->J (i,M) W1->YieldAt Fence.wide 0 P l x W1 λe W'=>
   (e= .returned (.bool true)/\∃M',J (i+1,M') W'/\W1.heap.size<=W'.heap.size/\(∀b,M' b->M b\/W1.heap.size<=b)/\∀b arr T,W1.heap[b]? =some (.cells arr T)->¬M b->W'.heap[b]? =some (.cells arr T))\/
   (e= .returned (.bool false)/\Jx () W'))->
  J (0,M0) W->CallsIn Fence.wide 0 P g (fb++ #[.func (.yield l) #[] #[]]++cv) W λe W'=>(∃v,e= .returned v)/\((∃M,J (xs.length,M) W')\/Jx () W')
def Th (P:Program)(gl:tu)(g:FuncId)(first:List SV)(bM:List (List SC))(xs:List (List SV)):Prop:=
 iN P g=true/\∀(mv mr:Mem) (w:World) (fb cv:Array Value),mv.le mr->mr.le (rd w)->eQ gl (rd w)->pf mv mr fb first->pf mv mr cv (bM.map λcs=>(false,[.ref cs]))->
  ∃xv:List (Array Value),xv.length=xs.length/\(∀(i:Nat) (x:Array Value) (r:List SV),xv[i]? =some x->xs[i]? =some r->pf mv eX x r)/\akT P g fb cv xv mr w
section
variable {P:Program}{l:Nat}{n:Nat}
def Gg {f:FuncId}{args:Array Value}{w:World}{R:Ending->World->Prop}(h:Calls P f args w R):CallsIn (Fence.wide.inRound l) n P f args w R:=(callsIn_wide (n:=n)).2 h
def Jm {row:String}{args:Array Value}{w:World}{R:Value->World->Prop}(h:Rows P row args w R):RowsIn (Fence.wide.inRound l) n P row args w R:=
 λc cs _=>let⟨v,w',r,s⟩:=h c cs;⟨v,w',r,stepsIn_wide.2 s⟩
theorem YV {o:Oper}{a:Act}{w:World}{K:Act->World->Prop}{Q:Exit->Act->World->Prop}(hd: ∀c,o.op≠ .defer c)(h:o.wp P a w K Q):o.wpIn (Fence.wide.inRound l) n P a w K Q:=by
 refine⟨λ_ _=>trivial,?_⟩;rw[Fence.inRound_round,Oper.semAt_some l _ _ hd];unfold Oper.wp at h;generalize (execOp a.eval o).run P w=r at*
 cases r with
 |ok x w'=>
  cases x<;>simp only[Oper.upon,Oper.uponIn]at h ⊢ <;>first
   |exact h
   |exact⟨λh=>by simp[Fence.inRound,Fence.wide]at h,Gg h⟩
   |exact⟨λh=>by simp[Fence.inRound,Fence.wide]at h,Jm h⟩
 |halt x w'=>cases x<;>simp only[Oper.upon,Oper.uponIn]at h ⊢ <;>exact h
def rB:List Oper->Bool
 | []=>true
 |o::l=>match o.op with
  | .defer _=>false
  |_=>rB l
theorem Mt {l:List Oper}(h:rB l=true): ∀o∈l,∀c,o.op≠ .defer c:=by
 induction l with
 |nil=>simp
 |cons x l ih=>
  unfold rB at h;split at h
  ·cases h
  ·rename_i hx;intro o ho c e;rcases dl.1 ho with rfl|ho
   ·exact hx c e
   ·exact ih h o ho c e
theorem Hz {cC:Array Oper}{Q:Exit->Act->World->Prop}(hd:rB cC.toList=true)(hQ: ¬LetsOut Q): ∀(is:List Nat) (a:Act) (w:World),wpOps P cC Q is a w->wpOpsIn (Fence.wide.inRound l) n P cC Q is a w:=by
 intro is
 induction is with
 |nil=>intro a w h;exact h
 |cons i is ih=>
  intro a w h;unfold wpOps at h;unfold wpOpsIn;split at h
  ·rename_i ho;simp only[ho];exact ih a w h
  ·rename_i o ho;simp only[ho];split at h
   ·rename_i hw;simp only[hw,if_true];rcases h with h|h
    ·exact Oper.wpIn_mono ih (YV (Mt hd o (by simpa using XW ho)) h)
    ·exact absurd h.2 hQ
   ·rename_i hw;simp only[hw];exact⟨λ_ _=>trivial,ih _ _ h⟩
def yx {id:Nat}{cC:Array Oper}{Q:Exit->Act->World->Prop}{a:Act}{w:World}(hd:rB cC.toList=true)(hQ: ¬LetsOut Q)(h:wpList P cC Q cC.toList a w):
  (Code.region id cC false).wpIn (Fence.wide.inRound l) n P Q a w:=by
 refine wpIn_region (Hz hd hQ _ _ _ ?_);rw[List.range_eq_range',<- Array.length_toList,wpOps_eq_wpList cC.toList 0 (by simp)];exact h
def Ah {id:Nat}{cC:Array Oper}{Q:Exit->Act->World->Prop}{a:Act}{w:World}(hd:rB cC.toList=true)(hQ: ¬LetsOut Q)(hm:P.follows .mixedOrders =true)
  (h:wpAny P .any cC Q cC.size (Array.replicate cC.size false) a {w with drawn:=w.drawn+1}):(Code.region id cC true).wpIn (Fence.wide.inRound l) n P Q a w:=by
 refine wpIn_region_draw λt=>Hz hd hQ _ _ _ ?_;simp only[Region.schedule,hm,Bool.true_or,if_true];exact wpAny_sound cC.size t _ a _ h
end
structure St where
 env:dG
 hp:Hp
 nx:Nat
def Rel (F:gN)(nt:Nat)(S:St)(a:Act)(w:World):Prop:=∃N,BX F nt S.env.get S.hp.get N a w/\∀id,N id->tag id<S.nx
def bp (S S':St):Prop:=∀F nt a w,Rel F nt S a w->Rel F nt S' a w
theorem bp.refl (S:St):bp S S:=λ_ _ _ _ h=>h
def bp.trans {S S' S'':St}(h:bp S S')(k:bp S' S''):bp S S'':=λF nt a w r=>k F nt a w (h F nt a w r)
@[irreducible] def Ti (step:(St->Prop)->St->Prop)(S:St):Prop:=∀Z:St->Prop,(∀S,step (λS'=>∃S'',bp S' S''/\Z S'') S->Z S)->Z S
def Cl (C:bU)(cC:List Oper)(uS:Bool)(S:St)(kn:St->Prop):Prop:=match S with
 |⟨E,H,nx⟩=>qk C cC nx cC 0 E H [] λE H n t=>match uS with
  |false=>kn ⟨E,H,nx+n⟩
  |true=>Ag cC t=true/\kn ⟨E,H,nx+n⟩
def params:List Tmp->List SV->dG->dG
 |p::ps,x::xs,E=>params ps xs ((p,some (.val (dyn x)))::E)
 |_,_,E=>E
def Cm (n:Nat)(l:List Nat):Bool:= !ya n l
def rC (l:List Nat):List Oper->Bool
 | []=>true
 |o::r=>(match o.dst with|some d=>Cm d l|none=>true)&&rC l r
def aN (l:List Nat):Code->Bool
 | .seq x y=>aN l x&&aN l y
 | .cond _ x y=>aN l x&&aN l y
 | .block _ c=>aN l c
 | .loop c=>aN l c
 | .scope c=>aN l c
 | .rangeFunc _ _ x y=>aN l x&&aN l y
 | .region _ cC _=>rC l cC.toList
 |_=>true
def mD:Code->Bool
 | .skip =>true
 | .label _=>true
 | .ret =>true
 | .exit _=>true
 | .seq x y=>mD x&&mD y
 | .cond _ x y=>mD x&&mD y
 | .block _ c=>mD c
 | .region _ cC _=>rB cC.toList
 |_=>false
def rE:Hp->Bool
 | []=>true
 |(_,some (.map _))::_=>false
 |_::H=>rE H
def ka:dG->List Nat
 | []=>[]
 |(k,_)::E=>k::ka E
def qp (l:List Nat):List Tmp->Bool
 | []=>true
 |p::ps=>Cm p l&&qp l ps
def rF (C:bU):Code->St->(St->Prop)->(Nat->St->Prop)->(St->Prop)->Prop
 | .skip,S,kn,_,_=>kn S
 | .label _,S,kn,_,_=>kn S
 | .ret,S,_,_,kr=>kr S
 | .exit id,S,_,kx,_=>kx id S
 | .seq x y,S,kn,kx,kr=>rF C x S (λS=>∃S',bp S S'/\rF C y S' kn kx kr) kx kr
 | .cond c x y,S,kn,kx,kr=>match C.ev S.env.get c with
  |some (.val (false,[.st (.lit (.bool b))]))=>Xw b (rF C x S kn kx kr) (rF C y S kn kx kr)
  |_=>False
 | .block id c,S,kn,kx,kr=>rF C c S kn (λiW S=>match Nat.beq iW id with
  |true=>kn S
  |false=>kx iW S) kr
 | .loop c,S,_,kx,kr=>∃S',bp S S'/\Ti (λZ S=>rF C c S Z kx kr) S'
 | .region _ cC uS,S,kn,_,_=>Cl C cC.toList uS S kn
 | .scope c,S,kn,kx,kr=>rF C c S kn kx kr
 | .rangeFunc g ps x y,S,kn,_,kr=>match C.ev S.env.get g with
  |some (.val (false,[.st (.fn gf first bM)]))=>∃(xs:List (List SV)) (Hs:Nat->Hp) (nx:Nat) (Inv:Nat->Prop),Th C.P C.gl gf first bM xs/\(∀r∈xs,r.length=ps.size)/\
    (mD x=true/\mD y=true/\aN (ka S.env) x=true/\aN (ka S.env) y=true/\qp (ka S.env) ps.toList=true)/\(∀i,rE (Hs i)=true)/\bp S ⟨S.env,Hs 0,nx⟩/\Inv 0/\
    (∀i r,xs[i]? =some r->Inv i->rF C x ⟨params ps.toList r S.env,Hs i,nx⟩ (λS1=>∃XA,bp S1 XA/\rF C y XA (λS2=>Inv (i+1)/\bp S2 ⟨S.env,Hs (i+1),nx⟩) (λ_ _=>False)
     (λS2=>∃Hr nr,rE Hr=true/\bp S2 ⟨S.env,Hr,nr⟩/\kr ⟨S.env,Hr,nr⟩)) (λ_ _=>False) (λ_=>False))/\(Inv xs.length->kn ⟨S.env,Hs xs.length,nx⟩)
  |_=>False
 |_,_,_,_,_=>False
def Mu (nt:Nat):List Oper->Bool
 | []=>true
 |o::l=>(match o.dst with|some d=>Nat.blt d nt|none=>true)&&Mu nt l
def bS (nt:Nat):Code->Bool
 | .seq x y=>bS nt x&&bS nt y
 | .cond _ x y=>bS nt x&&bS nt y
 | .block _ c=>bS nt c
 | .loop c=>bS nt c
 | .scope c=>bS nt c
 | .rangeFunc _ ps x y=>(ps.toList.all λp=>Nat.blt p nt)&&(bS nt x&&bS nt y)
 | .region _ cC _=>Mu nt cC.toList
 |_=>true
def Vs {n:Nat}{l:List Nat}:ya n l=true↔n∈l:=by
 induction l with
 |nil=>simp[ya]
 |cons m l ih=>
  grind[ya,Nat.eq_of_beq_eq_true,Nat.beq_refl]
theorem Mv {n:Nat}{l:List Nat}(h:Cm n l=true):n∉l:=by
 intro hm;rw[Cm,Vs.2 hm]at h;cases h
def Jn {k:List Nat}{l:List Oper}(h:rC k l=true): ∀o∈l,∀t,o.dst=some t->t∉k:=by
 induction l with
 |nil=>grind
 |cons x l ih=>
  rw[rC]at h;exact akv
def Mw (l:List Oper):rC [] l=true:=by
 induction l with
 |nil=>rfl
 |cons o l ih=>
  rw[rC,ih,Bool.and_true];split<;>rfl
def Jo (c:Code):aN [] c=true:=by
 induction c with
 |seq x y ihx ihy=>grind[aN]
 |cond c x y ihx ihy=>grind[aN]
 |rangeFunc g ps x y ihx ihy=>grind[aN]
 |block id c ih=>rw[aN,ih]
 |loop c ih=>rw[aN,ih]
 |scope c ih=>rw[aN,ih]
 |region id cC uS=>exact Mw _
 |_=>rfl
def PY {nt:Nat}{l:List Oper}(h:Mu nt l=true): ∀o∈l,∀t,o.dst=some t->t<nt:=by
 induction l with
 |nil=>grind
 |cons x l ih=>
  rw[Mu]at h;obtain⟨h1,h2⟩:=aH h
  grind[Nat.blt_eq]
section
variable {C:bU}
def YW {step afy:(St->Prop)->St->Prop}(hs: ∀Z S,step Z S->afy Z S){S:St}(h:Ti step S):Ti afy S:=by
 unfold Ti at*;exact λZ hZ=>h Z λS hS=>hZ S (hs _ _ hS)
theorem mE {c:Code}: ∀ {S:St} {kn R3:St->Prop} {kx RV:Nat->St->Prop} {kr RT:St->Prop},rF C c S kn kx kr->(∀S,kn S->R3 S)->(∀id S,kx id S->RV id S)->(∀S,kr S->RT S)->rF C c S R3 RV RT:=by
 induction c with
 |skip=>intro S kn R3 kx RV kr RT h h1 h2 h3;exact h1 _ h
 |label l=>intro S kn R3 kx RV kr RT h h1 h2 h3;exact h1 _ h
 |ret=>intro S kn R3 kx RV kr RT h h1 h2 h3;exact h3 _ h
 |exit id=>intro S kn R3 kx RV kr RT h h1 h2 h3;exact h2 _ _ h
 |seq x y ihx ihy=>intro S kn R3 kx RV kr RT h h1 h2 h3;exact ihx h (λS ⟨S',hs,h⟩=>⟨S',hs,ihy h h1 h2 h3⟩) h2 h3
 |cond c x y ihx ihy=>
  intro S kn R3 kx RV kr RT h h1 h2 h3;unfold rF at h ⊢;split at h
  ·rename_i b hb;exact yt h (λh=>ihx h h1 h2 h3) λh=>ihy h h1 h2 h3
  omega
 |block id c ih=>
  intro S kn R3 kx RV kr RT h h1 h2 h3;refine ih h h1 (λiW S h=>?_) h3
  grind
 |loop c ih=>
  intro S kn R3 kx RV kr RT h h1 h2 h3;obtain⟨S',hs,h⟩:=h;exact⟨S',hs,YW (λZ S h=>ih h (λ_ h=>h) h2 h3) h⟩
 |region id cC uS=>
  intro S kn R3 kx RV kr RT h h1 h2 h3;refine Vo h λE H n t h=>?_
  grind
 |scope c ih=>intro S kn R3 kx RV kr RT h h1 h2 h3;exact ih h h1 h2 h3
 |rangeFunc g ps x y ihx ihy=>
  intro S kn R3 kx RV kr RT h h1 h2 h3;unfold rF at h ⊢;split at h
  ·obtain⟨xs,Hs,nx,Inv,q1,q2,q3,qm,q4,q0,q5,q6⟩:=h;exact⟨xs,Hs,nx,Inv,q1,q2,q3,qm,q4,q0,λi r hr hi=>ihx (q5 i r hr hi) (λ_ ⟨XA,hs,h⟩=>⟨XA,hs,ihy h (λ_ h=>h) (λ_ _ h=>h) λ_ ⟨Hr,nr,hm,hs,h⟩=>⟨Hr,nr,hm,hs,h3 _ h⟩⟩) (λ_ _ h=>h) λ_ h=>h,λhi=>h1 _ (q6 hi)⟩
  omega
 |goto=>intro S kn R3 kx RV kr RT h;exact h.elim
 |refuse=>intro S kn R3 kx RV kr RT h;exact h.elim
def HA {c:Code}{kx:Nat->St->Prop}{kr:St->Prop}{S:St}(h:rF C c S (λS'=>∃S'',bp S' S''/\Ti (λZ S=>rF C c S Z kx kr) S'') kx kr):Ti (λZ S=>rF C c S Z kx kr) S:=by
 unfold Ti;intro Z hZ;refine hZ S (mE h (λS' h=>?_) (λ_ _ h=>h) λ_ h=>h);obtain⟨S'',h1,h2⟩:=h;unfold Ti at h2;exact⟨S'',h1,h2 Z hZ⟩
end
def tR (P:Program)(c:Code)(Q:Exit->Act->World->Prop)(a:Act)(w:World):Prop:=
 ∀(b:Frame) (k:List Item) (cs:List Frame),∃e a' w',Q e a' w'/\Arrives P (lone (b.at a (.code c:: .inLoop c::k)) cs w) b k cs e a' w'
def tR.wp {P:Program}{c:Code}{Q:Exit->Act->World->Prop}{a:Act}{w:World}(h:tR P c Q a w):(Code.loop c).wp P Q a w:=
 λb k cs=>let⟨e,a',w',hq,lF⟩:=h b k cs;⟨e,a',w',hq,.of_steps (.one step_loop) lF⟩
def tR.round {P:Program}{c:Code}{Q:Exit->Act->World->Prop}{a:Act}{w:World}(h:c.wp P (Exit.then (tR P c Q) Q) a w):tR P c Q a w:=by
 intro b k cs;obtain⟨e,abN,abG,hq,lF⟩:=h b (.inLoop c::k) cs
 cases e with
 |normal=>
  obtain⟨anX,an9,aob,amO,aep⟩:=hq b k cs;exact⟨anX,an9,aob,amO,.of_steps (Steps.trans lF (.one step_inLoop)) aep⟩
 |exit id=>exact⟨_,abN,abG,hq,.pass (x:=.inLoop c) rfl (λ_ _=>.inl (by simp)) lF⟩
 |goto l=>exact⟨_,abN,abG,hq,.pass (x:=.inLoop c) rfl (λ_ _=>.inl (by simp)) lF⟩
 |ret=>exact⟨_,abN,abG,hq,.pass (x:=.inLoop c) rfl (λ_ _=>.inl (by simp)) lF⟩
 |panic ch=>exact⟨_,abN,abG,hq,.pass (x:=.inLoop c) rfl (λ_ _=>.inl (by simp)) lF⟩
 |outgrown=>exact⟨_,abN,abG,hq,.pass (x:=.inLoop c) rfl (λ_ _=>.inl (by simp)) lF⟩
section
variable {C:bU}{F:gN}{nt:Nat}
def BX.drawn {E:EF}{H:HF}{N:Nat->Prop}{a:Act}{w:World}(h:BX F nt E H N a w)(n:Nat):BX F nt E H N a {w with drawn:=n}:=by
 obtain⟨h1,h2,h3,β,hE,hR⟩:=h;have hB:Below w.heap.size w {w with drawn:=n}:=⟨rfl,rfl,rfl,dE _,λ_ _=>rfl⟩;exact⟨h1,h2.keep (Tr.grow hR hB).aw,h3,β,(Tr.grow hR hB).env hR hE,hR.grow hB⟩
def PZ {l:List Oper}(h1:Mu nt l=true)(h2:rC (F.fixed.map Prod.fst) l=true): ∀o∈l,∀t,o.dst=some t->F.okD nt t:=
 λo ho t ht=>⟨PY h1 o ho t ht,λp hp e=>Jn h2 o ho t ht bv⟩
theorem Bg (hC:C.Ok)(hG:bJ C F){cC:Array Oper}{S:St}{kn:St->Prop}{a:Act}{w:World}{Q:Exit->Act->World->Prop}(hd: ∀o∈cC.toList,∀t,o.dst=some t->F.okD nt t)
  (h:Cl C cC.toList false S kn)(hrel:Rel F nt S a w)(hQ: ∀S a w,kn S->Rel F nt S a w->Q .normal a w):wpList C.P cC Q cC.toList a w:=by
 obtain⟨N,hr,hN⟩:=hrel;obtain⟨es,E',H',abM,hK⟩:=Hu h;refine Vp (nt:=nt) hC hG abM hd hr K0 ?_;intro a' w' N' Ch hN';exact hQ _ a' w' hK ⟨N',Ch,hN'⟩
def Du (hC:C.Ok)(hG:bJ C F){cC:Array Oper}{S:St}{kn:St->Prop}{a:Act}{w:World}{Q:Exit->Act->World->Prop}(hd: ∀o∈cC.toList,∀t,o.dst=some t->F.okD nt t)
  (h:Cl C cC.toList true S kn)(hrel:Rel F nt S a w)(hQ: ∀S a w,kn S->Rel F nt S a w->Q .normal a w):wpAny C.P .any cC Q cC.size (Array.replicate cC.size false) a {w with drawn:=w.drawn+1}:=by
 obtain⟨N,hr,hN⟩:=hrel;obtain⟨es,E',H',abM,h1,h2⟩:=Hu h;refine YU (nt:=nt) hC hG abM h1 hd (hr.drawn _) hN ?_;intro a' w' N' Ch hN';exact hQ _ a' w' h2 ⟨N',Ch,by grind⟩
theorem Jp (hC:C.Ok)(hG:bJ C F){id:Nat}{cC:Array Oper}{uS:Bool}{S:St}{kn:St->Prop}{a:Act}{w:World}{Q:Exit->Act->World->Prop}(hd: ∀o∈cC.toList,∀t,o.dst=some t->F.okD nt t)
  (h:Cl C cC.toList uS S kn)(hrel:Rel F nt S a w)(hQ: ∀S a w,kn S->Rel F nt S a w->Q .normal a w):(Code.region id cC uS).wp C.P Q a w:=by
 cases uS with
 |false=>grind[wp_region_list,Bg]
 |true=>exact wp_region_any hC.mixed (Du hC hG hd h hrel hQ)
theorem Vt (hC:C.Ok)(hG:bJ C F){l n:Nat}{c:Code}: ∀ {S:St} {kn:St->Prop} {kx:Nat->St->Prop} {kr:St->Prop} {a:Act} {w:World} {Q:Exit->Act->World->Prop},mD c=true->bS nt c=true->aN (F.fixed.map Prod.fst) c=true->¬LetsOut Q->
  rF C c S kn kx kr->Rel F nt S a w->
  (∀S a w,kn S->Rel F nt S a w->Q .normal a w)->(∀id S a w,kx id S->Rel F nt S a w->Q (.exit id) a w)->(∀S a w,kr S->Rel F nt S a w->Q .ret a w)->c.wpIn (Fence.wide.inRound l) n C.P Q a w:=by
 induction c with
 |skip=>intro S kn kx kr a w Q _ _ _ _ h hr h1 h2 h3;exact wpIn_skip (h1 _ _ _ h hr)
 |label l=>intro S kn kx kr a w Q _ _ _ _ h hr h1 h2 h3;exact wpIn_label (h1 _ _ _ h hr)
 |ret=>intro S kn kx kr a w Q _ _ _ _ h hr h1 h2 h3;exact wpIn_ret (h3 _ _ _ h hr)
 |exit id=>intro S kn kx kr a w Q _ _ _ _ h hr h1 h2 h3;exact wpIn_exit (h2 _ _ _ _ h hr)
 |seq x y ihx ihy=>
  intro S kn kx kr a w Q hf hc mb hQ h hr h1 h2 h3;obtain⟨hx,hy⟩:=aH (a:=bS nt x) (b:=bS nt y) hc;obtain⟨fx,fy⟩:=aH (a:=mD x) (b:=mD y) hf;obtain⟨gx,gy⟩:=aH (a:=aN (F.fixed.map Prod.fst) x) (b:=aN (F.fixed.map Prod.fst) y) mb;refine wpIn_seq (ihx fx hx gx (λ⟨a,w,h⟩=>hQ ⟨a,w,h⟩) h hr (λS a w ⟨S',hs,h⟩ hr=>ihy fy hy gy hQ h (hs _ _ _ _ hr) h1 h2 h3) h2 h3)
 |cond c x y ihx ihy=>
  intro S kn kx kr a w Q hf hc mb hQ h hr h1 h2 h3;obtain⟨hx,hy⟩:=aH (a:=bS nt x) (b:=bS nt y) hc;obtain⟨fx,fy⟩:=aH (a:=mD x) (b:=mD y) hf;obtain⟨gx,gy⟩:=aH (a:=aN (F.fixed.map Prod.fst) x) (b:=aN (F.fixed.map Prod.fst) y) mb;unfold rF at h;split at h
  ·rename_i b hb;have hv:a.eval c= .bool b:=aiZ
   grind[wpIn_cond,oE,qj]
  grind
 |block id c ih=>
  intro S kn kx kr a w Q hf hc mb hQ h hr h1 h2 h3;refine wpIn_block (ih hf hc mb (λ⟨a,w,h⟩=>hQ ⟨a,w,h⟩) h hr (λS a w h hr=>h1 S a w h hr) (λiW S a w h hr=>?_) λS a w h hr=>h3 S a w h hr);exact aib
 |region id cC uS=>
  intro S kn kx kr a w Q hf hc mb hQ h hr h1 h2 h3
  cases uS with
  |false=>exact yx hf hQ (Bg hC hG (PZ hc mb) h hr h1)
  |true=>exact Ah hf hQ hC.mixed (Du hC hG (PZ hc mb) h hr h1)
 |loop c ih=>intro S kn kx kr a w Q hf;cases hf
 |scope c ih=>intro S kn kx kr a w Q hf;cases hf
 |rangeFunc=>intro S kn kx kr a w Q hf;cases hf
 |goto=>intro S kn kx kr a w Q hf;cases hf
 |refuse=>intro S kn kx kr a w Q hf;cases hf
def live (β:Nat->Option Nat)(H:HF)(b:Nat):Prop:=∃id bC,H id=some bC/\β id=some b
structure Jq (F:gN) (nt:Nat) (S:St) (t:Array Value) (w:World) (β:Nat->Option Nat) (N:Nat->Prop):Prop where
 size:t.size=nt
 env: ∀s dv,S.env.get s=some dv->co F β N S.hp.get w (t.getD s undef) dv
 heap:ad F β N S.hp.get w
 ids: ∀id,N id->tag id<S.nx
structure Tj (F:gN) (β:Nat->Option Nat) (H:HF) (w:World) (cQ:Nat->Option Nat) (H':HF) (w':World):Prop where
 size:w.heap.size<=w'.heap.size
 keep: ∀(b:Nat) (o:Obj),w.heap[b]? =some o->¬live β H b->w'.heap[b]? =some o
 live: ∀b,live cQ H' b->live β H b\/w.heap.size<=b
 mv:(MV F β H w).le (MV F cQ H' w')
def mF {β:Nat->Option Nat}{H:HF}{b o:Nat}(h: ¬live β H b):fS β H b o:=λid bC e hb=>absurd ⟨id,bC,e,hb⟩ h
def lT {β:Nat->Option Nat}{N:Nat->Prop}{H:HF}{w:World}(hR:ad F β N H w){b:Nat}(h:live β H b):b<w.heap.size/\F.dL b:=
 let⟨_,_,e,hb⟩:=h;hR.fY e hb
noncomputable def gN.mY (F:gN)(β:Nat->Option Nat)(H:HF)(w:World)(fx:List (Nat × Value)):gN:=⟨w,MV F β H w,live β H,fx,F.db,MR F β H w⟩
section
variable {β cQ:Nat->Option Nat}{N N':Nat->Prop}{H H':HF}{w w':World}{fx:List (Nat × Value)}
def oa (hR:ad F β N H w){b:Nat}(h:(F.mY β H w fx).dL b):F.dL b:=by
 rcases h with h|h
 ·exact .inl (pd hR.below.size h)
 ·exact(lT hR h).2
def Jr (hR:ad F β N H w):MV (F.mY β H w fx) β H w=MV F β H w:=by
 funext b o;by_cases h1:(F.mY β H w fx).dL b
 ·have h2:=oa hR h1;unfold MV
  grind
 ·unfold MV;rw[if_neg h1];rfl
def Tk (hR:ad F β N H w):MR (F.mY β H w fx) β H w=MR F β H w:=by
 funext b o;by_cases h1:(F.mY β H w fx).dL b
 ·have h2:=oa hR h1;unfold MR;rw[if_pos h1,if_pos h2,Jr hR]
 ·have e:MR (F.mY β H w fx) β H w b o=(F.mY β H w fx).mr0 b o:=by unfold MR;grind
  exact e
theorem Js {G:gN}(h1:MV G β H w=MV F β H w)(h2:MR G β H w=MR F β H w){v:Value}{d:DC}:cw G β N H w v d↔cw F β N H w v d:=by cases d<;>simp only[cw,h1,h2]
def Dv {G:gN}(h1:MV G β H w=MV F β H w)(h2:MR G β H w=MR F β H w){v:Value}{d:DX}:au G β N H w v d↔au F β N H w v d:=by grind[au,Js]
theorem Mx {G:gN}(h1:MV G β H w=MV F β H w)(h2:MR G β H w=MR F β H w){v:Value}{d:DV}:co G β N H w v d↔co F β N H w v d:=by
 cases d with
 |val x=>exact Dv h1 h2
 |aI l=>
  constructor
  ·rintro⟨arr,q1,q2,q3⟩;exact⟨arr,q1,q2,λk c hc=>(Dv h1 h2).1 (q3 k c hc)⟩
  ·rintro⟨arr,q1,q2,q3⟩;exact⟨arr,q1,q2,λk c hc=>(Dv h1 h2).2 (q3 k c hc)⟩
theorem HB {G:gN}(h1:MV G β H w=MV F β H w)(h2:MR G β H w=MR F β H w){id:Nat}{bC:cD}(hm: ∀b,β id=some b->G.dL b->F.dL b)(h:iB G β N H w id bC):iB F β N H w id bC:=by
 cases bC with
 |box t cs=>
  obtain⟨b,arr,T,q1,q2,q3,q4,q5⟩:=h;exact⟨b,arr,T,q1,hm b q1 q2,q3,q4,λk x hx=>(Js h1 h2).1 (q5 k x hx)⟩
 |ec cs=>
  obtain⟨b,arr,T,q1,q2,q3,q4,q5⟩:=h;exact⟨b,arr,T,q1,hm b q1 q2,q3,q4,λk x hx=>by grind⟩
 |row m z c=>
  obtain⟨q0,q1|⟨b,cap,q1,q2,q3⟩⟩:=h
  ·exact LX
  ·exact⟨q0,.inr ⟨b,cap,q1,hm b q1 q2,by grind⟩⟩
 |aD z l=>
  obtain⟨q0,q1|⟨b,cap,arr,T,q1,q2,q3,q4,q5,q6⟩⟩:=h
  ·exact LX
  ·exact⟨q0,.inr ⟨b,cap,arr,T,q1,hm b q1 q2,q3,q4,q5,λi e k x hi hx=>(Js h1 h2).1 (q6 i e k x hi hx)⟩⟩
 |map es=>
  obtain⟨b,arr,ck,q1,q2,q3,q4,q5⟩:=h;exact⟨b,arr,ck,q1,hm b q1 q2,q3,q4,by grind⟩
def ad.mY (hG:bJ C F)(hR:ad F β N H w):ad (F.mY β H w fx) β N H w:=by
 refine⟨λid bC e=>⟨(hR.rel id bC e).1,?_⟩,hR.inj,jy.refl _ _,λb o v e=>⟨yh hG hR e,λ_=>?_⟩⟩
 ·exact HB (Jr hR).symm (Tk hR).symm (λb hb _=>.inr ⟨id,bC,e,hb⟩) (hR.rel id bC e).2
 ·have e:MV F β H w b o=some v:=e;unfold MV at e;split at e
  grind
  ·rename_i hm;exact mF λh=>hm (lT hR h).2
def Vu (hR:ad F β N H w)(zU:ad (F.mY β H w fx) cQ N' H' w'):MV (F.mY β H w fx) cQ H' w'=MV F cQ H' w'/\MR (F.mY β H w fx) cQ H' w'=MR F cQ H' w'/\Tj F β H w cQ H' w'/\ad F cQ N' H' w':=by
 have hl: ∀b,live cQ H' b->(F.mY β H w fx).dL b:=λb h=>(lT zU h).2;have ak: ∀ {b:Nat},¬(F.mY β H w fx).dL b->b<w.heap.size:=λh=>Nat.lt_of_not_le λe=>h (.inl e)
 have e1:MV (F.mY β H w fx) cQ H' w'=MV F cQ H' w':=by
  funext b o;by_cases h1:(F.mY β H w fx).dL b
  ·have h2:=oa hR h1;unfold MV
   grind
  ·unfold MV;rw[if_neg h1];show MV F β H w b o=_;unfold MV;split
   ·rw[if_pos (mF λh=>h1 (.inr h)),if_pos (mF λh=>h1 (hl b h))];exact aje
   ·rfl
 have e2:MR (F.mY β H w fx) cQ H' w'=MR F cQ H' w':=by
  funext b o;by_cases h1:(F.mY β H w fx).dL b
  ·have h2:=oa hR h1;unfold MR;simp_all
  ·have e:MR (F.mY β H w fx) cQ H' w' b o=MR F β H w b o:=by
    have e:MR (F.mY β H w fx) cQ H' w' b o=(F.mY β H w fx).mr0 b o:=by unfold MR;grind
    exact e
   rw[e];by_cases h2:F.dL b
   ·unfold MR MV;rw[if_pos h2,if_pos h2,if_pos h2,if_pos h2,if_pos (mF λh=>h1 (.inr h)),if_pos (mF λh=>h1 (hl b h))];exact aje
   ·unfold MR
    grind
 have hk:jy F.dL w w':=zU.below.mono λb _ h=>oa hR h
 have wJ:(MV F β H w).le (MV F cQ H' w'):=by
  rw[<- e1];intro b o v e;obtain⟨h3,h4⟩:=zU.tg b o v e;unfold MV;split
  grind
  ·exact e
 refine⟨e1,e2,⟨zU.below.size,λb o e hn=>?_,λb h=>?_,wJ⟩,λid bC e=>⟨(zU.rel id bC e).1,?_⟩,zU.inj,hR.below.trans hk,λb o v e=>?_⟩
 ·rw[zU.below.block b (kN e) ?_]
  ·exact e
  ·rintro(h|h)
   ·have:=kN e;have h:w.heap.size<=b:=h;omega
   ·exact hn h
 ·rcases hl b h with h|h
  ·exact .inr h
  ·exact .inl h
 ·exact HB e1 e2 (λb hb hm=>oa hR hm) (zU.rel id bC e).2
 ·obtain⟨h1,h2⟩:=hR.tg b o v e
  have amz:MV F β H w b o=some v:=by
   unfold MV
   grind
  have h3:=wJ b o v amz;refine⟨?_,λhm=>?_⟩
  ·have:=(zU.tg b o v amz).1;omega
  ·unfold MV at h3
   grind
def P0:Obj->Bool
 | .map _ _=>true
 |_=>false
theorem rH: ∀ {H:Hp},rE H=true->∀id es,H.get id≠some (.map es)
 | [],_,id,es,h=>by grind[Hp.get]
 |(j,b)::H,hn,id,es,h=>by
  have Lh:rE H=true:=by
   cases b with
   |none=>exact hn
   |some b=>cases b<;>first|exact hn|cases hn
  rw[Hp.av]at h;by_cases hj:id=j
  ·subst hj;rw[an]at h;subst h;cases hn
  ·rw[aG _ _ _ hj]at h;exact rH Lh id es h
def Tr.walk (_hR:ad F β N H w){row:Option Nat}(hg:w.grownBy w' row)(hr: ∀r,row=some r->F.base<=r/\∃o:Obj,w.heap[r]? =some o/\o.isCells=false/\(∀x,o≠ .deferred x)):Tr F β N H w β N H w':=by
 have hkc: ∀ {b:Nat} {arr:Array Value} {T:TypeId},w.heap[b]? =some (.cells arr T)->w'.heap[b]? =some (.cells arr T):=λ{b arr T} e=>
  (grownBy_keeps_cells hg (λr h=>let⟨_,o,h1,h2,_⟩:=hr r h;⟨o,h1,h2⟩) e rfl).trans e
 refine⟨⟨hg.os,hg.tape,hg.output,hg.size,λk hk hm=>hg.block k hk λe=>hm (.inl (hr k e.symm).1)⟩,λb o v _ hs e=>⟨hs,?_⟩,λ_ h=>h,λ_ _=>rfl,λ_ b _ e=>⟨b,e,b.fV⟩,λ_ _ _ b arr T _ _ _ _ _ e=>⟨arr,hkc e,rfl⟩,λk x e=>?_⟩
 ·exact cell_kept (a:=⟨b,o,none⟩) e hg λr h=>let⟨_,o,h1,h2,_⟩:=hr r h;⟨o,h1,h2⟩
 ·rw[hg.block k (kN e) λh=>?_];omega
  grind
theorem ad.walk (hR:ad F β N H w){row:Option Nat}(hg:w.grownBy w' row)(hr: ∀r,row=some r->F.base<=r/\∃o:Obj,w.heap[r]? =some o/\o.isCells=false/\(∀x,o≠ .deferred x))(hm:(∀r o,row=some r->w.heap[r]? =some o->P0 o=false)\/∀id es,H id≠some (.map es)):ad F β N H w':=by
 refine hR.step (Tr.walk hR hg hr) (λ_=>False) (λid bC _ e=>⟨e,(hR.rel id bC e).1,λb hb=>?_⟩) (λ_ _ h=>h.elim) hR.inj;have ak:=(hR.fY e hb).1;refine hg.block b ak λh=>?_;obtain⟨_,o,h1,h2,_⟩:=hr b h.symm;have hc:(∃arr T,w.heap[b]? =some (.cells arr T))\/∃es ck,w.heap[b]? =some (.map es ck):=K54
 rcases hc with⟨arr,T,hc⟩|⟨es,ck,hc⟩
 ·rw[hc]at h1;cases h1;cases h2
 ·rw[hc]at h1;cases h1;rcases hm with hm|hm
  ·have:=hm b _ h.symm hc;cases this
  ·obtain⟨_,hB⟩:=hR.rel id bC e
   cases bC with
   |map Xs=>grind
   |box t cs=>obtain⟨b',arr,T,q1,q2,q3,_⟩:=hB;grind
   |ec cs=>obtain⟨b',arr,T,q1,q2,q3,_⟩:=hB;grind
   |row m z c=>
    obtain⟨_,q1|⟨b',cap,q1,q2,arr,T,q3,_⟩⟩:=hB
    grind
    grind
   |aD z l=>
    obtain⟨_,q1|⟨b',cap,arr,T,q1,q2,q3,_⟩⟩:=hB
    grind
    grind
end
def aeL (hC:C.Ok)(hG:bJ C F){l n:Nat}{c:Code}{S:St}{kn:St->Prop}{kr:St->Prop}{a:Act}{w:World}{Q:Exit->Act->World->Prop}{β:Nat->Option Nat}{N:Nat->Prop}{fx:List Nat}(hf:mD c=true)(hc:bS nt c=true)(mb:aN fx c=true)(hQ: ¬LetsOut Q)
  (h:rF C c S kn (λ_ _=>False) kr)(hd:eE F.db a.defers w)(hr:Jq F nt S a.tmps w β N)
  (h1: ∀S1 a' w',kn S1->(∀S',bp S1 S'->∃cQ N',Jq F nt S' a'.tmps w' cQ N'/\Tj F β S.hp.get w cQ S'.hp.get w'/\(∀s∈fx,a'.tmps.getD s undef=a.tmps.getD s undef)/\eE F.db a'.defers w')->Q .normal a' w')
  (h3: ∀S1 a' w',kr S1->(∀S',bp S1 S'->∃cQ N',Jq F nt S' a'.tmps w' cQ N'/\Tj F β S.hp.get w cQ S'.hp.get w'/\(∀s∈fx,a'.tmps.getD s undef=a.tmps.getD s undef)/\eE F.db a'.defers w')->Q .ret a' w'):
  c.wpIn (Fence.wide.inRound l) n C.P Q a w:=by
 obtain⟨q1,q2,q3,q4⟩:=hr;let fxv:List (Nat × Value):=fx.map λs=>(s,a.tmps.getD s undef)
 have hG1:bJ C (F.mY β S.hp.get w fxv):=by
  refine⟨eQ.later hG q3,λb o v e=>yh hG q3 e,λg cs hm fN hl=>?_,eQ.mr hG,IZ hG q3,tH hG q3⟩;obtain⟨v,e1,_⟩:=(hG.ok g cs hm).1 0 cs[0] bv;exact tE e1 (hG.UI g cs hm fN) (lT q3 hl).2
 have aoD:fxv.map Prod.fst=fx:=by simp[fxv,FW]
 have hrel:Rel (F.mY β S.hp.get w fxv) nt S a w:=by
  refine⟨N,⟨q1,hd,?_,β,λs dv e=>(Mx (Jr q3) (Tk q3)).2 (q2 s dv e),ad.mY hG q3⟩,q4⟩;intro p hp;obtain⟨s,_,rfl⟩:=dT.1 hp;rfl
 have KU: ∀ {S1:St} {a':Act} {w':World},Rel (F.mY β S.hp.get w fxv) nt S1 a' w'->∀S',bp S1 S'->∃cQ N',Jq F nt S' a'.tmps w' cQ N'/\Tj F β S.hp.get w cQ S'.hp.get w'/\(∀s∈fx,a'.tmps.getD s undef=a.tmps.getD s undef)/\eE F.db a'.defers w':=by
  intro S1 a' w' hr S' hs;obtain⟨N',⟨r1,r2,r3,cQ,r4,r5⟩,r6⟩:=hs _ _ _ _ hr;obtain⟨e1,e2,e3,e4⟩:=Vu q3 r5;refine⟨cQ,N',⟨r1,λs dv e=>(Mx e1 e2).1 (r4 s dv e),e4,r6⟩,e3,λs hs=>?_,r2⟩;exact r3 (s,a.tmps.getD s undef) (dT.2 ⟨s,hs,rfl⟩)
 exact Vt hC hG1 hf hc (by show aN (fxv.map Prod.fst) c=true;grind) hQ h hrel (λS1 a' w' hk Ch=>h1 S1 a' w' hk (KU Ch)) (λ_ _ _ _ h=>h.elim) λS1 a' w' hk Ch=>h3 S1 a' w' hk (KU Ch)
def rI (ps:List Tmp)(vs:List Value)(t:Array Value):Array Value:=(ps.zip vs).foldl (λt p=>t.setIfInBounds p.1 p.2) t
theorem Bh: ∀(ps:List Tmp) (vs:List Value) (t:Array Value),(rI ps vs t).size =t.size
 | [],_,_=>rfl
 |_::_,[],_=>rfl
 |p::ps,v::vs,t=>by
  show(rI ps vs (t.setIfInBounds p v)).size =_;rw[Bh];simp
theorem yz {s:Nat}: ∀(ps:List Tmp) (vs:List Value) (t:Array Value),s∉ps->(rI ps vs t).getD s undef=t.getD s undef
 | [],_,_,_=>rfl
 |_::_,[],_,_=>rfl
 |p::ps,v::vs,t,h=>by
  show(rI ps vs (t.setIfInBounds p v)).getD s undef=_;rw[yz ps vs _ (λe=>h (ji _ e))];have:p≠s:=λe=>h bv;simp_all
theorem Dw {β:Nat->Option Nat}{N:Nat->Prop}{H:HF}{w:World}: ∀(ps:List Tmp) (vs:List Value) (rs:List SV) (t:Array Value) (E:dG),vs.length=ps.length->rs.length=ps.length->
  (∀(k:Nat) (r:SV),rs[k]? =some r->au F β N H w (vs.getD k undef) (dyn r))->(∀p∈ps,p<t.size)->(∀s dv,E.get s=some dv->co F β N H w (t.getD s undef) dv)->
  ∀s dv,(params ps rs E).get s=some dv->co F β N H w ((rI ps vs t).getD s undef) dv
 | [],_,[],_,_,_,_,_,_,h=>h
 |p::ps,v::vs,r::rs,t,E,h1,h2,h3,h4,h=>by
  refine Dw ps vs rs (t.setIfInBounds p v) ((p,some (.val (dyn r)))::E) bv bv (λk r' hk=>?_) (λq hq=>by grind) (λs dv e=>?_)
  ·simpa using h3 (k+1) r' bv
  ·rw[dG.av]at e;have ak:=h4 p jx;by_cases hs:s=p
   ·subst hs;simp at e;subst e;have:(t.setIfInBounds s v).getD s undef=v:=by simp_all
    rw[this];show au _ _ _ _ _ _ _;simpa using h3 0 r rfl
   ·simp only[hs,kK]at e;have:(t.setIfInBounds p v).getD s undef=t.getD s undef:=by simp[sN,XS (oz hs)]
    grind
 |_::_,[],_,_,_,h1,_,_,_,_=>by grind
 |_::_,_::_,[],_,_,_,h2,_,_,_=>by grind
 | [],_,_::_,_,_,_,h2,_,_,_=>by grind
theorem P1 {E:dG}{s:Nat}{dv:DV}(h:E.get s=some dv):s∈ka E:=by
 induction E with
 |nil=>grind[dG.get]
 |cons p E ih=>
  obtain⟨k,b⟩:=p;rw[dG.av]at h;by_cases hs:s=k
  grind[ka]
  ·simp only[hs,kK]at h;exact ji _ (ih h)
theorem Gh {l:List Nat}{ps:List Tmp}(h:qp l ps=true): ∀p∈ps,p∉l:=by
 induction ps with
 |nil=>simp
 |cons q ps ih=>
  rw[qp]at h;exact akv
def nI (F:gN)(nt:Nat)(E:dG)(H:Hp)(nx:Nat)(a:Act)(mv:Mem)(M:Nat->Prop)(w:World):Prop:=
 ∃β N,Jq F nt ⟨E,H,nx⟩ a.tmps w β N/\eE F.db a.defers w/\mv.le (MV F β H.get w)/\(∀b,M b↔live β H.get b)/\∀id es,H.get id≠some (.map es)
def nI.walk {E:dG}{H:Hp}{nx:Nat}{a:Act}{mv:Mem}{M:Nat->Prop}{w w':World}(h:nI F nt E H nx a mv M w){row:Option Nat}(hg:w.grownBy w' row)
  (hr: ∀r,row=some r->F.base<=r/\∃o:Obj,w.heap[r]? =some o/\o.isCells=false/\(∀x,o≠ .deferred x)):nI F nt E H nx a mv M w':=by
 obtain⟨β,N,⟨q1,q2,q3,q4⟩,q5,q6,q7,q8⟩:=h;have t:=Tr.walk q3 hg hr;exact⟨β,N,⟨q1,λs dv e=>t.vY q3 (q2 s dv e),q3.walk hg hr (.inr q8),q4⟩,q5.keep t.aw,λb o v e=>t.mv b o v (q6 b o v e),q7,q8⟩
def Dx {β:Nat->Option Nat}{N:Nat->Prop}{H:HF}{w:World}(hR:ad F β N H w){b:Nat}(h:live β H b):(∃arr T,w.heap[b]? =some (.cells arr T))\/∃es ck,w.heap[b]? =some (.map es ck):=by
 obtain⟨id,bC,e,hb⟩:=h;exact K54
def My (hC:C.Ok)(hG:bJ C F){g:Operand}{ps:Array Tmp}{x y:Code}{E:dG}{gf:FuncId}{first:List SV}{bM:List (List SC)}{xs:List (List SV)}{Hs:Nat->Hp}{nx:Nat}{Inv:Nat->Prop}{kr:St->Prop}{a:Act}{w:World}{Q:Exit->Act->World->Prop}
  (fC:bS nt (.rangeFunc g ps x y)=true)(hg:C.ev E.get g=some (.val (false,[.st (.fn gf first bM)])))(hit:Th C.P C.gl gf first bM xs)(bG: ∀r∈xs,r.length=ps.size)
  (ox:mD x=true/\mD y=true/\aN (ka E) x=true/\aN (ka E) y=true/\qp (ka E) ps.toList=true)
  (hnm: ∀i,rE (Hs i)=true)(hrel:Rel F nt ⟨E,Hs 0,nx⟩ a w)(hdb:F.db<=F.base)(zO:Inv 0)
  (mV: ∀i r,xs[i]? =some r->Inv i->rF C x ⟨params ps.toList r E,Hs i,nx⟩ (λS1=>∃XA,bp S1 XA/\rF C y XA (λS2=>Inv (i+1)/\bp S2 ⟨E,Hs (i+1),nx⟩) (λ_ _=>False)
   (λS2=>∃Hr nr,rE Hr=true/\bp S2 ⟨E,Hr,nr⟩/\kr ⟨E,Hr,nr⟩)) (λ_ _=>False) (λ_=>False))
  (aoq:Inv xs.length->∀a' w',Rel F nt ⟨E,Hs xs.length,nx⟩ a' w'->Q .normal a' w')(aor: ∀S a' w',kr S->Rel F nt S a' w'->Q .ret a' w'):(Code.rangeFunc g ps x y).wp C.P Q a w:=by
 refine(wpIn_wide (n:=0)).1 ?_;refine wpIn_rangeFunc λfn GP=>?_
 obtain⟨AU,hcx,hcy⟩:(∀p∈ps.toList,p<nt)/\bS nt x=true/\bS nt y=true:=by
  obtain⟨h1,h2⟩:=aH (a:=ps.toList.all λp=>Nat.blt p nt) (b:=bS nt x&&bS nt y) fC;obtain⟨h2,h3⟩:=aH h2
  grind[Nat.blt_eq]
 obtain⟨fx,fy,gx,gy,gp⟩:=ox;obtain⟨N,⟨hs,hdf,aoi,β,hE,hR⟩,hN⟩:=hrel;obtain⟨fv,cv,FD,KY,hcv⟩:=Di ((mB hG hR hE hg).am :dy _ _ _ _);obtain⟨xv,hxl,hxr,hI⟩:=hit.2 (MV F β (Hs 0).get w) (MR F β (Hs 0).get w) w fv cv (tH hG hR) (wg hG hR) (eQ.later hG hR) KY hcv;have Pq:Fence.wide.round=none:=rfl;rw[Pq];let rec':LoopState->Option Code->Loop:=λst pe=>{state:=st,pending:=pe,fn,tmps:=a.tmps,params:=ps,assign:=x,body:=y,defers:=w.heap.size};let D:=w.heap.size;let L:=w.heap.size+1;generalize hW1:(w.alloc (.deferred (some []))).alloc (.loop (rec' .ready none))=W1;have s1:W1.heap.size=w.heap.size+2:=by rw[<- hW1];simp
 have hL:W1.heap[L]? =some (.loop (rec' .ready none)):=by grind[World.alloc_heap_new]
 have hD:W1.heap[D]? =some (.deferred (some [])):=by grind[Below.heap_alloc,World.alloc_heap_new]
 have xH:Below w.heap.size w W1:=by rw[<- hW1];exact((Below.refl _ w).alloc (dE _) _).alloc (by simp) _
 have FT:F.base<=w.heap.size:=hR.below.size;have tG:=Tr.grow hR xH
 have KT:nI F nt E (Hs 0) nx a (MV F β (Hs 0).get w) (live β (Hs 0).get) W1:=
  ⟨β,N,⟨hs,λs dv e=>tG.vY hR (hE s dv e),hR.grow xH,hN⟩,hdf.keep tG.aw,tG.mv,λ_=>Iff.rfl,rH (hnm 0)⟩
 refine⟨L,[{target:=.collected D,args:= #[]}],W1,{target:=.fn (.func gf) cv,args:=fv++ #[.func (.yield L) #[] #[]]},W1,gf,fv++ #[.func (.yield L) #[] #[]]++cv,W1,?_,?_,λ_ _=>trivial,?_,λh=>by grind[Fence.wide],?_⟩
 ·grind[run_enterLoop_outer]
 ·simp only[resolve,FD];simp[go_sem,L]
 ·simp[invoke,go_sem,Vc hit.1]
 have wk: ∀ {H:Hp} {M:Nat->Prop} {n:Nat} {W:World} {r r':Loop},nI F nt E H n a (MV F β (Hs 0).get w) M W->W.heap[L]? =some (.loop r)->nI F nt E H n a (MV F β (Hs 0).get w) M (W.putObj L (.loop r')):=λh hl=>
  h.walk (grownBy_putObj' _ L _) λr e=>by cases e;exact⟨by omega,_,hl,rfl,λx=>by simp⟩
 have hDL:D≠L:=by omega
 refine(hI L (λs W=>(Inv s.1/\nI F nt E (Hs s.1) nx a (MV F β (Hs 0).get w) s.2 W)/\W.heap[L]? =some (.loop (rec' .ready none))/\W.heap[D]? =some (.deferred (some [])))
  (λ_ W=>(∃Hr nr M,kr ⟨E,Hr,nr⟩/\nI F nt E Hr nr a (MV F β (Hs 0).get w) M W)/\W.heap[L]? =some (.loop (rec' .done (some .ret)))/\W.heap[D]? =some (.deferred (some []))) W1 (live β (Hs 0).get) xH
  (λb hb=>by have:=(lT hR hb).1;omega) ?_ ?_ ?_ ?_ ⟨⟨zO,KT⟩,hL,hD⟩).mono ?_
 ·intro s A B row hs Ux hr;exact⟨⟨hs.1.1,hs.1.2.walk Ux λr e=>let⟨h1,o,h2,h3⟩:=hr r e;⟨by omega,o,h2,Obj.not_cells_of_walk h3,λx e=>by grind[Obj.isWalk]⟩⟩,(SP Ux (λr e=>(hr r e).2) hs.2.1 rfl).trans hs.2.1,(SP Ux (λr e=>(hr r e).2) hs.2.2 rfl).trans hs.2.2⟩
 ·intro s A B row hs Ux hr;obtain⟨⟨Hr,nr,M,hk,hB⟩,h2,h3⟩:=hs;exact⟨⟨Hr,nr,M,hk,hB.walk Ux λr e=>let⟨h1,o,h2,h3⟩:=hr r e;⟨by omega,o,h2,Obj.not_cells_of_walk h3,λx e=>by grind[Obj.isWalk]⟩⟩,(SP Ux (λr e=>(hr r e).2) h2 rfl).trans h2,(SP Ux (λr e=>(hr r e).2) h3 rfl).trans h3⟩
 ·rintro s W ⟨⟨_,cQ,N',q1,_,q3,_⟩,_⟩ b o v e;refine wg hG q1.heap b o v ?_;unfold MR at e ⊢;split
  ·rename_i hm;rw[if_pos hm]at e;exact q3 b o v e
  grind
 ·rintro i M xr W hx ⟨⟨OY,β0,N0,q1,q2,q3,q4,_⟩,hl,hd⟩;have hi:i<xs.length:=by grind
  have hr:=hxr i xr xs[i] hx (pj hi);have hrl:xs[i].length =ps.size:=bG _ (qd hi);have Cd:xr.size=ps.size:=by rw[hr.1,hrl]
  refine⟨fn,_,x,y,run_yield hl Cd,roundIn_of_wpIn GP ?_⟩;have O2:(ps.zip xr).foldl (λtmps (p:Tmp × Value)=>tmps.setIfInBounds p.1 p.2) a.tmps=rI ps.toList xr.toList a.tmps:=by grind[rI,Array.toList_zip]
  show x.wpIn _ _ _ _ {tmps:=(ps.zip xr).foldl (λtmps (p:Tmp × Value)=>tmps.setIfInBounds p.1 p.2) a.tmps,defers:=[]} W;rw[O2]
  have zR: ∀ {H:HF} {cQ:Nat->Option Nat} {N':Nat->Prop} {A:World} {k:Nat} {o:Obj},ad F cQ N' H A->A.heap[k]? =some o->o.isCells=false->P0 o=false->¬live cQ H k:=by
   intro H cQ N' A k o zU ho hc hm sJ
   rcases Dx zU sJ with⟨arr,T,e⟩|⟨es,ck,e⟩
   ·rw[e]at ho;cases ho;cases hc
   ·rw[e]at ho;cases ho;cases hm
  have gC:Jq F nt ⟨params ps.toList xs[i] E,Hs i,nx⟩ (rI ps.toList xr.toList a.tmps) W β0 N0:=by
   refine⟨by grind[Bh],?_,q1.heap,q1.ids⟩;refine Dw ps.toList xr.toList xs[i] a.tmps E K0 K0 (λk r hk=>?_) (λp hp=>by grind) q1.env;have h:=hr.2 k r hk;have e:xr.toList.getD k undef=xr.getD k undef:=by simp_all
   rw[e];exact eu.dyn (h.mono q3 (ee _))
  have amC: ∀s∈ka E,(rI ps.toList xr.toList a.tmps).getD s undef=a.tmps.getD s undef:=λs hs=>yz _ _ _ λhp=>Gh gp s hp hs;refine aeL (fx:=ka E) hC hG fx hcx gx akp (mV i xs[i] (pj hi) OY) (eE.nil _ W) gC (λS1 a1 w1 hk KU=>?_) λS1 a1 w1 hk KU=>hk.elim;obtain⟨XA,R1,hy⟩:=hk;obtain⟨β1,N1,p1,p2,p3,p4⟩:=KU XA R1;have hl1:=p2.keep L _ hl (zR q1.heap hl rfl rfl);have Xo:=p2.keep D _ hd (zR q1.heap hd rfl rfl);have aol:L<w1.heap.size:=kN hl1;refine⟨_,run_beginRound hl1 rfl,?_⟩;have hgb:=grownBy_putObj' w1 L (.loop {rec' .ready none with state:=.busy});have hgr: ∀r,some L=some r->F.base<=r/\∃o:Obj,w1.heap[r]? =some o/\o.isCells=false/\(∀x,o≠ .deferred x):=λr e=>by cases e;exact⟨by omega,_,hl1,rfl,λx=>by simp⟩
  have t2:=Tr.walk p1.heap hgb hgr;have Xt:(w1.putObj L (.loop {rec' .ready none with state:=.busy})).heap[L]? =some (.loop {rec' .ready none with state:=.busy}):=Si aol;have Xk:(w1.putObj L (.loop {rec' .ready none with state:=.busy})).heap[D]? =some (.deferred (some [])):=(UL hDL).trans Xo;have r2:Jq F nt XA a1.tmps (w1.putObj L (.loop {rec' .ready none with state:=.busy})) β1 N1:=⟨p1.size,λs dv e=>t2.vY p1.heap (p1.env s dv e),p1.heap.walk hgb hgr (.inl λr o e ho=>by cases e;rw[hl1]at ho;cases ho;rfl),p1.ids⟩;have mv1:(MV F β (Hs 0).get w).le (MV F β1 XA.hp.get (w1.putObj L (.loop {rec' .ready none with state:=.busy}))):=λb o v e=>t2.mv b o v (p2.mv b o v (q3 b o v e))
  have df2:eE F.db a.defers (w1.putObj L (.loop {rec' .ready none with state:=.busy})):=by
   refine eE.keep q2 λk xx e=>?_;have:=p2.keep k _ e (zR q1.heap e rfl rfl);exact t2.aw k xx this
  refine aeL (fx:=ka E) hC hG fy hcy gy akp hy (p4.keep t2.aw) r2 (λS2 a2 w2 hk KU=>?_) (λS2 a2 w2 hk KU=>?_)
  ·obtain⟨amt,hk⟩:=hk;obtain⟨β3,N3,u1,u2,u3,u4⟩:=KU _ hk;have hl3:=u2.keep L _ Xt (zR r2.heap Xt rfl rfl);have hd3:=u2.keep D _ Xk (zR r2.heap Xk rfl rfl);have ahA:L<w2.heap.size:=kN hl3;refine⟨_,_,run_endRound (P:=C.P) none hl3,.inl ⟨rfl,live β3 (Hs (i+1)).get,⟨⟨amt,?_⟩,Si ahA,(UL hDL).trans hd3⟩,?_,?_,?_⟩⟩
   ·refine wk (r:={rec' .ready none with state:=.busy}) ?_ hl3;refine⟨β3,N3,⟨q1.size,λs dv e=>?_,u1.heap,u1.ids⟩,df2.keep λk xx e=>u2.keep k _ e (zR r2.heap e rfl rfl),λb o v e=>u2.mv b o v (mv1 b o v e),λ_=>Iff.rfl,rH (hnm (i+1))⟩;exact ait
   ·have h1:=p2.size;have h2:=u2.size
    grind[World.putObj_size]
   ·intro b hb;have h0:=p2.size;rcases u2.live b hb with h|h
    ·rcases p2.live b h with h|h
     grind
     omega
    grind[World.putObj_size]
   ·intro b arr T e hM;have n0: ¬live β0 (Hs i).get b:=λh=>hM ((q4 b).2 h);have hbl:b<W.heap.size:=kN e;have e1:=p2.keep b _ e n0;have eU:b≠L:=λh=>by grind
    have n1: ¬live β1 XA.hp.get b:=λh=>by
     rcases p2.live b h with h|h
     grind
     ·omega
    have e2:(w1.putObj L (.loop {rec' .ready none with state:=.busy})).heap[b]? =some (.cells arr T):=(UL eU).trans e1;have e3:=u2.keep b _ e2 n1
    grind[World.putObj_heap_other]
  ·obtain⟨Hr,nr,hnr,R1,hkr⟩:=hk;obtain⟨β3,N3,u1,u2,u3,u4⟩:=KU _ R1;have hl3:=u2.keep L _ Xt (zR r2.heap Xt rfl rfl);have hd3:=u2.keep D _ Xk (zR r2.heap Xk rfl rfl);have ahA:L<w2.heap.size:=kN hl3;refine⟨_,_,run_endRound (P:=C.P) (some .ret) hl3,.inr ⟨rfl,⟨Hr,nr,live β3 Hr.get,hkr,?_⟩,Si ahA,(UL hDL).trans hd3⟩⟩;refine wk (r:={rec' .ready none with state:=.busy}) ?_ hl3;refine⟨β3,N3,⟨q1.size,λs dv e=>?_,u1.heap,u1.ids⟩,df2.keep λk xx e=>u2.keep k _ e (zR r2.heap e rfl rfl),λb o v e=>u2.mv b o v (mv1 b o v e),λ_=>Iff.rfl,rH hnr⟩;exact ait
 ·have fin: ∀ {H:Hp} {n:Nat} {M:Nat->Prop} {W:World} {r r':Loop},nI F nt E H n a (MV F β (Hs 0).get w) M W->W.heap[L]? =some (.loop r)->W.heap[D]? =some (.deferred (some []))->
    Rel F nt ⟨E,H,n⟩ {a with defers:=[{target:=.collected D,args:= #[]}]++a.defers} (W.putObj L (.loop r')):=by
   intro H n M W r r' hB hl hd;obtain⟨β3,N3,u1,u2,_,_,_⟩:=wk (r':=r') hB hl;refine⟨N3,⟨u1.size,⟨?_,?_⟩,aoi,β3,u1.env,u1.heap⟩,u1.ids⟩
   ·intro d xn;rcases dl.1 xn with rfl|xn
    grind[World.putObj_heap_other]
    ·exact u2.all d xn
   ·refine xQ.2 ⟨λhm=>?_,u2.nodup⟩;obtain⟨D',h1,h2,_⟩:=hdf.all _ hm
    grind
  rintro e W2 ⟨⟨v,rfl⟩,(⟨M,⟨OY,hi⟩,hl,hd⟩|⟨⟨Hr,nr,M,hk,hi⟩,hl,hd⟩)⟩
  ·refine⟨none,_,run_endLoop (P:=C.P) hl bv,?_⟩
   grind
  ·refine⟨some .ret,_,run_endLoop (P:=C.P) hl bv,?_⟩
   grind[wpIn_ret]
theorem Vv {β:Nat->Option Nat}{N:Nat->Prop}{H:HF}{w w':World}(hR:ad F β N H w){D:Nat}{o o':Obj}(ho:w.heap[D]? =some o)(h1:o.isCells=false)(h2:o'.isCells=false)(h3:P0 o=false)(hD:F.base<=D)(hw:w'=w.putObj D o'):
  ad F β N H w'/\∀ {v:Value} {d:DV},co F β N H w v d->co F β N H w' v d:=by
 subst hw;have ak:=kN ho;have qc:(w.putObj D o').heap[D]? =some o':=Si ak;have eU: ∀ {b:Nat},b≠D->(w.putObj D o').heap[b]? =w.heap[b]? :=λh=>UL h;have hc: ∀ {b:Nat} {arr:Array Value} {T:TypeId},w.heap[b]? =some (.cells arr T)->(w.putObj D o').heap[b]? =some (.cells arr T):=λ{b arr T} e=>by rw[eU (λh=>by subst h;rw[ho]at e;cases e;cases h1)];exact e
 have IF:rd (w.putObj D o')=rd w:=by
  funext b x
  grind[rd,World.cell?,Obj.isCells]
 have hMV:MV F β H (w.putObj D o')=MV F β H w:=by unfold MV;rw[IF]
 have hMR:MR F β H (w.putObj D o')=MR F β H w:=by unfold MR;rw[hMV]
 have hD': ∀ {v:Value} {d:DC},cw F β N H w v d->cw F β N H (w.putObj D o') v d:=by
  intro v d h
  cases d with
  |st c=>have h:dy _ _ v c:=h;show dy _ _ v c;grind
  |nil=>exact h
  |sL g id=>exact h
  |mp id=>exact h
  |ptr id off=>exact h
  |own id=>
   obtain⟨q1,q2,q3⟩:=h;refine⟨q1,q2,λm z c e hz=>?_⟩;rcases q3 m z c e hz with h|⟨b,cap,arr,T,p1,p2,p3,p4⟩
   ·exact .inl h
   ·exact .inr ⟨b,cap,arr,T,p1,p2,hc p3,p4⟩
  |cI id z i off=>exact h
 have hX: ∀ {v:Value} {x:DX},au F β N H w v x->au F β N H (w.putObj D o') v x:=by
  intro v x h;unfold au at h ⊢
  grind
 refine⟨⟨λid bC e=>⟨(hR.rel id bC e).1,?_⟩,hR.inj,hR.below.trans ⟨rfl,rfl,rfl,by simp,λk hk hm=>eU (λh=>hm (.inl K0))⟩,λb x v e=>by rw[IF];exact hR.tg b x v e⟩,?_⟩
 ·obtain⟨_,hB⟩:=hR.rel id bC e
  cases bC with
  |box t cs=>obtain⟨b,arr,T,q1,q2,q3,q4,q5⟩:=hB;exact⟨b,arr,T,q1,q2,hc q3,q4,λk x hx=>hD' (q5 k x hx)⟩
  |ec cs=>obtain⟨b,arr,T,q1,q2,q3,q4,q5⟩:=hB;exact⟨b,arr,T,q1,q2,hc q3,q4,λk x hx=>by grind⟩
  |row m z c=>
   obtain⟨q0,q1|⟨b,cap,q1,q2,arr,T,q3,q4⟩⟩:=hB
   ·exact LX
   ·exact⟨q0,.inr ⟨b,cap,q1,q2,arr,T,hc q3,by grind⟩⟩
  |aD z l=>
   obtain⟨q0,q1|⟨b,cap,arr,T,q1,q2,q3,q4,q5,q6⟩⟩:=hB
   ·exact LX
   ·exact⟨q0,.inr ⟨b,cap,arr,T,q1,q2,hc q3,q4,q5,λi e k x hi hx=>hD' (q6 i e k x hi hx)⟩⟩
  |map es=>
   obtain⟨b,arr,ck,q1,q2,q3,q4,q5⟩:=hB;exact⟨b,arr,ck,q1,q2,by rw[eU (λh=>by subst h;rw[ho]at q3;cases q3;cases h3)];exact q3,q4,by grind⟩
 ·intro v d h
  cases d with
  |val x=>exact hX h
  |aI l=>obtain⟨arr,q1,q2,q3⟩:=h;exact⟨arr,q1,q2,λk x hk=>hX (q3 k x hk)⟩
theorem Ai {P:Program}{fn:Func}{R:Ending->World->Prop}{S:St}{t:Array Value}{β:Nat->Option Nat}{N:Nat->Prop}
  (hdb:F.base<=F.db)(Sc: ∀w,Jq F nt S t w β N->∃v,(results fn t).run P w= .ok v w/\R (.returned v) w): ∀(ds:List Deferred) (w:World),Jq F nt S t w β N->eE F.db ds w->LeavesInM Fence.wide 0 P fn t R ds .returning w
 | [],w,hr,_=>by
  obtain⟨v,h1,h2⟩:=Sc w hr;exact⟨v,h1,h2⟩
 |d::ds,w,hr,hd=>by
  obtain⟨D,rfl,hD,hb⟩:=hd.all d jx;obtain⟨h1,h2⟩:=Vv (o':=.deferred none) hr.heap hD rfl rfl rfl (pd hdb hb) rfl;refine⟨by simp,.inl ⟨_,_,rfl,run_takeDeferred hD,?_⟩⟩;refine Ai hdb Sc ds _ ⟨hr.size,λs dv e=>h2 (hr.env s dv e),h1,hr.ids⟩ ⟨λd xn=>?_,(xQ.1 hd.nodup).2⟩;obtain⟨D',e1,e2,e3⟩:=hd.all d (ji _ xn);refine⟨D',e1,?_,e3⟩;rw[UL (λh=>?_)];omega
  ·subst h;subst e1;exact(xQ.1 hd.nodup).1 xn
theorem HC (hC:C.Ok)(hG:bJ C F)(hdb:F.db<=F.base){c:Code}:aN (F.fixed.map Prod.fst) c=true->∀ {S:St} {kn:St->Prop} {kx:Nat->St->Prop} {kr:St->Prop} {a:Act} {w:World} {Q:Exit->Act->World->Prop},bS nt c=true->rF C c S kn kx kr->Rel F nt S a w->
  (∀S a w,kn S->Rel F nt S a w->Q .normal a w)->(∀id S a w,kx id S->Rel F nt S a w->Q (.exit id) a w)->(∀S a w,kr S->Rel F nt S a w->Q .ret a w)->c.wp C.P Q a w:=by
 induction c with
 |skip=>intro _ S kn kx kr a w Q _ h hr h1 h2 h3;exact wp_skip (h1 _ _ _ h hr)
 |label l=>intro _ S kn kx kr a w Q _ h hr h1 h2 h3;exact wp_label (h1 _ _ _ h hr)
 |ret=>intro _ S kn kx kr a w Q _ h hr h1 h2 h3;exact wp_ret (h3 _ _ _ h hr)
 |exit id=>intro _ S kn kx kr a w Q _ h hr h1 h2 h3;exact wp_exit (h2 _ _ _ _ h hr)
 |seq x y ihx ihy=>
  intro mb S kn kx kr a w Q hc h hr h1 h2 h3;obtain⟨hx,hy⟩:=aH (a:=bS nt x) (b:=bS nt y) hc;obtain⟨fx,fy⟩:=aH (a:=aN (F.fixed.map Prod.fst) x) (b:=aN (F.fixed.map Prod.fst) y) mb;refine wp_seq (ihx fx hx h hr (λS a w ⟨S',hs,h⟩ hr=>ihy fy hy h (hs _ _ _ _ hr) h1 h2 h3) h2 h3)
 |cond c x y ihx ihy=>
  intro mb S kn kx kr a w Q hc h hr h1 h2 h3;obtain⟨hx,hy⟩:=aH (a:=bS nt x) (b:=bS nt y) hc;obtain⟨fx,fy⟩:=aH (a:=aN (F.fixed.map Prod.fst) x) (b:=aN (F.fixed.map Prod.fst) y) mb;unfold rF at h;split at h
  ·rename_i b hb;have hv:a.eval c= .bool b:=aiZ
   grind[wp_cond,oE,qj]
  grind
 |block id c ih=>
  intro mb S kn kx kr a w Q hc h hr h1 h2 h3;refine wp_block (ih mb hc h hr (λS a w h hr=>h1 S a w h hr) (λiW S a w h hr=>?_) λS a w h hr=>h3 S a w h hr);exact aib
 |loop c ih=>
  intro mb S kn kx kr a w Q hc h hr h1 h2 h3;refine tR.wp ?_;obtain⟨S0,hs0,h'⟩:=h;have hr:=hs0 _ _ _ _ hr;unfold Ti at h';refine h' (λS=>∀a w,Rel F nt S a w->tR C.P c Q a w) (λS hS a w hr=>?_) a w hr;refine tR.round (ih mb hc hS hr (λS' a w h hr=>?_) (λid S a w h hr=>h2 id S a w h hr) λS a w h hr=>h3 S a w h hr);obtain⟨S'',R1,hz⟩:=h;exact hz a w (R1 _ _ _ _ hr)
 |region id cC uS=>
  intro mb S kn kx kr a w Q hc h hr h1 h2 h3;exact Jp hC hG (PZ hc mb) h hr h1
 |scope c ih=>
  intro mb S kn kx kr a w Q hc h hr h1 h2 h3;exact wp_scope_straight (ih mb hc h hr (λS a w h hr=>h1 S a w h hr) (λid S a w h hr=>h2 id S a w h hr) λS a w h hr=>h3 S a w h hr)
 |rangeFunc g ps x y=>
  intro mb S kn kx kr a w Q hc h hr h1 h2 h3;unfold rF at h;split at h
  ·rename_i gf first bM hg
   obtain⟨xs,Hs,nx,Inv,q1,q2,q3,qm,q4,q0,q5,q6⟩:=h;exact My hC hG hc hg q1 q2 q3 qm (q4 _ _ _ _ hr) hdb q0 q5 (λhi a' w' Ch=>h1 _ a' w' (q6 hi) Ch) λS a' w' hk Ch=>h3 S a' w' hk Ch
  grind
 |goto=>intro _ S kn kx kr a w Q _ h;exact h.elim
 |refuse=>intro _ S kn kx kr a w Q _ h;exact h.elim
end
structure m8 (C:bU) (c:Code) (S:St) (kn:St->Prop) (kx:Nat->St->Prop) (kr:St->Prop):Prop where
 out:rF C c S kn kx kr
structure Brn (b:Bool) (X Y:Prop):Prop where
 out:Xw b X Y
def oH {b:Bool}{X Y:Prop}(h:b=true->X)(h':b=false->Y):Brn b X Y:=⟨Af h h'⟩
def bT {X Y:Prop}(h:X):Brn true X Y:=⟨Mm h⟩
def bF {X Y:Prop}(h:Y):Brn false X Y:=⟨Ht h⟩
def acF (C:bU)(cC:List Oper)(uS:Bool)(S:St)(kn:St->Prop):Prop:=match S with
 |⟨E,H,nx⟩=>jA C cC nx cC 0 E H [] λE H n t=>match uS with
  |false=>kn ⟨E,H,nx+n⟩
  |true=>Ag cC t=true/\kn ⟨E,H,nx+n⟩
structure Tl (C:bU) (c:Code) (S:St) (kx:Nat->St->Prop) (kr:St->Prop):Prop where
 out: ∃S',bp S S'/\Ti (λZ S=>rF C c S Z kx kr) S'
section
variable {C:bU}{S:St}{kn:St->Prop}{kx:Nat->St->Prop}{kr:St->Prop}
def aK (h:kn S):m8 C .skip S kn kx kr:=⟨h⟩
def aT (h:kr S):m8 C .ret S kn kx kr:=⟨h⟩
def aX {id:Nat}(h:kx id S):m8 C (.exit id) S kn kx kr:=⟨h⟩
def aS {x y:Code}(h:m8 C x S (λS=>m8 C y S kn kx kr) kx kr):m8 C (.seq x y) S kn kx kr:=by
 have h':rF C x S (λS=>∃S',bp S S'/\rF C y S' kn kx kr) kx kr:=mE h.out (λS h=>⟨S,bp.refl S,h.out⟩) (λ_ _ h=>h) λ_ h=>h;exact⟨h'⟩
def acG {x y:Code}{ι:Type}(Inv:ι->Prop)(σ:ι->St)(h1:m8 C x S (λS'=>∃i,Inv i/\bp S' (σ i)) kx kr)(h2: ∀i,Inv i->m8 C y (σ i) kn kx kr):m8 C (.seq x y) S kn kx kr:=by
 have h':rF C x S (λS=>∃S',bp S S'/\rF C y S' kn kx kr) kx kr:=mE h1.out (λ_ ⟨i,hi,hs⟩=>⟨σ i,hs,(h2 i hi).out⟩) (λ_ _ h=>h) λ_ h=>h;exact⟨h'⟩
def aC {c:Operand}{x y:Code}{b:Bool}(hc:C.ev S.env.get c=some (.val (false,[.st (.lit (.bool b))])))(h:Brn b (m8 C x S kn kx kr) (m8 C y S kn kx kr)):m8 C (.cond c x y) S kn kx kr:=by
 refine⟨?_⟩;unfold rF;simp only[hc];exact yt h.out (λh=>h.out) λh=>h.out
theorem aB {id:Nat}{c:Code}(h:m8 C c S kn (λiW S=>match Nat.beq iW id with
  |true=>kn S
  |false=>kx iW S) kr):m8 C (.block id c) S kn kx kr:=⟨h.out⟩
def aL {c:Code}(h:Tl C c S kx kr):m8 C (.loop c) S kn kx kr:=⟨h.out⟩
def aE {c:Code}(h:m8 C c S kn kx kr):m8 C (.scope c) S kn kx kr:=⟨h.out⟩
def aR {id:Nat}{cC:Array Oper}{uS:Bool}(h:acF C cC.toList uS S kn):m8 C (.region id cC uS) S kn kx kr:=by
 obtain⟨E,H,nx⟩:=S;exact⟨h.out⟩
end
def tT:Nat->List SV->dG
 |_,[]=>[]
 |i,x::xs=>(i,some (.val (dyn x)))::tT (i+1) xs
def entry (args:List SV):St:=⟨tT 0 args,[],0⟩
def eB (C:bU)(H:HF)(E:EF):List ResultVar->(List DX->Prop)->Prop
 | [],K=>K []
 | .tmp t::rs,K=>match E t with
  |some (.val x)=>eB C H E rs λxs=>K (x::xs)
  |_=>False
 | .cell a t::rs,K=>match E a with
  |some (.val x)=>oC C t x H λr u _=>match r,u with
   | .val y,[]=>eB C H E rs λxs=>K (y::xs)
   |_,_=>False
  |_=>False
def aeM (H:HF):List DX->Option (Nat × SC)
 | [(false,[.own id])]=>match H id with
  |some (.row true z c)=>some (z,c)
  |_=>none
 |_=>none
def yA:List SV->Bool
 | []=>true
 |x::l=>oA x.2&&yA l
def aeN:SC->SC
 | .ref _=>.ref []
 |c=>c
def Dy:SC->Bool
 | .fn _ _ _=>false
 |_=>true
def HD (x:SV):SV:=(x.1,x.2.map aeN)
def Cn:List SV->Bool
 | []=>true
 |x::l=>x.2.all Dy&&Cn l
def acH (C:bU)(H:HF)(ts:List TypeId)(xs:List DX)(K:lO->Prop):Prop:=match aeM H xs with
 |some (z,c)=>K (.own z c)
 |none=>match pl C H ts xs with
  |some (l,_,_)=>match yA l with
   |true=>match l with
    | [y]=>K (.one y)
    |l=>K (.aI l)
   |false=>match Cn l with
    |true=>match l with
     | [y]=>K (.one (HD y))
     |l=>K (.aI (l.map HD))
    |false=>False
  |none=>False
def acI (C:bU)(fn:Func)(S:St)(K:lO->Prop):Prop:=eB C S.hp.get S.env.get fn.results.toList λxs=>acH C S.hp.get fn.resultTypes.toList xs K
def Jt {xs:List SV}: ∀ {i s:Nat} {dv:DV},(tT i xs).get s=some dv->∃k x,s=i+k/\xs[k]? =some x/\dv= .val (dyn x):=by
 induction xs with
 |nil=>grind[tT,dG.get]
 |cons x xs ih=>
  intro i s dv h;unfold tT at h;rw[dG.av]at h;simp only at h;by_cases e:s=i
  ·subst e;grind
  ·rw[if_neg e]at h;obtain⟨k,y,h1,h2,h3⟩:=ih h;exact⟨k+1,y,by omega,by grind,h3⟩
section
variable {C:bU}{F:gN}{β:Nat->Option Nat}{N:Nat->Prop}{H:HF}{w w':World}{fn:Func}
def Dz (tmps:Array Value):ResultVar->Sem Value
 | .tmp t=>pure (tmps.getD t undef)
 | .cell a t=>do loadVar t (<- asAddr (tmps.getD a undef))
def P2 (tmps:Array Value):results fn tmps=(do let vs <- fn.results.mapM (Dz tmps);pure (if h:vs.size=1 then vs[0]else .tuple vs)):=by
 unfold results;congr 1
def Bi:List Value->Value
 | [v]=>v
 |vs=>.tuple vs.toArray
theorem Bj {P:Program}{tmps:Array Value}{vs:List Value}(h:(fn.results.toList.mapM (Dz tmps)).run P w= .ok vs w):
  (results fn tmps).run P w= .ok (Bi vs) w:=by
 rw[P2,aeE];simp only[map_eq_pure_bind,eL,h,my,lN];congr 1
 match vs with
 | []=>rfl
 | [v]=>rfl
 |v::u::vs=>simp;rfl
def Vw {P:Program}{T:TypeId}{x:DX}{v0 v:Value}{K:j8}{w':World}(hx:au F β N H w v0 x)(h:oC C T x H K)(hr:(Instr.loadAt T v0).run P w= .ok v w'):
  (do loadVar T (<- asAddr v0):Sem Value).run P w= .ok v w':=by
 have key: ∃b o,v0= .pointer (some ⟨b,o,none⟩):=by
  unfold oC at h;split at h
  grind
  ·split at h
   ·obtain⟨_,b,_,e⟩:=hx.am;grind
   ·exact I0 hx.am
   ·obtain⟨_,b,_,e⟩:=hx.am;grind
   grind
 grind[Instr.loadAt,Instr.sureAddr,asAddr]
theorem DA (hC:C.Ok)(hG:bJ C F){E:EF}{a:Act}: ∀ {rs:List ResultVar} {K:List DX->Prop} {β:Nat->Option Nat} {N:Nat->Prop},ad F β N H w->dM F β N H w E a->eB C H E rs K->
  ∃xs vs cQ N',K xs/\Tr F β N H w cQ N' H w/\ad F cQ N' H w/\(rs.mapM (Dz a.tmps)).run C.P w= .ok vs w/\vs.length=xs.length/\∀k x,xs[k]? =some x->au F cQ N' H w (vs.getD k undef) x:=by
 intro rs
 induction rs with
 |nil=>intro K β N hR hE h;exact⟨[],[],β,N,h,Tr.refl,hR,by simp,rfl,by simp⟩
 |cons r rs ih=>
  intro K β N hR hE h
  cases r with
  |tmp t=>
   unfold eB at h;split at h
   ·rename_i x hx;obtain⟨xs,vs,cQ,N',h1,ht,zU,h2,h3,h4⟩:=ih hR hE h;refine⟨x::xs,a.tmps.getD t undef::vs,cQ,N',h1,ht,zU,?_,by grind,λk y hk=>?_⟩
    grind[Sem.run_bind,Dz,Sem.run_pure,Result.andThen_ok]
    ·cases k with
     |zero=>simp at hk;subst hk;exact ht.su hR (hE t _ hx)
     |succ k=>grind
   grind
  |cell s t=>
   unfold eB at h;split at h
   ·rename_i x hx;obtain⟨v,bH,β1,r,u,R,hK,ht,Xr,hv⟩:=S6 (fid:=0) hC hG hR (hE s _ hx) h;have aot:=Vw (hE s _ hx) h bH;split at hK
    ·rename_i y;obtain⟨xs,vs,cQ,N',h1,Lg,zU,h2,h3,h4⟩:=ih Xr (ht.env hR hE) hK;refine⟨y::xs,v::vs,cQ,N',h1,ht.trans Lg,zU,?_,by grind,λk y' hk=>?_⟩
     grind[Sem.run_bind,Dz,Result.andThen_ok,Sem.run_pure]
     ·cases k with
      |zero=>simp at hk;subst hk;exact Lg.su Xr hv
      |succ k=>grind
    grind
   grind
def gN.pure (F:gN):Prop:=∀b,¬F.own b
def gN.pure.base {F:gN}(h:F.pure){b:Nat}(hb:F.dL b):F.base<=b:=hb.elim id λe=>absurd e (h b)
def yB (FI:F.pure):(MV F β H w).le (dX F.Pk F.base w):=by
 intro b o v h;unfold MV at h;unfold dX;split at h
 ·rename_i hb;rw[if_pos (FI.base hb)]
  grind
 ·rename_i hb;rw[if_neg (λe=>hb (.inl e))];exact h
theorem eu.flat {mv mr mv' CF:Mem}(wJ:mv.le mv'){v:Value}{x:SV}(h:eu mv mr v x)(hf:oA x.2=true):eu mv' CF v x:=by
 unfold eu at*;split
 ·rename_i hx;rw[if_pos hx]at h;obtain⟨arr,h1,h2,h3⟩:=h;exact⟨arr,h1,h2,λk c hc=>((h3 k c hc).mono wJ (Mem.le_refl _)).flat (lR hf k c hc)⟩
 ·rename_i hx;rw[if_neg hx]at h;obtain⟨c,h1,h2⟩:=h;exact⟨c,h1,(h2.mono wJ (Mem.le_refl _)).flat (lR hf 0 c bv)⟩
theorem Bk {l:List SV}(h:yA l=true): ∀(k:Nat) (x:SV),l[k]? =some x->oA x.2=true:=by
 induction l with
 |nil=>simp
 |cons y l ih=>
  rw[yA]at h
  grind
theorem dy.Px {mv mr mv' CF:Mem}(wJ:mv.le mv'){v:Value}{c:SC}(h:dy mv mr v c)(hf:Dy c=true):dy mv' CF v (aeN c):=by
 cases c with
 |ref cs=>
  exact aiE
 |fn f a b=>cases hf
 |_=>exact(h.mono wJ (Mem.le_refl _)).flat rfl
theorem eu.Px {mv mr mv' CF:Mem}(wJ:mv.le mv'){v:Value}{x:SV}(h:eu mv mr v x)(hf:x.2.all Dy=true):eu mv' CF v (HD x):=by
 have hall: ∀c∈x.2,Dy c=true:=wL.1 hf;unfold eu at*;split
 ·rename_i hx;rw[if_pos (show x.1=true from hx)]at h
  grind[HD,dy.Px]
 ·rename_i hx;rw[if_neg (show ¬x.1=true from hx)]at h
  grind[HD,dy.Px]
theorem Mz {l:List SV}(h:Cn l=true): ∀(k:Nat) (x:SV),l[k]? =some x->x.2.all Dy=true:=by
 induction l with
 |nil=>simp
 |cons y l ih=>
  rw[Cn]at h
  grind
theorem acJ (FI:F.pure)(hG:bJ C F)(hR:ad F β N H w){ts:List TypeId}{xs:List DX}{vs:List Value}{K:lO->Prop}(hl:vs.length=xs.length)(hv: ∀k x,xs[k]? =some x->au F β N H w (vs.getD k undef) x)
  (h:acH C H ts xs K): ∃r,K r/\qY F.Pk F.base w (Bi vs) r:=by
 unfold acH at h;split at h
 ·rename_i z c ho;refine⟨_,h,?_⟩;unfold aeM at ho;split at ho
  ·rename_i id;split at ho
   ·rename_i z' c' hb;simp only[lM,ij]at ho;obtain⟨rfl,rfl⟩:=ho
    match vs,hl with
    | [v],_=>
     have h0:=(hv 0 _ rfl).am;obtain⟨hn,_,jr⟩:=h0;have jr:=jr _ _ _ hb rfl;obtain⟨_,⟨hz,XB,iL⟩,gC⟩:=hR.rel id _ hb
     rcases jr with⟨h1,h2,h3⟩|⟨b,cap,arr,T,h1,h2,h3,h4⟩
     ·exact .inl ⟨h3,h2,XB,hz,iL⟩
     ·rcases gC with gC|⟨b',jE,q1,q2,q3⟩
      grind
      ·rw[h1]at q1;cases q1;obtain⟨arr',T',e1,e2,e3,e4,e5,e6,e7⟩:=q3;rw[h3]at e1;cases e1;have fZ:jE=cap:=Yk;subst fZ;refine .inr ⟨b,jE,h2,FI.base q2,arr,T,h3,e2,e3,e4,e5,e6,λi e j x he hx=>(e7 i e j x he hx).mono ?_ (Mem.le_refl _)⟩;exact K99
   grind
  grind
 ·split at h
  ·rename_i l u rr dw;obtain⟨q1,q2,q3⟩:=yl dw;have hg:il C H u:=il.ko q1;have ip: ∀k x,l[k]? =some x->eu (MV F β (u.on H) w) (rd w) (vs.getD k undef) x:=by grind[Hk]
   split at h
   ·rename_i hf
    have UG: ∀k x,l[k]? =some x->eu (dX F.Pk F.base w) eX (vs.getD k undef) x:=λk x hk=>
     (ip k x hk).flat (yB FI) (Bk hf k x hk)
    split at h
    ·rename_i y;exact aiQ
    ·rename_i eU;refine⟨_,h,?_⟩;have xy:Bi vs= .tuple vs.toArray:=aih;rw[xy];exact⟨vs.toArray,rfl,by grind,λk x hk=>by simpa using UG k x hk⟩
   ·split at h
    ·rename_i hf
     have UG: ∀k x,l[k]? =some x->eu (dX F.Pk F.base w) eX (vs.getD k undef) (HD x):=λk x hk=>
      (ip k x hk).Px (yB FI) (Mz hf k x hk)
     split at h
     ·rename_i y _;exact aiQ
     ·rename_i eU;refine⟨_,h,?_⟩;have xy:Bi vs= .tuple vs.toArray:=aih;rw[xy];refine⟨vs.toArray,rfl,by grind,λk x hk=>?_⟩;rw[gK,mZ]at hk;obtain⟨x0,Sd,rfl⟩:=hk;simpa using UG k x0 Sd
    grind
  grind
def agx:List DC->Option (List (Option SC) × List Nat)
 | []=>some ([],[])
 | .st c::ds=>match c.flat,agx ds with
  |true,some (l,is)=>some (some c::l,is)
  |_,_=>none
 | .own id::ds=>match agx ds with
  |some (l,is)=>some (none::l,id::is)
  |none=>none
 |_=>none
def akU:List DX->Option (List (Bool × List (Option SC)) × List Nat)
 | []=>some ([],[])
 |x::xs=>match agx x.2,akU xs with
  |some (l,is),some (ls,js)=>some ((x.1,l)::ls,is++js)
  |_,_=>none
def akV (H:HF)(xs:List DX)(K:lO->Prop):Prop:=match akU xs with
 |some (l,[id])=>match H id with
  |some (.row true z c)=>K (.mix (match l with| [_]=>false|_=>true) l z c)
  |_=>False
 |_=>False
def agy (C:bU)(fn:Func)(S:St)(K:lO->Prop):Prop:=eB C S.hp.get S.env.get fn.results.toList λxs=>akV S.hp.get xs K
def DB (hC:C.Ok){f:FuncId}{c:Code}{args:List SV}{r:lO}{ret:St->Prop}(hn:iN C.P f=true)(hf:C.P.funcs[f]? =some fn)(hb:fn.body=some c)(uT:bS fn.ntmps c=true)(dQ:args.length<=fn.ntmps)
  (eM: ∀S,ret S->∃RX:HF->List DX->(lO->Prop)->Prop,(∀ {F:gN} {β:Nat->Option Nat} {N:Nat->Prop} {w:World} {xs:List DX} {vs:List Value} {K:lO->Prop},F.pure->bJ C F->ad F β N S.hp.get w->vs.length=xs.length->(∀k x,xs[k]? =some x->au F β N S.hp.get w (vs.getD k undef) x)->RX S.hp.get xs K->∃r,K r/\qY F.Pk F.base w (Bi vs) r)/\
   eB C S.hp.get S.env.get fn.results.toList λxs=>RX S.hp.get xs λr'=>r'=r)
  (h:m8 C c (entry args) ret (λ_ _=>False) ret):nY C.P C.gl f args r:=by
 refine .inl ⟨hn,λmv w vs wJ hgl xy=>?_⟩;let F:gN:=⟨w,mv,λ_=>False,[],w.heap.size,rd w⟩;have FI:F.pure:=λ_ h=>h;have hG:bJ C F:=⟨hgl,wJ,λ_ _ _ _ h=>h,hgl,Mem.le_refl _,wJ⟩;have II:vs.size=args.length:=xy.1;refine(callsIn_wide (n:=0)).1 (callsIn_of_wp_marks hf hb trivial ?_ rfl);have hR:ad F (λ_=>none) (λ_=>False) (Hp.get []) w:=⟨λid bC e=>by grind[Hp.get],λi j b x y e=>by grind,jy.refl _ _,λb o v e=>⟨wJ b o v e,λ_ id bC e'=>by grind⟩⟩;have abL: ∀b o v,mv b o=some v->b<F.base:=λb o v h=>IS _ _ (wJ b o v h)
 have hE:dM F (λ_=>none) (λ_=>False) (Hp.get []) w (entry args).env.get {tmps:=vs++Array.replicate (fn.ntmps -vs.size) undef,defers:=[]}:=by
  intro s dv hs;obtain⟨k,x,h1,h2,rfl⟩:=Jt hs;rw[j7]at h1;subst h1;have ak:s<args.length:=(kJ.1 h2).1;have iV:(vs++Array.replicate (fn.ntmps -vs.size) undef).getD s undef=vs.getD s undef:=by simp[sN,Sm,II,ak]
  show au _ _ _ _ _ ((vs++Array.replicate (fn.ntmps -vs.size) undef).getD s undef) (dyn x);rw[iV];refine eu.dyn ((xy.2 s x h2).mono (λb o v h=>?_) λb o v h=>?_)
  ·unfold MV;rw[if_neg (λe=>absurd (FI.base e) (Nat.not_le.2 (abL b o v h)))];exact h
  ·unfold MR;rw[if_neg (λe=>absurd (FI.base e) (Nat.not_le.2 (show b<F.base from IS _ _ h)))];exact h
 have hrel:Rel F fn.ntmps (entry args) {tmps:=vs++Array.replicate (fn.ntmps -vs.size) undef,defers:=[]} w:=
  ⟨λ_=>False,⟨by grind,eE.nil _ _,λ_ h=>anp,_,hE,hR⟩,λ_ h=>h.elim⟩
 have O8: ∀S a w',ret S->Rel F fn.ntmps S a w'->LeavesInM Fence.wide 0 C.P fn a.tmps (λe w'=>∃v',e= .returned v'/\Below w.heap.size w w'/\qY mv w.heap.size w' v' r) a.defers .returning w':=by
  rintro S a w' hr ⟨N,⟨hs,hd,_,β,hE,hR⟩,hN⟩;obtain⟨RX,fC,hr⟩:=eM S hr;refine Ai (F:=F) (S:=S) (β:=β) (N:=N) (dE _) (λw' hB=>?_) a.defers w' ⟨hs,hE,hR,hN⟩ hd;obtain⟨xs,ws,cQ,N',h1,ht,zU,h2,h3,h4⟩:=DA (a:={tmps:=a.tmps,defers:=[]}) hC hG hB.heap hB.env hr;obtain⟨r',rfl,ip⟩:=fC FI hG zU h3 h4 h1;exact⟨_,Bj h2,_,rfl,zU.below.below (λb hb e=>absurd (FI.base e) (Nat.not_le.2 hb)),ip⟩
 refine(wpIn_wide (n:=0)).2 (HC (F:=F) hC hG (dE _) (Jo c) uT h.out hrel (λS a w' eM hr=>?_) (λ_ _ _ _ h=>h.elim) λS a w' eM hr=>?_)
 ·exact acq
 ·exact acq
def P3 (hC:C.Ok){f:FuncId}{c:Code}{args:List SV}{r:lO}(hn:iN C.P f=true)(hf:C.P.funcs[f]? =some fn)(hb:fn.body=some c)(uT:bS fn.ntmps c=true)(dQ:args.length<=fn.ntmps)
  (h:m8 C c (entry args) (λS=>acI C fn S λr'=>r'=r) (λ_ _=>False) (λS=>acI C fn S λr'=>r'=r)):nY C.P C.gl f args r:=by
 exact DB hC hn hf hb uT dQ (λS hS=>⟨λH xs K=>acH C H fn.resultTypes.toList xs K,λFI hG hR hl hv h=>acJ FI hG hR hl hv h,hS⟩) h
end
def bO:List (Nat × Nat)->Nat->Option Nat
 | [],_=>none
 |(o,n)::m,id=>match Nat.beq id o with
  |true=>some n
  |false=>bO m id
def Tm:List (Nat × Nat)->Nat->Option Nat
 | [],_=>none
 |(o,n)::m,id=>match Nat.beq id n with
  |true=>some o
  |false=>Tm m id
def m9 (m:List (Nat × Nat)):DC->Option DC
 | .st c=>some (.st c)
 | .nil =>some .nil
 | .ptr id off=>match bO m id with
  |some n=>some (.ptr n off)
  |none=>none
 | .own id=>match bO m id with
  |some n=>some (.own n)
  |none=>none
 | .cI id z i off=>match bO m id with
  |some n=>some (.cI n z i off)
  |none=>none
 | .mp id=>match bO m id with
  |some n=>some (.mp n)
  |none=>none
 | .sL g id=>match bO m id with
  |some n=>some (.sL g n)
  |none=>none
def e8 (m:List (Nat × Nat)):List DC->Option (List DC)
 | []=>some []
 |d::l=>match m9 m d with
  |some d'=>match e8 m l with
   |some l'=>some (d'::l')
   |none=>none
  |none=>none
def kT (m:List (Nat × Nat)):List DX->Option (List DX)
 | []=>some []
 |x::l=>match e8 m x.2 with
  |some d'=>match kT m l with
   |some l'=>some ((x.1,d')::l')
   |none=>none
  |none=>none
def Bl (m:List (Nat × Nat)):DV->Option DV
 | .val x=>match e8 m x.2 with
  |some l=>some (.val (x.1,l))
  |none=>none
 | .aI l=>match kT m l with
  |some l'=>some (.aI l')
  |none=>none
def fG (m:List (Nat × Nat)):List (List DC)->Option (List (List DC))
 | []=>some []
 |e::l=>match e8 m e with
  |some e'=>match fG m l with
   |some l'=>some (e'::l')
   |none=>none
  |none=>none
def fp (m:List (Nat × Nat)):cD->Option cD
 | .box t cs=>match e8 m cs with
  |some l=>some (.box t l)
  |none=>none
 | .aD z l=>match fG m l with
  |some l'=>some (.aD z l')
  |none=>none
 |b=>some b
def dm (m:List (Nat × Nat))(E:EF):List Nat->Option dG
 | []=>some []
 |k::ks=>match E k with
  |some d=>match Bl m d with
   |some d'=>match dm m E ks with
    |some E'=>some ((k,some d')::E')
    |none=>none
   |none=>none
  |none=>none
def jX (m:List (Nat × Nat))(H:HF):List (Nat × Nat)->Option Hp
 | []=>some []
 |(o,n)::l=>match H o with
  |some b=>match fp m b with
   |some b'=>match jX m H l with
    |some H'=>some ((n,some b')::H')
    |none=>none
   |none=>none
  |none=>none
def YX (x:Nat):List Nat->Bool
 | []=>false
 |y::l=>Nat.beq x y || YX x l
def eN:List Nat->Bool
 | []=>true
 |x::l=> !YX x l&&eN l
def Tn (ks:List Nat)(m:List (Nat × Nat))(n:Nat)(S:St):Option St:=
 match eN (m.map Prod.fst)&&eN (m.map Prod.snd)&&m.all λp=>Nat.blt p.2 n with
 |true=>match dm m S.env.get ks with
  |some E=>match jX m S.hp.get m with
   |some H=>some ⟨E,H,n⟩
   |none=>none
  |none=>none
 |false=>none
def YY {x:Nat}{l:List Nat}:YX x l=true↔x∈l:=by
 induction l with
 |nil=>simp[YX]
 |cons y l ih=>simp[YX,ih]
def bY {l:List Nat}(h:eN l=true):l.Nodup:=by
 induction l with
 |nil=>grind
 |cons x l ih=>
  rw[eN]at h;obtain⟨h1,h2⟩:=aH h;refine xQ.2 ⟨λhx=>?_,ih h2⟩;rw[YY.2 hx]at h1;cases h1
def Aj {m:List (Nat × Nat)}{o n:Nat}(h:bO m o=some n):(o,n)∈m:=by
 induction m with
 |nil=>cases h
 |cons p m ih=>
  grind[bO,Nat.eq_of_beq_eq_true]
def DD {m:List (Nat × Nat)}{o n:Nat}(hd:(m.map Prod.snd).Nodup)(h:(o,n)∈m):Tm m n=some o:=by
 induction m with
 |nil=>cases h
 |cons p m ih=>
  obtain⟨a,b⟩:=p;simp only[jd,xQ]at hd;simp only[Tm];rcases dl.1 h with h'|h';simp_all
  ·split;simp_all
   grind
def P4 {m:List (Nat × Nat)}{o i j:Nat}(hd:(m.map Prod.fst).Nodup)(h:(o,i)∈m)(k:(o,j)∈m):i=j:=by
 induction m with
 |nil=>cases h
 |cons p m ih=>
  grind
theorem pt {m:List (Nat × Nat)}{H:HF}: ∀ {l:List (Nat × Nat)} {H':Hp} {n:Nat} {b':cD},jX m H l=some H'->H'.get n=some b'->∃o b,(o,n)∈l/\H o=some b/\fp m b=some b':=by
 intro l
 induction l with
 |nil=>grind[jX,Hp.get]
 |cons p l ih=>
  intro H' n b' h e;obtain⟨o,i⟩:=p;simp only[jX]at h;split at h
  ·rename_i b hb;split at h
   ·rename_i b1 xH;split at h
    ·rename_i H1 xI;simp at h;subst h;rw[Hp.av]at e
     grind[bt]
    grind
   grind
  grind
def Ju {m:List (Nat × Nat)}{E:EF}: ∀ {ks:List Nat} {E':dG} {s:Nat} {d':DV},dm m E ks=some E'->E'.get s=some d'->∃d,E s=some d/\Bl m d=some d':=by
 intro ks
 induction ks with
 |nil=>grind[dm,dG.get]
 |cons k ks ih=>
  intro E' s d' h e;simp only[dm]at h;split at h
  grind[dG.av]
  grind
section
variable {F:gN}{β:Nat->Option Nat}{N:Nat->Prop}{H H':HF}{w:World}{m:List (Nat × Nat)}
def pN (m:List (Nat × Nat))(β:Nat->Option Nat):Nat->Option Nat:=λid=>match Tm m id with
 |some o=>β o
 |none=>none
def yC (m:List (Nat × Nat)):Nat->Prop:=λid=>∃o,(o,id)∈m
theorem yD {m:List (Nat × Nat)}: ∀ {l l':List (List DC)},fG m l=some l'->l'.length=l.length
 | [],l',h=>by grind[fG]
 |e::l,l',h=>by
  unfold fG at h;split at h
  ·split at h
   ·cases h;simp[yD F3]
   grind
  grind
theorem DE {m:List (Nat × Nat)}: ∀ {l l':List (List DC)} {i:Nat} {e':List DC},fG m l=some l'->l'[i]? =some e'->∃e,l[i]? =some e/\e8 m e=some e'
 | [],l',i,e',h,hi=>by grind[fG]
 |e::l,l',i,e',h,hi=>by
  unfold fG at h;split at h
  ·rename_i a ha;split at h
   ·rename_i b hb;cases h
    cases i with
    |zero=>grind
    |succ i=>
     simp at hi;obtain⟨d,d1,d2⟩:=DE hb hi
     grind
   grind
  grind
structure cZ (m:List (Nat × Nat)) (H H':HF):Prop where
 abU:(m.map Prod.fst).Nodup
 news:(m.map Prod.snd).Nodup
 heap: ∀n b',H' n=some b'->∃o b,(o,n)∈m/\H o=some b/\fp m b=some b'
def cZ.kH (h:cZ m H H'){o n:Nat}(hm:(o,n)∈m):pN m β n=β o:=by simp[pN,DD h.news hm]
def cZ.fS (h:cZ m H H'){b o:Nat}(hs:Fw.fS β H b o):Fw.fS (pN m β) H' b o:=by
 intro id blk' he hbe;obtain⟨old,bC,h1,h2,h3⟩:=h.heap id blk' he;rw[h.kH h1]at hbe;have:=hs old bC h2 hbe;cases bC<;>simp only[fp]at h3
 ·exact this.elim
 grind
 grind
 ·exact this.elim
 grind
def cZ.mv (h:cZ m H H'):(MV F β H w).le (MV F (pN m β) H' w):=by
 intro b o v e;unfold MV at*;split
 ·rename_i hb;rw[if_pos hb]at e;split at e
  ·rename_i hs;rw[if_pos (h.fS hs)];exact e
  grind
 grind
def cZ.mr (h:cZ m H H'):(MR F β H w).le (MR F (pN m β) H' w):=by
 intro b o v e;unfold MR at*;split
 ·rename_i hb;rw[if_pos hb]at e;exact h.mv b o v e
 grind
theorem cZ.jw (h:cZ m H H'){v:Value}{d d':DC}(hd:cw F β N H w v d)(hr:m9 m d=some d'):cw F (pN m β) (yC m) H' w v d':=by
 cases d with
 |st c=>simp[m9]at hr;subst hr;exact dy.mono h.mv h.mr hd
 |nil=>simp[m9]at hr;subst hr;exact hd
 |ptr id off=>
  exact K39
 |own id=>
  simp only[m9]at hr;split at hr
  ·rename_i n hn;simp at hr;subst hr;have hm:=Aj hn;obtain⟨_,h1,h2⟩:=hd;refine⟨⟨_,hm⟩,h1,λnV z n0 hb hz0=>?_⟩;obtain⟨o,b,q1,q2,q3⟩:=h.heap _ _ hb
   have ho:o=id:=by
    have e1:=DD h.news hm;rw[DD h.news q1]at e1
    grind
   subst ho;cases b<;>simp only[fp]at q3
   ·split at q3<;>cases q3;cases hz0
   ·cases q3;cases hz0
   ·cases q3;have:=h2 _ _ _ q2 hz0;unfold U4 at*;rw[h.kH hm];omega
   ·split at q3
    ·rename_i l' sJ;cases q3;have:=h2 _ z n0 q2 (by grind[cD.sz,yD]);unfold U4 at*;rw[h.kH hm];omega
    grind
   ·cases q3;cases hz0
  grind
 |cI id z i off=>
  exact K39
 |sL g id=>
  exact K39
 |mp id=>
  exact K39
theorem uY {l l':List DC}(h:e8 m l=some l'):l'.length=l.length/\∀(k:Nat) (d':DC),l'[k]? =some d'->∃d,l[k]? =some d/\m9 m d=some d':=by
 induction l generalizing l' with
 |nil=>grind[e8]
 |cons d l ih=>
  grind[e8]
def cZ.su (h:cZ m H H'){v:Value}{x:DX}{l:List DC}(hd:au F β N H w v x)(hr:e8 m x.2=some l):au F (pN m β) (yC m) H' w v (x.1,l):=by
 obtain⟨h1,h2⟩:=uY hr;obtain⟨g,cs⟩:=x;cases g
 ·obtain⟨c,hc,ip⟩:=hd;simp at hc;subst hc;obtain⟨c',rfl⟩: ∃c',l= [c']:=xO.1 K0;obtain⟨d,Xo,Xk⟩:=h2 0 c' rfl;simp at Xo;subst Xo;exact⟨c',rfl,h.jw ip Xk⟩
 ·obtain⟨arr,h3,h4,h5⟩:=hd;refine⟨arr,h3,by grind,λk c hk=>?_⟩;obtain⟨d,Xo,Xk⟩:=h2 k c hk;exact h.jw (h5 k d Xo) Xk
theorem HE {l l':List DX}(h:kT m l=some l'):l'.length=l.length/\∀(k:Nat) (d':DX),l'[k]? =some d'->∃d c,l[k]? =some d/\e8 m d.2=some c/\d'=(d.1,c):=by
 induction l generalizing l' with
 |nil=>grind[kT]
 |cons d l ih=>
  grind[kT]
theorem cZ.vY (h:cZ m H H'){v:Value}{d d':DV}(hd:co F β N H w v d)(hr:Bl m d=some d'):co F (pN m β) (yC m) H' w v d':=by
 cases d with
 |val x=>
  simp only[Bl]at hr;split at hr
  ·rename_i l hl;simp at hr;subst hr;exact h.su hd hl
  grind
 |aI l=>
  simp only[Bl]at hr;split at hr
  ·rename_i l1 hl;simp at hr;subst hr;obtain⟨h1,h2⟩:=HE hl;obtain⟨arr,q1,q2,q3⟩:=hd;refine⟨arr,q1,by omega,λk x hk=>?_⟩;obtain⟨d,c,a1,a2,rfl⟩:=h2 k x hk;exact h.su (q3 k d a1) a2
  grind
theorem cZ.nD (h:cZ m H H')(hR:ad F β N H w):ad F (pN m β) (yC m) H' w:=by
 refine⟨λid blk' he=>?_,λi j x y b hi hj bi bj=>?_,hR.below,?_⟩
 ·obtain⟨o,bC,h1,h2,h3⟩:=h.heap id blk' he;refine⟨⟨_,h1⟩,?_⟩;have hb:=(hR.rel o bC h2).2;have eb:=h.kH (β:=β) h1
  cases bC with
  |box t cs=>
   simp only[fp]at h3;split at h3
   ·rename_i l hl;cases h3;obtain⟨e1,e2⟩:=uY hl;obtain⟨b,arr,T,q1,q2,q3,q4,q5⟩:=hb;refine⟨b,arr,T,by grind,q2,q3,by omega,λk x hk=>?_⟩;obtain⟨d,a1,a2⟩:=e2 k x hk;exact h.jw (q5 k d a1) a2
   grind
  |ec cs=>
   simp only[fp]at h3;cases h3;obtain⟨b,arr,T,q1,q2,q3,q4,q5⟩:=hb;exact⟨b,arr,T,by grind,q2,q3,q4,λk x hk=>(q5 k x hk).mono h.mv h.mr⟩
  |row mu z c=>
   simp only[fp]at h3;cases h3;obtain⟨q0,q1|⟨b,cap,q1,q2,arr,T,p1,p2,p3,p4,p5,p6,p7⟩⟩:=hb
   ·exact Yl
   ·exact⟨q0,.inr ⟨b,cap,by grind,q2,arr,T,p1,p2,p3,p4,p5,p6,λi e j x he hx=>(p7 i e j x he hx).mono h.mv (Mem.le_refl _)⟩⟩
  |aD z l=>
   simp only[fp]at h3;split at h3
   ·rename_i l' sJ;cases h3;obtain⟨⟨z0,hz⟩,q1|⟨b,cap,arr,T,q1,q2,q3,q4,q5,q6⟩⟩:=hb
    all_goals
     have bG: ∀(i:Nat) (e:List DC),l'[i]? =some e->e.length=z:=λi e he=>by
      obtain⟨d,d1,d2⟩:=DE sJ he;rw[(uY d2).1];grind
    ·exact⟨⟨z0,bG⟩,.inl ⟨by grind,by grind[yD]⟩⟩
    ·refine⟨⟨z0,bG⟩,.inr ⟨b,cap,arr,T,by grind,q2,q3,q4,by grind[yD],λi e k x he hx=>?_⟩⟩;obtain⟨d,d1,d2⟩:=DE sJ he;obtain⟨y,y1,y2⟩:=(uY d2).2 k x hx;exact h.jw (q6 i d k y d1 y1) y2
   grind
  |map es=>
   simp only[fp]at h3;cases h3;obtain⟨b,arr,ck,q1,q2,q3,q4,q5⟩:=hb;exact⟨b,arr,ck,by grind,q2,q3,q4,λi k x e hi he=>let⟨a1,a2⟩:=q5 i k x e hi he;⟨a1,a2.mono h.mv h.mr⟩⟩
 ·obtain⟨o,bo,h1,h2,_⟩:=h.heap i _ hi;obtain⟨o',bo',h1',h2',_⟩:=h.heap j _ hj;rw[h.kH h1]at bi;rw[h.kH h1']at bj;have:=hR.inj o o' _ _ _ h2 h2' bi bj;subst this;exact P4 h.abU h1 h1'
 ·intro b o v e;obtain⟨h1,h2⟩:=hR.tg b o v e;exact⟨h1,λhb=>h.fS (h2 hb)⟩
end
def fB {ks:List Nat}{m:List (Nat × Nat)}{n:Nat}{S S':St}(h:Tn ks m n S=some S'):bp S S':=by
 unfold Tn at h;split at h
 ·rename_i hd;obtain⟨hd,h3⟩:=aH hd;obtain⟨h1,h2⟩:=aH hd;split at h
  ·rename_i E hE;split at h
   ·rename_i H hH;simp at h;subst h;rintro F nt a w ⟨N,⟨q1,q2,q0,β,q3,q4⟩,q5⟩;have fC:cZ m S.hp.get H.get:=⟨bY h1,bY h2,λi b' e=>pt hH e⟩;refine⟨yC m,⟨q1,q2,q0,pN m β,λs d' e=>?_,fC.nD q4⟩,?_⟩
    ·exact abW
    ·rintro id ⟨o,ho⟩
     grind[agp,Nat.blt_eq]
   grind
  grind
 grind
def acK {C:bU}{c:Code}{kx:Nat->St->Prop}{kr:St->Prop}{ι:Type}(Inv:ι->Prop)(μ:ι->Nat)(σ:ι->St)
  (step: ∀i,Inv i->rF C c (σ i) (λS'=>∃j,Inv j/\μ j<μ i/\bp S' (σ j)) kx kr): ∀ {i:ι},Inv i->Ti (λZ S=>rF C c S Z kx kr) (σ i):=by
 have key: ∀n i,μ i=n->Inv i->Ti (λZ S=>rF C c S Z kx kr) (σ i):=by
  intro n
  induction n using Nat.strongRecOn with
  |_ n ih=>
   intro i hn hi;refine HA (mE (step i hi) (λS' h=>?_) (λ_ _ h=>h) λ_ h=>h)
   grind
 grind
def af {C:bU}{c:Code}{kx:Nat->St->Prop}{kr:St->Prop}{ι:Type}(Inv:ι->Prop)(μ:ι->Nat)(σ:ι->St)(i:ι){S:St}(hS:bp S (σ i))(hi:Inv i)
  (step: ∀i,Inv i->m8 C c (σ i) (λS'=>∃j,Inv j/\μ j<μ i/\bp S' (σ j)) kx kr):Tl C c S kx kr:=
 ⟨σ i,hS,acK Inv μ σ (λi h=>(step i h).out) hi⟩
end Go.Fw
namespace Go.Fw
open Go.RowKit Go.ChangeShapes
def sR (C:bU):Nat->TypeId->List SC->Prop
 |0,_,_=>False
 |d+1,t,xs=>match C.ti t with
  |none=>False
  |some i=>match i.b8 with
   | .int k=>∃n,xs= [.lit (.int k n)]/\(Lit.int k n).wf =true
   | .bool =>∃b,xs= [.lit (.bool b)]
   | .str =>∃s:ByteArray,xs= [.lit (.string s)]/\s.size<=maxLen
   | .slice e=>match C.kI e with
    |true=>∃l:List Int,xs= [.ints l]/\l.length<=maxLen/\∀n∈l,(Lit.int .i64 n).wf =true
    |false=>∃es:List (List SC),xs= [.view es]/\es.length<=maxLen/\∀e'∈es,sR C d e e'
   | .struct fs=>∃parts:List (List SC),xs=parts.flatten/\parts.length=fs.length/\∀(k o:Nat) (ft:TypeId),fs[k]? =some (o,ft)->∃p,parts[k]? =some p/\sR C d ft p
   | .array n e=>∃parts:List (List SC),xs=parts.flatten/\parts.length=n/\∀p∈parts,sR C d e p
   |_=>False
def Jv (C:bU):Nat->List (Nat × TypeId)->Nat->Bool
 |FO,[],size=>Nat.beq FO size
 |FO,(o,ft)::r,size=>match C.ti ft with
  |some i=>Nat.beq o FO&&Jv C (FO+i.size) r size
  |none=>false
def oI (C:bU):Nat->TypeId->Bool
 |0,_=>false
 |d+1,t=>match C.ti t with
  |none=>false
  |some i=>match i.b8 with
   | .int _=>Nat.beq i.size 1
   | .bool =>Nat.beq i.size 1
   | .str =>Nat.beq i.size 1
   | .slice e=>Nat.beq i.size 1&&(match C.ti e with
    |some ie=>Nat.ble 1 ie.size&&oI C d e&&(match C.kI e with|true=>Nat.beq ie.size 1|false=>true)
    |none=>false)
   | .struct fs=>Jv C 0 fs i.size&&fs.all λp=>oI C d p.2
   | .array n e=>(match C.ti e with
    |some ie=>Nat.beq (n*ie.size) i.size&&oI C d e
    |none=>false)
   |_=>false
theorem oJ {P:Program}{t:TypeId}{i:TI}{f:TypeInfo}{d:TypeDesc}{v:Value}(h:L4 P t i f d v):P.cellsOf t=i.size:=by simp[Program.cellsOf,h.ow,h.size]
def lG (m:Mem)(cs:List Value)(xs:List SC):Prop:=xs.length=cs.length/\∀(k:Nat) (c:SC),xs[k]? =some c->dy m eX (cs.getD k undef) c
def lG.one {m:Mem}{v:Value}{c:SC}(h:dy m eX v c):lG m [v] [c]:=by
 refine⟨rfl,λk c' hk=>?_⟩
 grind
def lG.parts {m:Mem}{cs:List Value}{C:bU}: ∀ {fs:List (Nat × TypeId)} {FO size:Nat} {Q:TypeId->List SC->Prop},Jv C FO fs size=true->cs.length=size->
  (∀(k o:Nat) (ft:TypeId),fs[k]? =some (o,ft)->∀i,C.ti ft=some i->∃p,Q ft p/\p.length=i.size/\lG m ((cs.drop o).take i.size) p)->
  ∃parts:List (List SC),lG m (cs.drop FO) parts.flatten/\parts.length=fs.length/\∀(k o:Nat) (ft:TypeId),fs[k]? =some (o,ft)->∃p,parts[k]? =some p/\Q ft p:=by
 intro fs
 induction fs with
 |nil=>
  intro FO size Q ht hs _;have:=pb ht;exact⟨[],⟨by grind,by grind⟩,rfl,by grind⟩
 |cons f fs ih=>
  obtain⟨o,ft⟩:=f;intro FO size Q ht hs hq;simp only[Jv]at ht;split at ht
  ·rename_i i hi;obtain⟨h1,h2⟩:=aH ht;have h1:=pb h1;subst h1;obtain⟨p,hp,hl,hr⟩:=hq 0 o ft rfl i hi;obtain⟨parts,q1,q2,q3⟩:=ih h2 hs (Q:=Q) (λk o' ft' hk=>hq (k+1) o' ft' bv);have bG:p.length=((cs.drop o).take i.size).length :=hr.1;have eC:o+i.size<=cs.length\/i.size=0:=by grind
   refine⟨p::parts,⟨?_,?_⟩,by grind,?_⟩
   ·have:=q1.1
    grind
   ·intro k c hk;simp only[X9]at hk;by_cases hkp:k<p.length
    ·exact ajV
    ·rw[XP K0]at hk;have:=q1.2 _ c hk
     grind
   grind
  grind
theorem lG.az {m:Mem}{Q:List SC->Prop}{z:Nat}: ∀ {n:Nat} {cs:List Value},cs.length=n*z->
  (∀i,i<n->∃p,Q p/\lG m ((cs.drop (i*z)).take z) p)->∃parts:List (List SC),lG m cs parts.flatten/\parts.length=n/\∀p∈parts,Q p:=by
 intro n
 induction n with
 |zero=>intro cs hl _;exact⟨[],⟨by grind,by grind⟩,rfl,by simp⟩
 |succ n ih=>
  intro cs hl h;obtain⟨p,hp,hr⟩:=h 0 K0;have hz:z<=cs.length:=by grind
  have sJ:(cs.drop z).length =n*z:=by grind
  obtain⟨parts,q1,q2,q3⟩:=ih sJ (λi hi=>by
   obtain⟨p,hp,hr⟩:=h (i+1) K0;refine⟨p,hp,?_⟩;rw[Yi]
   grind)
  have pL:p.length=z:=by have:=hr.1;grind
  refine⟨p::parts,⟨?_,?_⟩,by grind,?_⟩
  ·have:=q1.1
   grind
  ·intro k c hk;simp only[X9]at hk;by_cases hkp:k<p.length
   ·exact ajV
   ·rw[XP K0]at hk;have:=q1.2 _ c hk
    grind
  grind
def To (a:Addr)(n k:Nat)(hs:a.spot=none):(a.add n).add k=⟨a.block,a.off+(n+k),none⟩:=by
 obtain⟨b,o,s⟩:=a
 grind[Addr.add]
section
variable {H:Type}{enc:TypeId × Value->H}{C:bU}{w:World}{Uy:Nat->Bool}
theorem MA {a:Addr}{len z:Nat}{Q:List SC->Prop}(hz:0<z)(h: ∀i,i<len->∃cs xs,w.cells? 0 (a.add (i*z)) z=some cs/\Q xs/\lG (rd w) cs xs):
  ∃es:List (List SC),es.length=len/\(∀e∈es,Q e)/\(0<len->∃b o,a=⟨b,o,none⟩/\(∀e∈es,e.length=z)/\(∀k,k<len*z->∃v,rd w b (o+k)=some v)/\
   ∀(i:Nat) (e:List SC) (j:Nat) (x:SC),es[i]? =some e->e[j]? =some x->dy (rd w) eX ((rd w b (o+(i*z+j))).getD undef) x):=by
 by_cases hl:len=0
 ·simp_all
 have afs:a.spot=none:=by
  obtain⟨cs,xs,h1,_⟩:=h 0 K0;obtain⟨_,h2,h3⟩:=Sv h1
  grind[World.cell?_spot,Addr.add]
 have hall: ∀n,n<=len->∃es:List (List SC),es.length=n/\(∀e∈es,Q e/\e.length=z)/\∀(i:Nat) (e:List SC),es[i]? =some e->∃cs,w.cells? 0 (a.add (i*z)) z=some cs/\lG (rd w) cs e:=by
  intro n
  induction n with
  |zero=>simp_all
  |succ n ih=>
   intro hn;obtain⟨es,h1,h2,h3⟩:=ih K0;obtain⟨cs,xs,q1,q2,q3⟩:=h n K0;refine⟨es++[xs],by grind,?_,?_⟩
   ·intro e he;rcases iz.1 he with he|he
    grind
    ·simp at he;subst he;exact⟨q2,by rw[q3.1,(Sv q1).2.1]⟩
   grind
 obtain⟨es,h1,h2,h3⟩:=hall len (dE _);refine⟨es,h1,λe he=>(h2 e he).1,λ_=>⟨a.block,a.off,by obtain⟨b,o,s⟩:=a;grind,λe he=>(h2 e he).2,?_,?_⟩⟩
 ·intro k hk;have hi:k/z<len:=(XV hz).2 hk;obtain⟨cs,q1,_⟩:=h3 (k/z) es[k/z] bv;obtain⟨_,q2,q4⟩:=Sv q1;have hm:k%z<z:=tq _ hz;have q5:=q4 (k%z) hm;rw[To _ _ _ afs]at q5;have e:k/z*z+k%z=k:=by grind[Nat.div_add_mod]
  rw[e]at q5;refine⟨cs[k%z]'K0,?_⟩;show w.cell? _=_
  grind
 ·intro i e j x he hx;obtain⟨cs,q1,q3⟩:=h3 i e he;obtain⟨_,q2,q4⟩:=Sv q1;have hj:j<z:=by grind
  have q5:=q4 j hj;rw[To _ _ _ afs]at q5;have:=q3.2 j x hx
  grind[rd]
theorem YZ (hC:C.Ok): ∀ {d:Nat} {t:TypeId} {cs:List Value} {AY:Nat} {y:DataW H × List MemPlace},oI C d t=true->DataW.trod enc C.P w 0 Uy true AY t cs=some y->
  ∃xs,sR C d t xs/\lG (rd w) cs xs/\∀i,C.ti t=some i->xs.length=i.size:=by
 intro d
 induction d with
 |zero=>grind[oI]
 |succ d ih=>
  intro t cs AY y hd h;unfold oI at hd;split at hd
  ·cases hd
  rename_i i hi;obtain⟨f,ds,v,hT⟩:=hC.get hi;have hu:=hT.IP;have jg:=hT.b8;unfold sR;simp only[hi];split at hd
  ·rename_i k hk;rw[hk]at jg;rw[rj jg]at hu;obtain⟨n,rfl,_,hw⟩:=CV hu h;refine⟨_,⟨n,rfl,hw⟩,lG.one (.lit rfl),?_⟩;simp_all
  ·rename_i hk;rw[hk]at jg;rw[L5 jg]at hu;obtain⟨b,rfl,_⟩:=DataW.trod_bool hu h;refine⟨_,⟨b,rfl⟩,lG.one (.lit rfl),?_⟩;simp_all
  ·rename_i hk;rw[hk]at jg;rw[mf jg]at hu;obtain⟨s,rfl,_,hs⟩:=DataW.trod_string hu h;refine⟨_,⟨s,rfl,hs⟩,lG.one (.lit rfl),?_⟩;simp_all
  ·rename_i e hk;rw[hk]at jg;rw[dq jg]at hu;obtain⟨Xo,Xk⟩:=aH hd;have nC:=pb Xo;split at Xk
   ·rename_i ie l7;obtain⟨hd3,hd4⟩:=aH Xk;obtain⟨hd5,hd6⟩:=aH hd3;obtain⟨fe,de,ve,hTe⟩:=hC.get l7;have fN:0<ie.size:=by have:=fO hd5;omega
    have ahG: ∃es:List (List SC),es.length<=maxLen/\(∀e'∈es,sR C d e e')/\∃v',cs= [v']/\
      ((es= []/\∃a cap,v'= .slice a 0 cap)\/(∃b o cap,v'= .slice (some ⟨b,o,none⟩) es.length cap/\es.length<=cap/\0<es.length/\(∀e∈es,e.length=ie.size)/\(∀k,k<es.length*ie.size->∃v,rd w b (o+k)=some v)/\
       ∀(i:Nat) (e:List SC) (j:Nat) (x:SC),es[i]? =some e->e[j]? =some x->dy (rd w) eX ((rd w b (o+(i*ie.size+j))).getD undef) x)):=by
     rcases DataW.trod_slice hu h with⟨rfl,_⟩|⟨a,len,cap,az,rest,n,_,rfl,_,_,hlc,BQ,iL,iV,_⟩;simp_all
     ·have hce:=oJ hTe
      obtain⟨es,h1,h2,h3⟩:=MA (w:=w) (a:=a) (len:=len) (Q:=sR C d e) fN (by
       grind[Option.bind_eq_some_iff])
      grind
    obtain⟨es,m1,m2,v',rfl,m3⟩:=ahG
    have mk: ∀c:SC,c.ao=true->c.len=es.length->(∀i e',c.elem i=some e'->es[i]? =some e')->dy (rd w) eX v' c:=by
     intro c hv bG am0
     rcases m3 with⟨rfl,a,cap,rfl⟩|⟨b,o,cap,rfl,q0,q1,q2,q3,q4⟩
     ·exact .empty a cap hv bG
     ·rw[<- bG];refine .view b o cap ie.size (λk=>(rd w b (o+k)).getD undef) hv K0 fN K0 (λi e' he=>q2 e' (jI (am0 i e' he))) ?_ ?_
      grind
      grind
    split
    ·rename_i O4;rw[O4]at hd4;have hs1:=pb hd4;have amV:ie.b8= .int .i64 :=by grind[bU.kI]
     have s8: ∀e'∈es,∃n:Int,e'= [.lit (.int .i64 n)]/\(Lit.int .i64 n).wf =true:=by
      intro e' he;have:=m2 e' he
      cases d with
      |zero=>exact this.elim
      |succ d=>
       grind[sR]
     have hl: ∃l:List Int,es=l.map (λn=>[.lit (.int .i64 n)])/\∀n∈l,(Lit.int .i64 n).wf =true:=by
      clear mk m3 m1 m2
      induction es with
      |nil=>simp_all
      |cons e' es ih'=>
       obtain⟨n,rfl,hn⟩:=s8 e' jx;obtain⟨l,rfl,hl⟩:=ih' (λe h=>s8 e (ji _ h));exact⟨n::l,rfl,by grind⟩
     obtain⟨l,rfl,hl⟩:=hl;refine⟨[.ints l],⟨l,rfl,by grind,hl⟩,lG.one (mk (.ints l) rfl Yq ab3),?_⟩
     grind
    ·refine⟨[.view es],⟨es,rfl,m1,m2⟩,lG.one (mk (.view es) rfl rfl (by intro i e' he;exact he)),?_⟩
     grind
   grind
  ·rename_i fs hk;obtain⟨Xo,Xk⟩:=aH hd;rw[hk]at jg;obtain⟨gs,rfl,hgs⟩:=rk jg;obtain⟨ys,n,_,_,bG,hyl,iV⟩:=Sw hu h;rw[oJ hT]at bG
   obtain⟨parts,q1,q2,q3⟩:=lG.parts (m:=rd w) (Q:=sR C d) Xo bG (by
    intro k o ft hkk j hj;have Li:(gs.toList.map λf=>(f.offset,f.type))[k]? =some (o,ft):=by grind
    simp only[gK,mZ]at Li;obtain⟨g,hg1,hg2⟩:=Li;simp only[ij]at hg2;obtain⟨rfl,rfl⟩:=hg2;have anZ:gs[k]? =some g:=by grind
    have:=iV k g anZ;obtain⟨fe,de,ve,hTe⟩:=hC.get hj
    grind[oJ])
   refine⟨parts.flatten,⟨parts,rfl,q2,q3⟩,by grind,?_⟩;intro j hj;simp at hj;subst hj;have:=q1.1
   grind
  ·rename_i n e hk;rw[hk]at jg;rw[kp jg]at hu;split at hd
   ·rename_i ie l7;obtain⟨Xo,Xk⟩:=aH hd;have Xo:=pb Xo;obtain⟨fe,de,ve,hTe⟩:=hC.get l7;obtain⟨ys,m,_,_,bG,hyl,iV⟩:=SA hu h;rw[oJ hT]at bG
    obtain⟨parts,q1,q2,q3⟩:=lG.az (m:=rd w) (Q:=sR C d e) (z:=ie.size) (n:=n) (cs:=cs) K0 (by
     grind[oJ])
    refine⟨parts.flatten,⟨parts,rfl,q2,q3⟩,q1,?_⟩;intro j hj;simp at hj;subst hj;rw[q1.1];omega
   grind
  grind
end
def yE (C:bU)(d:Nat)(t:TypeId)(x:SV):Prop:=∃i,C.ti t=some i/\x.1=cJ i.b8/\sR C d t x.2
def acL {P:Program}{w:World}{r:Reach}{b:Nat}{t:TypeId}{v:Value}{d:TypeDesc}(hu:P.underlying t=some d)(hd:cJ (eD d)=false)(h:Value.okWide P w r b t v):v.cells= #[v]:=by
 cases v with
 |agg cs=>
  unfold Value.okWide Cell.okWide Cell.ok at h
  grind[eD,cJ]
 |_=>rfl
def acM {C:bU}{d:Nat}{t:TypeId}{i:TI}{xs:List SC}(hi:C.ti t=some i)(hg:cJ i.b8=false)(h:sR C d t xs): ∃c,xs= [c]:=by
 cases d with
 |zero=>exact h.elim
 |succ d=>
  unfold sR at h;simp only[hi]at h;split at h
  grind
  grind
  grind
  grind
  ·rename_i hk;rw[hk]at hg;cases hg
  ·rename_i hk;rw[hk]at hg;cases hg
  grind
section
variable {H:Type}{enc:TypeId × Value->H}{C:bU}{w:World}{Uy:Nat->Bool}
theorem acN (hC:C.Ok){d:Nat}{r:Reach}{b0:Nat}{t:TypeId}{v:Value}{y:DataW H}{ps:List MemPlace}(hd:oI C d t=true)(o7:Value.okWide C.P w r b0 t v)(h:DataW.Trod enc C.P w 0 Uy true t v y ps):
  ∃x,yE C d t x/\eu (rd w) (rd w) v x:=by
 obtain⟨AY,hf⟩:=h;obtain⟨xs,h1,h2,h3⟩:=YZ hC hd hf
 cases d with
 |zero=>grind[oI]
 |succ d=>
  have xn:=hd;unfold oI at xn;split at xn
  ·grind
  rename_i i hi;obtain⟨f,ds,v0,hT⟩:=hC.get hi;clear xn
  cases hg:cJ i.b8 with
  |false=>
   have ma:=acL hT.IP (by rw[hT.b8];exact hg) o7;obtain⟨c,rfl⟩:=acM hi hg h1;refine⟨(false,[c]),⟨i,hi,hg.symm,h1⟩,?_⟩;refine⟨c,rfl,?_⟩;have:=h2.2 0 c rfl;rw[ma]at this;exact dy.mono (Mem.le_refl _) (ee _) this
  |true=>
   have: ∃cs,v= .agg cs:=by
    unfold Value.okWide at o7;rw[hT.IP]at o7;rw[<- hT.b8]at hg;cases ds<;>simp[eD,cJ]at hg<;>(grind)
   obtain⟨cs,rfl⟩:=this;refine⟨(true,xs),⟨i,hi,hg.symm,h1⟩,?_⟩;refine⟨cs,rfl,by simpa [Value.cells]using h2.1.symm,λk c hk=>?_⟩;have:=h2.2 k c hk;have:=dy.mono (Mem.le_refl _) (ee (rd w)) this
   grind[Value.cells,Array.getD_eq_getD_getElem?]
def Gi (C:bU)(d:Nat):List TypeId->List SV->Prop
 | [],[]=>True
 |t::ts,x::xs=>yE C d t x/\Gi C d ts xs
 |_,_=>False
theorem Y0 (hC:C.Ok){d:Nat}{r:Reach}{b0:Nat}: ∀ {ts:List TypeId} {vs:List Value} {ys:List (DataW H)} {ps:List MemPlace},(ts.all (oI C d))=true->
  (∀(j:Nat) t v,ts[j]? =some t->vs[j]? =some v->Value.okWide C.P w r b0 t v)->DataW.TrodAll enc C.P w 0 Uy true ts vs ys ps->
  ys.length=ts.length/\vs.length=ts.length/\∃xs,Gi C d ts xs/\xs.length=vs.length/\∀(k:Nat) (x:SV),xs[k]? =some x->eu (rd w) (rd w) (vs.getD k undef) x:=by
 intro ts
 induction ts with
 |nil=>
  intro vs ys ps _ _ h;cases vs<;>cases ys<;>simp[DataW.TrodAll]at h;exact⟨rfl,rfl,[],trivial,rfl,by grind⟩
 |cons t ts ih=>
  intro vs ys ps hd o7 h
  cases vs with
  |nil=>grind[DataW.TrodAll]
  |cons v vs=>
   cases ys with
   |nil=>grind[DataW.TrodAll]
   |cons y ys=>
    obtain⟨p,q,h1,h2,_⟩:=h;simp only[List.all_cons,sQ]at hd;obtain⟨x,x1,x2⟩:=acN hC hd.1 (o7 0 t v rfl rfl) h1;obtain⟨e1,e2,xs,f1,f2,f3⟩:=ih hd.2 (λj t' v' a b=>o7 (j+1) t' v' bv bv) h2;refine⟨by grind,by grind,x::xs,⟨x1,f1⟩,by grind,λk z hk=>?_⟩
    grind
theorem Gj {P:Program}(hl:laidOutB P=true){W W':World}(hb:Below W.heap.size W W'): ∀ {ts:List TypeId} {vs:List Value} {ys:List (DataW H)} {ps:List MemPlace},(ts.all λt=>P.readableRec t&&decide (t<P.types.size))=true->
  DataW.TrodAll enc P W 0 (λ_=>true) true ts vs ys ps->(∀x∈ps,x.block<W.heap.size)->DataW.TrodAll enc P W' 0 (λb=>decide (b<W.heap.size)) true ts vs ys ps:=by
 intro ts
 induction ts with
 |nil=>
  grind[DataW.TrodAll]
 |cons t ts ih=>
  intro vs ys ps hd h ak
  cases vs with
  |nil=>grind[DataW.TrodAll]
  |cons v vs=>
   cases ys with
   |nil=>grind[DataW.TrodAll]
   |cons y ys=>
    obtain⟨p,q,h1,h2,rfl⟩:=h;simp only[List.all_cons,sQ,SK]at hd;exact⟨p,q,Below.trod hl hd.1.1 hd.1.2 h1 hb (λx hx=>ak x (XX _ hx)),ih bv h2 (λx hx=>ak x (List.mem_append_right _ hx)),rfl⟩
theorem ge {mv mr:Mem}{v x:Value}(h:dy mv mr v (.lit x)):v=x:=aji
def Jw (hC:C.Ok){f:FuncId}{fn:Func}{s:ChangeSpec}{d:Nat}{tb:TypeId}(hl:laidOutB C.P=true)
  (hp:(fn.params.toList.all (oI C d))=true)(Le:(fn.params.toList.all λt=>C.P.readableRec t&&decide (t<C.P.types.size))=true)
  (hr:fn.resultTypes= #[tb])(hb:C.P.underlying tb=some .bool)(hv:s.vars= [])
  (hs: ∀ds:List (DataW H),ds.length=fn.params.toList.length->s.fn H (ds++[])= {results:=[.lit (.bool true)],args:=ds})
  (i8: ∀xs,Gi C d fn.params.toList xs->nY C.P C.gl f xs (.one (false,[.lit (.bool true)])))
  {W:World}(hG:eQ C.gl (rd W)){base:Nat}{args:Array Value}{ds gs:List (DataW H)}{RW:List MemPlace}
  (o7: ∀(j:Nat) t v,fn.params[j]? =some t->args[j]? =some v->Value.okWide C.P W .any base t v)
  (hW:DataW.Whole enc C.P fn.params.toList s.vars false W args.toList ds gs RW):
  Calls C.P f args W λe W'=>∃v,e= .returned v/\s.post enc C.P fn false true false false W args v W':=by
 have hW':=hW;obtain⟨p,q,hA,hV,rfl,hfz,AV⟩:=hW;rw[hv]at hV;obtain⟨rfl,rfl⟩:gs= []/\q= []:=by grind[DataW.TrodVars]
 obtain⟨e1,e2,xs,f1,f2,f3⟩:=Y0 hC hp (λj t v a b=>o7 j t v bv bv) hA;obtain⟨_,hc⟩:=(i8 xs f1).pure;refine(hc (rd W) W args (Mem.le_refl _) hG ⟨by grind,λk x hk=>?_⟩).mono λe W' ⟨v,he,hbelow,ip⟩=>?_
 ·have:=f3 k x hk;simp_all
 ·obtain⟨c,h1,h2⟩:=ip;simp at h1;subst h1;obtain rfl:=ge h2;refine⟨_,he,ds,[],_,[],p,[],hW',?_,?_,?_,Below.frame hbelow _,λh=>by cases h⟩
  ·rw[hs ds e1,hr];exact trodAll_mk1 (shut_bool hb _)
  ·rw[hs ds e1];exact Gj hl hbelow Le hA (λx hx=>by simpa using hW'.lt x (XX _ hx))
  ·rw[hs ds e1,hv];rfl
end
theorem akW {C:bU}{d:Nat}{xs:List SV}(h:Gi C d [] xs):xs= []:=by
 cases xs with
 |nil=>rfl
 |cons x xs=>exact h.elim
theorem Y1 {C:bU}{d:Nat}{t:TypeId}{ts:List TypeId}{xs:List SV}(h:Gi C d (t::ts) xs): ∃x ys,xs=x::ys/\yE C d t x/\Gi C d ts ys:=by
 cases xs with
 |nil=>exact h.elim
 |cons x xs=>exact⟨x,xs,rfl,h⟩
theorem akX {C:bU}{d:Nat}{t:TypeId}{xs:List SV}(h:Gi C d [t] xs): ∃x,xs= [x]/\yE C d t x:=by grind[Y1,akW]
theorem akY {C:bU}{d:Nat}{t u:TypeId}{xs:List SV}(h:Gi C d [t,u] xs): ∃x y,xs= [x,y]/\yE C d t x/\yE C d u y:=by grind[Y1,akX]
def akZ {C:bU}{d:Nat}{t u v:TypeId}{xs:List SV}(h:Gi C d [t,u,v] xs): ∃x y z,xs= [x,y,z]/\yE C d t x/\yE C d u y/\yE C d v z:=by grind[Y1,akY]
section
variable {C:bU}{d:Nat}{t e:TypeId}{i:TI}{xs:List SC}
def Tp {k:IntKind}(hi:C.ti t=some i)(hk:i.b8= .int k)(h:sR C (d+1) t xs): ∃n,xs= [.lit (.int k n)]/\(Lit.int k n).wf =true:=by grind[sR]
def acO (hi:C.ti t=some i)(hk:i.b8= .int .i64)(h:sR C (d+1) t xs): ∃n:Int,xs= [.lit (.int .i64 n)]/\ -9223372036854775808<=n/\n<=9223372036854775807:=by
 obtain⟨n,h1,h2⟩:=Tp hi hk h;exact⟨n,h1,bounds_i64 h2⟩
def acP (hi:C.ti t=some i)(hk:i.b8= .str)(h:sR C (d+1) t xs): ∃s:ByteArray,xs= [.lit (.string s)]/\s.size<=maxLen:=by grind[sR]
def tU (hi:C.ti t=some i)(hk:i.b8= .slice e)(he:C.kI e=false)(h:sR C (d+1) t xs): ∃es:List (List SC),xs= [.view es]/\es.length<=maxLen/\∀e'∈es,sR C d e e':=by grind[sR]
def Y2 (C:bU)(d:Nat):List (Nat × TypeId)->List SC->Prop
 | [],xs=>xs= []
 |(_,ft)::r,xs=>∃p q,xs=p++q/\sR C d ft p/\Y2 C d r q
theorem MB: ∀ {fs:List (Nat × TypeId)} {parts:List (List SC)},parts.length=fs.length->(∀(k o:Nat) (ft:TypeId),fs[k]? =some (o,ft)->∃p,parts[k]? =some p/\sR C d ft p)->Y2 C d fs parts.flatten
 | [],[],_,_=>rfl
 |(o,ft)::fs,p::parts,hl,h=>by
  obtain⟨p',h1,h2⟩:=h 0 o ft rfl;simp at h1;subst h1;exact⟨p,parts.flatten,rfl,h2,MB bv λk o' ft' hk=>h (k+1) o' ft' bv⟩
 | [],_::_,hl,_=>by grind
 |_::_,[],hl,_=>by grind
def lU {fs:List (Nat × TypeId)}(hi:C.ti t=some i)(hk:i.b8= .struct fs)(h:sR C (d+1) t xs):Y2 C d fs xs:=by grind[sR,MB]
def MC {x:SV}(hi:C.ti t=some i)(hg:cJ i.b8=false)(h:yE C d t x):x=(false,x.2)/\sR C d t x.2:=by
 obtain⟨j,h1,h2,h3⟩:=h
 grind
def Y3 {x:SV}(hi:C.ti t=some i)(hg:cJ i.b8=true)(h:yE C d t x):x=(true,x.2)/\sR C d t x.2:=by
 obtain⟨j,h1,h2,h3⟩:=h
 grind
end
end Go.Fw
namespace Go.Fw
open Go.IntWalk
class dU (z:Int) (n:outParam Nat):Prop where
 eq:z=(n:Int)
instance agz (n:Nat):dU (n:Int) n:=⟨rfl⟩
instance am8:dU 0 0:=⟨rfl⟩
instance am9:dU 1 1:=⟨rfl⟩
instance ana:dU 2 2:=⟨rfl⟩
instance anb:dU 3 3:=⟨rfl⟩
instance ahT (a b:Int)(m n:Nat) [h:dU a m] [k:dU b n]:dU (a+b) (m+n):=⟨by rw[h.eq,k.eq];simp⟩
instance ahU (a b:Int)(m n:Nat) [h:dU a m] [k:dU b n]:dU (a*b) (m*n):=⟨by rw[h.eq,k.eq];simp⟩
class BP (b:Bool) (p:outParam Prop):Prop where
 iff:b=true↔p
instance (priority:=low) bp_any (b:Bool):BP b (b=true):=⟨Iff.rfl⟩
instance anr (p:Prop) [Decidable p]:BP (decide p) p:=⟨vJ⟩
instance ant (a b:Int):BP (a==b) (a=b):=⟨beq_iff_eq⟩
instance anu (a b:Int):BP (a != b) (a≠b):=⟨bne_iff_ne⟩
instance anv (b:Bool)(p:Prop) [h:BP b p]:BP (!b) (¬p):=⟨by rw[<- h.iff];grind⟩
instance anw (a b:Bool)(p q:Prop) [h:BP a p] [k:BP b q]:BP (a&&b) (p/\q):=⟨by rw[<- h.iff,<- k.iff];simp⟩
instance (priority:=high) bp_and_true (b:Bool)(p:Prop) [h:BP b p]:BP (b&&true) p:=⟨by rw[<- h.iff];simp⟩
instance aoo (a b:Bool)(p q:Prop) [h:BP a p] [k:BP b q]:BP (a || b) (p\/q):=⟨by rw[<- h.iff,<- k.iff];simp⟩
def BP.no {b:Bool}{p:Prop}(h:BP b p)(e:b=false): ¬p:=λhp=>by rw[h.iff.2 hp]at e;cases e
def BP.yes {b:Bool}{p:Prop}(h:BP b p)(e:b=true):p:=h.iff.1 e
def BP.eq_true {b:Bool}{p:Prop}(h:BP b p)(hp:p):b=true:=h.iff.2 hp
def BP.eq_false {b:Bool}{p:Prop}(h:BP b p)(hp: ¬p):b=false:=by
 cases e:b
 ·rfl
 ·exact absurd (h.iff.1 e) hp
def brp {b:Bool}{p X Y:Prop} [i:BP b p](h:p->X)(h': ¬p->Y):Brn b X Y:=oH (λe=>h (i.yes e)) λe=>h' (i.no e)
def bPt {b:Bool}{p X Y:Prop} [i:BP b p](hp:p)(h:X):Brn b X Y:=by rw[i.eq_true hp];exact bT h
def bPf {b:Bool}{p X Y:Prop} [i:BP b p](hp: ¬p)(h:Y):Brn b X Y:=by rw[i.eq_false hp];exact bF h
section
variable {C:bU}{all:List Oper}{n0 i fid:Nat}{o:Oper}{rest:List Oper}{E:dG}{H:Hp}{t:bq}{K:dG->Hp->Nat->bq->Prop}{k:dG->Hp->bq->Prop}
def yF {g j:Nat}{b:Bool}{p:Prop} [w:BP b p](hg:o.guard=some (j,true))(hd:jF all j=some g)(hv:E.get g=some (.val (false,[.st (.lit (.bool b))])))
  (h:p->cW C (2*(n0+i)) o ((g,some (vP true))::E) H t λE' H' t'=>jA C all n0 rest (i+1) E' H' t' K)
  (h': ¬p->kR o ((g,some (vP false))::E) H t λE' H' t'=>jA C all n0 rest (i+1) E' H' t' K):jA C all n0 (o::rest) i E H t K:=
 Jj hg hd hv (λe=>h (w.yes e)) λe=>h' (w.no e)
def nJ {g j:Nat}{b:Bool}{p:Prop} [w:BP b p](hg:o.guard=some (j,false))(hd:jF all j=some g)(hv:E.get g=some (.val (false,[.st (.lit (.bool b))])))
  (h:p->kR o ((g,some (vP true))::E) H t λE' H' t'=>jA C all n0 rest (i+1) E' H' t' K)
  (h': ¬p->cW C (2*(n0+i)) o ((g,some (vP false))::E) H t λE' H' t'=>jA C all n0 rest (i+1) E' H' t' K):jA C all n0 (o::rest) i E H t K:=
 Mn hg hd hv (λe=>h (w.yes e)) λe=>h' (w.no e)
def oIt {g j:Nat}{b:Bool}{p:Prop} [w:BP b p](hg:o.guard=some (j,true))(hd:jF all j=some g)(hv:E.get g=some (.val (false,[.st (.lit (.bool b))])))(hp:p)
  (h:cW C (2*(n0+i)) o ((g,some (vP true))::E) H t λE' H' t'=>jA C all n0 rest (i+1) E' H' t' K):jA C all n0 (o::rest) i E H t K:=
 yF hg hd hv (λ_=>h) λn=>absurd hp n
def oIf {g j:Nat}{b:Bool}{p:Prop} [w:BP b p](hg:o.guard=some (j,true))(hd:jF all j=some g)(hv:E.get g=some (.val (false,[.st (.lit (.bool b))])))(hp: ¬p)
  (h:kR o ((g,some (vP false))::E) H t λE' H' t'=>jA C all n0 rest (i+1) E' H' t' K):jA C all n0 (o::rest) i E H t K:=
 yF hg hd hv (λy=>absurd y hp) λ_=>h
def oUt {g j:Nat}{b:Bool}{p:Prop} [w:BP b p](hg:o.guard=some (j,false))(hd:jF all j=some g)(hv:E.get g=some (.val (false,[.st (.lit (.bool b))])))(hp:p)
  (h:kR o ((g,some (vP true))::E) H t λE' H' t'=>jA C all n0 rest (i+1) E' H' t' K):jA C all n0 (o::rest) i E H t K:=
 nJ hg hd hv (λ_=>h) λn=>absurd hp n
def oUf {g j:Nat}{b:Bool}{p:Prop} [w:BP b p](hg:o.guard=some (j,false))(hd:jF all j=some g)(hv:E.get g=some (.val (false,[.st (.lit (.bool b))])))(hp: ¬p)
  (h:cW C (2*(n0+i)) o ((g,some (vP false))::E) H t λE' H' t'=>jA C all n0 rest (i+1) E' H' t' K):jA C all n0 (o::rest) i E H t K:=
 nJ hg hd hv (λy=>absurd y hp) λ_=>h
def opK:Op->Nat
 | .binOp .. =>1
 | .unOp .. =>2
 | .load .. =>3
 | .store .. =>4
 | .indexAddr .. =>5
 | .call c=>match c.callee with
  | .builtin _=>6
  |_=>7
 | .slice .. =>8
 | .makeSlice .. =>8
 | .index .. =>8
 |_=>0
def kO (n:Nat)(_:opK o.op=n)(g:cW C fid o E H t k):cW C fid o E H t k:=g
def rP {r:DV}{u:Hp}{R:List Nat}(_:opK o.op=0)(h1: ∀K:j8,K r u R->fw C fid o (C.ev E.get) H.get K)
  (h2:Gd u H λH'=>eA o.dst r E λE'=>k E' H' ((R,u.map Prod.fst)::t)):cW C fid o E H t k:=rG h1 h2
abbrev lI (n:Int):Option DV:=some (.val (false,[.st (.lit (.int .i64 n))]))
def stp {r:DV}(h1:fw C fid o (C.ev E.get) H.get=λK=>K r [] [])(h2:eA o.dst r E λE'=>k E' H (([],[])::t)):cW C fid o E H t k:=
 rG (r:=r) (u:=[]) (R:=[]) (λK hK=>by grind) h2
variable {T:TypeId}{x y:Operand}{p:TypeId}{a b:Int}
theorem yG {op:BinOp}(ho:o.op= .binOp op T x y p)(hx:C.ev E.get x=lI a)(hy:C.ev E.get y=lI b)(hop:op≠ .shl /\op≠ .shr):fw C fid o (C.ev E.get) H.get=λK=>tv op .i64 a b λv=>K (lit v) [] []:=by
 funext K;unfold fw;rw[ho];simp only[hx,hy,lI,L1]
 grind[rc]
def ak0 (ho:o.op= .binOp .add T x y p)(hx:C.ev E.get x=lI a)(hy:C.ev E.get y=lI b)(hb: -9223372036854775808<=a+b/\a+b<=9223372036854775807)
  (h2:eA o.dst (lit (.int .i64 (a+b))) E λE'=>k E' H (([],[])::t)):cW C fid o E H t k:=
 stp af8 h2
def ak1 (ho:o.op= .binOp .sub T x y p)(hx:C.ev E.get x=lI a)(hy:C.ev E.get y=lI b)(hb: -9223372036854775808<=a -b/\a -b<=9223372036854775807)
  (h2:eA o.dst (lit (.int .i64 (a -b))) E λE'=>k E' H (([],[])::t)):cW C fid o E H t k:=
 stp af8 h2
def ak2 (ho:o.op= .binOp .mul T x y p)(hx:C.ev E.get x=lI a)(hy:C.ev E.get y=lI b)(hb: -9223372036854775808<=a*b/\a*b<=9223372036854775807)
  (h2:eA o.dst (lit (.int .i64 (a*b))) E λE'=>k E' H (([],[])::t)):cW C fid o E H t k:=
 stp af8 h2
def ak3 (ho:o.op= .binOp .quo T x y p)(hx:C.ev E.get x=lI a)(hy:C.ev E.get y=lI b)(hb:(0<=a/\a<=9223372036854775807)/\0<b)
  (h2:eA o.dst (lit (.int .i64 (a/b))) E λE'=>k E' H (([],[])::t)):cW C fid o E H t k:=by
 have e:IntKind.i64.wrap (a.tdiv b)=a/b:=by
  rw[Int.tdiv_eq_ediv_of_nonneg hb.1.1];have h1:0<=a/b:=LL hb.1.1 K0;have h2:a/b<=a:=Yb b hb.1.1
  grind[i64_in]
 refine rG (r:=lit (.int .i64 (a/b))) (u:=[]) (R:=[]) (λK hK=>?_) h2;rw[yG ho hx hy K9];exact⟨by omega,by grind⟩
def ak4 (ho:o.op= .binOp .rem T x y p)(hx:C.ev E.get x=lI a)(hy:C.ev E.get y=lI b)(hb:0<=a/\0<b)
  (h2:eA o.dst (lit (.int .i64 (a%b))) E λE'=>k E' H (([],[])::t)):cW C fid o E H t k:=by
 refine rG (r:=lit (.int .i64 (a%b))) (u:=[]) (R:=[]) (λK hK=>?_) h2;rw[yG ho hx hy K9];exact⟨by omega,by grind⟩
def aeO (ho:o.op= .binOp .quo T x y p)(hx:C.ev E.get x=lI a)(hy:C.ev E.get y=lI b)(hb:b≠0)
  (h2:eA o.dst (lit (.int .i64 (IntKind.i64.wrap (a.tdiv b)))) E λE'=>k E' H (([],[])::t)):cW C fid o E H t k:=by
 refine rG (r:=lit (.int .i64 (IntKind.i64.wrap (a.tdiv b)))) (u:=[]) (R:=[]) (λK hK=>?_) h2;rw[yG ho hx hy K9];exact⟨hb,hK⟩
def aeP (ho:o.op= .binOp .rem T x y p)(hx:C.ev E.get x=lI a)(hy:C.ev E.get y=lI b)(hb:b≠0)
  (h2:eA o.dst (lit (.int .i64 (a.tmod b))) E λE'=>k E' H (([],[])::t)):cW C fid o E H t k:=by
 refine rG (r:=lit (.int .i64 (a.tmod b))) (u:=[]) (R:=[]) (λK hK=>?_) h2;rw[yG ho hx hy K9];exact⟨hb,hK⟩
def ak5 (ho:o.op= .unOp .neg T x)(hx:C.ev E.get x=lI a)(hb: -9223372036854775808<a/\a<=9223372036854775807)
  (h2:eA o.dst (lit (.int .i64 (-a))) E λE'=>k E' H (([],[])::t)):cW C fid o E H t k:=by
 refine rG (r:=lit (.int .i64 (-a))) (u:=[]) (R:=[]) (λK hK=>?_) h2;have e:IntKind.i64.wrap (0 -a)= -a:=by grind[i64_in]
 unfold fw;rw[ho];simp only[hx,lI,Pm]
 grind
def agA {i:TI}{e:TypeId}{ie:TI}{l:List Int}{k':IntKind}{n:Int}(ho:o.op= .indexAddr T x y)(hx:C.ev E.get x=some (.val (false,[.st (.ints l)])))(hy:C.ev E.get y=some (.val (false,[.st (.lit (.int k' n))])))
  (hi:C.ti T=some i)(hc:i.b8= .slice e)(he:C.ti e=some ie)(hs:ie.size=1)(hb:0<=n/\n< (l.length:Int))
  (h2:eA o.dst (bm (.st (.ref [.lit (.int .i64 (l.getD n.toNat 0))]))) E λE'=>k E' H (([],[])::t)):cW C fid o E H t k:=by
 refine rG (r:=bm (.st (.ref [.lit (.int .i64 (l.getD n.toNat 0))]))) (u:=[]) (R:=[]) (λK hK=>?_) h2
 grind[fw,eR,SC.ao,SC.elem]
theorem anx {i:TI}{e:TypeId}{ie:TI}{l:List (List SC)}{k':IntKind}{n:Int}(ho:o.op= .indexAddr T x y)(hx:C.ev E.get x=some (.val (false,[.st (.view l)])))(hy:C.ev E.get y=some (.val (false,[.st (.lit (.int k' n))])))
  (hi:C.ti T=some i)(hc:i.b8= .slice e)(he:C.ti e=some ie){el:List SC}(hb:0<=n/\l[n.toNat]? =some el)(hs:el.length=ie.size)
  (h2:eA o.dst (bm (.st (.ref el))) E λE'=>k E' H (([],[])::t)):cW C fid o E H t k:=by
 refine rG (r:=bm (.st (.ref el))) (u:=[]) (R:=[]) (λK hK=>?_) h2;unfold fw;rw[ho];simp only[hx,hy];unfold eR;simp only[hi,hc,he,SC.ao];exact⟨hb.1,el,hb.2,hs,hK⟩
theorem agB {i:TI}{e:TypeId}{ie:TI}{id:Nat}{m:Bool}{z:Nat}{c:SC}{k':IntKind}{n:Int}(ho:o.op= .indexAddr T x y)(hx:C.ev E.get x=some (.val (false,[.own id])))(hy:C.ev E.get y=some (.val (false,[.st (.lit (.int k' n))])))
  (hi:C.ti T=some i)(hc:i.b8= .slice e)(he:C.ti e=some ie)(hH:H.get id=some (.row m z c))(hz:Nat.beq z ie.size=true)(hb:0<=n/\n< (c.len:Int))
  (h2:eA o.dst (bm (.cI id z n.toNat 0)) E λE'=>k E' H (([id],[])::t)):cW C fid o E H t k:=by
 refine rG (r:=bm (.cI id z n.toNat 0)) (u:=[]) (R:=[id]) (λK hK=>?_) h2;unfold fw
 grind[eR]
def ak6 {i:TI}{id n:Nat}{m:Bool}{l:List Int}(ho:o.op= .load T x)(hx:C.ev E.get x=some (.val (false,[.cI id 1 n 0])))(hi:C.ti T=some i)(hg:cJ i.b8=false)(hs:i.size=1)
  (hH:H.get id=some (.row m 1 (.ints l)))(hb:n<l.length)
  (h2:eA o.dst (lit (.int .i64 (l.getD n 0))) E λE'=>k E' H (([id],[])::t)):cW C fid o E H t k:=by
 refine rG (r:=lit (.int .i64 (l.getD n 0))) (u:=[]) (R:=[id]) (λK hK=>?_) h2;unfold fw;rw[ho];simp only[hx];unfold oC;simp only[hi,hH,hs,hg];exact ajR
def ak7 {i:TI}{id n:Nat}{l:List Int}(ho:o.op= .store T x y)(hx:C.ev E.get x=some (.val (false,[.cI id 1 n 0])))(hy:C.ev E.get y=lI a)(hi:C.ti T=some i)(hs:i.size=1)
  (hH:H.get id=some (.row true 1 (.ints l)))(hb:n<l.length)
  (h2:eA o.dst (.aI []) E λE'=>k E' ((id,some (.row true 1 (.ints (l.set n a))))::H) (([id],[id])::t)):cW C fid o E H t k:=by
 refine rG (r:=.aI []) (u:=[(id,some (.row true 1 (.ints (l.set n a))))]) (R:=[id]) (λK hK=>?_) h2;unfold fw;rw[ho];simp only[hx,hy];unfold rf;simp only[hi,hH,hs];show ∃e,_/\_;exact ajR
def ak8 {i:TI}{e:TypeId}{ie:TI}{l:List Int}{k':IntKind}{z:Int}{n:Nat} [nz:dU z n](ho:o.op= .indexAddr T x y)(hx:C.ev E.get x=some (.val (false,[.st (.ints l)])))(hy:C.ev E.get y=some (.val (false,[.st (.lit (.int k' z))])))
  (hi:C.ti T=some i)(hc:i.b8= .slice e)(he:C.ti e=some ie)(hs:ie.size=1)(hb:n<l.length)
  (h2:eA o.dst (bm (.st (.ref [.lit (.int .i64 (l.getD n 0))]))) E λE'=>k E' H (([],[])::t)):cW C fid o E H t k:=
 by rw[nz.eq]at hy;exact agA (n:=(n:Int)) ho hx hy hi hc he hs ⟨Int.natCast_nonneg n,by omega⟩ h2
def aeQ {i:TI}{e:TypeId}{ie:TI}{id:Nat}{m:Bool}{z:Nat}{c:SC}{k':IntKind}{zz:Int}{n:Nat} [nz:dU zz n](ho:o.op= .indexAddr T x y)(hx:C.ev E.get x=some (.val (false,[.own id])))(hy:C.ev E.get y=some (.val (false,[.st (.lit (.int k' zz))])))
  (hi:C.ti T=some i)(hc:i.b8= .slice e)(he:C.ti e=some ie)(hH:H.get id=some (.row m z c))(hz:Nat.beq z ie.size=true)(hb:n<c.len)
  (h2:eA o.dst (bm (.cI id z n 0)) E λE'=>k E' H (([id],[])::t)):cW C fid o E H t k:=
 by rw[nz.eq]at hy;grind[agB]
def aeR {i:TI}{e:TypeId}{ie:TI}{l:List (List SC)}{k':IntKind}{z:Int}{n:Nat} [nz:dU z n](ho:o.op= .indexAddr T x y)(hx:C.ev E.get x=some (.val (false,[.st (.view l)])))(hy:C.ev E.get y=some (.val (false,[.st (.lit (.int k' z))])))
  (hi:C.ti T=some i)(hc:i.b8= .slice e)(he:C.ti e=some ie){el:List SC}(hb:l[n]? =some el)(hs:el.length=ie.size)
  (h2:eA o.dst (bm (.st (.ref el))) E λE'=>k E' H (([],[])::t)):cW C fid o E H t k:=
 by rw[nz.eq]at hy;grind[anx]
def ak9 {i:TI}{c:SC}{cs:List SC}(ho:o.op= .load T x)(hx:C.ev E.get x=some (.val (false,[.st (.ref (c::cs))])))(hi:C.ti T=some i)(hg:cJ i.b8=false)(hs:i.size=1)
  (h2:eA o.dst (bm (.st c)) E λE'=>k E' H (([],[])::t)):cW C fid o E H t k:=by
 refine rG (r:=bm (.st c)) (u:=[]) (R:=[]) (λK hK=>?_) h2;unfold fw;rw[ho];simp only[hx];unfold oC;simp only[hi,hs,hg];exact hK
def ala {i:TI}{id off:Nat}{t':TypeId}{cs:List DC}{c:DC}(ho:o.op= .load T x)(hx:C.ev E.get x=some (.val (false,[.ptr id off])))(hi:C.ti T=some i)(hg:cJ i.b8=false)(hs:i.size=1)
  (hH:H.get id=some (.box t' cs))(hc:cs[off]? =some c)
  (h2:eA o.dst (bm c) E λE'=>k E' H (([id],[])::t)):cW C fid o E H t k:=by
 refine rG (r:=bm c) (u:=[]) (R:=[id]) (λK hK=>?_) h2;have ak:=(kJ.1 hc).1;have e:(cs.drop off).take 1= [c]:=by grind[List.drop_eq_getElem_cons]
 have hb:Nat.ble (off+1) cs.length=true:=Nat.ble_eq_true_of_le ak;unfold fw;rw[ho];simp only[hx];unfold oC;simp only[hi,hH,hs,hg,hb,e];exact hK
def alb {c:Call}{i:TI}{tt:TypeId}{ts:List TypeId}{e:TypeId}{l:List Int}(ho:o.op= .call c)(hc:c.callee= .builtin .len)(ha:c.argTypes.toList=tt::ts)(hx:(c.args.toList.map (C.ev E.get))= [some (.val (false,[.st (.ints l)]))])
  (hi:C.ti tt=some i)(hk:i.b8= .slice e)(h2:eA o.dst (lit (.int .i64 (l.length:Nat))) E λE'=>k E' H (([],[])::t)):cW C fid o E H t k:=by
 exact aid
def aeS {c:Call}{i:TI}{tt:TypeId}{ts:List TypeId}{e:TypeId}{l:List (List SC)}(ho:o.op= .call c)(hc:c.callee= .builtin .len)(ha:c.argTypes.toList=tt::ts)(hx:(c.args.toList.map (C.ev E.get))= [some (.val (false,[.st (.view l)]))])
  (hi:C.ti tt=some i)(hk:i.b8= .slice e)(h2:eA o.dst (lit (.int .i64 (l.length:Nat))) E λE'=>k E' H (([],[])::t)):cW C fid o E H t k:=by
 exact aid
def aeT {c:Call}{i:TI}{tt:TypeId}{ts:List TypeId}{e:TypeId}{id z:Nat}{m:Bool}{l:List Int}(ho:o.op= .call c)(hc:c.callee= .builtin .len)(ha:c.argTypes.toList=tt::ts)(hx:(c.args.toList.map (C.ev E.get))= [some (.val (false,[.own id]))])
  (hi:C.ti tt=some i)(hk:i.b8= .slice e)(hH:H.get id=some (.row m z (.ints l)))(h2:eA o.dst (lit (.int .i64 (l.length:Nat))) E λE'=>k E' H (([id],[])::t)):cW C fid o E H t k:=by
 exact aif
def Y4 {c:Call}{i:TI}{tt:TypeId}{ts:List TypeId}{e:TypeId}{id z:Nat}{m:Bool}{l:List (List SC)}(ho:o.op= .call c)(hc:c.callee= .builtin .len)(ha:c.argTypes.toList=tt::ts)(hx:(c.args.toList.map (C.ev E.get))= [some (.val (false,[.own id]))])
  (hi:C.ti tt=some i)(hk:i.b8= .slice e)(hH:H.get id=some (.row m z (.view l)))(h2:eA o.dst (lit (.int .i64 (l.length:Nat))) E λE'=>k E' H (([id],[])::t)):cW C fid o E H t k:=by
 exact aif
def alc {i:TI}{e:TypeId}{ie:TI}{l:List Int}{k':IntKind}{n:Int}(ho:o.op= .slice T x none (some y) none)(hx:C.ev E.get x=some (.val (false,[.st (.ints l)])))(hy:C.ev E.get y=some (.val (false,[.st (.lit (.int k' n))])))
  (hi:C.ti T=some i)(hc:i.b8= .slice e)(he:C.ti e=some ie)(hs:ie.size=1)(hb:0<=n/\n<=(l.length:Int))
  (h2:eA o.dst (bm (.st (.ints (l.take n.toNat)))) E λE'=>k E' H (([],[])::t)):cW C fid o E H t k:=by
 refine rG (r:=bm (.st (.ints (l.take n.toNat)))) (u:=[]) (R:=[]) (λK hK=>?_) h2;unfold fw;rw[ho];simp only[hx,Option.map];unfold gL;simp only[hi,hc,he,bV,bA,hy,SC.ao,F5,SC.len,SC.zW,SC.sub,xW]
 grind
def ald {i:TI}{e:TypeId}{ie:TI}{l:List Int}{k':IntKind}{n:Int}(ho:o.op= .slice T x (some y) none none)(hx:C.ev E.get x=some (.val (false,[.st (.ints l)])))(hy:C.ev E.get y=some (.val (false,[.st (.lit (.int k' n))])))
  (hi:C.ti T=some i)(hc:i.b8= .slice e)(he:C.ti e=some ie)(hs:ie.size=1)(hb:0<=n/\n<=(l.length:Int))
  (h2:eA o.dst (bm (.st (.ints (l.drop n.toNat)))) E λE'=>k E' H (([],[])::t)):cW C fid o E H t k:=by
 refine rG (r:=bm (.st (.ints (l.drop n.toNat)))) (u:=[]) (R:=[]) (λK hK=>?_) h2;unfold fw;rw[ho];simp only[hx,Option.map];unfold gL;simp only[hi,hc,he,bV,bA,hy,SC.ao,F5,SC.len,SC.zW,SC.sub,mA]
 grind
end
def ale:DC->DC->List (Nat × Nat)
 | .ptr a _,.ptr b _=>[(a,b)]
 | .own a,.own b=>[(a,b)]
 | .cI a _ _ _,.cI b _ _ _=>[(a,b)]
 |_,_=>[]
def P5:List DC->List DC->List (Nat × Nat)
 |a::l,b::l'=>ale a b++P5 l l'
 |_,_=>[]
def Y5 (E:EF):dG->List (Nat × Nat)
 | []=>[]
 |(k,some (.val (_,xz)))::E'=>(match E k with
  |some (.val (_,cs))=>P5 cs xz
  |_=>[])++Y5 E E'
 |_::E'=>Y5 E E'
def Y6 (H H':HF):List (Nat × Nat)->List (Nat × Nat)
 | []=>[]
 |(a,b)::l=>(match H a,H' b with
  |some (.box _ cs),some (.box _ xz)=>P5 cs xz
  |_,_=>[])++Y6 H H' l
def aeU (n:Nat):List (Nat × Nat)->List (Nat × Nat)
 | []=>[]
 |(a,b)::l=>match Nat.beq b n with
  |true=>[(a,b)]
  |false=>aeU n l
def abU (ps:List (Nat × Nat)):Hp->List (Nat × Nat)
 | []=>[]
 |(n,_)::H=>aeU n ps++abU ps H
def Y7:dG->List Nat
 | []=>[]
 |(k,_)::E=>k::Y7 E
def aeV (S S':St):List (Nat × Nat):=
 let p:=Y5 S.env.get S'.env;let p:=p++Y6 S.hp.get S'.hp.get p;let p:=p++Y6 S.hp.get S'.hp.get p
 abU p S'.hp
def ai {S S':St}(h:Tn (Y7 S'.env) (aeV S S') S'.nx S=some S'):bp S S':=fB h
def fs:List Int->Int
 | []=>0
 |x::l=>if x≠0 then x else fs l
def acQ (l:List Int):(l.find? (· ≠0)).getD 0=fs l:=by
 induction l with
 |nil=>rfl
 |cons x l ih=>grind[fs]
def aA {C:bU}{c:Code}{S:St}{kx:Nat->St->Prop}{kr:St->Prop}(h:m8 C c S (λS'=>Tl C c S' kx kr) kx kr):Tl C c S kx kr:=
 ⟨S,bp.refl S,HA (mE h.out (λ_ h=>h.out) (λ_ _ h=>h) λ_ h=>h)⟩
def Y8 (C:bU){E:dG}{Hh:Hp}{nx:Nat}(id:Nat){t:TypeId}{cs:List DC}{l:List SC}{u:Hp}{r:List Nat}(hb:Hh.get id=some (.box t cs))(dw:bV Hh.get (C.kinds t) cs=some (l,u,r)):
  bp ⟨E,Hh,nx⟩ ⟨E,((id,some (.ec l))::u)++Hh,nx⟩:=by
 rintro F nt a w ⟨N,⟨q1,q2,q0,β,q3,q4⟩,q5⟩;have hg:il C Hh.get ((id,some (.ec l))::u):=aig;have h1:=hg.soft.tr (F:=F) (β:=β) (N:=N) (w:=w);have h2:=hg.heap q4;refine⟨N,⟨q1,q2,q0,β,?_,?_⟩,q5⟩
 ·show dM F β N (Hp.get (((id,some (.ec l))::u)++Hh)) w E.get a;rw[Hp.get_append];exact h1.env q4 q3
 grind[Hp.get_append]
def aM {C:bU}{x y:Code}{S:St}{kn:St->Prop}{kx:Nat->St->Prop}{kr:St->Prop}(h:m8 C x S (λS1=>∃S2,bp S1 S2/\m8 C y S2 kn kx kr) kx kr):m8 C (.seq x y) S kn kx kr:=by
 have h':rF C x S (λS=>∃S',bp S S'/\rF C y S' kn kx kr) kx kr:=mE h.out (λ_ ⟨S',hs,h⟩=>⟨S',hs,h.out⟩) (λ_ _ h=>h) λ_ h=>h;exact⟨h'⟩
def lnS {l:List Int}{x:Int}(h:l.length<4294967296):(SC.ints (l++[x])).len <=xE:=by grind[SC.len,xE]
def lnN {l:List Int}(h:l.length<=4294967296):(SC.ints ([]++l)).len <=xE:=by grind[SC.len,xE]
def lnC {l l':List Int}(h:l.length+l'.length<=4294967296):(SC.ints (l++l')).len <=xE:=by grind[SC.len,xE]
def lvS {l:List (List SC)}{x:List SC}(h:l.length<4294967296):(SC.view (l++[x])).len <=xE:=by grind[SC.len,xE]
def lvN {l:List (List SC)}(h:l.length<=4294967296):(SC.view ([]++l)).len <=xE:=by grind[SC.len,xE]
def lvC {l l':List (List SC)}(h:l.length+l'.length<=4294967296):(SC.view (l++l')).len <=xE:=by grind[SC.len,xE]
def uvS {x:List SC}{z:Nat}(h:x.length=z):(SC.view [x]).zW z:=by intro e he;grind
def uvN {x:List SC}{z:Nat}(h:x.length=z):(SC.view ([]++[x])).zW z:=by intro e he;grind
end Go.Fw
namespace Go.Fw
open Go.RowKit (Below)
open Classical
def bx (C:bU)(f:FuncId)(nx:Nat)(xs:List DX)(Hs:Hp)(fK:List Nat)(r:DV)(mq:Hp):Prop:=
 iN C.P f=true/\∀(F:gN) (β:Nat->Option Nat) (N:Nat->Prop) (w:World) (vs:Array Value),bJ C F->F.w0=w->(∀b,F.own b->live β Hs.get b)->ad F β N Hs.get w->(∀id,N id->tag id<nx)->
  vs.size=xs.length->(∀k x,xs[k]? =some x->au F β N Hs.get w (vs.getD k undef) x)->
  Calls C.P f vs w λe w'=>∃v cQ N',e= .returned v/\ad F cQ N' mq.get w'/\co F cQ N' mq.get w' v r/\∀id∈fK,∃b,β id=some b/\cQ id=some b
def DC.dJ (ok:Nat->Prop):DC->Prop
 | .ptr id _=>ok id
 | .own id=>ok id
 | .cI id _ _ _=>ok id
 | .mp id=>ok id
 | .sL _ id=>ok id
 |_=>True
def eh (ok:Nat->Prop)(x:DX):Prop:=∀d∈x.2,d.dJ ok
def lH (ok:Nat->Prop):DV->Prop
 | .val x=>eh ok x
 | .aI l=>∀x∈l,eh ok x
def cD.dJ (ok:Nat->Prop):cD->Prop
 | .box _ cs=>∀d∈cs,d.dJ ok
 | .aD _ l=>∀e∈l,∀d∈e,d.dJ ok
 |_=>True
def cB (Hs mq:Hp):Hp:=mq++Hs.map λp=>(p.1,none)
theorem Hp.get_none {H:Hp}{id:Nat}(h:id∉H.map Prod.fst):H.get id=none:=by
 induction H with
 |nil=>rfl
 |cons p H ih=>
  obtain⟨j,b⟩:=p;simp only[jd,dl,not_or]at h;rw[Hp.av,aG _ _ _ h.1];grind
theorem Hp.dK {H:Hp}{id:Nat}{b:cD}(h:H.get id=some b):id∈H.map Prod.fst:=by
 by_cases hm:id∈H.map Prod.fst;omega
 grind[Hp.get_none]
def na (H:Hp)(K:HF)(id:Nat):H.on K id=if id∈H.map Prod.fst then H.get id else K id:=by
 induction H with
 |nil=>rfl
 |cons p H ih=>
  obtain⟨j,b⟩:=p;show bt _ _ _ id=_;rw[Hp.av]
  grind[an,aG]
def acR (H:Hp)(K:HF)(id:Nat):Hp.on (H.map λp=>(p.1,(none:Option cD))) K id=if id∈H.map Prod.fst then none else K id:=by
 rw[na];have e:(H.map λp=>(p.1,(none:Option cD))).map Prod.fst=H.map Prod.fst:=by simp_all
 rw[e];by_cases h:id∈H.map Prod.fst
 ·rw[if_pos h,if_pos h]
  cases hg:Hp.get (H.map λp=>(p.1,(none:Option cD))) id with
  |none=>rfl
  |some b=>
   exfalso
   have: ∀ {H:Hp},Hp.get (H.map λp=>(p.1,(none:Option cD))) id≠some b:=by
    intro H
    induction H with
    |nil=>simp[Hp.get]
    |cons p H ih=>
     intro h;rw[jd,Hp.av]at h
     grind[an,aG]
   grind
 grind
def tV (Hs mq:Hp)(H:HF)(id:Nat):(cB Hs mq).on H id=if id∈mq.map Prod.fst then mq.get id else if id∈Hs.map Prod.fst then none else H id:=by
 unfold cB;rw[Hp.UJ,na];by_cases h:id∈mq.map Prod.fst
 grind
 ·rw[if_neg h,if_neg h,acR]
section
variable {C:bU}{F:gN}{β cQ:Nat->Option Nat}{N N':Nat->Prop}{H:HF}{w w':World}{Hs mq:Hp}{fid:Nat}
noncomputable def gN.hand (F:gN)(β:Nat->Option Nat)(H:HF)(Hs:Hp)(w:World):gN:=⟨w,MV F β H w,live β Hs.get,[],w.heap.size,MR F β H w⟩
def P6 (hG:bJ C F)(hR:ad F β N H w)(hs: ∀id b,Hs.get id=some b->H id=some b):bJ C (F.hand β H Hs w):=by
 refine⟨eQ.later hG hR,λb o v e=>yh hG hR e,λg cs hm fN hl=>?_,eQ.mr hG,IZ hG hR,tH hG hR⟩;obtain⟨v,e1,_⟩:=(hG.ok g cs hm).1 0 cs[0] bv;obtain⟨id,bC,e,hb⟩:=hl;exact tE e1 (hG.UI g cs hm fN) (lT hR ⟨id,bC,hs id bC e,hb⟩).2
def gS (hR:ad F β N H w)(hs: ∀id b,Hs.get id=some b->H id=some b){b:Nat}(h:(F.hand β H Hs w).dL b):F.dL b:=by
 rcases h with h|h
 ·exact .inl (pd hR.below.size h)
 ·obtain⟨id,bC,e,hb⟩:=h;exact(lT hR ⟨id,bC,hs id bC e,hb⟩).2
def Jy (hR:ad F β N H w)(hs: ∀id b,Hs.get id=some b->H id=some b):(MV F β H w).le (MV (F.hand β H Hs w) β Hs.get w):=by
 intro b o v e;unfold MV;by_cases h1:(F.hand β H Hs w).dL b
 ·rw[if_pos h1];have h2:=gS hR hs h1;unfold MV at e;rw[if_pos h2]at e;split at e
  ·rename_i dw;have aox:fS β Hs.get b o:=λid bC e' hb=>dw id bC (hs id bC e') hb
   grind
  grind
 ·rw[if_neg h1];exact e
def Tq (_hG:bJ C F)(hR:ad F β N H w)(hs: ∀id b,Hs.get id=some b->H id=some b):(MR F β H w).le (MR (F.hand β H Hs w) β Hs.get w):=by
 intro b o v e;unfold MR;by_cases h1:(F.hand β H Hs w).dL b
 ·rw[if_pos h1];have h2:=gS hR hs h1;unfold MR at e;rw[if_pos h2]at e;exact Jy hR hs b o v e
 ·rw[if_neg h1];exact e
theorem uZ (hG:bJ C F)(hR:ad F β N H w)(hs: ∀id b,Hs.get id=some b->H id=some b){v:Value}{d:DC}(h:cw F β N H w v d):cw (F.hand β H Hs w) β N Hs.get w v d:=by
 cases d with
 |st c=>exact dy.mono (Jy hR hs) (Tq hG hR hs) h
 |nil=>exact h
 |ptr id off=>exact h
 |own id=>exact⟨h.1,h.2.1,λbC z n e hz=>h.2.2 bC z n (hs id bC e) hz⟩
 |cI id z i off=>exact h
 |sL g id=>exact h
 |mp id=>exact h
def P7 (hG:bJ C F)(hR:ad F β N H w)(hs: ∀id b,Hs.get id=some b->H id=some b){v:Value}{x:DX}(h:au F β N H w v x):au (F.hand β H Hs w) β N Hs.get w v x:=by
 unfold au at*;split
 ·rename_i hx;rw[if_pos hx]at h
  grind[uZ]
 ·rename_i hx;rw[if_neg hx]at h
  grind[uZ]
theorem Vx (hG:bJ C F)(hR:ad F β N H w)(hs: ∀id b,Hs.get id=some b->H id=some b):ad (F.hand β H Hs w) β N Hs.get w:=by
 have mv:=Jy hR hs (Hs:=Hs);have mr:=Tq hG hR hs (Hs:=Hs);refine⟨λid bC e=>⟨(hR.rel id bC (hs id bC e)).1,?_⟩,λi j b x y hi hj=>hR.inj i j b x y (hs i x hi) (hs j y hj),jy.refl _ _,λb o v e=>⟨yh hG hR e,λhm=>?_⟩⟩
 ·obtain⟨_,hB⟩:=hR.rel id bC (hs id bC e);have hm: ∀ {b:Nat},β id=some b->(F.hand β H Hs w).dL b:=λhb=>.inr ⟨id,bC,e,hb⟩
  cases bC with
  |box t cs=>
   obtain⟨b,arr,T,q1,q2,q3,q4,q5⟩:=hB;exact⟨b,arr,T,q1,hm q1,q3,q4,λk x hx=>uZ hG hR hs (q5 k x hx)⟩
  |ec cs=>
   obtain⟨b,arr,T,q1,q2,q3,q4,q5⟩:=hB;exact⟨b,arr,T,q1,hm q1,q3,q4,λk x hx=>(q5 k x hx).mono mv mr⟩
  |row m z c=>
   obtain⟨q0,q1|⟨b,cap,q1,q2,arr,T,p1,p2,p3,p4,p5,p6,p7⟩⟩:=hB
   ·exact LX
   ·exact⟨q0,.inr ⟨b,cap,q1,hm q1,arr,T,p1,p2,p3,p4,p5,p6,λi e j x he hx=>(p7 i e j x he hx).mono mv (Mem.le_refl _)⟩⟩
  |aD z l=>
   obtain⟨q0,q1|⟨b,cap,arr,T,q1,q2,q3,q4,q5,q6⟩⟩:=hB
   ·exact LX
   ·exact⟨q0,.inr ⟨b,cap,arr,T,q1,hm q1,q3,q4,q5,λi e k x hi hx=>uZ hG hR hs (q6 i e k x hi hx)⟩⟩
  |map es=>
   obtain⟨b,arr,ck,q1,q2,q3,q4,q5⟩:=hB;exact⟨b,arr,ck,q1,hm q1,q3,q4,λi k x e hi he=>let⟨a1,a2⟩:=q5 i k x e hi he;⟨a1,a2.mono mv mr⟩⟩
 ·have h2:=gS hR hs hm;have e:MV F β H w b o=some v:=e;unfold MV at e;rw[if_pos h2]at e;split at e
  ·rename_i dw;exact λid bC e' hb=>dw id bC (hs id bC e') hb
  grind
theorem Vy (hG:bJ C F)(hR:ad F β N H w)(hf: ∀id,N id->tag id≠tag fid)(hs: ∀id b,Hs.get id=some b->H id=some b){fK:List Nat}
  (qT: ∀id∈fK,(∃t cs,Hs.get id=some (.box t cs))/\∀b',mq.get id=some b'->∃t cs,b'= .box t cs)
  (am7: ∀id∈mq.map Prod.fst,id∈fK\/tag id=tag fid)(O7: ∀id b,mq.get id=some b->b.dJ λi=>i∈fK\/tag i=tag fid)
  (zU:ad (F.hand β H Hs w) cQ N' mq.get w')(xC: ∀id∈fK,∃b,β id=some b/\cQ id=some b){v:Value}{r:DV}(hv:co (F.hand β H Hs w) cQ N' mq.get w' v r)(hmr:lH (λi=>i∈fK\/tag i=tag fid) r):
  ∃GQ,Tr F β N H w GQ (bk N fid) ((cB Hs mq).on H) w'/\ad F GQ (bk N fid) ((cB Hs mq).on H) w'/\co F GQ (bk N fid) ((cB Hs mq).on H) w' v r:=by
 let GQ:Nat->Option Nat:=λid=>if tag id=tag fid then cQ id else β id
 generalize hH2:(cB Hs mq).on H=H2;have iV: ∀id,H2 id=if id∈mq.map Prod.fst then mq.get id else if id∈Hs.map Prod.fst then none else H id:=λid=>by rw[<- hH2,tV]
 have hN: ∀ {id:Nat} {b:cD},H id=some b->N id:=λe=>(hR.rel _ _ e).1
 have fC: ∀id,id∈fK\/tag id=tag fid->GQ id=cQ id/\bk N fid id:=by
  rintro id (h|h)
  ·obtain⟨⟨t,cs,e⟩,_⟩:=qT id h;have hn:=hN (hs id _ e);obtain⟨b,e1,e2⟩:=xC id h;exact⟨by grind,.inl hn⟩
  ·exact⟨if_pos h,.inr h⟩
 have xA: ∀id,N id->GQ id=β id:=λid hn=>if_neg (hf id hn);have sK: ∀ {id:Nat} {b:cD},H2 id=some b->(mq.get id=some b/\(id∈fK\/tag id=tag fid))\/(id∉mq.map Prod.fst/\id∉Hs.map Prod.fst/\H id=some b):=by grind
 have Pa: ∀ {id:Nat} {b:cD} {x:Nat},H id=some b->id∉Hs.map Prod.fst->β id=some x->¬(F.hand β H Hs w).dL x:=by
  rintro id b x e hn hb (h|⟨iW,blk',e',jW⟩)
  ·have h1:=(hR.fY e hb).1;have h:w.heap.size<=x:=h;omega
  ·have:=hR.inj id iW x b blk' e (hs iW blk' e') hb jW
   grind[Hp.dK]
 have an4: ∀ {id:Nat} {b:cD} {x:Nat},mq.get id=some b->cQ id=some x->(F.hand β H Hs w).dL x:=λe hb=>(zU.fY e hb).2;have RU: ∀ {b:Nat},b<w.heap.size->¬(F.hand β H Hs w).dL b->w'.heap[b]? =w.heap[b]? :=λh1 h2=>zU.below.block _ h1 h2
 have an2: ∀ {b o:Nat},(F.hand β H Hs w).dL b->fS cQ mq.get b o->fS GQ H2 b o:=by
  intro b o hm dw id bC e hb
  rcases sK e with⟨e',h⟩|⟨_,h2,e'⟩
  ·rw[(fC id h).1]at hb;exact dw id bC e' hb
  grind
 have abL: ∀ {b o:Nat} {v:Value},MV F β H w b o=some v->rd w' b o=some v/\(F.dL b->fS GQ H2 b o):=by
  intro b o v e;by_cases h1:(F.hand β H Hs w).dL b
  ·obtain⟨a1,a2⟩:=zU.tg b o v e
   grind
  ·have IF:=yh hG hR e;have ak:=IS _ _ IF;refine⟨(PA (w:=w) (a:=⟨b,o,none⟩) (RU ak h1)).trans IF,λhF=>?_⟩;unfold MV at e;rw[if_pos hF]at e;split at e
   ·rename_i dw;intro id bC e' hb
    rcases sK e' with⟨e'',h⟩|⟨_,_,e''⟩
    grind
    ·rw[xA id (hN e'')]at hb;exact dw id bC e'' hb
   grind
 have mvC:(MV F β H w).le (MV F GQ H2 w'):=by
  intro b o v e;obtain⟨a1,a2⟩:=abL e;unfold MV;by_cases hF:F.dL b
  grind
  ·rw[if_neg hF];unfold MV at e;grind
 have mvG:(MV (F.hand β H Hs w) cQ mq.get w').le (MV F GQ H2 w'):=by
  intro b o v e;by_cases h1:(F.hand β H Hs w).dL b
  ·unfold MV at e;rw[if_pos h1]at e;split at e
   ·rename_i dw;unfold MV;rw[if_pos (gS hR hs h1),if_pos (an2 h1 dw)];exact e
   grind
  ·unfold MV at e;rw[if_neg h1]at e;exact mvC b o v e
 have mrC: ∀ {b o:Nat} {v:Value},MR F β H w b o=some v->MR F GQ H2 w' b o=some v:=by
  intro b o v e;unfold MR at e ⊢;by_cases hF:F.dL b
  ·rw[if_pos hF]at e ⊢;exact mvC b o v e
  grind
 have mrG:(MR (F.hand β H Hs w) cQ mq.get w').le (MR F GQ H2 w'):=by
  intro b o v e;by_cases h1:(F.hand β H Hs w).dL b
  ·unfold MR at e ⊢;rw[if_pos h1]at e;rw[if_pos (gS hR hs h1)];exact mvG b o v e
  ·have e2:MR (F.hand β H Hs w) cQ mq.get w' b o=(F.hand β H Hs w).mr0 b o:=by unfold MR;grind
   rw[e2]at e;exact mrC e
 have aew: ∀ {id:Nat} {b:cD},(id∈fK\/tag id=tag fid)->H2 id=some b->mq.get id=some b:=by grind[Hp.dK]
 have rD: ∀ {v:Value} {d:DC},cw (F.hand β H Hs w) cQ N' mq.get w' v d->d.dJ (λi=>i∈fK\/tag i=tag fid)->cw F GQ (bk N fid) H2 w' v d:=by
  intro v d h hm
  cases d with
  |st c=>exact dy.mono mvG mrG h
  |nil=>exact h
  |ptr id off=>
   exact K89
  |own id=>
   refine⟨(fC id hm).2,h.2.1,λbC z n e hz=>?_⟩;have:=h.2.2 bC z n (aew hm e) hz;unfold U4 at*;rw[(fC id hm).1];omega
  |cI id z i off=>
   exact K89
  |sL g id=>
   exact K89
  |mp id=>
   exact K89
 have rX: ∀ {v:Value} {x:DX},au (F.hand β H Hs w) cQ N' mq.get w' v x->eh (λi=>i∈fK\/tag i=tag fid) x->au F GQ (bk N fid) H2 w' v x:=by
  intro v x h hm;unfold au at*;split
  ·rename_i hx;rw[if_pos hx]at h;obtain⟨arr,h1,h2,h3⟩:=h;exact⟨arr,h1,h2,λk c hc=>rD (h3 k c hc) (hm c (jI hc))⟩
  ·rename_i hx;rw[if_neg hx]at h;obtain⟨c,h1,h2⟩:=h;exact⟨c,h1,rD h2 (hm c bv)⟩
 have aom: ∀ {id:Nat} {b:cD},N id->H2 id=some b->b.sz≠none->id∉mq.map Prod.fst/\id∉Hs.map Prod.fst/\H id=some b:=by
  intro id b hn e hz;rcases sK e with⟨e',h⟩|h
  ·rcases h with h|h
   ·obtain⟨_,hb⟩:=qT id h;obtain⟨t,cs,rfl⟩:=hb b e';exact absurd rfl hz
   grind
  omega
 have afA:jy F.dL w w':=zU.below.mono λb _ h=>gS hR hs h
 have tr:Tr F β N H w GQ (bk N fid) H2 w':=by
  refine⟨afA,λb o v hb dw e=>?_,λ_ h=>.inl h,xA,λid blk' hn e=>?_,λid blk' zn b arr T hn e hz hb hm he=>?_,λk x e=>?_⟩
  ·have wJ:MV F β H w b o=some v:=by unfold MV;grind
   grind
  ·rcases sK e with⟨e',h⟩|⟨_,_,e'⟩
   ·rcases h with h|h
    ·obtain⟨⟨t,cs,e0⟩,hb⟩:=qT id h;obtain⟨t',xz,rfl⟩:=hb blk' e';exact⟨_,hs id _ e0,trivial⟩
    grind
   ·exact⟨blk',e',blk'.fV⟩
  grind
  ·rw[RU (kN e) λhm=>?_];omega
   ·rcases hm with h|hl
    ·have:=kN e;have h:w.heap.size<=k:=h;omega
    ·obtain⟨id,bC,e1,e2⟩:=hl
     rcases Dx hR ⟨id,bC,hs id bC e1,e2⟩with⟨arr,T,h⟩|⟨es,ck,h⟩
     grind
     grind
 refine⟨GQ,tr,⟨λid bC e=>?_,λi j b x y hi hj bi bj=>?_,hR.below.trans afA,tr.tg hR.tg⟩,?_⟩
 ·rcases sK e with⟨e',h⟩|⟨_,h2,e'⟩
  ·obtain⟨eb,hn⟩:=fC id h;refine⟨hn,?_⟩;obtain⟨_,hB⟩:=zU.rel id bC e';have hme:=O7 id bC e'
   cases bC with
   |box t cs=>
    obtain⟨b,arr,T,q1,q2,q3,q4,q5⟩:=hB;exact⟨b,arr,T,by grind,gS hR hs q2,q3,q4,λk x hx=>rD (q5 k x hx) (hme x (jI hx))⟩
   |ec cs=>
    obtain⟨b,arr,T,q1,q2,q3,q4,q5⟩:=hB;exact⟨b,arr,T,by grind,gS hR hs q2,q3,q4,λk x hx=>(q5 k x hx).mono mvG mrG⟩
   |row m z c=>
    obtain⟨q0,q1|⟨b,cap,q1,q2,arr,T,p1,p2,p3,p4,p5,p6,p7⟩⟩:=hB
    ·exact Yl
    ·exact⟨q0,.inr ⟨b,cap,by grind,gS hR hs q2,arr,T,p1,p2,p3,p4,p5,p6,λi e j x he hx=>(p7 i e j x he hx).mono mvG (Mem.le_refl _)⟩⟩
   |aD z l=>
    obtain⟨q0,q1|⟨b,cap,arr,T,q1,q2,q3,q4,q5,q6⟩⟩:=hB
    ·exact Yl
    ·exact⟨q0,.inr ⟨b,cap,arr,T,by grind,gS hR hs q2,q3,q4,q5,λi e k x hi hx=>rD (q6 i e k x hi hx) (hme e (jI hi) x (jI hx))⟩⟩
   |map es=>
    obtain⟨b,arr,ck,q1,q2,q3,q4,q5⟩:=hB;exact⟨b,arr,ck,by grind,gS hR hs q2,q3,q4,λi k x e hi he=>let⟨a1,a2⟩:=q5 i k x e hi he;⟨a1,a2.mono mvG mrG⟩⟩
  ·have hn:=hN e';have eb:=xA id hn;refine⟨.inl hn,?_⟩;obtain⟨_,hB⟩:=hR.rel id bC e';have hw: ∀ {b:Nat},β id=some b->w'.heap[b]? =w.heap[b]? :=λhb=>RU (hR.fY e' hb).1 (Pa e' h2 hb);have rd0: ∀ {v:Value} {d:DC},cw F β N H w v d->cw F GQ (bk N fid) H2 w' v d:=λh=>tr.jw hR h
   cases bC with
   |box t cs=>
    obtain⟨b,arr,T,q1,q2,q3,q4,q5⟩:=hB;exact⟨b,arr,T,by grind,q2,by grind,q4,λk x hx=>rd0 (q5 k x hx)⟩
   |ec cs=>
    obtain⟨b,arr,T,q1,q2,q3,q4,q5⟩:=hB;exact⟨b,arr,T,by grind,q2,by grind,q4,λk x hx=>(q5 k x hx).mono tr.mv tr.mr⟩
   |row m z c=>
    obtain⟨q0,q1|⟨b,cap,q1,q2,arr,T,p1,p2,p3,p4,p5,p6,p7⟩⟩:=hB
    ·exact Yl
    ·exact⟨q0,.inr ⟨b,cap,by grind,q2,arr,T,by grind,p2,p3,p4,p5,p6,λi e j x he hx=>(p7 i e j x he hx).mono tr.mv (Mem.le_refl _)⟩⟩
   |aD z l=>
    obtain⟨q0,q1|⟨b,cap,arr,T,q1,q2,q3,q4,q5,q6⟩⟩:=hB
    ·exact Yl
    ·exact⟨q0,.inr ⟨b,cap,arr,T,by grind,q2,by grind,q4,q5,λi e k x hi hx=>rd0 (q6 i e k x hi hx)⟩⟩
   |map es=>
    obtain⟨b,arr,ck,q1,q2,q3,q4,q5⟩:=hB;exact⟨b,arr,ck,by grind,q2,by grind,q4,λi k x e hi he=>let⟨a1,a2⟩:=q5 i k x e hi he;⟨a1,a2.mono tr.mv tr.mr⟩⟩
 ·rcases sK hi with⟨ei,h1⟩|⟨_,n1,ei⟩
  ·rcases sK hj with⟨ej,h2⟩|⟨_,n2,ej⟩
   ·rw[(fC i h1).1]at bi;rw[(fC j h2).1]at bj;exact zU.inj i j b _ _ ei ej bi bj
   grind
  ·rcases sK hj with⟨ej,h2⟩|⟨_,n2,ej⟩
   grind
   ·rw[xA i (hN ei)]at bi;rw[xA j (hN ej)]at bj;exact hR.inj i j b _ _ ei ej bi bj
 ·cases r with
  |val x=>exact rX hv hmr
  |aI l=>
   obtain⟨arr,h1,h2,h3⟩:=hv;exact⟨arr,h1,h2,λk x hk=>rX (h3 k x hk) (hmr x (jI hk))⟩
theorem cw.less {M:Nat->Prop}{v:Value}{d:DC}(h:cw F β N H w v d)(hm:d.dJ M):cw F β M H w v d:=by
 cases d with
 |st c=>exact h
 |nil=>exact h
 |ptr id off=>exact⟨hm,h.2⟩
 |own id=>exact⟨hm,h.2⟩
 |cI id z i off=>exact⟨hm,h.2⟩
 |sL g id=>exact⟨hm,h.2⟩
 |mp id=>exact⟨hm,h.2⟩
def au.less {M:Nat->Prop}{v:Value}{x:DX}(h:au F β N H w v x)(hm:eh M x):au F β M H w v x:=by
 unfold au at*;split
 ·rename_i hx;rw[if_pos hx]at h;obtain⟨arr,h1,h2,h3⟩:=h;exact⟨arr,h1,h2,λk c hc=>(h3 k c hc).less (hm c (jI hc))⟩
 ·rename_i hx;rw[if_neg hx]at h;obtain⟨c,h1,h2⟩:=h;exact⟨c,h1,h2.less (hm c bv)⟩
theorem iB.less {M:Nat->Prop}{id:Nat}{b:cD}(h:iB F β N H w id b)(hm:b.dJ M):iB F β M H w id b:=by
 cases b with
 |box t cs=>obtain⟨b,arr,T,h1,h2,h3,h4,h5⟩:=h;exact⟨b,arr,T,h1,h2,h3,h4,λk x hx=>(h5 k x hx).less (hm x (jI hx))⟩
 |ec cs=>exact h
 |row m z c=>exact h
 |aD z l=>
  obtain⟨q0,q1|⟨b,cap,arr,T,q1,q2,q3,q4,q5,q6⟩⟩:=h
  ·exact LX
  ·exact⟨q0,.inr ⟨b,cap,arr,T,q1,q2,q3,q4,q5,λi e k x hi hx=>(q6 i e k x hi hx).less (hm e (jI hi) x (jI hx))⟩⟩
 |map es=>exact h
def ad.less {M:Nat->Prop}(h:ad F β N H w)(hm: ∀id b,H id=some b->M id/\b.dJ M):ad F β M H w:=
 ⟨λid b e=>⟨(hm id b e).1,(h.rel id b e).2.less (hm id b e).2⟩,h.inj,h.below,h.tg⟩
def gr {f:FuncId}{nx:Nat}{xs:List DX}{fK:List Nat}{r:DV}(h:bx C f nx xs Hs fK r mq)(it: ∀id∈Hs.map Prod.fst,tag id<nx)(hs: ∀id∈Hs.map Prod.fst,Hs.get id=H id)
  (Ce: ∀id b,Hs.get id=some b->b.dJ λi=>i∈Hs.map Prod.fst)(Cd: ∀x∈xs,eh (λi=>i∈Hs.map Prod.fst) x)
  (qT: ∀id∈fK,(∃t cs,Hs.get id=some (.box t cs))/\∀b',mq.get id=some b'->∃t cs,b'= .box t cs)
  (am7: ∀id∈mq.map Prod.fst,id∈fK\/tag id=tag fid)(O7: ∀id b,mq.get id=some b->b.dJ λi=>i∈fK\/tag i=tag fid)(hmr:lH (λi=>i∈fK\/tag i=tag fid) r):
  bX C fid f xs H r (cB Hs mq) (Hs.map Prod.fst):=by
 refine⟨h.1,λF β N H' w vs Pe hG hR hf nC dQ=>?_⟩;have hs': ∀id b,Hs.get id=some b->H' id=some b:=λid b e=>by grind[Hp.dK]
 have Xr:=Vx hG hR hs';have hR2:ad (F.hand β H' Hs w) β (λi=>i∈Hs.map Prod.fst) Hs.get w:=Xr.less λid b e=>⟨Hp.dK e,Ce id b e⟩;have hc:=h.2 (F.hand β H' Hs w) β _ w vs (P6 hG hR hs') rfl (λ_ h=>h) hR2 (λid hid=>it id hid) nC λk x hx=>(P7 hG hR hs' (dQ k x hx)).less (Cd x (jI hx));refine hc.mono λe w' he=>?_;obtain⟨v,cQ,N',rfl,q1,q2,q3⟩:=he;obtain⟨GQ,a1,a2,a3⟩:=Vy hG hR hf hs' qT am7 O7 q1 q3 q2 hmr
 grind
end
def iF:Nat->List DX->dG
 |_,[]=>[]
 |i,x::xs=>(i,some (.val x))::iF (i+1) xs
def P8 {xs:List DX}: ∀ {i s:Nat} {dv:DV},(iF i xs).get s=some dv->∃k x,s=i+k/\xs[k]? =some x/\dv= .val x:=by
 induction xs with
 |nil=>intro i s dv h;simp[iF,dG.get]at h
 |cons x xs ih=>
  intro i s dv h;unfold iF at h;rw[dG.av]at h;simp only at h;by_cases hs:s=i
  ·rw[if_pos hs]at h;simp at h;subst h;exact⟨0,x,by omega,rfl,rfl⟩
  ·rw[if_neg hs]at h;obtain⟨k,y,e,h1,h2⟩:=ih h;exact⟨k+1,y,by omega,by simpa using h1,h2⟩
def pv:List DX->DV
 | [x]=>.val x
 |l=>.aI l
section
variable {C:bU}{fn:Func}{F:gN}{β:Nat->Option Nat}{N:Nat->Prop}{H:HF}{w:World}
theorem Vz {xs:List DX}{vs:List Value}(hl:vs.length=xs.length)(h: ∀k x,xs[k]? =some x->au F β N H w (vs.getD k undef) x):co F β N H w (Bi vs) (pv xs):=by
 match xs,vs with
 | [],[]=>exact⟨#[],rfl,rfl,by simp⟩
 | [x],[v]=>exact h 0 x rfl
 |x::y::xs,v::u::vs=>
  refine⟨(v::u::vs).toArray,rfl,by simpa using hl,λk z hk=>?_⟩;have:=h k z hk;simpa [sN,jN]using this
def fA (hC:C.Ok){f:FuncId}{c:Code}{xs:List DX}{Hs mq:Hp}{nx:Nat}{r:DV}{ret:St->Prop}(hn:iN C.P f=true)(hf:C.P.funcs[f]? =some fn)(hb:fn.body=some c)(uT:bS fn.ntmps c=true)(dQ:xs.length<=fn.ntmps)
  (A:List (Nat × Nat))(hA: ∀p∈A,∃off,xs[p.1]? =some (false,[.ptr p.2 off]))(Ph:aN (A.map Prod.fst) c=true)
  (eM: ∀S,ret S->∃m:List (Nat × Nat),cZ m S.hp.get mq.get/\(∀p∈A,∃o off,S.env.get p.1=some (.val (false,[.ptr o off]))/\(o,p.2)∈m)/\
   eB C S.hp.get S.env.get fn.results.toList λys=>∃zs,kT m ys=some zs/\pv zs=r)
  (h:m8 C c ⟨iF 0 xs,Hs,nx⟩ ret (λ_ _=>False) ret):bx C f nx xs Hs (A.map Prod.snd) r mq:=by
 refine⟨hn,λF β N w vs hG CE jr hR hN nC xy=>?_⟩;let F1:gN:={F with fixed:=A.map λp=>(p.1,vs.getD p.1 undef),db:=w.heap.size};have hG1:bJ C F1:=⟨hG.ok,hG.mv,hG.UI,hG.rok,hG.rle,hG.mvr⟩;have Xr:ad F1 β N Hs.get w:=⟨hR.rel,hR.inj,hR.below,hR.tg⟩;have FT:F1.base=w.heap.size:=by show F.w0.heap.size=_;rw[CE]
 refine(callsIn_wide (n:=0)).1 (callsIn_of_wp_marks hf hb trivial ?_ rfl);have iV: ∀s,s<xs.length->(vs++Array.replicate (fn.ntmps -vs.size) undef).getD s undef=vs.getD s undef:=λs hs=>by simp[sN,Sm,nC,hs]
 have hE:dM F1 β N Hs.get w (iF 0 xs).get {tmps:=vs++Array.replicate (fn.ntmps -vs.size) undef,defers:=[]}:=by
  intro s dv hs;obtain⟨k,x,h1,h2,rfl⟩:=P8 hs;rw[j7]at h1;subst h1;have ak:s<xs.length:=(kJ.1 h2).1;show au _ _ _ _ _ ((vs++Array.replicate (fn.ntmps -vs.size) undef).getD s undef) x;rw[iV s ak];exact xy s x h2
 have aht: ∀p∈F1.fixed,(vs++Array.replicate (fn.ntmps -vs.size) undef).getD p.1 undef=p.2:=by
  intro p hp;obtain⟨q,hq,rfl⟩:=dT.1 hp;obtain⟨off,e⟩:=hA q hq;exact iV _ (kJ.1 e).1
 have hrel:Rel F1 fn.ntmps ⟨iF 0 xs,Hs,nx⟩ {tmps:=vs++Array.replicate (fn.ntmps -vs.size) undef,defers:=[]} w:=
  ⟨N,⟨by simp;omega,eE.nil _ _,aht,β,hE,Xr⟩,hN⟩
 have O8: ∀S a w',ret S->Rel F1 fn.ntmps S a w'->LeavesInM Fence.wide 0 C.P fn a.tmps (λe w'=>∃v cQ N',e= .returned v/\ad F cQ N' mq.get w'/\co F cQ N' mq.get w' v r/\∀id∈A.map Prod.snd,∃b,β id=some b/\cQ id=some b) a.defers .returning w':=by
  rintro S a w' hr ⟨N1,⟨hs,hd,hfx,β1,hE1,Xr⟩,hN1⟩;obtain⟨m,hm,han,hr⟩:=eM S hr;refine Ai (F:=F1) (S:=S) (β:=β1) (N:=N1) akq (λw' hB=>?_) a.defers w' ⟨hs,hE1,Xr,hN1⟩ hd;obtain⟨ys,ws,GQ,N2,⟨zs,h1,rfl⟩,ht,hR2,h2,h3,h4⟩:=DA (a:={tmps:=a.tmps,defers:=[]}) hC hG1 hB.heap hB.env hr;have hR3:=hm.nD hR2;obtain⟨e1,e2⟩:=HE h1
  have hv:co F1 (pN m GQ) (yC m) mq.get w' (Bi ws) (pv zs):=by
   refine Vz (by rw[h3,e1]) λk x hk=>?_;obtain⟨d,c,d1,d2,rfl⟩:=e2 k x hk;exact hm.su (h4 k d d1) d2
  refine⟨_,Bj h2,_,pN m GQ,yC m,rfl,⟨hR3.rel,hR3.inj,hR3.below,hR3.tg⟩,hv,λid hid=>?_⟩;obtain⟨p,hp,rfl⟩:=dT.1 hid;obtain⟨off,e⟩:=hA p hp;obtain⟨o,aoh,e3,e4⟩:=han p hp;obtain⟨_,b,q1,q2⟩:cw F β N Hs.get w (vs.getD p.1 undef) (.ptr p.2 off):=au.am (xy p.1 _ e);obtain⟨q3,b',q4,q5⟩:cw F1 β1 N1 S.hp.get w' (a.tmps.getD p.1 undef) (.ptr o aoh):=au.am (hB.env p.1 _ e3);have wK:=hfx (p.1,vs.getD p.1 undef) (dT.2 ⟨p,hp,rfl⟩);simp only at wK;rw[q5,q2]at wK;simp at wK;refine⟨b,q1,?_⟩;rw[hm.kH e4,ht.kH o q3,q4,wK.1]
 refine(wpIn_wide (n:=0)).2 (HC (F:=F1) hC hG1 akq (by show aN ((A.map λp=>(p.1,vs.getD p.1 undef)).map Prod.fst) c=true;rw[z6];exact Ph) uT h.out hrel (λS a w' eM hr=>?_) (λ_ _ _ _ h=>h.elim) λS a w' eM hr=>?_)
 ·exact acq
 ·exact acq
end
end Go.Fw
namespace Go.Fw
open Go.RowKit (Below)
inductive Full (H:HF) (R:List Nat):DC->SC->Prop
 |st (c:SC):Full H R (.st c) c
 |nil (k:Bool):Full H R .nil (A5 k)
 |any (d:DC):Full H R d .any
 |row {id:Nat} {m:Bool} {z:Nat} {c:SC} (hr:id∈R) (h:H id=some (.row m z c)):Full H R (.own id) c
 |aD {id z:Nat} {l:List (List DC)} {es:List (List SC)} (hr:id∈R) (h:H id=some (.aD z l)) (hl:es.length=l.length)
   (he: ∀(i:Nat) (e:List DC) (e':List SC),l[i]? =some e->es[i]? =some e'->e'.length=e.length)
   (hc: ∀(i:Nat) (e:List DC) (e':List SC) (k:Nat) (d:DC) (c:SC),l[i]? =some e->es[i]? =some e'->e[k]? =some d->e'[k]? =some c->Full H R d c)
   (ox: ∀(i:Nat) (e':List SC) (k:Nat) (c:SC),es[i]? =some e'->e'[k]? =some c->c.flat=true):Full H R (.own id) (.view es)
 |ec {id off:Nat} {cs:List SC} (hr:id∈R) (h:H id=some (.ec cs)):Full H R (.ptr id off) (.ref (cs.drop off))
 |box {id off:Nat} {t:TypeId} {ds:List DC} {cs:List SC} (hr:id∈R) (h:H id=some (.box t ds)) (hl:cs.length=ds.length) (hc: ∀(k:Nat) (d:DC) (c:SC),ds[k]? =some d->cs[k]? =some c->Full H R d c):
   Full H R (.ptr id off) (.ref (cs.drop off))
 |XI {id z i off:Nat} {l:List (List DC)} {e:List DC} {cs:List SC} (hr:id∈R) (h:H id=some (.aD z l)) (hi:l[i]? =some e) (hl:cs.length=e.length) (hc: ∀(k:Nat) (d:DC) (c:SC),e[k]? =some d->cs[k]? =some c->Full H R d c):
   Full H R (.cI id z i off) (.ref (cs.drop off))
 |aez {id z i off:Nat} {m:Bool} {c:SC} {e:List SC} (hr:id∈R) (h:H id=some (.row m z c)) (hi:c.elem i=some e):Full H R (.cI id z i off) (.ref (e.drop off))
 |sL {g id:Nat} {t:TypeId} {ds:List DC} {cs:List SC} (hr:id∈R) (h:H id=some (.box t ds)) (hl:cs.length=ds.length) (hc: ∀(k:Nat) (d:DC) (c:SC),ds[k]? =some d->cs[k]? =some c->Full H R d c):
   Full H R (.sL g id) (.fn g [] [cs])
def Bm (H:HF)(R:List Nat)(x:DX)(y:SV):Prop:=y.1=x.1/\y.2.length=x.2.length/\∀(k:Nat) (d:DC) (c:SC),x.2[k]? =some d->y.2[k]? =some c->Full H R d c
def MD (H:HF)(R:List Nat)(xs:List DX)(l:List SV):Prop:=l.length=xs.length/\∀(k:Nat) (x:DX) (y:SV),xs[k]? =some x->l[k]? =some y->Bm H R x y
def oK:SC->Bool
 | .lit _=>true
 | .ref []=>true
 | .view []=>true
 | .ints []=>true
 |_=>false
def DF (x:SV):Bool:=x.2.all oK
def Jz (c:SC):Prop:=∀(i:Nat) (e:List SC) (k:Nat) (x:SC),c.elem i=some e->e[k]? =some x->∃v,x= .lit v
def JA:lO->Prop
 | .one x=>DF x=true
 | .aI l=>∀x∈l,DF x=true
 | .own _ c=>Jz c
 | .mix _ l _ c=>Jz c/\∀x∈l,∀o∈x.2,∀c,o=some c->oK c=true
 | .uV _ _=>False
section
variable {C:bU}{F:gN}{β:Nat->Option Nat}{N:Nat->Prop}{H H':HF}{fid:Nat}{w w':World}{R:List Nat}
theorem DG (hG:bJ C F)(hR:ad F β N H' w)(hH: ∀id∈R,H' id=H id){d:DC}{c:SC}(hf:Full H R d c): ∀ {v:Value},cw F β N H' w v d->dy (rd w) (rd w) v c:=by
 have wJ:(MV F β H' w).le (rd w):=λb o v h=>yh hG hR h;have hmr:(MR F β H' w).le (rd w):=wg hG hR
 induction hf with
 |st c=>intro v h;exact dy.mono wJ hmr h
 |nil k=>intro v h;have h:v= .slice none 0 0:=h;subst h;exact .empty _ _ Yp Yp
 |any d=>intro v h;exact .any h.one_cell
 | @row id m z c hr h=>
  intro v hv;obtain⟨hn,h1,h2⟩:=hv;have hb:H' id=some (.row m z c):=by grind
  obtain⟨_,⟨hz,XB,iL⟩,gC⟩:=hR.rel id _ hb
  rcases h2 _ _ _ hb rfl with⟨a1,a2,rfl⟩|⟨b,cap,arr,T,a1,rfl,a3,a4⟩
  ·exact .empty _ _ XB a2
  ·by_cases h0:c.len=0
   ·rw[h0];exact .empty _ _ XB h0
   rcases gC with⟨q,_⟩|⟨b',jE,q1,q2,arr',T',e1,e2,e3,e4,e5,e6,e7⟩;omega
   ·rw[a1]at q1;cases q1;rw[a3]at e1;cases e1;have fZ:cap=jE:=by exact Yk
    subst fZ;refine .view b 0 cap z (λk=>arr.getD k undef) XB K0 hz e5 iL (λk hk=>?_) λi e j x he hx=>(e7 i e j x he hx).mono wJ (Mem.le_refl _);exact abX
 | @aD id z l es hr h hl he hc ox ih=>
  intro v hv;obtain⟨hn,h1,h2⟩:=hv;have hb:H' id=some (.aD z l):=by grind
  obtain⟨_,⟨hz,iL⟩,gC⟩:=hR.rel id _ hb;have bG:(SC.view es).len =l.length:=hl
  rcases h2 _ _ _ hb rfl with⟨a1,a2,rfl⟩|⟨b,cap,arr,T,a1,rfl,a3,a4⟩
  ·exact .empty _ _ rfl K0
  ·by_cases h0:l.length=0
   ·rw[h0];exact .empty _ _ rfl K0
   rcases gC with⟨q,_⟩|⟨b',jE,arr',T',q1,q2,e1,e2,e3,e4⟩;omega
   ·rw[a1]at q1;cases q1;rw[a3]at e1;cases e1;have fZ:cap=jE:=by exact Yk
    subst fZ;rw[<- bG]
    have key: ∀(i:Nat) (e':List SC),es[i]? =some e'->∃e,l[i]? =some e/\e'.length=e.length:=λi e' hi=>by
     have ak:=(kJ.1 hi).1;have Pf:i<l.length:=by omega
     exact⟨l[i],by grind,he i l[i] e' bv hi⟩
    refine .view b 0 cap z (λk=>arr.getD k undef) rfl K0 hz K0 (λi e hi=>?_) (λk hk=>?_) λi e j x hi hx=>?_
    ·obtain⟨e0,g1,g2⟩:=key i e hi
     grind
    ·exact abX
    ·obtain⟨e0,g1,g2⟩:=key i e hi;have hj:=(kJ.1 hx).1;have hj':j<e0.length:=by omega
     have hd:e0[j]? =some e0[j]:=by grind
     exact(ih i e0 e j e0[j] x g1 hi hd hx (e4 i e0 j e0[j] g1 hd)).flat (ox i e j x hi hx)
 | @ec id off cs hr h=>
  intro v hv;obtain⟨hn,b,jv,rfl⟩:=hv;have hb:H' id=some (.ec cs):=by grind
  obtain⟨_,b',arr,T,h1,h2,h3,h4,h5⟩:=hR.rel id _ hb;rw[jv]at h1;cases h1;exact qh h3 h4 λk x hx=>(h5 k x hx).mono wJ hmr
 | @box id off t ds cs hr h hl hc ih=>
  intro v hv;obtain⟨hn,b,jv,rfl⟩:=hv;have hb:H' id=some (.box t ds):=by grind
  obtain⟨_,b',arr,T,h1,h2,h3,h4,h5⟩:=hR.rel id _ hb;rw[jv]at h1;cases h1;refine qh h3 K0 λk x hx=>?_;exact aiN
 | @sL g id t ds cs hr h hl hc ih=>
  intro v hv;obtain⟨hn,b,jv,rfl⟩:=hv;have hb:H' id=some (.box t ds):=by grind
  obtain⟨_,b',arr,T,h1,h2,h3,h4,h5⟩:=hR.rel id _ hb;rw[jv]at h1;cases h1;have aoA:dy (rd w) (rd w) (.pointer (some ⟨b,0,none⟩)) (.ref (cs.drop 0)):=qh h3 K0 λk x hx=>by exact aiN
  refine .fn _ _ (λ_=> #[]) rfl rfl (λj c hj=>by grind) (λj c hj=>by grind) (λj c hj=>by grind) (λj c k x hj=>by grind) λj c hj=>?_
  cases j with
  |zero=>simp_all
  |succ j=>grind
 | @XI id z i off l e cs hr h hi hl hc ih=>
  intro v hv;obtain⟨hn,b,jv,rfl⟩:=hv;have hb:H' id=some (.aD z l):=by grind
  obtain⟨_,⟨hz,iL⟩,gC⟩:=hR.rel id _ hb
  rcases gC with⟨q,_⟩|⟨b',jE,arr',T',q1,q2,e1,e2,e3,e4⟩
  grind
  ·rw[jv]at q1;cases q1;have hez:e.length=z:=iL i e hi;have an6:=(kJ.1 hi).1;refine yk (o:=i*z) e1 ?_ λk x hx=>?_
   ·rw[e2,hl,hez];have:(i+1)*z<=jE*z:=kE z K0
    grind
   ·have hk:=(kJ.1 hx).1;have qR:k<e.length:=by omega
    have hd:e[k]? =some e[k]:=by grind
    grind
 | @aez id z i off m c e hr h hi=>
  intro v hv;obtain⟨hn,b,jv,rfl⟩:=hv;have hb:H' id=some (.row m z c):=by grind
  obtain⟨_,⟨hz,XB,iL⟩,gC⟩:=hR.rel id _ hb
  rcases gC with⟨q,_⟩|⟨b',jE,q1,q2,arr',T',e1,e2,e3,e4,e5,e6,e7⟩
  grind
  ·rw[jv]at q1;cases q1;have hez:e.length=z:=iL i e hi;have an6:=SC.iu hi;refine yk (o:=i*z) e1 ?_ λk x hx=>(e7 i e k x hi hx).mono wJ (ee _);rw[e2,hez];have:(i+1)*z<=jE*z:=kE z K0
   grind
def VA (hG:bJ C F)(hR:ad F β N H' w)(hH: ∀id∈R,H' id=H id){x:DX}{y:SV}(hf:Bm H R x y){v:Value}(hv:au F β N H' w v x):eu (rd w) (rd w) v y:=by
 obtain⟨g,ds⟩:=x;obtain⟨g',cs⟩:=y;obtain⟨e,hl,hc⟩:=hf;simp only at e hl hc;subst e;cases g'
 ·obtain⟨c,R6,hr⟩:=hv;simp only at R6;subst R6;obtain⟨c',rfl⟩:=xO.1 agn;exact⟨c',rfl,DG hG hR hH (hc 0 c c' rfl rfl) hr⟩
 ·obtain⟨arr,h1,h2,h3⟩:=hv;simp only at h2 h3;refine⟨arr,h1,by grind,λk c hk=>?_⟩;simp only at hk;have ak:=(kJ.1 hk).1;have Pf:k<ds.length:=by omega
  have hd:ds[k]? =some ds[k]:=by grind
  grind[DG]
theorem nK {mv mr mv' CF:Mem}{v:Value}{c:SC}(hm:oK c=true)(h:dy mv mr v c):dy mv' CF v c:=by
 unfold oK at hm;split at hm
 ·cases h with
  |lit h=>exact .lit h
  |empty _ _ hv=>grind[SC.ao]
  |view _ _ _ _ _ hv=>grind[SC.ao]
 ·exact aiE
 ·exact aja
 ·exact aja
 grind
def yH {mv mr mv' CF:Mem}{v:Value}{x:SV}(hm:DF x=true)(h:eu mv mr v x):eu mv' CF v x:=by
 have hall: ∀c∈x.2,oK c=true:=wL.1 hm;unfold eu at*;split
 ·rename_i hx;rw[if_pos hx]at h
  grind[nK]
 ·rename_i hx;rw[if_neg hx]at h
  grind[nK]
def DH {mv mv':Mem}{b z cap:Nat}{c:SC}(hl:Jz c)(h:LY w' mv b z c cap):LY w' mv' b z c cap:=by
 obtain⟨arr,T,h1,h2,h3,h4,h5,h6,h7⟩:=h;refine⟨arr,T,h1,h2,h3,h4,h5,h6,λi e j x he hx=>?_⟩;obtain⟨v,rfl⟩:=hl i e j x he hx;exact nK rfl (h7 i e j _ he hx)
theorem Bn {mv mv':Mem}{n:Nat}{v:Value}{r:lO}(hm:JA r)(h:qY mv n w' v r):qY mv' n w' v r:=by
 cases r with
 |one x=>exact yH hm h
 |aI l=>
  obtain⟨arr,h1,h2,h3⟩:=h;exact⟨arr,h1,h2,λk x hx=>yH (hm x (jI hx)) (h3 k x hx)⟩
 |own z c=>
  rcases h with h|⟨b,cap,h1,h2,h3⟩
  ·exact .inl h
  ·exact .inr ⟨b,cap,h1,h2,DH hm h3⟩
 |mix t l z c=>
  obtain⟨vo,m,hvo,hr⟩:=h
  have cell: ∀ {m':Mem} {v:Value} {o:Option SC},(∀c,o=some c->oK c=true)->PH m vo v o->PH m' vo v o:=by
   intro m' v o ho h
   cases o with
   |none=>exact h
   |some c=>exact nK (ho c rfl) h
  have aos: ∀ {m':Mem} {v:Value} {x:Bool × List (Option SC)},x∈l->BS m vo v x->BS m' vo v x:=by
   intro m' v x hx h;have ho: ∀ {k:Nat} {o:Option SC},x.2[k]? =some o->∀c,o=some c->oK c=true:=λhk=>hm.2 x hx _ (jI hk);unfold BS at*;split
   grind
   ·rename_i hg;rw[if_neg hg]at h;obtain⟨c,h1,h2⟩:=h;exact⟨c,h1,cell (ho (k:=0) bv) h2⟩
  have tail: ∀ {m':Mem},(if t then ∃arr,v= .tuple arr/\arr.size=l.length/\∀k x,l[k]? =some x->BS m' vo (arr.getD k undef) x else ∃x,l= [x]/\BS m' vo v x):=by grind
  rcases hvo with⟨a1,a2,a3,a4,a5,_⟩|⟨b,cap,a1,a2,a3,_⟩
  ·exact⟨vo,_,.inl ⟨a1,a2,a3,a4,a5,rfl⟩,tail⟩
  ·exact⟨vo,_,.inr ⟨b,cap,a1,a2,DH hm.1 a3,rfl⟩,tail⟩
 |uV z c=>exact hm.elim
def iP {f:FuncId}{xs:List DX}{l:List SV}{r:lO}{rv:DV}{u:Hp}(hx:MD H R xs l)(hs:nY C.P C.gl f l r)(hm:JA r)
  (hk:je fid [] R (λa b c=>a=rv/\b=u/\c=R) r):bX C fid f xs H rv u R:=by
 rcases hs with hs|hs
 ·refine⟨hs.1,λF β N H' w vs hH hG hR hf nC hv=>?_⟩
  have dQ:pf (rd w) (rd w) vs l:=by
   refine⟨by rw[nC,hx.1],λk y hk=>?_⟩;have ak:=(kJ.1 hk).1;have Pf:k<xs.length:=by rw[<- hx.1];omega
   have hd:xs[k]? =some xs[k]:=by grind
   exact VA hG hR hH (hx.2 k xs[k] y hd hk) (hv k xs[k] hd)
  refine(hs.2 (rd w) w vs (Mem.le_refl _) (eQ.later hG hR) dQ).mono λe w1 he=>?_;obtain⟨v,rfl,s9,lE⟩:=he;have hg:il C H' []:=il.ko (λp hp=>by cases hp);obtain⟨cQ,r',u',R',⟨rfl,rfl,_⟩,q1,q2,q3⟩:=Dh (K:=λa b c=>a=rv/\b=u/\c=R) (u:=[]) (rs:=R) (fid:=fid) hR (λh=>hf _ h rfl) hg s9 (Bn (mv':=MV F β H' w) hm lE) hk
  grind
 ·exact aj4
end
def acS {P:Program}{gl:tu}{f:FuncId}{g z cap:Nat}{cs:List SC}{es:List (List SC)}{rest:List SV}{r:lO}(hs:nY P gl f ((false,[.view es])::rest) r)(hm:JA r)(hg:(g,cs)∈gl)(hz:0<z)(hn:0<es.length)
  (fZ:es.length<=cap)(bG: ∀e∈es,e.length=z)(UC: ∀(i:Nat) (e:List SC) (j:Nat) (x:SC),es[i]? =some e->e[j]? =some x->cs[i*z+j]? =some x):nY P gl f ((false,[.raw (.slice (some ⟨g,0,none⟩) es.length cap)])::rest) r:=by
 rcases hs with hs|hs
 ·refine .inl ⟨hs.1,λmv w vs wJ hG hv=>?_⟩;obtain⟨nC,hv⟩:=hv;have amB: ∀(i:Nat) (e:List SC),(SC.view es).elem i=some e->e.length=z:=λi e he=>bG e (jI he)
  have dQ:pf (rd w) (rd w) vs ((false,[.view es])::rest):=by
   refine⟨nC,λk x hk=>?_⟩
   cases k with
   |succ k=>exact(hv (k+1) x bv).mono wJ (Mem.le_refl _)
   |zero=>
    simp only[UO,lM]at hk;subst hk;obtain⟨c,hc,hr⟩:=hv 0 _ rfl;simp only[BR,sv]at hc;subst hc;generalize vs.getD 0 undef=v0 at hr
    cases hr with
    |empty _ _ hv=>grind[SC.ao]
    |view _ _ _ _ _ hv=>grind[SC.ao]
    |raw s8=>
     refine⟨_,rfl,?_⟩;have amD:es.length=(SC.view es).len :=rfl;have fC:=hG g cs hg;rw[amD];refine .view g 0 cap z (λk=>(rd w g k).getD undef) rfl hn hz fZ amB (λk hk=>?_) λi e j x he hx=>?_
     ·have hk:k<es.length*z:=hk;have h1:k/z<es.length:=Nat.div_lt_of_lt_mul bv;have h2:k%z<z:=tq _ hz;have he:es[k/z]? =some es[k/z]:=by grind
      have hez:=bG _ (jI he);have hx:es[k/z][k%z]? =some es[k/z][k%z]:=by grind
      obtain⟨v,q1,_⟩:=fC.1 _ _ (UC _ _ _ _ he hx);have e1:k/z*z+k%z=k:=Nat.div_add_mod' k z
      grind
     ·obtain⟨v,q1,q2⟩:=fC.1 _ _ (UC _ _ _ _ he hx);rw[q1];exact q2.mono (ee _) (Mem.le_refl _)
  exact(hs.2 (rd w) w vs (Mem.le_refl _) hG dQ).mono λe w1 he=>let⟨v,h1,h2,h3⟩:=he;⟨v,h1,h2,Bn hm h3⟩
 ·exact aj4
open Classical
def DC.rn (ρ:Nat->Nat):DC->DC
 | .ptr id off=>.ptr (ρ id) off
 | .own id=>.own (ρ id)
 | .cI id z i off=>.cI (ρ id) z i off
 | .mp id=>.mp (ρ id)
 | .sL g id=>.sL g (ρ id)
 | .st c=>.st c
 | .nil =>.nil
def cD.rn (ρ:Nat->Nat):cD->cD
 | .box t cs=>.box t (cs.map (DC.rn ρ))
 | .aD z l=>.aD z (l.map λe=>e.map (DC.rn ρ))
 | .ec cs=>.ec cs
 | .row m z c=>.row m z c
 | .map es=>.map es
def Gk (ρ:Nat->Nat)(x:DX):DX:=(x.1,x.2.map (DC.rn ρ))
def La (ρ:Nat->Nat):DV->DV
 | .val x=>.val (Gk ρ x)
 | .aI l=>.aI (l.map (Gk ρ))
def nL (ks:List Nat)(ρ:Nat->Nat):List (Nat × Nat):=ks.map λk=>(k,ρ k)
def gg {ks:List Nat}{ρ:Nat->Nat}{o n:Nat}:(o,n)∈nL ks ρ↔o∈ks/\n=ρ o:=by
 simp only[nL,dT,ij];constructor
 ·rintro⟨k,hk,rfl,rfl⟩;exact⟨hk,rfl⟩
 ·rintro⟨hk,rfl⟩;exact⟨o,hk,rfl,rfl⟩
theorem qq {ks:List Nat}{ρ:Nat->Nat}{k:Nat}(h:k∈ks):bO (nL ks ρ) k=some (ρ k):=by
 induction ks with
 |nil=>cases h
 |cons a ks ih=>
  show bO ((a,ρ a)::nL ks ρ) k=_;simp only[bO];by_cases e:k=a
  ·subst e;simp
  ·have e':Nat.beq k a=false:=by
    cases hb:Nat.beq k a
    ·rfl
    ·exact absurd (pb hb) e
   rw[e'];exact ih ((dl.1 h).resolve_left e)
def Y9 {ks:List Nat}{ρ:Nat->Nat}{d:DC}(h:d.dJ (· ∈ks)):m9 (nL ks ρ) d=some (d.rn ρ):=by
 cases d<;>simp only[m9,DC.rn];all_goals(have h:_∈ks:=h;rw[qq h])
def oc {ks:List Nat}{ρ:Nat->Nat}: ∀ {l:List DC},(∀d∈l,d.dJ (· ∈ks))->e8 (nL ks ρ) l=some (l.map (DC.rn ρ))
 | [],_=>rfl
 |d::l,h=>by
  simp only[e8];rw[Y9 (h d jx),oc λx hx=>h x (ji _ hx)];rfl
def HG {ks:List Nat}{ρ:Nat->Nat}: ∀ {l:List DX},(∀x∈l,eh (· ∈ks) x)->kT (nL ks ρ) l=some (l.map (Gk ρ))
 | [],_=>rfl
 |x::l,h=>by
  simp only[kT];rw[oc (h x jx),HG λy hy=>h y (ji _ hy)];rfl
def HH {ks:List Nat}{ρ:Nat->Nat}{v:DV}(h:lH (· ∈ks) v):Bl (nL ks ρ) v=some (La ρ v):=by
 cases v with
 |val x=>simp only[Bl];rw[oc h];rfl
 |aI l=>simp only[Bl];rw[HG h];rfl
def ME {ks:List Nat}{ρ:Nat->Nat}: ∀ {l:List (List DC)},(∀e∈l,∀d∈e,d.dJ (· ∈ks))->fG (nL ks ρ) l=some (l.map λe=>e.map (DC.rn ρ))
 | [],_=>rfl
 |e::l,h=>by
  simp only[fG];rw[oc (h e jx),ME λx hx=>h x (ji _ hx)];rfl
def P9 {ks:List Nat}{ρ:Nat->Nat}{b:cD}(h:b.dJ (· ∈ks)):fp (nL ks ρ) b=some (b.rn ρ):=by
 cases b with
 |box t cs=>simp only[fp];rw[oc h];rfl
 |aD z l=>simp only[fp];rw[ME h];rfl
 |_=>rfl
structure nf (ks:List Nat) (ρ:Nat->Nat) (H H':HF):Prop where
 nd:ks.Nodup
 inj: ∀i∈ks,∀j∈ks,ρ i=ρ j->i=j
 dJ: ∀k b,H k=some b->b.dJ (· ∈ks)
 heap: ∀n b',H' n=some b'->∃o b,o∈ks/\n=ρ o/\H o=some b/\b'=b.rn ρ
def nf.ok {ks:List Nat}{ρ:Nat->Nat}{H H':HF}(h:nf ks ρ H H'):cZ (nL ks ρ) H H':=by
 refine⟨?_,?_,λn b' e=>?_⟩
 ·have:(nL ks ρ).map Prod.fst=ks:=by exact Ym
  rw[this];exact h.nd
 ·have:(nL ks ρ).map Prod.snd=ks.map ρ:=by exact Ym
  rw[this];have hn:=h.nd;have hi:=h.inj;clear h this
  induction ks with
  |nil=>exact LN
  |cons a ks ih=>
   rw[jd,xQ];rw[xQ]at hn;refine⟨λhm=>?_,ih hn.2 λi lA j hj=>hi i (ji _ lA) j (ji _ hj)⟩;obtain⟨k,hk,e⟩:=dT.1 hm;have:=hi k (ji _ hk) a jx e;subst this;exact hn.1 hk
 ·obtain⟨o,b,h1,h2,h3,h4⟩:=h.heap n b' e;exact⟨o,b,gg.2 ⟨h1,h2⟩,h3,by rw[h4];exact P9 (h.dJ o b h3)⟩
section
variable {C:bU}{f:FuncId}{nx nx0:Nat}{xs xs0:List DX}{Hs Hs0 mq Hs1:Hp}{fK:List Nat}{r:DV}{ks:List Nat}{ρ:Nat->Nat}
def bx.inn (h:bx C f nx (xs0.map (Gk ρ)) Hs fK r mq)(hR:nf ks ρ Hs0.get Hs.get)(hall: ∀o b,Hs0.get o=some b->o∈ks/\Hs.get (ρ o)=some (b.rn ρ))(it: ∀k∈ks,tag (ρ k)<nx)(Cd: ∀x∈xs0,eh (· ∈ks) x)
  (qT: ∀id∈fK,id∈ks/\ρ id=id):bx C f nx0 xs0 Hs0 fK r mq:=by
 have fC:=hR.ok;refine⟨h.1,λF β N w vs hG CE jr hH hN nC hv=>?_⟩;have hH2:=fC.nD hH;have e: ∀ {k:Nat},k∈ks->pN (nL ks ρ) β (ρ k)=β k:=λhk=>fC.kH (gg.2 ⟨hk,rfl⟩);refine(h.2 F (pN (nL ks ρ) β) (yC (nL ks ρ)) w vs hG CE (λb hb=>?_) hH2 (λid hid=>?_) (by rw[nC];simp) (λk x hk=>?_)).mono λe' w' he=>?_
 ·obtain⟨id,bC,q1,q2⟩:=jr b hb;obtain⟨q3,q4⟩:=hall id bC q1;exact⟨ρ id,_,q4,by rw[e q3];exact q2⟩
 ·obtain⟨o,ho⟩:=hid;obtain⟨q1,q2⟩:=gg.1 ho;rw[q2];exact it o q1
 ·exact aiq
 ·obtain⟨v,cQ,N',rfl,q1,q2,q3⟩:=he;refine⟨v,cQ,N',rfl,q1,q2,λid hid=>?_⟩;obtain⟨b,g1,g2⟩:=q3 id hid;obtain⟨g3,g4⟩:=qT id hid;refine⟨b,?_,g2⟩;rw[<- e g3,g4];exact g1
def bx.out (h:bx C f nx xs Hs fK r mq)(hR:nf ks ρ mq.get Hs1.get)(hr:lH (· ∈ks) r)(qT: ∀id∈fK,id∈ks/\ρ id=id):bx C f nx xs Hs fK (La ρ r) Hs1:=by
 have fC:=hR.ok;refine⟨h.1,λF β N w vs hG CE jr hH hN nC hv=>(h.2 F β N w vs hG CE jr hH hN nC hv).mono λe' w' he=>?_⟩;obtain⟨v,cQ,N',rfl,q1,q2,q3⟩:=he;refine⟨v,pN (nL ks ρ) cQ,yC (nL ks ρ),rfl,fC.nD q1,fC.vY q2 (HH hr),λid hid=>?_⟩;obtain⟨b,g1,g2⟩:=q3 id hid;obtain⟨g3,g4⟩:=qT id hid;refine⟨b,g1,?_⟩;have:=fC.kH (β:=cQ) (gg.2 ⟨g3,rfl⟩);rw[g4]at this;rw[this];exact g2
end
def aq (n root id:Nat):Nat:=match Nat.beq id root with
 |true=>id
 |false=>2*(n*4294967296+id)+1
def kc (n root:Nat):aq n root root=root:=by simp[aq]
def qr {n root id:Nat}(h:id≠root):aq n root id=2*(n*4294967296+id)+1:=by
 have e':Nat.beq id root=false:=by
  cases hb:Nat.beq id root
  ·rfl
  ·exact absurd (pb hb) h
 simp[aq,e']
theorem JB {id:Nat}(h:id%2=1):tag id=id/8589934592:=by
 unfold tag;rw[h]
def acT {n k:Nat}(hk:k<4294967296):(2*(n*4294967296+k)+1)/8589934592=n:=by
 have e:2*(n*4294967296+k)+1=(2*k+1)+8589934592*n:=by omega
 rw[e,Nat.add_mul_div_left _ _ K0,Nat.div_eq_of_lt K0,j7]
def qt {n root id:Nat}(h:id≠root)(hl:id<4294967296):tag (aq n root id)=n:=by rw[qr h,JB K0,acT hl]
def HI {n root:Nat}{i j:Nat}(hi:i<4294967296)(hj:j<4294967296)(hr:tag root≠n\/root<2*(n*4294967296)+1)(h:aq n root i=aq n root j):i=j:=by
 by_cases h1:i=root
 ·by_cases h2:j=root
  ·rw[h1,h2]
  ·exfalso;subst h1;have ht:=qt (n:=n) h2 hj;rw[kc]at h;rw[<- h]at ht;rcases hr with hr|hr
   ·exact hr ht
   ·rw[qr h2]at h;omega
 ·by_cases h2:j=root
  ·exfalso;subst h2;have ht:=qt (n:=n) h1 hi;rw[kc]at h;rw[h]at ht;rcases hr with hr|hr
   ·exact hr ht
   ·rw[qr h1]at h;omega
  ·rw[qr h1,qr h2]at h;omega
abbrev ah (T:Hp):List Nat:=T.map Prod.fst
def cP (ρ:Nat->Nat)(T:Hp):Hp:=T.map λp=>(ρ p.1,p.2.map (cD.rn ρ))
theorem di (ρ:Nat->Nat)(T:Hp):ah (cP ρ T)=(ah T).map ρ:=by simp[ah,cP,FW]
def jR {ρ:Nat->Nat}: ∀ {T:Hp},(∀i∈ah T,∀j∈ah T,ρ i=ρ j->i=j)->∀k∈ah T,(cP ρ T).get (ρ k)=(T.get k).map (cD.rn ρ)
 | [],_,k,hk=>by cases hk
 |(a,b)::T,hi,k,hk=>by
  show Hp.get ((ρ a,b.map (cD.rn ρ))::cP ρ T) (ρ k)=_;rw[Hp.av,Hp.av];by_cases e:k=a
  ·subst e;rw[an,an]
  ·have qR:k∈ah T:=(dl.1 hk).resolve_left e;rw[aG _ _ _ e,aG _ _ _ λh=>e (hi k hk a jx h)];exact jR (λi h1 j h2=>hi i (ji _ h1) j (ji _ h2)) k qR
structure HJ (T:Hp) (root:Nat):Prop where
 nd:(ah T).Nodup
 lt: ∀k∈ah T,k<4294967296/\tag k=0
 dJ: ∀k b,T.get k=some b->b.dJ (· ∈ah T)
 root: ∃t cs,T.get root=some (.box t cs)
def HJ.xJ {T:Hp}{root:Nat}(h:HJ T root):root∈ah T:=by
 obtain⟨t,cs,e⟩:=h.root;exact Hp.dK e
def nf.hp {T:Hp}{root:Nat}(hT:HJ T root){ρ:Nat->Nat}(hi: ∀i∈ah T,∀j∈ah T,ρ i=ρ j->i=j):nf (ah T) ρ T.get (cP ρ T).get :=by
 refine⟨hT.nd,hi,hT.dJ,λn b' e=>?_⟩;have hk:=Hp.dK e;have Li:n∈(ah T).map ρ:=by rw[<- di];exact hk
 obtain⟨k,hk3,rfl⟩:=dT.1 Li;rw[jR hi k hk3]at e
 cases hg:T.get k with
 |none=>rw[hg]at e;cases e
 |some b=>rw[hg]at e;simp only[xR,lM]at e;exact⟨k,b,hk3,rfl,hg,e.symm⟩
def JC {ρ:Nat->Nat}{ok:Nat->Prop}{b:cD}(h:b.dJ λk=>ok (ρ k)):(b.rn ρ).dJ ok:=by
 have hd: ∀d:DC,(d.dJ λk=>ok (ρ k))->(d.rn ρ).dJ ok:=by intro d hd;cases d<;>exact hd
 cases b with
 |box t cs=>
  intro d xn;obtain⟨d0,h0,rfl⟩:=dT.1 xn;exact hd d0 (h d0 h0)
 |aD z l=>
  intro e he d xn;obtain⟨e0,h0,rfl⟩:=dT.1 he;obtain⟨d0,h1,rfl⟩:=dT.1 xn;exact hd d0 (h e0 h0 d0 h1)
 |_=>trivial
def DI {ρ:Nat->Nat}{ok:Nat->Prop}{x:DX}(h:eh (λk=>ok (ρ k)) x):eh ok (Gk ρ x):=by
 intro d xn;obtain⟨d0,h0,rfl⟩:=dT.1 xn;have:=h d0 h0;cases d0<;>exact this
def yI {ρ:Nat->Nat}{ok:Nat->Prop}{v:DV}(h:lH (λk=>ok (ρ k)) v):lH ok (La ρ v):=by
 cases v with
 |val x=>exact DI h
 |aI l=>
  intro x hx;obtain⟨x0,h0,rfl⟩:=dT.1 hx;exact DI (h x0 h0)
def DC.dS {ok ok':Nat->Prop}(hm: ∀k,ok k->ok' k){d:DC}(h:d.dJ ok):d.dJ ok':=by cases d<;>first|trivial|exact hm _ h
def cD.dS {ok ok':Nat->Prop}(hm: ∀k,ok k->ok' k){b:cD}(h:b.dJ ok):b.dJ ok':=by
 cases b with
 |box t cs=>exact λd hd=>DC.dS hm (h d hd)
 |aD z l=>exact λe he d hd=>DC.dS hm (h e he d hd)
 |_=>trivial
def rJ {ok ok':Nat->Prop}(hm: ∀k,ok k->ok' k){v:DV}(h:lH ok v):lH ok' v:=by
 cases v with
 |val x=>exact λd hd=>DC.dS hm (h d hd)
 |aI l=>exact λx hx d hd=>DC.dS hm (h x hx d hd)
section
variable {C:bU}{f:FuncId}{fid nx root:Nat}{xs:List DX}{T T':Hp}{r:DV}{H:HF}
def DJ (hT:HJ T root)(hf:tag fid≠0\/root<2*(tag fid*4294967296)+1): ∀i∈ah T,∀j∈ah T,aq (tag fid) root i=aq (tag fid) root j->i=j:=
 λi hi j hj h=>HI (hT.lt i hi).1 (hT.lt j hj).1 (by
  rcases hf with hf|hf
  ·exact .inl (by rw[(hT.lt root hT.xJ).2];exact λe=>hf e.symm)
  ·exact .inr hf) h
def wS (h:bx C f nx xs T [root] r T')(hT:HJ T root)(eJ:HJ T' root)(it:1<=nx)(hf:tag fid≠0)(hs: ∀id∈ah T,T.get id=H id)(Cd: ∀x∈xs,eh (· ∈ah T) x)(hr:lH (· ∈ah T') r):
  bX C fid f xs H (La (aq (tag fid) root) r) (cB T (cP (aq (tag fid) root) T')) (ah T):=by
 have hi:=DJ (fid:=fid) eJ (.inl hf)
 have hg:=h.out (nf.hp eJ hi) hr λid hid=>by
  rw[m6]at hid;subst hid;exact⟨eJ.xJ,kc _ _⟩
 have mb: ∀k∈ah T',aq (tag fid) root k∈[root]\/tag (aq (tag fid) root k)=tag fid:=λk hk=>by
  by_cases e:k=root
  ·subst e;rw[kc];exact .inl (by simp)
  ·exact .inr (qt e (eJ.lt k hk).1)
 refine gr hg (λid hid=>by rw[(hT.lt id hid).2];omega) hs hT.dJ Cd (λid hid=>?_) (λid hid=>?_) (λid b e=>?_) (yI (rJ mb hr))
 ·rw[m6]at hid;subst hid;refine⟨hT.root,λb' e=>?_⟩;obtain⟨t,cs,e0⟩:=eJ.root;have:=jR hi id eJ.xJ;rw[kc,e0]at this;rw[this]at e;cases e;exact⟨t,_,rfl⟩
 ·have hid:id∈ah (cP (aq (tag fid) root) T'):=hid;exact aju
 ·obtain⟨o,b0,h1,rfl,h3,rfl⟩:=(nf.hp eJ hi).heap id b e;exact JC (cD.dS mb (eJ.dJ o b0 h3))
end
section
variable {m:List (Nat × Nat)}{ρ:Nat->Nat}{ok:Nat->Prop}
def VB (h: ∀k,ok k->bO m (ρ k)=some k){d:DC}(hd:d.dJ ok):m9 m (d.rn ρ)=some d:=by
 cases d<;>simp only[m9,DC.rn];all_goals(have hd:ok _:=hd;rw[h _ hd])
theorem wT (h: ∀k,ok k->bO m (ρ k)=some k): ∀ {l:List DC},(∀d∈l,d.dJ ok)->e8 m (l.map (DC.rn ρ))=some l
 | [],_=>rfl
 |d::l,hd=>by
  simp only[jd,e8];rw[VB h (hd d jx),wT h λx hx=>hd x (ji _ hx)]
theorem HK (h: ∀k,ok k->bO m (ρ k)=some k): ∀ {l:List (List DC)},(∀e∈l,∀d∈e,d.dJ ok)->fG m (l.map λe=>e.map (DC.rn ρ))=some l
 | [],_=>rfl
 |e::l,hd=>by
  simp only[jd,fG];rw[wT h (hd e jx),HK h λx hx=>hd x (ji _ hx)]
theorem mG (h: ∀k,ok k->bO m (ρ k)=some k){b:cD}(hd:b.dJ ok):fp m (b.rn ρ)=some b:=by
 cases b with
 |box t cs=>simp only[fp,cD.rn];rw[wT h hd]
 |aD z l=>simp only[fp,cD.rn];rw[HK h hd]
 |_=>rfl
end
theorem DC.GZ (d:DC):d.rn (λk=>k)=d:=by cases d<;>rfl
theorem cD.GZ (b:cD):b.rn (λk=>k)=b:=by
 have h:(DC.rn λk=>k)=λd=>d:=funext DC.GZ
 cases b with
 |box t cs=>simp[cD.rn,h]
 |aD z l=>simp[cD.rn,h]
 |_=>rfl
theorem kU {m m':List (Nat × Nat)}{k:Nat}:bO (m++m') k=match bO m k with
  |some n=>some n
  |none=>bO m' k:=by
 induction m with
 |nil=>rfl
 |cons p m ih=>
  obtain⟨o,n⟩:=p;simp only[qX,bO];cases Nat.beq k o
  ·exact ih
  ·rfl
def DK {m:List (Nat × Nat)}{k:Nat}(h:k∉m.map Prod.fst):bO m k=none:=by
 cases e:bO m k with
 |none=>rfl
 |some n=>exact absurd (dT.2 ⟨_,Aj e,rfl⟩) h
def gh (ρ:Nat->Nat)(T:Hp)(R:Hp):List (Nat × Nat):=nL (ah R) (λk=>k)++(ah T).map λk=>(ρ k,k)
def DL {ρ:Nat->Nat}{T R:Hp}(hi: ∀i∈ah T,∀j∈ah T,ρ i=ρ j->i=j)(hd: ∀k∈ah T,ρ k∉ah R): ∀k∈ah T,bO (gh ρ T R) (ρ k)=some k:=by
 intro k hk;unfold gh
 rw[kU,DK (by
  have:(nL (ah R) λk=>k).map Prod.fst=ah R:=by exact Ym
  rw[this];exact hd k hk)]
 simp only
 have key: ∀l:List Nat,(∀i∈l,i∈ah T)->k∈l->bO (l.map λk=>(ρ k,k)) (ρ k)=some k:=by
  intro l
  induction l with
  |nil=>intro _ h;cases h
  |cons a l ih=>
   intro hl xw;simp only[jd,bO];by_cases e:ρ k=ρ a
   ·have:=hi k hk a (hl a jx) e;subst this;simp
   ·have e':Nat.beq (ρ k) (ρ a)=false:=by
     cases hb:Nat.beq (ρ k) (ρ a)
     ·rfl
     ·exact absurd (pb hb) e
    rw[e'];refine ih (λi lA=>hl i (ji _ lA)) ((dl.1 xw).resolve_left λh=>e (by rw[h]))
 exact key _ (λi h=>h) hk
def yJ {root fid nx n':Nat}{T T' R hp:Hp}{E E':dG}{ks:List Nat}(hT:HJ T root)(eJ:HJ T' root)(hf:tag fid≠0)(hR:(ah R).Nodup)(hRk: ∀k∈ah R,k∉ah T'/\k∉ah T/\tag k≠tag fid/\tag k<n')
  (hRg: ∀id b,R.get id=some b->hp.get id=some b/\b.dJ λk=>k∈ah R\/k=root)(hn:0<n')(hE:dm (gh (aq (tag fid) root) T' R) E.get ks=some E'):
  bp ⟨E,cB T (cP (aq (tag fid) root) T')++hp,nx⟩ ⟨E',T'++R,n'⟩:=by
 have hi:=DJ (fid:=fid) eJ (.inl hf)
 have mb: ∀k∈ah T',aq (tag fid) root k∉ah R:=λk hk hm=>by
  obtain⟨h1,_,h3,_⟩:=hRk _ hm;by_cases e:k=root
  ·subst e;rw[kc]at h1;exact h1 hk
  ·exact h3 (qt e (eJ.lt k hk).1)
 have UH:=DL hi mb
 have qT:bO (gh (aq (tag fid) root) T' R) root=some root:=by
  have:=UH root eJ.xJ;rwa [kc]at this
 have jr: ∀k,(k∈ah R\/k=root)->bO (gh (aq (tag fid) root) T' R) k=some k:=by
  rintro k (hk|rfl)
  ·unfold gh;rw[kU,qq hk]
  ·exact qT
 have fC:cZ (gh (aq (tag fid) root) T' R) (Hp.get (cB T (cP (aq (tag fid) root) T')++hp)) (Hp.get (T'++R)):=by
  refine⟨?_,?_,λn b' e=>?_⟩
  ·have:(gh (aq (tag fid) root) T' R).map Prod.fst=ah R++(ah T').map (aq (tag fid) root):=by simp[gh,nL,FW]
   rw[this,Lw];refine⟨hR,?_,λa ha b hb Sb=>?_⟩
   ·have AV:=(nf.hp eJ hi).ok.news;have:(nL (ah T') (aq (tag fid) root)).map Prod.snd=(ah T').map (aq (tag fid) root):=by exact Ym
    rwa [this]at AV
   ·subst Sb;obtain⟨k,hk,rfl⟩:=dT.1 hb;exact mb k hk ha
  ·have:(gh (aq (tag fid) root) T' R).map Prod.snd=ah R++ah T':=by simp[gh,nL,FW]
   rw[this,Lw];exact⟨hR,eJ.nd,λa ha b hb Sb=>by subst Sb;exact(hRk a ha).1 hb⟩
  ·rw[Hp.get_append,na]at e;by_cases hn:n∈ah T'
   ·rw[if_pos hn]at e;refine⟨aq (tag fid) root n,b'.rn (aq (tag fid) root),?_,?_,mG UH (eJ.dJ n b' e)⟩
    ·unfold gh;exact iz.2 (.inr (dT.2 ⟨n,hn,rfl⟩))
    ·rw[Hp.get_append,tV,if_pos (by show _∈ah _;rw[di];exact dT.2 ⟨n,hn,rfl⟩),jR hi n hn,e];rfl
   ·rw[if_neg hn]at e;have hk:=Hp.dK e;obtain⟨h1,h2,h3,h4⟩:=hRk n hk;obtain⟨g1,g2⟩:=hRg n b' e;refine⟨n,b',?_,?_,?_⟩
    ·exact aiO
    ·rw[Hp.get_append,tV,if_neg,if_neg h2]
     ·exact g1
     ·intro hm;have hm:n∈ah (cP (aq (tag fid) root) T'):=hm;rw[di]at hm;obtain⟨k,qR,rfl⟩:=dT.1 hm;exact mb k qR hk
    ·have:=mG (ρ:=λk=>k) jr g2;rwa [cD.GZ]at this
 rintro F nt a w ⟨N,⟨q1,q2,q0,β,q3,q4⟩,q5⟩;refine⟨yC _,⟨q1,q2,q0,pN _ β,λs d' e=>?_,fC.nD q4⟩,?_⟩
 ·exact abW
 ·rintro id ⟨o,ho⟩;unfold gh at ho;rcases iz.1 ho with ho|ho
  ·obtain⟨h1,h2⟩:=gg.1 ho;rw[h2];exact(hRk o h1).2.2.2
  ·obtain⟨k,hk,e⟩:=dT.1 ho;simp only[ij]at e;obtain⟨_,rfl⟩:=e;rw[(eJ.lt _ hk).2];exact hn
end Go.Fw
namespace Go.Fw
open Go.RowKit (Below)
def B (l:List UInt8):ByteArray:=⟨l.toArray⟩
abbrev lS (l:List UInt8):Option DV:=some (lit (.string (B l)))
theorem jH (l:List UInt8):(B l).data.toList =l:=by simp[B]
theorem lV (l:List UInt8):(B l).size =l.length:=by rw[Lib.size_eq,jH]
def acU (s:ByteArray):B s.data.toList=s:=Lib.mk_data s
theorem alf (a b:List UInt8):B a++B b=B (a++b):=by
 rw[<- acU (B a++B b)];exact aQ B (by simp[B])
def Za (l:List UInt8):(B l).toList =l:=by rw[Lib.toList_data,jH]
theorem alg (l:List UInt8)(i:Nat):(B l)[i]? =l[i]? :=by
 have:(B l)[i]? =(B l).data[i]? :=by
  simp only[getElem?_def];rfl
 rw[this];simp[B]
theorem Zh (l:List UInt8)(a b:Nat):(B l).extract a b=B ((l.take b).drop a):=by
 rw[Lib.extract_eq,jH];show(⟨_⟩:ByteArray)=⟨_⟩;congr 2;rw[List.drop_take]
section
variable {C:bU}{fid:Nat}{o:Oper}{E:dG}{H:Hp}{t:bq}{k:dG->Hp->bq->Prop}{T:TypeId}{x y:Operand}{p:TypeId}{a b:List UInt8}
def JD {op:BinOp}(ho:o.op= .binOp op T x y p)(hx:C.ev E.get x=lS a)(hy:C.ev E.get y=lS b):fw C fid o (C.ev E.get) H.get=λK=>wO op (B a) (B b) λv=>K (lit v) [] []:=by
 funext K;unfold fw;rw[ho];simp only[hx,hy,L1];unfold rc;cases op<;>rfl
def aeW (ho:o.op= .binOp .add T x y p)(hx:C.ev E.get x=lS a)(hy:C.ev E.get y=lS b)(hb:a.length+b.length<=1000000000000)
  (h2:eA o.dst (lit (.string (B (a++b)))) E λE'=>k E' H (([],[])::t)):cW C fid o E H t k:=by
 refine rG (r:=lit (.string (B (a++b)))) (u:=[]) (R:=[]) (λK hK=>?_) h2;rw[JD ho hx hy];exact⟨by grind[lV],by grind[alf]⟩
def alh (ho:o.op= .binOp .eql T x y p)(hx:C.ev E.get x=lS a)(hy:C.ev E.get y=lS b)
  (h2:eA o.dst (lit (.bool (decide (a=b)))) E λE'=>k E' H (([],[])::t)):cW C fid o E H t k:=by
 refine rG (r:=lit (.bool (decide (a=b)))) (u:=[]) (R:=[]) (λK hK=>?_) h2;rw[JD ho hx hy];show K (lit (.bool ((B a).toList ==(B b).toList))) [] [];exact ajL
def ali (ho:o.op= .binOp .neq T x y p)(hx:C.ev E.get x=lS a)(hy:C.ev E.get y=lS b)
  (h2:eA o.dst (lit (.bool (!decide (a=b)))) E λE'=>k E' H (([],[])::t)):cW C fid o E H t k:=by
 refine rG (r:=lit (.bool (!decide (a=b)))) (u:=[]) (R:=[]) (λK hK=>?_) h2;rw[JD ho hx hy];show K (lit (.bool !((B a).toList ==(B b).toList))) [] [];exact ajL
def aeX {c:Call}{i:TI}{tt:TypeId}{ts:List TypeId}(ho:o.op= .call c)(hc:c.callee= .builtin .len)(ha:c.argTypes.toList=tt::ts)(hx:(c.args.toList.map (C.ev E.get))= [lS a])(hi:C.ti tt=some i)(jg:i.b8= .str)
  (h2:eA o.dst (lit (.int .i64 (a.length:Nat))) E λE'=>k E' H (([],[])::t)):cW C fid o E H t k:=by
 refine rG (r:=lit (.int .i64 (a.length:Nat))) (u:=[]) (R:=[]) (λK hK=>?_) h2
 grind[fw,eZ,lit,lV]
def aeY {i:TI}{zz:Int}{n:Nat}{k':IntKind} [nz:dU zz n](ho:o.op= .index T x y)(hx:C.ev E.get x=lS a)(hy:C.ev E.get y=some (lit (.int k' zz)))(hi:C.ti T=some i)(jg:i.b8= .str)(hb:0<=zz/\n<a.length)
  (h2:eA o.dst (lit (.int .u8 ((a.getD n 0).toNat :Nat))) E λE'=>k E' H (([],[])::t)):cW C fid o E H t k:=by
 refine rG (r:=lit (.int .u8 ((a.getD n 0).toNat :Nat))) (u:=[]) (R:=[]) (λK hK=>?_) h2;unfold fw;rw[ho];simp only[hx,hy];simp only[tw,hi,jg];refine⟨hb.1,a.getD n 0,?_,hK⟩;have e:zz.toNat=n:=by rw[nz.eq];simp
 grind[alg]
def aeZ {i:TI}{zz:Int}{n:Nat}{k':IntKind} [nz:dU zz n](ho:o.op= .slice T x (some y) none none)(hx:C.ev E.get x=lS a)(hy:C.ev E.get y=some (lit (.int k' zz)))(hi:C.ti T=some i)(jg:i.b8= .str)(hb:0<=zz/\n<=a.length)
  (h2:eA o.dst (lit (.string (B (a.drop n)))) E λE'=>k E' H (([],[])::t)):cW C fid o E H t k:=by
 refine rG (r:=lit (.string (B (a.drop n)))) (u:=[]) (R:=[]) (λK hK=>?_) h2;have e:zz.toNat=n:=by rw[nz.eq];simp
 unfold fw;rw[ho];simp only[hx,xR,hy,SQ];simp only[gL,hi,jg,F5];refine⟨hb.1,⟨by grind[lV],dE _⟩,?_⟩
 grind[lV,Zh]
def ae0 {i:TI}{zz:Int}{n:Nat}{k':IntKind} [nz:dU zz n](ho:o.op= .slice T x none (some y) none)(hx:C.ev E.get x=lS a)(hy:C.ev E.get y=some (lit (.int k' zz)))(hi:C.ti T=some i)(jg:i.b8= .str)(hb:0<=zz/\n<=a.length)
  (h2:eA o.dst (lit (.string (B (a.take n)))) E λE'=>k E' H (([],[])::t)):cW C fid o E H t k:=by
 refine rG (r:=lit (.string (B (a.take n)))) (u:=[]) (R:=[]) (λK hK=>?_) h2;have e:zz.toNat=n:=by rw[nz.eq];simp
 unfold fw;rw[ho];simp only[hx,xR,hy,SQ];simp only[gL,hi,jg,F5];refine⟨hb.1,⟨dD _,by grind[lV]⟩,?_⟩
 grind[Zh]
def ae1 {i:TI}{zz yy:Int}{n m:Nat}{k' k'':IntKind}{z:Operand} [nz:dU zz n] [ny:dU yy m](ho:o.op= .slice T x (some y) (some z) none)(hx:C.ev E.get x=lS a)(hy:C.ev E.get y=some (lit (.int k' zz)))(hz:C.ev E.get z=some (lit (.int k'' yy)))(hi:C.ti T=some i)(jg:i.b8= .str)(hb:(0<=zz/\0<=yy)/\n<=m/\m<=a.length)
  (h2:eA o.dst (lit (.string (B ((a.take m).drop n)))) E λE'=>k E' H (([],[])::t)):cW C fid o E H t k:=by
 refine rG (r:=lit (.string (B ((a.take m).drop n)))) (u:=[]) (R:=[]) (λK hK=>?_) h2;have e:zz.toNat=n:=by rw[nz.eq];simp
 have e':yy.toNat=m:=by rw[ny.eq];simp
 unfold fw;rw[ho];simp only[hx,xR,hy,hz];simp only[gL,hi,jg,F5];refine⟨hb.1.1,hb.1.2,⟨by omega,by grind[lV]⟩,?_⟩
 grind[Zh]
end
section
variable {C:bU}{fid:Nat}{o:Oper}{E:dG}{H:Hp}{t:bq}{k:dG->Hp->bq->Prop}{T:TypeId}{x y:Operand}{p:TypeId}
def ae2 {a b:Int}(ho:o.op= .binOp .sub T x y p)(hx:C.ev E.get x=some (lit (.int .u8 a)))(hy:C.ev E.get y=some (lit (.int .u8 b)))(hb:0<=a -b/\a -b<=255)
  (h2:eA o.dst (lit (.int .u8 (a -b))) E λE'=>k E' H (([],[])::t)):cW C fid o E H t k:=by
 refine rG (r:=lit (.int .u8 (a -b))) (u:=[]) (R:=[]) (λK hK=>?_) h2;have e:IntKind.u8.wrap (a -b)=a -b:=by grind[IntKind.wrap_u8]
 unfold fw;rw[ho];simp only[hx,hy,lit,L1];show K (lit (.int .u8 (IntKind.u8.wrap (a -b)))) [] []
 grind
def Tt {i j:TI}{kd ks k':IntKind}{n:Int}{S:TypeId}(ho:o.op= .convert S T x)(hx:C.ev E.get x=some (lit (.int k' n)))(hi:C.ti S=some i)(hj:C.ti T=some j)(hs:i.b8= .int ks)(hd:j.b8= .int kd)(hb:kd.wrap n=n)
  (h2:eA o.dst (lit (.int kd n)) E λE'=>k E' H (([],[])::t)):cW C fid o E H t k:=by
 refine rG (r:=lit (.int kd n)) (u:=[]) (R:=[]) (λK hK=>?_) h2
 grind[fw,lit,yb]
def cvI {n:Int}(h: -9223372036854775808<=n/\n<=9223372036854775807):IntKind.i64.wrap n=n:=IntWalk.i64_in n h
def cv8 {n:Int}(h:0<=n/\n<=255):IntKind.u8.wrap n=n:=by grind[IntKind.wrap_u8]
end
open Classical
section
variable {C:bU}{F:gN}{β:Nat->Option Nat}{N:Nat->Prop}{H H':HF}{fid:Nat}{w w':World}{R:List Nat}
theorem DM (FI:F.pure)(hR:ad F β N H w){d:DC}{c:SC}(hf:Full H R d c):c.flat=true->∀ {v:Value},cw F β N H w v d->dy (dX F.Pk F.base w) eX v c:=by
 have eC:=yB (F:=F) (β:=β) (H:=H) (w:=w) FI;have IF: ∀ {b o:Nat} {v:Value},F.dL b->rd w b o=some v->dX F.Pk F.base w b o=some v:=λhb h=>by unfold dX;rw[if_pos (FI.base hb)];exact h
 induction hf with
 |st c=>intro ox v h;exact(dy.mono eC (Mem.le_refl _) h).flat ox
 |nil k=>intro _ v h;have h:v= .slice none 0 0:=h;subst h;exact .empty _ _ Yp Yp
 |any d=>intro _ v h;exact .any h.one_cell
 | @row id m z c hr h=>
  intro ox v hv;obtain⟨hn,h1,h2⟩:=hv;obtain⟨_,⟨hz,XB,iL⟩,gC⟩:=hR.rel id _ h
  rcases h2 _ _ _ h rfl with⟨a1,a2,rfl⟩|⟨b,cap,arr,T,a1,rfl,a3,a4⟩
  ·exact .empty _ _ XB a2
  ·by_cases h0:c.len=0
   ·rw[h0];exact .empty _ _ XB h0
   rcases gC with⟨q,_⟩|⟨b',jE,q1,q2,arr',T',e1,e2,e3,e4,e5,e6,e7⟩;omega
   ·rw[a1]at q1;cases q1;rw[a3]at e1;cases e1;have fZ:cap=jE:=by exact Yk
    subst fZ;refine .view b 0 cap z (λk=>arr.getD k undef) XB K0 hz e5 iL (λk hk=>?_) λi e j x he hx=>(e7 i e j x he hx).mono eC (Mem.le_refl _);exact abX
 | @aD id z l es hr h hl he hc ox ih=>
  intro _ v hv;obtain⟨hn,h1,h2⟩:=hv;obtain⟨_,⟨hz,iL⟩,gC⟩:=hR.rel id _ h;have bG:(SC.view es).len =l.length:=hl
  rcases h2 _ _ _ h rfl with⟨a1,a2,rfl⟩|⟨b,cap,arr,T,a1,rfl,a3,a4⟩
  ·exact .empty _ _ rfl K0
  ·by_cases h0:l.length=0
   ·rw[h0];exact .empty _ _ rfl K0
   rcases gC with⟨q,_⟩|⟨b',jE,arr',T',q1,q2,e1,e2,e3,e4⟩;omega
   ·rw[a1]at q1;cases q1;rw[a3]at e1;cases e1;have fZ:cap=jE:=by exact Yk
    subst fZ;rw[<- bG]
    have key: ∀(i:Nat) (e':List SC),es[i]? =some e'->∃e,l[i]? =some e/\e'.length=e.length:=λi e' hi=>by
     have ak:=(kJ.1 hi).1;have Pf:i<l.length:=by omega
     exact⟨l[i],by grind,he i l[i] e' bv hi⟩
    refine .view b 0 cap z (λk=>arr.getD k undef) rfl K0 hz K0 (λi e hi=>?_) (λk hk=>?_) λi e j x hi hx=>?_
    ·obtain⟨e0,g1,g2⟩:=key i e hi
     grind
    ·exact abX
    ·obtain⟨e0,g1,g2⟩:=key i e hi;have hj:=(kJ.1 hx).1;have hj':j<e0.length:=by omega
     have hd:e0[j]? =some e0[j]:=by grind
     exact ih i e0 e j e0[j] x g1 hi hd hx (ox i e j x hi hx) (e4 i e0 j e0[j] g1 hd)
 |ec=>intro ox;cases ox
 |box=>intro ox;cases ox
 |XI=>intro ox;cases ox
 |aez=>intro ox;cases ox
 |sL=>intro ox;cases ox
theorem MF (FI:F.pure)(hR:ad F β N H w){x:DX}{y:SV}(hf:Bm H R x y)(ox:oA y.2=true){v:Value}(hv:au F β N H w v x):eu (dX F.Pk F.base w) eX v y:=by
 obtain⟨g,ds⟩:=x;obtain⟨g',cs⟩:=y;obtain⟨e,hl,hc⟩:=hf;simp only at e hl hc ox;subst e;cases g'
 ·obtain⟨c,R6,hr⟩:=hv;simp only at R6;subst R6;obtain⟨c',rfl⟩:=xO.1 agn;exact⟨c',rfl,DM FI hR (hc 0 c c' rfl rfl) (lR ox 0 c' rfl) hr⟩
 ·obtain⟨arr,h1,h2,h3⟩:=hv;simp only at h2 h3;refine⟨arr,h1,by grind,λk c hk=>?_⟩;simp only at hk;have ak:=(kJ.1 hk).1;have Pf:k<ds.length:=by omega
  have hd:ds[k]? =some ds[k]:=by grind
  grind[DM,lR]
def Zi:List SV->lO
 | [y]=>.one y
 |l=>.aI l
def HL (H:HF)(xs:List DX)(K:lO->Prop):Prop:=∃(ys:List SV) (R:List Nat),MD H R xs ys/\yA ys=true/\K (Zi ys)
def acV (C:bU)(fn:Func)(S:St)(K:lO->Prop):Prop:=eB C S.hp.get S.env.get fn.results.toList λxs=>HL S.hp.get xs K
theorem Zj (FI:F.pure)(hR:ad F β N H w){xs:List DX}{vs:List Value}{K:lO->Prop}(hl:vs.length=xs.length)(hv: ∀k x,xs[k]? =some x->au F β N H w (vs.getD k undef) x)
  (h:HL H xs K): ∃r,K r/\qY F.Pk F.base w (Bi vs) r:=by
 obtain⟨ys,R,⟨h1,h2⟩,h3,h4⟩:=h
 have hx: ∀k y,ys[k]? =some y->eu (dX F.Pk F.base w) eX (vs.getD k undef) y:=λk y hk=>by
  have ak:=(kJ.1 hk).1;have Pf:k<xs.length:=by omega
  have hd:xs[k]? =some xs[k]:=by grind
  grind[MF,Bk]
 refine⟨_,h4,?_⟩;have bG:vs.length=ys.length:=by omega
 match ys,vs,bG,hx with
 | [y],[v],_,hx=>exact hx 0 y rfl
 | [],[],_,_=>exact⟨#[],rfl,rfl,by simp⟩
 |x::y::l,v::v'::vs,hg,hX=>exact⟨(v::v'::vs).toArray,rfl,by omega,λk x hk=>by simpa [sN,jN]using hX k x hk⟩
def MG {fn:Func}(hC:C.Ok){f:FuncId}{c:Code}{args:List SV}{r:lO}(hn:iN C.P f=true)(hf:C.P.funcs[f]? =some fn)(hb:fn.body=some c)(uT:bS fn.ntmps c=true)(dQ:args.length<=fn.ntmps)
  (h:m8 C c (entry args) (λS=>acV C fn S λr'=>r'=r) (λ_ _=>False) (λS=>acV C fn S λr'=>r'=r)):nY C.P C.gl f args r:=
 DB hC hn hf hb uT dQ (λ_ hS=>⟨λH xs K=>HL H xs K,λFI _ hR hl hv h=>Zj FI hR hl hv h,hS⟩) h
end
structure BY (R:Hp):Prop where
 nd:(ah R).Nodup
 key: ∀k∈ah R,17<=k/\k<4294967296/\k%2=1
 row: ∀k b,R.get k=some b->∃m z c,b= .row m z c
def mW (R:Hp):List (Nat × Nat):=(ah R).map λk=>(k,k)
def JE (k:Nat):Bool:=Nat.blt k 17 || Nat.beq (k%2) 0 || Nat.ble 4294967296 k
def BY.not {R:Hp}(h:BY R){k:Nat}(hk:JE k=true):k∉ah R:=λhm=>by
 obtain⟨h1,h2,h3⟩:=h.key k hm;simp[JE,vZ]at hk;omega
theorem BY.tag {R:Hp}(h:BY R){k:Nat}(hk:k∈ah R):tag k=0:=by
 obtain⟨h1,h2,h3⟩:=h.key k hk
 grind[JB]
def Tu {R:Hp}{o n:Nat}:(o,n)∈mW R↔o∈ah R/\n=o:=by grind[mW]
def acW {R:Hp}{k:Nat}(h:k∈ah R):bO (mW R) k=some k:=by
 have:mW R=nL (ah R) λk=>k:=rfl
 grind[qq]
def IL (m:List (Nat × Nat)):Bool:=eN (m.map Prod.fst)&&eN (m.map Prod.snd)&&m.all λp=>JE p.1&&JE p.2
def oL {m:List (Nat × Nat)}{R:Hp}(hT:BY R)(hm:IL m=true){k:Nat}(hk:k∈ah R):bO (m++mW R) k=some k:=by
 rw[kU,DK,acW hk];intro h;obtain⟨p,hp,rfl⟩:=dT.1 h;unfold IL at hm;simp only[sQ,wL]at hm;exact hT.not (hm.2 p hp).1 hk
def cZ.tail {m:List (Nat × Nat)}{H:HF}{Y R:Hp}(hT:BY R)(hm:IL m=true)(hY: ∀n b',Y.get n=some b'->∃o b,(o,n)∈m/\H o=some b/\fp (m++mW R) b=some b')
  (hYk: ∀n∈ah Y,JE n=true)(hR: ∀k∈ah R,H k=R.get k):cZ (m++mW R) H (Hp.get (Y++R)):=by
 have hm0:=hm;unfold IL at hm;simp only[sQ,wL]at hm;obtain⟨⟨h1,h2⟩,h3⟩:=hm;refine⟨?_,?_,λn b' e=>?_⟩
 ·rw[zZ,show(mW R).map Prod.fst=ah R by simp[mW,FW],Lw];refine⟨bY h1,hT.nd,λa ha b hb Sb=>?_⟩;subst Sb;obtain⟨p,hp,rfl⟩:=dT.1 ha;exact hT.not (h3 p hp).1 hb
 ·rw[zZ,show(mW R).map Prod.snd=ah R by simp[mW,FW],Lw];refine⟨bY h2,hT.nd,λa ha b hb Sb=>?_⟩;subst Sb;obtain⟨p,hp,rfl⟩:=dT.1 ha;exact hT.not (h3 p hp).2 hb
 ·rw[Hp.get_append,na]at e;by_cases hn:n∈ah Y
  grind
  ·rw[if_neg hn]at e;have hk:=Hp.dK e;refine⟨n,b',iz.2 (.inr (Tu.2 ⟨hk,rfl⟩)),by grind,?_⟩;obtain⟨m',z,c,rfl⟩:=hT.row n b' e;rfl
def cZ.form {m:List (Nat × Nat)}{H:HF}{Y R:Hp}{z:Nat}{l l':List (List DC)}(hT:BY R)(hm:IL ((9,9)::m)=true)(h9:H 9=some (.aD z l))(hl:fG ((9,9)::m++mW R) l=some l')
  (hY:jX ((9,9)::m++mW R) H m=some Y)(hYk:(ah Y).all JE=true)(hR: ∀k∈ah R,H k=R.get k):cZ ((9,9)::m++mW R) H (Hp.get ((9,some (.aD z l'))::Y++R)):=by
 have:=cZ.tail (Y:=(9,some (.aD z l'))::Y) (H:=H) hT hm (λn b' e=>?_) (λn hn=>?_) hR;omega
 ·rw[Hp.av]at e;by_cases hn:n=9
  ·subst hn;rw[an]at e;cases e;refine⟨9,_,jx,h9,?_⟩;show(match fG ((9,9)::m++mW R) l with|some l'=>some (cD.aD z l')|none=>none)=_;rw[hl]
  grind[aG,pt]
 ·rcases dl.1 hn with rfl|hn
  ·rfl
  grind
def Zk {m:List (Nat × Nat)}{l:List (List DC)}{i:Nat}{e e':List DC}(hi:i<l.length)(he:e8 m e=some e')(h: ∀j x,j≠i->l[j]? =some x->e8 m x=some x):fG m (l.set i e)=some (l.set i e'):=by
 induction l generalizing i with
 |nil=>grind
 |cons a l ih=>
  cases i with
  |zero=>
   have: ∀ {l:List (List DC)},(∀x∈l,e8 m x=some x)->fG m l=some l:=by
    intro l
    induction l with
    |nil=>intro _;rfl
    |cons a l ih=>
     grind[fG]
   rw[SF,SF];unfold fG
   rw[he,this λx hx=>by
    obtain⟨j,hj,rfl⟩:=IU.1 hx
    exact h (j+1) _ K0 bv]
  |succ i=>
   rw[X6,X6];unfold fG;rw[h 0 a K0 rfl,ih bv λj x hj hx=>h (j+1) x K0 bv]
def Ak {m:List (Nat × Nat)}: ∀ {l:List (List DC)},(∀x∈l,e8 m x=some x)->fG m l=some l
 | [],_=>rfl
 |a::l,h=>by
  unfold fG;rw[h a jx,Ak λx hx=>h x (ji _ hx)]
theorem Hp.jO {j:Nat}{b:Option cD}{H:Hp}{k:Nat}(h:k≠j):Hp.get ((j,b)::H) k=Hp.get H k:=by rw[Hp.av,aG _ _ _ h]
structure MH (T:Hp):Prop where
 nd:(ah T).Nodup
 lt: ∀k∈ah T,0<k/\k<4294967296/\tag k=0
 dJ: ∀k b,T.get k=some b->b.dJ (· ∈ah T)
def nf.new {T:Hp}(hT:MH T){ρ:Nat->Nat}(hi: ∀i∈ah T,∀j∈ah T,ρ i=ρ j->i=j):nf (ah T) ρ T.get (cP ρ T).get :=by
 refine⟨hT.nd,hi,hT.dJ,λn b' e=>?_⟩;have hk:=Hp.dK e;have Li:n∈(ah T).map ρ:=by grind[di]
 obtain⟨k,hk3,rfl⟩:=dT.1 Li;rw[jR hi k hk3]at e
 cases hg:T.get k with
 |none=>grind
 |some b=>grind
section
variable {C:bU}{f:FuncId}{fid nx:Nat}{xs:List DX}{T':Hp}{r:DV}{H:HF}
def MH.inj (hT:MH T')(n:Nat): ∀i∈ah T',∀j∈ah T',aq n 0 i=aq n 0 j->i=j:=
 λi hi j hj h=>HI (hT.lt i hi).2.1 (hT.lt j hj).2.1 (.inr K0) h
theorem MH.tag (hT:MH T'){n k:Nat}(hk:k∈ah T'):Fw.tag (aq n 0 k)=n:=qt (by have:=(hT.lt k hk).1;omega) (hT.lt k hk).2.1
def mw (h:bx C f nx xs [] [] r T')(eJ:MH T')(Cd: ∀x∈xs,eh (λ_=>False) x)(hr:lH (· ∈ah T') r):
  bX C fid f xs H (La (aq (Fw.tag fid) 0) r) (cB [] (cP (aq (Fw.tag fid) 0) T')) []:=by
 have hi:=eJ.inj (Fw.tag fid);have hg:=h.out (nf.new eJ hi) hr λid hid=>by grind
 have mb: ∀k∈ah T',aq (Fw.tag fid) 0 k∈([]:List Nat)\/Fw.tag (aq (Fw.tag fid) 0 k)=Fw.tag fid:=λk hk=>.inr (eJ.tag hk);refine gr hg (λid hid=>by grind) (λid hid=>by grind) (λid b e=>by grind[Hp.get]) (λx hx=>?_) (λid hid=>by grind) (λid hid=>?_) (λid b e=>?_) (yI (rJ mb hr))
 ·exact λd hd=>DC.dS (λ_ h=>h.elim) (Cd x hx d hd)
 ·exact ajy
 ·exact afF
def acX {fid nx n':Nat}{T' R hp:Hp}{E E':dG}{ks:List Nat}(eJ:MH T')(hR:(ah R).Nodup)(hRk: ∀k∈ah R,k∉ah T'/\Fw.tag k≠Fw.tag fid/\Fw.tag k<n')
  (hRg: ∀id b,R.get id=some b->hp.get id=some b/\b.dJ λk=>k∈ah R)(hn:0<n')(hE:dm (gh (aq (Fw.tag fid) 0) T' R) E.get ks=some E'):
  bp ⟨E,cB [] (cP (aq (Fw.tag fid) 0) T')++hp,nx⟩ ⟨E',T'++R,n'⟩:=by
 have hi:=eJ.inj (Fw.tag fid);have mb: ∀k∈ah T',aq (Fw.tag fid) 0 k∉ah R:=λk hk hm=>(hRk _ hm).2.1 (eJ.tag hk);have UH:=DL hi mb;have jr: ∀k,k∈ah R->bO (gh (aq (Fw.tag fid) 0) T' R) k=some k:=by grind[gh,kU,qq]
 have fC:cZ (gh (aq (Fw.tag fid) 0) T' R) (Hp.get (cB [] (cP (aq (Fw.tag fid) 0) T')++hp)) (Hp.get (T'++R)):=by
  refine⟨?_,?_,λn b' e=>?_⟩
  ·exact K59
  ·exact ane
  ·rw[Hp.get_append,na]at e;by_cases hn:n∈ah T'
   ·exact K94
   ·rw[if_neg hn]at e;have hk:=Hp.dK e;obtain⟨h1,h3,h4⟩:=hRk n hk;obtain⟨g1,g2⟩:=hRg n b' e;refine⟨n,b',?_,?_,?_⟩
    ·exact aiO
    ·rw[Hp.get_append,tV,if_neg,if_neg (by simp)];omega
     ·exact ank
    ·exact anm
 rintro F nt a w ⟨N,⟨q1,q2,q0,β,q3,q4⟩,q5⟩;refine⟨yC _,⟨q1,q2,q0,pN _ β,λs d' e=>?_,fC.nD q4⟩,?_⟩
 ·exact abW
 ·rintro id ⟨o,ho⟩;unfold gh at ho;rcases iz.1 ho with ho|ho
  ·obtain⟨h1,h2⟩:=gg.1 ho
   grind
  ·obtain⟨k,hk,e⟩:=dT.1 ho;simp only[ij]at e;obtain⟨_,rfl⟩:=e;rw[(eJ.lt _ hk).2.2];exact hn
end
section
variable {C:bU}{fid:Nat}{o:Oper}{E:dG}{H:Hp}{t:bq}{k:dG->Hp->bq->Prop}{T:TypeId}{x y:Operand}{a:List UInt8}
def anz {f:FuncId}{first bM:Array Operand}{id:Nat}(ho:o.op= .makeFunc (.func f) first bM)(hf:first.toList= [])(hc:bM.toList.map (C.ev E.get)= [some (.val (false,[.ptr id 0]))])
  (h2:eA o.dst (bm (.sL f id)) E λE'=>k E' H (([],[])::t)):cW C fid o E H t k:=by
 refine rGX (P:=True) (r:=bm (.sL f id)) (u:=[]) (R:=[]) ?_ trivial h2
 grind[PS]
def BZ {i:TI}{e:TypeId}{ie:TI}{es:List (List SC)}{zz:Int}{n:Nat}{k':IntKind} [nz:dU zz n](hu: ∀e∈es,e.length=ie.size)(ho:o.op= .slice T x none (some y) none)(hx:C.ev E.get x=some (.val (false,[.st (.view es)])))(hy:C.ev E.get y=some (.val (false,[.st (.lit (.int k' zz))])))
  (hi:C.ti T=some i)(hc:i.b8= .slice e)(he:C.ti e=some ie)(hb:n<=es.length)
  (h2:eA o.dst (bm (.st (.view (es.take n)))) E λE'=>k E' H (([],[])::t)):cW C fid o E H t k:=by
 refine rG (r:=bm (.st (.view (es.take n)))) (u:=[]) (R:=[]) (λK hK=>?_) h2;have e0:zz.toNat=n:=by rw[nz.eq];simp
 unfold fw;rw[ho];simp only[hx,Option.map];unfold gL;simp only[hi,hc,he,bV,bA,hy,SC.ao,F5,SC.len,SC.sub,xW];refine⟨by rw[nz.eq];omega,⟨by omega,by omega⟩,λe he=>hu e he,?_⟩
 grind
end
def nY.xK {P:Program}{gl:tu}{f:FuncId}{args:List SV}{z:Nat}{c:SC}(h:nY P gl f args (.own z c)):nY P gl f args (.one (false,[c])):=by
 rcases h with h|h
 ·refine .inl ⟨h.1,λmv w vs h1 h2 h3=>(h.2 mv w vs h1 h2 h3).mono λe w' he=>?_⟩;obtain⟨v,rfl,hb,hr⟩:=he;refine⟨v,rfl,hb,c,rfl,?_⟩
  rcases hr with⟨rfl,h0,hv,_⟩|⟨b,cap,rfl,hn,arr,T,e1,e2,e3,e4,e5,e6,e7⟩
  ·exact .empty _ _ hv h0
  ·by_cases h0:c.len=0
   ·rw[h0];exact .empty _ _ e4 h0
   ·refine .view b 0 cap z (λk=>arr.getD k undef) e4 K0 e3 e5 e6 (λk hk=>?_) λi e j x he hx=>(e7 i e j x he hx).mono (λb' o v h=>?_) (Mem.le_refl _)
    ·rw[j7];unfold dX;rw[if_pos hn]
     grind[gb,Nat.lt_of_lt_of_le,Nat.mul_le_mul_right]
    grind[Mem.but]
 ·cases h
end Go.Fw
namespace Go.Fw
open Go.RowKit (Below)
section
variable {C:bU}{f:FuncId}{nx nx0:Nat}{xs xs0:List DX}{Hs Hs0 mq Hs1:Hp}{fK roots0:List Nat}{r:DV}{ks ks':List Nat}{ρ σ:Nat->Nat}
def bx.both (h:bx C f nx (xs0.map (Gk ρ)) Hs fK r mq)(hR:nf ks ρ Hs0.get Hs.get)(hall: ∀o b,Hs0.get o=some b->o∈ks/\Hs.get (ρ o)=some (b.rn ρ))(it: ∀k∈ks,tag (ρ k)<nx)(Cd: ∀x∈xs0,eh (· ∈ks) x)
  (hR2:nf ks' σ mq.get Hs1.get)(hr:lH (· ∈ks') r)(qT: ∀id∈roots0,ρ id∈fK/\id∈ks/\ρ id∈ks'/\σ (ρ id)=id):bx C f nx0 xs0 Hs0 roots0 (La σ r) Hs1:=by
 have fC:=hR.ok;have ahE:=hR2.ok;refine⟨h.1,λF β N w vs hG CE jr hH hN nC hv=>?_⟩;have hH2:=fC.nD hH;have e: ∀ {k:Nat},k∈ks->pN (nL ks ρ) β (ρ k)=β k:=λhk=>fC.kH (gg.2 ⟨hk,rfl⟩);refine(h.2 F (pN (nL ks ρ) β) (yC (nL ks ρ)) w vs hG CE (λb hb=>?_) hH2 (λid hid=>?_) bv (λk x hk=>?_)).mono λe' w' he=>?_
 ·obtain⟨id,bC,q1,q2⟩:=jr b hb;obtain⟨q3,q4⟩:=hall id bC q1;exact⟨ρ id,_,q4,by grind⟩
 ·obtain⟨o,ho⟩:=hid;obtain⟨q1,q2⟩:=gg.1 ho
  grind
 ·exact aiq
 ·obtain⟨v,cQ,N',rfl,q1,q2,q3⟩:=he;refine⟨v,pN (nL ks' σ) cQ,yC (nL ks' σ),rfl,ahE.nD q1,ahE.vY q2 (HH hr),λid hid=>?_⟩;obtain⟨a1,a2,a3,a4⟩:=qT id hid;obtain⟨b,g1,g2⟩:=q3 (ρ id) a1;refine⟨b,by grind,?_⟩;have:=ahE.kH (β:=cQ) (gg.2 ⟨a3,rfl⟩)
  grind
end
section
variable {C:bU}{fid:Nat}{o:Oper}{E:dG}{H:Hp}{t:bq}{k:dG->Hp->bq->Prop}{c:Call}{a b:Int}
def ae3 (ho:o.op= .call c)(hc:c.callee= .builtin .max)(hx:c.args.toList.map (C.ev E.get)= [some (.val (false,[.st (.lit (.int .i64 a))])),some (.val (false,[.st (.lit (.int .i64 b))]))])(h:b<=a)
  (h2:eA o.dst (lit (.int .i64 a)) E λE'=>k E' H (([],[])::t)):cW C fid o E H t k:=by
 refine rG (r:=lit (.int .i64 a)) (u:=[]) (R:=[]) (λK hK=>?_) h2;exact ajc
def alj (ho:o.op= .call c)(hc:c.callee= .builtin .max)(hx:c.args.toList.map (C.ev E.get)= [some (.val (false,[.st (.lit (.int .i64 a))])),some (.val (false,[.st (.lit (.int .i64 b))]))])(h:a<b)
  (h2:eA o.dst (lit (.int .i64 b)) E λE'=>k E' H (([],[])::t)):cW C fid o E H t k:=by
 refine rG (r:=lit (.int .i64 b)) (u:=[]) (R:=[]) (λK hK=>?_) h2;exact ajc
end
instance agC (n:Nat):dU (((n+1:Nat):Int) -1) n:=⟨by omega⟩
theorem JF (ρ:Nat->Nat)(x:SV):Gk ρ (dyn x)=dyn x:=by
 show((dyn x).1,(dyn x).2.map (DC.rn ρ))=dyn x;exact af9
theorem bD {ok:Nat->Prop}(x:SV):eh ok (dyn x):=af3
theorem Qa (ρ:Nat->Nat)(T:TypeId)(cs:List SC):cD.rn ρ (.box T (cs.map .st))= .box T (cs.map .st):=by
 show cD.box T ((cs.map DC.st).map (DC.rn ρ))=_;rw[z6];congr 1
theorem tZ {ok:Nat->Prop}(T:TypeId)(cs:List SC):cD.dJ ok (.box T (cs.map .st)):=af3
theorem gD {id k:Nat}{b b':cD}(h:Hp.get [(id,some b)] k=some b'):k=id/\b'=b:=by
 rw[Hp.av]at h
 grind[an,aG,Hp.get]
theorem uc (id:Nat)(b:cD):Hp.get [(id,some b)] id=some b:=by exact LW
def HM {C:bU}{f:FuncId}{T:TypeId}{cs xz:List SC}{ys:List SV}{r:DV}(hr: ∀ρ,La ρ r=r)(hm: ∀ok,lH ok r)(h:bx C f 1 ((false,[.ptr 1 0])::ys.map dyn) [(1,some (.box T (cs.map .st)))] [1] r [(1,some (.box T (xz.map .st)))])
  {H:HF}{id fid:Nat}(hid:H id=some (.box T (cs.map .st))):bX C fid f ((false,[.ptr id 0])::ys.map dyn) H r (cB [(id,some (.box T (cs.map .st)))] [(id,some (.box T (xz.map .st)))]) [id]:=by
 have e1:((false,[DC.ptr id 0])::ys.map dyn).map (Gk λ_=>1)=(false,[.ptr 1 0])::ys.map dyn:=by
  rw[jd,z6];congr 1
  grind[List.map_congr_left,JF]
 have g:=bx.both (r:=r) (nx0:=tag id+1) (xs0:=(false,[.ptr id 0])::ys.map dyn) (Hs0:=[(id,some (.box T (cs.map .st)))]) (Hs1:=[(id,some (.box T (xz.map .st)))]) (roots0:=[id]) (ks:=[id]) (ks':=[1]) (ρ:=λ_=>1) (σ:=λ_=>id) (by rw[e1];exact h)
  ⟨by simp,λi hi j hj _=>by grind,λk b e=>by grind[gD,tZ],λn b' e=>by
   grind[gD,uc,Qa]⟩
  (λo b e=>by grind[gD,Qa,uc]) (λk _=>by decide) (λx hx=>by
   rcases dl.1 hx with rfl|hx
   ·intro d hd;rw[m6]at hd;subst hd;show id∈[id];simp
   ·obtain⟨z,_,rfl⟩:=dT.1 hx
    exact bD z)
  ⟨by simp,λi hi j hj _=>by grind,λk b e=>by grind[gD,tZ],λn b' e=>by
   grind[gD,uc,Qa]⟩
  (hm _) (λi hi=>by grind)
 rw[hr]at g;refine gr g (λi hi=>by grind) (λi hi=>by grind[uc]) (λi b e=>by grind[gD,tZ]) (λx hx=>?_) (λi hi=>?_) (λi hi=>?_) (λi b e=>?_) (hm _)
 ·rcases dl.1 hx with rfl|hx
  ·intro d hd;rw[m6]at hd;subst hd;show id∈_;simp
  ·obtain⟨z,_,rfl⟩:=dT.1 hx;exact bD z
 ·rw[m6]at hi;subst hi;exact⟨⟨_,_,uc _ _⟩,λb' e=>by grind[gD]⟩
 grind
 grind[gD,tZ]
def kV {C:bU}{f:FuncId}{T:TypeId}{cs xz:List SC}{ys:List SV}{y:SV}(h:bx C f 1 ((false,[.ptr 1 0])::ys.map dyn) [(1,some (.box T (cs.map .st)))] [1] (.val (dyn y)) [(1,some (.box T (xz.map .st)))])
  {H:HF}{id fid:Nat}(hid:H id=some (.box T (cs.map .st))):bX C fid f ((false,[.ptr id 0])::ys.map dyn) H (.val (dyn y)) (cB [(id,some (.box T (cs.map .st)))] [(id,some (.box T (xz.map .st)))]) [id]:=
 HM (λρ=>by show DV.val (Gk ρ (dyn y))=_;rw[JF]) (λ_=>show lH _ (.val (dyn y))from bD y) h hid
def ae4 (C:bU)(fn:Func)(T:TypeId)(xz:List SC)(r:DV)(S:St):Prop:=
 S.env.get 0=some (.val (false,[.ptr 1 0]))/\S.hp.get 1=some (.box T (xz.map .st))/\eB C S.hp.get S.env.get fn.results.toList λys=>∃zs,kT [(1,1)] ys=some zs/\pv zs=r
def acY (C:bU)(fn:Func)(T:TypeId)(xz:List SC)(y:SV)(S:St):Prop:=
 S.env.get 0=some (.val (false,[.ptr 1 0]))/\S.hp.get 1=some (.box T (xz.map .st))/\eB C S.hp.get S.env.get fn.results.toList λys=>∃zs,kT [(1,1)] ys=some zs/\pv zs= .val (dyn y)
def Zl {C:bU}(hC:C.Ok){f:FuncId}{fn:Func}{c:Code}{T:TypeId}{cs xz:List SC}{ys:List SV}{r:DV}(hn:iN C.P f=true)(hf:C.P.funcs[f]? =some fn)(hb:fn.body=some c)(uT:bS fn.ntmps c=true)(dQ:ys.length+1<=fn.ntmps)(Ph:aN [0] c=true)
  (h:m8 C c ⟨iF 0 ((false,[.ptr 1 0])::ys.map dyn),[(1,some (.box T (cs.map .st)))],1⟩ (ae4 C fn T xz r) (λ_ _=>False) (ae4 C fn T xz r)):
  bx C f 1 ((false,[.ptr 1 0])::ys.map dyn) [(1,some (.box T (cs.map .st)))] [1] r [(1,some (.box T (xz.map .st)))]:=by
 refine fA hC hn hf hb uT bv [(0,1)] (λp hp=>?_) Ph (λS hS=>?_) h
 grind
 ·obtain⟨h1,h2,h3⟩:=hS;refine⟨[(1,1)],⟨by simp,by simp,λn b' e=>?_⟩,λp hp=>?_,?_⟩
  ·obtain⟨rfl,rfl⟩:=gD e;refine⟨1,_,by simp,h2,?_⟩
   have: ∀l:List SC,e8 [(1,1)] (l.map .st)=some (l.map .st):=by
    intro l
    induction l with
    |nil=>rfl
    |cons a l ih=>grind[e8,m9]
   grind[fp]
  grind
  omega
def alk {C:bU}(hC:C.Ok){f:FuncId}{fn:Func}{c:Code}{T:TypeId}{cs xz:List SC}{ys:List SV}{y:SV}(hn:iN C.P f=true)(hf:C.P.funcs[f]? =some fn)(hb:fn.body=some c)(uT:bS fn.ntmps c=true)(dQ:ys.length+1<=fn.ntmps)(Ph:aN [0] c=true)
  (h:m8 C c ⟨iF 0 ((false,[.ptr 1 0])::ys.map dyn),[(1,some (.box T (cs.map .st)))],1⟩ (acY C fn T xz y) (λ_ _=>False) (acY C fn T xz y)):
  bx C f 1 ((false,[.ptr 1 0])::ys.map dyn) [(1,some (.box T (cs.map .st)))] [1] (.val (dyn y)) [(1,some (.box T (xz.map .st)))]:=
 Zl hC hn hf hb uT dQ Ph h
open Go.Shelf
variable {P:Program}{gl:tu}
def yK {mv mr:Mem}{vs:Array Value}{c:SC}(h:pf mv mr vs [(false,[c])]): ∃v,vs= #[v]/\dy mv mr v c:=by
 obtain⟨h1,h2⟩:=h;obtain⟨c',e,hr⟩:=h2 0 _ rfl;simp at e;subst e;refine⟨vs.getD 0 undef,?_,hr⟩;have h1:vs.size=1:=h1;apply A1;omega;simp_all
def pQ {enc:Int->Value}{w:World}{b:Nat}{arr:Array Value}{T:TypeId}(h:w.heap[b]? =some (.cells arr T))(d:Array Int):Sort.putRow enc w b 0 d=w.setRow b (Sort.putCells enc 0 d arr):=by
 have ak:b<w.heap.size:=(FV.1 h).1;have hv:w.heap[b]= .cells arr T:=(FV.1 h).2;unfold Sort.putRow Sort.mapBlock World.setRow;congr 1;apply A1
 ·simp
 ·intro i h1 h2;simp only[Sx];by_cases hi:b=i
  ·subst hi;simp only[if_true,hv,Sort.onCells]
  grind
def cL {E:dG}{Hh:Hp}{nx:Nat}(id:Nat){m:Bool}{z:Nat}{c:SC}(hb:Hh.get id=some (.row m z c)):bp ⟨E,Hh,nx⟩ ⟨E,(id,some (.row false z c))::Hh,nx⟩:=K43
def iG {E:dG}{Hh:Hp}{nx:Nat}(s z:Nat)(c:SC)(hz:0<z)(hv:c.ao=true)(h0:c.len=0)(hE:E.get s=some (bm .nil)):
  bp ⟨E,Hh,nx⟩ ⟨(s,some (bm (.own (2*nx))))::E,((2*nx),some (.row true z c))::Hh,nx+1⟩:=by
 rintro F nt a w ⟨N,⟨q1,q2,q0,β,q3,q4⟩,q5⟩;have hf: ¬N (2*nx):=λh=>by have:=q5 _ h;rw[jQ]at this;grind
 have hu: ∀i e,c.elem i=some e->e.length=z:=λi e he=>by exact ace
 have t2:=Tr.new q4 (Below.refl _ w) hf none (by simp) (.row true z c);have hN:=ad.new q4 (Below.refl _ w) hf none (by simp) (.row true z c) ⟨⟨hz,hv,hu⟩,.inl ⟨by simp[cV],h0⟩⟩;rw[<- Hp.av]at t2 hN;refine⟨Fw.bk N (2*nx),⟨q1,q2,q0,cV β (2*nx) none,?_,hN⟩,λid h=>?_⟩
 ·intro u dv hu;rw[dG.av]at hu;simp only at hu;split at hu
  ·rename_i e;subst e;cases hu;have Cg:a.tmps.getD u undef= .slice none 0 0:=(q3 u _ hE).am;refine cK ⟨.inr rfl,by rw[Cg];rfl,λnV z' n' hb wI=>?_⟩;rw[Hp.av,an]at hb;cases hb;cases wI;exact .inl ⟨by simp[cV],h0,Cg⟩
  ·exact t2.env q4 q3 u dv hu
 ·exact aks
end Go.Fw
