import Derived.Test.YtackacoaaihcjaaGreatDoorPkT0
import Derived.MapKept
import Derived.Laws.IdiomStrings
import Derived.Tactics
import Derived.Orders
import Derived.OrdersIn
import Derived.TacticsIn
import Derived.Scope
import Derived.ProofKit
import Derived.OpenShut
import Derived.IntWalk
import Derived.Lib.Strings
import Derived.Shelf.Slices.Reverse
import Derived.Shelf.Slices.Clone
import Derived.Shelf.Spec.SlicesGrow
set_option linter.all false
namespace Go.Fw
section
variable {C:bQ}{H H':HF}{fid:Nat}{K:j0}
theorem I8 {op:BinOp}{k:IntKind}{a b:Int}{K:Value->Prop}(h:s7 op k a b K): ∃v,K v/\∀K':Value->Prop,K' v->s7 op k a b K':=by
 cases op<;>simp only[s7]at h ⊢ <;>first
  |grind
  |grind
  |grind
theorem I9 {op:BinOp}{a b:ByteArray}{K:Value->Prop}(h:wI op a b K): ∃v,K v/\∀K':Value->Prop,K' v->wI op a b K':=by
 cases op<;>simp only[wI]at h ⊢ <;>first
  |grind
  |grind
  |grind
theorem Ja {op:BinOp}{x y:Value}{K:Value->Prop}(h:qN op x y K): ∃v,K v/\∀K':Value->Prop,K' v->qN op x y K':=by
 unfold qN at h ⊢;split at h
 grind[I8]
 grind[I9]
 grind
def UX (nc:Bool)(op:BinOp)(T:TypeId)(x y:DX):mD λ_ K=>LS C nc op T x y λv=>K v [] []:=by
 refine mD.const λK h=>?_;unfold LS at h ⊢;split at h
 grind
 grind
 grind
 grind
 grind[Ja]
 ·split at h
  ·rename_i i hi;split at h
   grind
   grind
  grind
 grind
def Yt (op:UnOp)(x:DX):mD λ_ K=>Pd op x λv=>K v [] []:=by
 refine mD.const λK h=>?_;unfold Pd at h ⊢
 grind
def PG (S T:TypeId)(x:DX):mD (xQ C S T x):=by
 intro H K h;unfold xQ at h;split at h
 ·rename_i i j hi hj;split at h
  grind[xQ]
  grind[xQ]
  ·rename_i e h1;split at h
   ·rename_i d h2;split at h
    ·rename_i es uu rr hby eG;split at h
     grind[xQ,jg]
     grind
    grind
   grind
  grind
 grind
def Di (f:FuncId)(a b:List (Option DV)):mD (cE C f a b):=by
 intro H K h;unfold cE at h;split at h
 ·rename_i fs u r h1;split at h
  grind[cE,ya,pc]
  grind
 grind
def BN (T:TypeId)(x y:DX):mD λ_ K=>lN C fid T x y K:=by
 refine mD.const λK h=>?_;unfold lN at h;split at h
 ·grind
 rename_i i hi;split at h
 ·rename_i e k1 n k2 m bV;split at h
  ·grind
  rename_i ie lD;split at h
  ·rename_i hb;obtain⟨h0,h⟩:=h;split at h
   ·exact aks
   ·exact aks
  grind
 grind
def Jb (T:TypeId)(x y:DX):mD (qP C fid T x y):=by
 intro H K h;unfold qP at h;split at h
 ·grind
 rename_i i hi;split at h
 ·rename_i e yc bV;split at h
  ·grind
  rename_i ie lD;split at h
  ·grind
  rename_i hb;split at h
  ·grind
  rename_i cy uy ry eG;split at h
  ·split at h
   grind[qP,jg]
   grind
  ·rename_i id;split at h
   ·rename_i m z c hbk;split at h
    ·rename_i c' pV zw;obtain⟨h1,h2,h⟩:=h;refine⟨_,_,_,h,λH' K' hH hK=>?_⟩;simp only[qP,hi,bV,lD,hb,jg eG λj hj=>hH j br,hH id (by simp),hbk,pV,zw]
     grind
    grind
   grind
  grind
 grind
def F5 (T:TypeId)(x y:DX):mD (pX C fid T x y):=by
 intro H K h;unfold pX at h;split at h
 ·grind
 rename_i i hi;split at h
 ·rename_i e k n bV;split at h
  ·grind
  rename_i ie lD;split at h
  ·grind
  rename_i hb;obtain⟨h0,h⟩:=h;split at h
  ·grind
  rename_i cy hz;split at h
  ·rename_i id;split at h
   ·rename_i m z c hid;split at h
    ·rename_i c' pV zw;obtain⟨h1,h⟩:=h;exact⟨_,_,_,h,λH' K' hH hK=>by grind[pX]⟩
    grind
   grind
  grind
 grind
theorem qY {mx:Bool}{k:IntKind}: ∀ {xs:List DX} {a:Int} {K:Value->Prop},s9 mx k a xs K->∃v,K v/\∀K':Value->Prop,K' v->s9 mx k a xs K'
 | [],a,K,h=>⟨_,h,λ_ hK=>hK⟩
 |x::xs,a,K,h=>by
  unfold s9 at h ⊢;split at h
  grind
  ·rename_i k' b r vO;cases vO;split at h
   ·rename_i hk;obtain⟨v,h1,h2⟩:=qY h
    grind
   grind
  grind
def F6 (b:Builtin)(RQ:List TypeId)(args:List (Option DV)):mD (eV C fid b RQ args):=by
 intro H K h;unfold eV at h;split at h
 ·split at h
  ·grind
  rename_i i hi;split at h
  grind[eV]
  grind[eV]
  grind[eV]
  grind[eV]
  grind[eV]
  grind
 ·split at h
  ·rename_i i' kA;split at h
   ·rename_i bV;obtain⟨r,u,R,h1,h2⟩:=Jb _ _ _ _ _ h
    grind[eV]
   ·rename_i bV;obtain⟨r,u,R,h1,h2⟩:=F5 _ _ _ _ _ h
    grind[eV]
   grind
  grind
 grind[qY,eV]
 grind[qY,eV]
 grind
def kN {f:FuncId}{xs:List DX}(fB:okN xs=true)(h: ∃r,akE C.P C.gl f xs r/\jb fid [] [] K r):wJ C fid f [] [] xs K:=by grind[wJ]
theorem F7 (fv:Option DV)(args:List (Option DV))(RQ:List TypeId):mD (jf C fid fv args RQ):=by
 intro H K h;unfold jf at h;split at h
 ·rename_i f first bI xs hv
  split at h
  ·rename_i l u rs eG;obtain⟨r,iX,h⟩:=h
   cases r with
   |one x=>exact⟨_,_,_,h,λH' K' hH hK=>by simp only[jf,hv,jh eG hH];exact⟨.one x,iX,hK⟩⟩
   |aJ x=>exact⟨_,_,_,h,λH' K' hH hK=>by simp only[jf,hv,jh eG hH];exact⟨.aJ x,iX,hK⟩⟩
   |own z c=>exact⟨_,_,_,h,λH' K' hH hK=>by simp only[jf,hv,jh eG hH];exact⟨.own z c,iX,hK⟩⟩
   |mix t x z c=>
    cases t
    ·match x,iX,h with
     | [y],iX,h=>exact⟨_,_,_,h,λH' K' hH hK=>by simp only[jf,hv,jh eG hH];exact⟨.mix false [y] z c,iX,hK⟩⟩
     | [],_,h=>exact h.elim
     |_::_::_,_,h=>exact h.elim
    ·exact⟨_,_,_,h,λH' K' hH hK=>by simp only[jf,hv,jh eG hH];exact⟨.mix true x z c,iX,hK⟩⟩
   |uK z c=>
    simp only[jb]at h;split at h
    ·rename_i id z' c' iO;split at h
     ·rename_i hb
      exact⟨_,_,_,h,λH' K' hH hK=>by
       have hH': ∀i∈[iO],H' i=H i:=λi hi=>by simp_all
       simp only[jf,hv,jh eG hH']
       exact⟨.uK z c,iX,by grind[jb]⟩⟩
     grind
    grind
  grind
 grind
theorem Jc (nx:Bool)(fv:Option DV)(args:List (Option DV))(RQ:List TypeId):mD (qQ C fid nx fv args RQ):=by
 cases nx
 ·exact F7 fv args RQ
 intro H K h;unfold qQ at h;simp only at h;split at h
 ·rename_i f first bI xs hv
  have key: ∀K':j0,wJ C fid f first bI xs K'->∀H',qQ C fid true (some (.val (false,[.st (.fn f first bI)]))) args RQ H' K':=λK' hK H'=>by simp only[qQ,hv];exact hK
  unfold wJ at h;split at h;case h_2=>grind
  rename_i fB;obtain⟨r,iX,h⟩:=h
  cases r with
  |one x=>exact⟨_,_,_,h,λH' K' hH hK=>key K' (kN K0 ⟨.one x,iX,hK⟩) H'⟩
  |aJ x=>exact⟨_,_,_,h,λH' K' hH hK=>key K' (kN K0 ⟨.aJ x,iX,hK⟩) H'⟩
  |own z c=>exact⟨_,_,_,h,λH' K' hH hK=>key K' (kN K0 ⟨.own z c,iX,hK⟩) H'⟩
  |mix t x z c=>
   cases t
   ·match x,iX,h with
    | [y],iX,h=>exact⟨_,_,_,h,λH' K' hH hK=>key K' (kN K0 ⟨.mix false [y] z c,iX,hK⟩) H'⟩
    | [],_,h=>exact h.elim
    |_::_::_,_,h=>exact h.elim
   ·exact⟨_,_,_,h,λH' K' hH hK=>key K' (kN K0 ⟨.mix true x z c,iX,hK⟩) H'⟩
  |uK z c=>grind[jb]
 grind
theorem UY {o:Oper}{ev:Operand->Option DV}(h:fu C fid o ev H K): ∃r u R,K r u R/\∀(jY:Operand->Option DV) (H':HF) (K':j0),(∀x∈o.op.operands.toList,jY x=ev x)->(∀id∈R,H' id=H id)->K' r u R->fu C fid o jY H' K':=by
 have key: ∀ {p:Op} {f:HF->j0->Prop},mD f->f H K->(∀(jY:Operand->Option DV) (H':HF) (K':j0),(∀x∈p.operands.toList,jY x=ev x)->f H' K'->fu C fid o jY H' K')->
   ∃r u R,K r u R/\∀(jY:Operand->Option DV) (H':HF) (K':j0),(∀x∈p.operands.toList,jY x=ev x)->(∀id∈R,H' id=H id)->K' r u R->fu C fid o jY H' K':=by
  intro p f hL hf hx;obtain⟨r,u,R,h1,h2⟩:=hL H K hf
  grind
 have aee: ∀ {l:List Operand} {jY:Operand->Option DV},(∀x∈l,jY x=ev x)->l.map jY=l.map ev:=λh=>Lp h
 cases ho:o.op with
 |move x=>
  exact vu
 |assign x=>
  exact vu
 |pick c x y=>
  unfold fu at h;rw[ho]at h;simp only at h;split at h
  ·rename_i t hc;cases t
   grind[fu,Op.operands]
   exact vu
  grind
 |alloc T=>
  unfold fu at h;rw[ho]at h;simp only at h;split at h
  grind[fu]
  grind
 |box T x=>
  exact vu
 |build T parts=>
  have FD: ∀ {jY:Operand->Option DV},(∀x∈(Op.build T parts).operands.toList,jY x=ev x)->(parts.toList.map λp=>(p.1,jY p.2))=parts.toList.map λp=>(p.1,ev p.2):=by grind[List.map_congr_left,Op.operands]
  unfold fu at h;rw[ho]at h;simp only at h;split at h
  ·rename_i i hi;split at h
   ·rename_i zs hz;split at h
    ·rename_i fs bV;split at h
     ·rename_i cs OT;exact⟨_,_,_,h,λjY H' K' he hH hK=>by unfold fu;simp only[ho,hi,hz,bV,FD he];grind⟩
     grind
    ·rename_i n e bV;split at h
     ·rename_i ie lD;split at h
      ·rename_i cs OT;exact⟨_,_,_,h,λjY H' K' he hH hK=>by unfold fu;simp only[ho,hi,hz,bV,lD,FD he];grind⟩
      grind
     grind
    grind
   grind
  grind
 |buildSlice T len parts=>
  have FD: ∀ {jY:Operand->Option DV},(∀x∈(Op.buildSlice T len parts).operands.toList,jY x=ev x)->(parts.toList.map λp=>(p.1,jY p.2))=parts.toList.map λp=>(p.1,ev p.2):=by grind[List.map_congr_left,Op.operands]
  unfold fu at h;rw[ho]at h;simp only at h;split at h
  ·rename_i i hi;split at h
   ·rename_i e bV;split at h
    ·rename_i ie lD;split at h
     ·rename_i hb;split at h
      ·rename_i es u r hes;split at h
       ·rename_i c hc;refine⟨_,_,_,h,λjY H' K' he hH hK=>?_⟩;unfold fu;simp only[ho,hi,bV,lD,hb,FD he,tq hes hH]
        grind
       grind
      grind
     grind
    grind
   grind
  grind
 |load T x=>
  unfold fu at h;rw[ho]at h;simp only at h;split at h
  ·rename_i d hd;exact key (PF T d) h λjY H' K' he hf=>by exact vu
  grind
 |store T x y=>
  unfold fu at h;rw[ho]at h;simp only at h;split at h
  ·rename_i d e hd Cy;exact key (L5 T d e) h λjY H' K' he hf=>by exact vu
  grind
 |fieldAddr T x n=>
  unfold fu at h;rw[ho]at h;simp only at h;split at h
  ·rename_i d hd;exact key (BL T d n) h λjY H' K' he hf=>by exact vu
  grind
 |indexAddr T x y=>
  unfold fu at h;rw[ho]at h;simp only at h;split at h
  ·rename_i d e hd Cy;exact key (BM T d e) h λjY H' K' he hf=>by exact vu
  grind
 |index T x y=>
  unfold fu at h;rw[ho]at h;simp only at h;split at h
  ·rename_i d e hd Cy;exact key (L6 T d e) h λjY H' K' he hf=>by exact vu
  grind
 |field T x n=>
  unfold fu at h;rw[ho]at h;simp only at h;split at h
  ·rename_i d hd;exact key (L7 T d n) h λjY H' K' he hf=>by exact vu
  grind
 |slice T x lo hi mx=>
  unfold fu at h;rw[ho]at h;simp only at h;split at h
  ·rename_i d hd;refine key (L8 T d (lo.map ev) (hi.map ev)) h λjY H' K' he hf=>?_
   have e1:lo.map jY=lo.map ev:=by
    cases lo with
    |none=>rfl
    |some z=>grind[Op.operands]
   have e2:hi.map jY=hi.map ev:=by
    cases hi with
    |none=>rfl
    |some z=>grind[Op.operands]
   exact vu
  grind
 |binOp op T x y yT=>
  unfold fu at h;rw[ho]at h;simp only at h;split at h
  ·rename_i d e hd Cy;exact key (UX _ op T d e) h λjY H' K' he hf=>by exact vu
  grind
 |unOp op T x=>
  unfold fu at h;rw[ho]at h;simp only at h;split at h
  ·rename_i d hd;exact key (Yt op d) h λjY H' K' he hf=>by exact vu
  grind
 |convert s t x=>
  unfold fu at h;rw[ho]at h;simp only at h;split at h
  ·rename_i d hd;exact key (PG s t d) h λjY H' K' he hf=>by exact vu
  grind
 |extract t n=>
  unfold fu at h;rw[ho]at h;simp only at h;split at h
  grind[fu,Op.operands]
  grind
 |makeFunc fn first bI=>
  cases fn with
  |func f=>
   unfold fu at h;rw[ho]at h;simp only at h;refine key (Di f _ _) h λjY H' K' he hf=>?_;exact vu
  |_=>grind[fu]
 |makeSlice T x y=>
  unfold fu at h;rw[ho]at h;simp only at h;split at h
  ·rename_i d e hd Cy;exact key (BN T d e) h λjY H' K' he hf=>by exact vu
  grind
 |call c=>
  cases hc:c.callee with
  |value fo=>
   unfold fu at h;rw[ho]at h;simp only[hc]at h;refine key (Jc _ _ _ _) h λjY H' K' he hf=>?_
   grind[fu,Op.operands,Call.operands]
  |invoke r m=>grind[fu]
  |builtin b=>
   unfold fu at h;rw[ho]at h;simp only[hc]at h;refine key (F6 b _ _) h λjY H' K' he hf=>?_
   grind[fu,Op.operands,Call.operands]
 |_=>unfold fu at h;rw[ho]at h;exact h.elim
end
open Go.RowKit (Below)
open Classical
def UZ (z:Nat):Nat->List (Nat × Option DV)->Option (List (List DC))
 |_,[]=>some []
 |n,(i,some (.val x))::rest=>match Nat.beq i n&&Nat.beq x.2.length z with
  |true=>match UZ z (n+1) rest with
   |some l=>some (x.2::l)
   |none=>none
  |false=>none
 |_,_=>none
def j6 (H:HF)(z:Nat):DC->Option (List (List DC) × List Nat)
 | .nil =>some ([],[])
 | .own id=>match H id with
  |some (.aA z' l)=>match Nat.beq z' z with
   |true=>some (l,[id])
   |false=>none
  |_=>none
 | .st (.view es)=>some (es.map λe=>e.map .st,[])
 |_=>none
def kP (s:ByteArray):List (List SC):=s.data.toList.map λb=>[.lit (.int .u8 (b.toNat:Nat))]
def pd:List DC->Option (List SC)
 | []=>some []
 | .st c::l=>match pd l with
  |some cs=>some (c::cs)
  |none=>none
 |_=>none
def iY:List (ByteArray × SV)->ByteArray->Option SV
 | [],_=>none
 |(k,x)::es,a=>match a==k with
  |true=>some x
  |false=>iY es a
def zZ:List (ByteArray × SV)->ByteArray->SV->List (ByteArray × SV)
 | [],a,x=>[(a,x)]
 |(k,y)::es,a,x=>match a==k with
  |true=>(k,x)::es
  |false=>(k,y)::zZ es a x
def wL (C:bQ)(k:TypeId):Bool:=match C.ti k with
 |some i=>match i.bY with
  | .str =>true
  |_=>false
 |none=>false
def L9:List (Nat × Bool)->Nat->Option Bool
 | [],_=>none
 |(j,b)::H,i=>match Nat.beq i j with
  |true=>some b
  |false=>L9 H i
def SX (C:bQ)(e:TypeId):Option SV:=match C.ti e,L9 C.mz e with
 |some ie,some ag=>match qM ie.kinds ie.zero with
  |some cs=>some (ag,cs)
  |none=>none
 |_,_=>none
def orZ:Option SV->SV->SV
 |some x,_=>x
 |none,z=>z
def isS:Option SV->Bool
 |some _=>true
 |none=>false
def uM (abj:Option SV)(zero:SV)(ok:Bool):DV:=match ok with
 |false=>.val (dyn (orZ abj zero))
 |true=>.aJ [dyn (orZ abj zero),(false,[.st (.lit (.bool (isS abj)))])]
def PH (C:bQ)(fid:Nat)(o:Oper)(ev:Operand->Option DV)(H:HF):Option (Prop × DV × Hp × List Nat):=match o.op with
 | .buildSlice T len parts=>match C.ti T with
  |some i=>match i.bY with
   | .slice e=>match C.ti e,xP e C.deep with
    |some ie,true=>match Nat.ble 1 ie.size&&Nat.ble (len*ie.size) 16777216&&Nat.beq parts.size len with
     |true=>match UZ ie.size 0 (parts.toList.map λp=>(p.1,ev p.2))with
      |some l=>some (True,bm (.own fid),[(fid,some (.aA ie.size l))],[])
      |none=>none
     |false=>none
    |_,_=>none
   |_=>none
  |none=>none
 | .call c=>match c.callee,c.argTypes.toList,c.args.toList.map ev with
  | .builtin .append,[t,t'],[some (.val (false,[x])),some (.val (false,[y]))]=>match C.ti t,C.ti t' with
   |some i,some i'=>match i.bY,i'.bY with
    | .slice e,.slice _=>match C.ti e,xP e C.deep with
     |some ie,true=>match Nat.ble 1 ie.size&&Nat.ble ie.bytes 4096&&Nat.beq ie.zero.length ie.size with
      |true=>match j6 H ie.size y with
       |some (ly,ry)=>match x with
        | .nil =>some ((∀e∈ly,e.length=ie.size)/\ly.length<=xy,bm (.own fid),[(fid,some (.aA ie.size ly))],ry)
        | .own id=>match H id with
         |some (.aA z l)=>match Nat.beq z ie.size with
          |true=>some ((∀e∈ly,e.length=ie.size)/\l.length+ly.length<=xy,bm (.own fid),[(fid,some (.aA z (l++ly))),(id,none)],id::ry)
          |false=>none
         |_=>none
        |_=>none
       |none=>none
      |false=>none
     |_,_=>none
    |_,_=>none
   |_,_=>none
  |_,_,_=>none
 | .makeMap T none=>match C.ti T with
  |some i=>match i.bY with
   | .map _ _=>some (True,bm (.mp fid),[(fid,some (.map []))],[])
   |_=>none
  |none=>none
 | .insert T m k v=>match C.ti T,ev m,ev k,ev v with
  |some i,some (.val (false,[.mp id])),some (.val (false,[.st (.lit (.string a))])),some (.val (ag,cs))=>match i.bY,H id,pd cs with
   | .map kt _,some (.map es),some l=>match wL C kt with
    |true=>some (True,.aJ [],[(id,some (.map (zZ es a (ag,l))))],[id])
    |false=>none
   |_,_,_=>none
  |_,_,_,_=>none
 | .mapUpdate T m k v=>match C.ti T,ev m,ev k,ev v with
  |some i,some (.val (false,[.mp id])),some (.val (false,[.st (.lit (.string a))])),some (.val (ag,cs))=>match i.bY,H id,pd cs with
   | .map kt _,some (.map es),some l=>match wL C kt with
    |true=>some (True,.aJ [],[(id,some (.map (zZ es a (ag,l))))],[id])
    |false=>none
   |_,_,_=>none
  |_,_,_,_=>none
 | .lookup T m k ok=>match C.ti T,ev m,ev k with
  |some i,some (.val (false,[.mp id])),some (.val (false,[.st (.lit (.string a))]))=>match i.bY,H id with
   | .map kt et,some (.map es)=>match wL C kt,SX C et with
    |true,some z=>some (True,uM (iY es a) z ok,[],[id])
    |_,_=>none
   |_,_=>none
  |_,_,_=>none
 | .convert src dst x=>match C.ti src,C.ti dst,ev x with
  |some i,some j,some (.val (false,[.st (.lit (.string s))]))=>match i.bY,j.bY with
   | .str,.slice e=>match zT C e with
    |true=>some (True,bm (.st (.view (kP s))),[],[])
    |false=>none
   |_,_=>none
  |_,_,_=>none
 | .nilCheck x=>match ev x with
  |some (.val (false,[d]))=>match LR d with
   |some true=>some (True,bm d,[],[])
   |_=>none
  |_=>none
 | .slice T (.global g) none none none=>match C.ti T with
  |some i=>match i.bY with
   | .array n e=>match C.ti e with
    |some _=>some (True,bm (.st (.raw (.slice (some ⟨g,0,none⟩) n n))),[],[])
    |none=>none
   |_=>none
  |none=>none
 | .sliceToArrayPointer T x=>match C.ti T,ev x with
  |some i,some (.val (false,[.st (.ints l)]))=>match i.bY with
   | .array n _=>some (1<=n/\n<=l.length,bm (.st (.ref ((l.take n).map λk=>.lit (.int .i64 k)))),[],[])
   |_=>none
  |_,_=>none
 | .makeFunc (.func f) first bI=>match first.toList,bI.toList.map ev with
  | [],[some (.val (false,[.ptr id 0]))]=>some (True,bm (.sv f id),[],[])
  |_,_=>none
 |_=>none
def opX (C:bQ)(fid:Nat)(o:Oper)(ev:Operand->Option DV)(H:HF)(K:j0):Prop:=match PH C fid o ev H with
 |some (P,r,u,R)=>P/\K r u R
 |none=>False
theorem yb {H H':HF}{z:Nat}{d:DC}{l:List (List DC)}{R:List Nat}(h:j6 H z d=some (l,R))(hH: ∀id∈R,H' id=H id):j6 H' z d=some (l,R):=by
 cases d with
 |own id=>
  grind[j6]
 |st c=>cases c<;>exact h
 |_=>exact h
section
variable {C:bQ}{fid:Nat}
theorem PJ {o:Oper}{ev jY:Operand->Option DV}{H H':HF}{P:Prop}{r:DV}{u:Hp}{R:List Nat}(h:PH C fid o ev H=some (P,r,u,R))(he: ∀x∈o.op.operands.toList,jY x=ev x)(hH: ∀id∈R,H' id=H id):
  PH C fid o jY H'=some (P,r,u,R):=by
 unfold PH at h ⊢
 cases ho:o.op with
 |buildSlice T len parts=>
  rw[ho]at h;simp only at h ⊢;have FD:(parts.toList.map λp=>(p.1,jY p.2))=parts.toList.map λp=>(p.1,ev p.2):=by grind[List.map_congr_left,Op.operands]
  grind
 |call c=>
  rw[ho]at h;simp only at h ⊢;have aee:c.callee= .builtin .append ->c.args.toList.map jY=c.args.toList.map ev:=λhc=>Lp λx hx=>he x (by grind[Op.operands,Call.operands]);split at h;rotate_left
  ·cases h
  rename_i t t' x y hc vP dG;rw[aee hc,hc,vP,dG];simp only;split at h;rotate_left
  ·cases h
  rename_i i i' hi kA;split at h;rotate_left
  ·cases h
  rename_i e _ jd ahj;split at h;rotate_left
  ·cases h
  rename_i ie lD hdp;split at h;rotate_left
  ·cases h
  rename_i hb;split at h;rotate_left
  ·cases h
  rename_i ly ry hdy;split at h
  grind[yb]
  ·rename_i id;split at h
   grind[yb]
   grind
  grind
 |makeMap T r=>
  grind
 |insert T m k v=>
  exact ais
 |mapUpdate T m k v=>
  exact ais
 |lookup T m k ok=>
  rw[ho]at h
  grind[Op.operands]
 |convert src dst x=>
  grind[Op.operands]
 |nilCheck x=>
  grind[Op.operands]
 |sliceToArrayPointer T x=>
  grind[Op.operands]
 |slice T x lo hi mx=>
  grind
 |makeFunc fn first bI=>
  rw[ho]at h
  cases fn with
  |func f=>
   grind[List.map_congr_left,Op.operands]
  |_=>cases h
 |_=>grind
def U0 {o:Oper}{ev:Operand->Option DV}{H:HF}{K:j0}(h:opX C fid o ev H K): ∃r u R,K r u R/\∀(jY:Operand->Option DV) (H':HF) (K':j0),(∀x∈o.op.operands.toList,jY x=ev x)->(∀id∈R,H' id=H id)->K' r u R->opX C fid o jY H' K':=by grind[opX,PJ]
end
section
variable {C:bQ}{F:gN}{β:Nat->Option Nat}{N:Nat->Prop}{H:HF}{fid:Nat}{K:j0}{w w':World}{P:Program}
theorem SY {z:Nat}: ∀ {ps:List (Nat × Option DV)} {n:Nat} {l:List (List DC)},UZ z n ps=some l->l.length=ps.length/\∀(k:Nat) (e:List DC),l[k]? =some e->∃ag,ps[k]? =some (n+k,some (.val (ag,e)))/\e.length=z
 | [],n,l,h=>by grind[UZ]
 |p::ps,n,l,h=>by
  unfold UZ at h;split at h
  grind
  ·rename_i n0 i x rest vO;cases vO;split at h
   ·rename_i hb;obtain⟨h1,h2⟩:=aG hb;have h1:=o8 h1;have h2:=o8 h2;subst h1;split at h
    ·rename_i l' hl;simp at h;subst h;obtain⟨q1,q2⟩:=SY hl
     grind
    grind
   grind
  grind
def Jd (hC:C.Ok)(hG:bE C F)(hR:ac F β N H w)(hf: ¬N fid){E:EF}{a:Act}(hE:dD F β N H w E a){T:TypeId}{len:Nat}{parts:Array (Nat × Operand)}{i ie:TI}{e:TypeId}{l:List (List DC)}
  (hi:C.ti T=some i)(bV:i.bY= .slice e)(lD:C.ti e=some ie)(h1:1<=ie.size)(h2:len*ie.size<=16777216)(h3:parts.size=len)(hl:UZ ie.size 0 (parts.toList.map λp=>(p.1,C.ev E p.2))=some l):
  ∃v w',(Instr.buildSlice T len (parts.map λp=>(p.1,a.eval p.2))).run C.P w= .ok v w'/\bh F β N H fid (λr u R=>r=bm (.own fid)/\u= [(fid,some (.aA ie.size l))]/\R= []) w v w':=by
 obtain⟨aoE,hp⟩:=C6 hG hR hE parts;obtain⟨tf,d,z,hT⟩:=hC.get hi;have hd:=di (hT.bY.trans bV);obtain⟨ef,ed,ez,GP⟩:=hC.get lD;obtain⟨q2,q3⟩:=SY hl;have bB:l.length=len:=by grind
 have FK: ∃xk:Array Value,xk.size=len*ie.size/\∀cells,Instr.fill (λi=>some (i*ie.size,ie.size)) xk (parts.map λ(p:Nat × Operand)=>(p.1,a.eval p.2)).toList =some cells->
   (Instr.buildSlice T len (parts.map λ(p:Nat × Operand)=>(p.1,a.eval p.2))).run C.P w= .ok (.slice (some ⟨w.heap.size,0,none⟩) len len) (w.alloc (.cells cells e)):=by
  exact K34
 obtain⟨xk,hs0,bC⟩:=FK;have pE:(parts.map λ(p:Nat × Operand)=>(p.1,a.eval p.2)).toList.length =len:=by omega
 have OY: ∀(k:Nat) (p:Nat × Value),(parts.map λ(p:Nat × Operand)=>(p.1,a.eval p.2)).toList[k]? =some p->∃ag e,l[k]? =some e/\p.1=k/\e.length=ie.size/\aq F β N H w p.2 (ag,e):=by
  intro k p hk;have uD:k<l.length:=by grind
  obtain⟨ag,a1,a2⟩:=q3 k l[k] br;obtain⟨b1,b2⟩:=hp k p _ hk a1;exact⟨ag,l[k],by grind,by omega,a2,b2 _ rfl⟩
 obtain⟨arr',f1,f2,f3,f4⟩:=C7 (z:=ie.size) (parts:=(parts.map λ(p:Nat × Operand)=>(p.1,a.eval p.2)).toList) (n:=0) (arr:=xk) (λk p hk=>by
  obtain⟨ag,e,a1,a2,a3,a4⟩:=OY k p hk
  exact⟨by omega,by rw[a4.cells.1,a3]⟩) br
 refine⟨.slice (some ⟨w.heap.size,0,none⟩) len len,w.alloc (.cells arr' e),bC _ f1,?_⟩;refine bh.new (u:=[]) (b:=some w.heap.size) hR Tr.refl hf (Below.og w _) (by simp) ⟨rfl,rfl,rfl⟩ (λH1 xA t1 t2=>?_) (λH1 xA=>cI ⟨.inr rfl,rfl,λnL z' n' hb wx=>?_⟩)
 ·have iE: ∀(i:Nat) (e:List DC),l[i]? =some e->e.length=ie.size:=λi e he=>let⟨_,_,h⟩:=q3 i e he;h;refine⟨⟨h1,iE⟩,.inr ⟨w.heap.size,len,arr',e,by simp[cR],gN.gG hR.below.size,gO w _,by omega,by omega,λi e j x he hx=>?_⟩⟩;have Ui:i< (parts.map λ(p:Nat × Operand)=>(p.1,a.eval p.2)).toList.length :=by grind
  obtain⟨ag,e0,a1,a2,a3,a4⟩:=OY i _ (nM Ui);rw[he]at a1;cases a1;have hjz:j<ie.size:=by grind
  have:=f3 i _ j (nM Ui) hjz;rw[jZ]at this;rw[bL this];exact t1.jr hR (a4.cells.2 j x hx)
 ·exact aiu
structure p9 (F:gN) (β:Nat->Option Nat) (N:Nat->Prop) (H:HF) (w:World) (z:Nat) (l:List (List DC)) (arr:Array Value):Prop where
 size:arr.size=l.length*z
 zK: ∀(i:Nat) (e:List DC),l[i]? =some e->e.length=z
 rep: ∀(i:Nat) (e:List DC) (j:Nat) (x:DC),l[i]? =some e->e[j]? =some x->cd F β N H w (arr.getD (i*z+j) undef) x
def p9.one {z:Nat}{l:List (List DC)}{new:Array Value}(hc:p9 F β N H w z l new)(hz:0<z): ∀u∈new.toList,u.oneCell'=true:=by
 intro u hu;obtain⟨k,hk⟩:=Uy.1 hu;have qF:new[k]? =some u:=by grind
 have ak:k<new.size:=(FT.1 qF).1;have hi:k/z<l.length:=by rw[XB hz,<- hc.size];omega
 have he:l[k/z]? =some l[k/z]:=by grind
 have hj:k%z< (l[k/z]).length :=by rw[hc.zK _ _ he];exact sZ _ hz
 have:=hc.rep _ _ (k%z) (l[k/z])[k%z] he br;rw[Nat.mul_comm,Nat.div_add_mod,mh qF]at this;exact this.one_cell
def p9.cat {z:Nat}{c d:List (List DC)}{a b rest:Array Value}(hc:p9 F β N H w z c a)(hd:p9 F β N H w z d b):
  (∀(i:Nat) (e:List DC),(c++d)[i]? =some e->e.length=z)/\∀(i:Nat) (e:List DC) (j:Nat) (x:DC),(c++d)[i]? =some e->e[j]? =some x->cd F β N H w ((a++b++rest).getD (i*z+j) undef) x:=by
 have uG: ∀(i:Nat) (e:List DC),(c++d)[i]? =some e->e.length=z:=by
  intro i e he;rw[Si]at he;by_cases hi:i<c.length
  ·rw[if_pos hi]at he;exact hc.zK i e he
  ·rw[if_neg hi]at he;exact hd.zK _ e he
 refine⟨uG,λi e j x he hx=>?_⟩;have hj:j<z:=by grind
 rw[Si]at he;by_cases hi:i<c.length
 ·rw[if_pos hi]at he
  have ak:i*z+j<a.size:=by
   rw[hc.size];have:(i+1)*z<=c.length*z:=kC _ hi
   grind
  rw[bL (b:=a) (l:=i*z+j) br];exact hc.rep i e j x he hx
 ·rw[if_neg hi]at he;have hi2:=(kl.1 he).1;have e1:(i -c.length)*z+c.length*z=i*z:=by exact abZ
  have ak:(i -c.length)*z+j<b.size:=by
   rw[hd.size];have:(i -c.length+1)*z<=d.length*z:=kC _ hi2
   grind
  rw[bL (b:=b) (l:=(i -c.length)*z+j) (by
   rw[Xv akv,XA (by rw[hc.size];omega),hc.size]
   grind)]
  exact hd.rep _ e j x he hx
theorem iQ (hG:bE C F)(hR:ac F β N H w){z:Nat}{v:Value}{d:DC}{l:List (List DC)}{R:List Nat}(hd:cd F β N H w v d)(h:j6 H z d=some (l,R))(hz:0<z)(hu: ∀e∈l,e.length=z):
  ∃a cap new,v= .slice a l.length cap/\(Builtin.firstCells z l.length v).run P w= .ok new w/\l.length<=cap/\p9 F β N H w z l new:=by
 have eG: ∀ {es:List (List SC)},dq (MV F β H w) (MR F β H w) v (.view es)->(∀e∈es,e.length=z)->∃a cap new,v= .slice a es.length cap/\(Builtin.firstCells z es.length v).run P w= .ok new w/\es.length<=cap/\p9 F β N H w z (es.map λe=>e.map .st) new:=by
  intro es hv hes;obtain⟨a,cap,new,q1,q2,q3,q4,q5⟩:=gg (P:=P) (z:=z) (d:=.st (.view es)) (c:=.view es) (k:=false) hG hR hv rfl rfl hz (λi e he=>hes e (jt (by simpa [SC.elem]using he)));refine⟨a,cap,new,q1,q2,q4,by grind[SC.len],λi e he=>?_,λi e j x he hx=>?_⟩
  grind
  ·rw[gr,my]at he;obtain⟨y,hy,rfl⟩:=he;rw[gr,my]at hx;obtain⟨c,hc,rfl⟩:=hx;exact(q5 i y j c abL hc).mono (Mem.le_refl _) (dX _)
 cases d with
 |nil=>
  simp[j6]at h;obtain⟨rfl,_⟩:=h;have hv:v= .slice none 0 0:=hd;subst hv;exact aki
 |st c=>
  cases c<;>simp[j6]at h;rename_i es;obtain⟨rfl,_⟩:=h;obtain⟨a,cap,new,q1,q2,q3,q4⟩:=eG (es:=es) hd λe he=>by simp_all
  grind
 |own id=>
  simp only[j6]at h;split at h
  ·rename_i z' l' e;split at h
   ·rename_i pV;have pV:=o8 pV;subst pV;simp at h;obtain⟨rfl,_⟩:=h;obtain⟨hn,_,jo⟩:=hd;obtain⟨_,⟨_,hl⟩,gD⟩:=hR.rel id _ e
    rcases jo _ z' l'.length e rfl with⟨b1,b2,rfl⟩|⟨b,cap,arr,T,b1,rfl,b3,b4⟩
    ·have sq:l'= []:=IR b2;subst sq;exact aki
    ·rcases gD with q|⟨b',jD,arr',T',q1,q2,q3,q4,q5,q6⟩
     ·grind
     rw[b1]at q1;cases q1;rw[b3]at q3;cases q3;have gc:cap=jD:=Uu hz K0;subst gc;have eu:l'.length*z'<=arr.size:=by rw[q4];exact kC _ q5
     refine⟨_,cap,((List.range (l'.length*z')).map λk=>arr.getD k undef).toArray,rfl,?_,q5,by simp,hl,λi e j x he hx=>?_⟩
     ·exact SF w _ _ _ (λj hj=>by rw[addr_add,jZ];exact gd b3 K0)
     ·have hj:j<z':=by grind
      have ak:i*z'+j<l'.length*z':=by
       have:(i+1)*z'<=l'.length*z':=kC _ (kl.1 he).1
       grind
      simp_all
   grind
  grind
 |ptr _ _=>grind[j6]
 |cF _ _ _ _=>grind[j6]
 |sv _ _=>grind[j6]
 |mp _=>grind[j6]
def Hg (hR:ac F β N H w)(hf: ¬N fid){z:Nat}{c d:List (List DC)}{a b rest:Array Value}{e:TypeId}{dH:Nat}{H0:HF}{u:Hp}{R:List Nat}(hz:0<z)(hc:p9 F β N H w.drew z c a)(hd:p9 F β N H w.drew z d b)
  (gc:(c++d).length <=dH)(OW:rest.size=(dH -(c++d).length)*z)(h0: ∀H1,H1=u.on H->H1=bn H0 fid (some (.aA z (c++d))))(ht:Tr F β N H w.drew β N H0 w.drew)(Ud:ac F β N H0 w.drew)
  (hK:K (bm (.own fid)) u R):bh F β N H fid K w (.slice (some ⟨w.heap.size,0,none⟩) (c++d).length dH) (w.drew.alloc (.cells (a++b++rest) e)):=by
 obtain⟨uG,il⟩:=p9.cat (rest:=rest) hc hd;have Cz:Below w.heap.size w w.drew:=(Below.refl _ _).drew;have td:Tr F β N H w β N H w.drew:=Tr.grow hR Cz;have sQ:Below w.drew.heap.size w.drew (w.drew.alloc (.cells (a++b++rest) e)):=Below.og _ _;have jq: ∀x,some w.heap.size=some x->w.drew.heap.size<=x:=λx hx=>by simp_all
 have t2:=Tr.new (w':=w.drew.alloc (.cells (a++b++rest) e)) Ud sQ hf (some w.heap.size) jq (.aA z (c++d))
 have ID:(a++b++rest).size =dH*z:=by
  have e1:dH*z=(dH -(c++d).length)*z+(c++d).length *z:=by exact abZ
  exact ajT
 have vK:(w.drew.alloc (.cells (a++b++rest) e)).heap[w.heap.size]? =some (.cells (a++b++rest) e):=gO w.drew _;have OS:ac F β N H w.drew:=hR.grow Cz
 have abm:ir F (cR β fid (some w.heap.size)) (Fw.bf N fid) (bn H0 fid (some (.aA z (c++d)))) (w.drew.alloc (.cells (a++b++rest) e)) fid (.aA z (c++d)):=
  ⟨⟨hz,uG⟩,.inr ⟨w.heap.size,dH,_,e,by simp[cR],gN.gG hR.below.size,vK,ID,gc,λi e' j x he hx=>(ht.trans t2).jr OS (il i e' j x he hx)⟩⟩
 have hH:=ac.new Ud sQ hf (some w.heap.size) jq (.aA z (c++d)) abm;exact K81
def Ma (hf: ¬N fid){z:Nat}{H0:HF}{u:Hp}{R:List Nat}(hz:0<z)
  (hH0: ∀H1,H1=u.on H->H1=bn H0 fid (some (.aA z [])))(ht:Tr F β N H w β N H0 w)(Ud:ac F β N H0 w)(hK:K (bm (.own fid)) u R):bh F β N H fid K w (.slice none 0 0) w:=by
 have hw:Below w.heap.size w w:=Below.refl _ _;have t2:=Tr.new Ud hw hf none (by simp) (.aA z []);have hH:=ac.new Ud hw hf none (by simp) (.aA z []) ⟨⟨hz,by simp⟩,.inl ⟨by simp[cR],rfl⟩⟩;have hu1:=hH0 _ rfl;refine⟨cR β fid none,_,u,R,hK,by rw[hu1];exact ht.trans t2,by grind,?_⟩;rw[hu1];refine cI ⟨.inr rfl,rfl,λnL z' n' hb wx=>?_⟩;rw[an]at hb;cases hb;cases wx;exact .inl ⟨by simp[cR],rfl,rfl⟩
def U1 (hR:ac F β N H w)(hf: ¬N fid){z id b cap:Nat}{c d:List (List DC)}{arr new:Array Value}{T:TypeId}{R:List Nat}(hb:H id=some (.aA z c))(xm:β id=some b)(lB:w.heap[b]? =some (.cells arr T))
  (nn:arr.size=cap*z)(hd:p9 F β N H w z d new)(eu:c.length+d.length<=cap)
  (hK:K (bm (.own fid)) [(fid,some (.aA z (c++d))),(id,none)] R):bh F β N H fid K w (.slice (some ⟨b,0,none⟩) (c++d).length cap) (w.setRow b (aO arr (c.length*z) new.toList)):=by
 obtain⟨hn,⟨hz,sq⟩,gD⟩:=hR.rel id _ hb
 rcases gD with⟨q,_⟩|⟨b',jD,arr',T',q1,q2,q3,q4,q5,q9⟩
 ·grind
 rw[xm]at q1;cases q1;rw[lB]at q3;cases q3;have gc:cap=jD:=Uu hz K0;subst gc;have zI:new.toList.length=d.length*z:=by simpa using hd.size
 have Pa:c.length*z+d.length*z<=arr.size:=ajX;have O5:(aO arr (c.length*z) new.toList).size =arr.size:=fj K0;have W8:id≠fid:=λe=>hf (e▸hn);have vK:(w.setRow b (aO arr (c.length*z) new.toList)).heap[b]? =some (.cells (aO arr (c.length*z) new.toList) T):=xK w b arr _ T (0,0) lB;have live: ∀ {k:Nat} {b0:co},k≠fid->bn (bn H id none) fid (some (.aA z (c++d))) k=some b0->k≠id/\H k=some b0:=by grind[aH,an]
 have hT:Tr F β N H w (cR β fid (some b)) (Fw.bf N fid) (bn (bn H id none) fid (some (.aA z (c++d)))) (w.setRow b (aO arr (c.length*z) new.toList)):=by
  refine⟨jv.setRow (hR.gb hb xm).2 _,λb' o v _ hs e=>⟨λiO bz e' jS=>?_,?_⟩,λ_ h=>.inl h,λiO IE=>it _ _ _ λe=>hf (e▸IE),λiO blk' IE e=>?_,λ_ _ _ b' xk T0 _ _ _ _ _ e=>?_,mg ⟨_,_,lB⟩ _⟩
  ·by_cases hk:iO=fid
   ·subst hk;rw[jw]at jS;cases jS;exact(hs id _ hb xm).elim
   ·exact afP
  ·by_cases hk:b'=b
   ·subst hk;exact(hs id _ hb xm).elim
   exact abY
  ·exact afD
  grind[setRow_other]
 have hc:p9 F β N H w z c (arr.extract 0 (c.length*z)):=by
  refine⟨by grind,sq,λi e j x he hx=>?_⟩;have hj:j<z:=by grind
  have ak:i*z+j<c.length*z:=by
   have:(i+1)*z<=c.length*z:=kC _ (kl.1 he).1
   grind
  grind[bL]
 obtain⟨uG,il⟩:=p9.cat (rest:=arr.extract (c.length*z+d.length*z) arr.size) hc hd
 have anQ:aO arr (c.length*z) new.toList=arr.extract 0 (c.length*z)++new++arr.extract (c.length*z+d.length*z) arr.size:=by
  apply G4
  grind[aO,Array.toList_extract,List.take_of_length_le]
 have hH:ac F (cR β fid (some b)) (Fw.bf N fid) (bn (bn H id none) fid (some (.aA z (c++d)))) (w.setRow b (aO arr (c.length*z) new.toList)):=by
  refine hR.step hT (λi=>i=fid) (λi bz hi e=>?_) (λi bz hi e=>?_) (λi j x y y' hi hj bi bj=>?_)
  ·exact K73
  ·subst hi;rw[an]at e;cases e;refine⟨.inr rfl,⟨hz,uG⟩,.inr ⟨b,cap,_,T,by simp[cR],q2,vK,by omega,by grind,λi e' j x he hx=>?_⟩⟩;have:=hT.jr hR (il i e' j x he hx)
   grind
  ·exact K21
 refine⟨_,_,_,R,hK,hT,hH,cI ⟨.inr rfl,rfl,λnL z' n' jS wx=>?_⟩⟩;have:bn (bn H id none) fid (some (.aA z (c++d))) fid=some nL:=jS;exact afA
def vU (hC:C.Ok)(hG:bE C F)(hR:ac F β N H w)(hf: ¬N fid){T T' ty:TypeId}{i i' ie:TI}{e e':TypeId}{x y:DC}{v0 v1:Value}{ly:List (List DC)}{ry:List Nat}(hi:C.ti T=some i)(bV:i.bY= .slice e)(kA:C.ti T'=some i')(IC:i'.bY= .slice e')(lD:C.ti e=some ie)
  (h1:1<=ie.size)(h2:ie.bytes<=4096)(hzl:ie.zero.length=ie.size)(hx:cd F β N H w v0 x)(hy:cd F β N H w v1 y)(hdy:j6 H ie.size y=some (ly,ry))(Pj: ∀e∈ly,e.length=ie.size)
  (hc:(x= .nil /\ly.length<=xy/\K (bm (.own fid)) [(fid,some (.aA ie.size ly))] ry)\/∃id l,x= .own id/\H id=some (.aA ie.size l)/\l.length+ly.length<=xy/\K (bm (.own fid)) [(fid,some (.aA ie.size (l++ly))),(id,none)] (id::ry)):
  ∃v w',(Builtin.append_ #[T,T'] ty #[v0,v1]).run C.P w= .ok v w'/\bh F β N H fid K w v w':=by
 obtain⟨tf',d',zv',fh⟩:=hC.get kA;have xq:=di (fh.bY.trans IC);have OX:C.P.underlying T'=some (.slice e'):=by rw[fh.IN,xq]
 obtain⟨tf,d,zv,hT⟩:=hC.get hi;have hd:=di (hT.bY.trans bV);have hu:C.P.underlying T=some (.slice e):=by rw[hT.IN,hd]
 obtain⟨ef,ed,ez,hE⟩:=hC.get lD;have hzc:ez.cells.size=ie.size:=by exact af6
 have Cz:Below w.heap.size w w.drew:=(Below.refl _ _).drew;have td:Tr F β N H w β N H w.drew:=Tr.grow hR Cz;have OS:ac F β N H w.drew:=hR.grow Cz;have abg:=td.jr hR hy;have hL:xy=4294967296:=rfl
 rcases hc with⟨rfl,FB,hK⟩|⟨id,l,rfl,hid,FB,hK⟩
 ·have B8:v0= .slice none 0 0:=hx;subst B8;by_cases GO:ly.length=0
  ·obtain⟨a,cap,new,rfl,nh,Xc,KM⟩:=iQ hG hR hy hdy h1 Pj;have bC:=(gu (P:=C.P) (w:=w) (ty:=ty) (base:=none) (sLen:=0) (sCap:=0) (old:= #[]) hu OX hE.oc hE.size hE.bytes hE.zero h2 (show 0+ly.length<=4294967296 by omega)).1 K0 nh w rfl;rw[GO]at bC;have sq:=IR GO;subst sq;exact⟨_,w,bC,Ma (u:=[(fid,some (.aA ie.size []))]) hf h1 (λ_ h=>h) Tr.refl hR hK⟩
  ·obtain⟨a,cap,new,rfl,nh,Xc,KM⟩:=iQ hG OS abg hdy h1 Pj;obtain⟨dH,rest,g1,g2,bC⟩:=(gu (P:=C.P) (w:=w) (ty:=ty) (base:=none) (sLen:=0) (sCap:=0) (old:= #[]) hu OX hE.oc hE.size hE.bytes hE.zero h2 (show 0+ly.length<=4294967296 by omega)).2 K0 akw nh;have e0:0+ly.length=([]++ly).length :=by simp
   rw[e0]at bC g1 g2;refine⟨_,_,bC,?_⟩;exact Hg (u:=[(fid,some (.aA ie.size ly))]) (c:=[]) (d:=ly) (a:= #[]) (b:=new) hR hf h1 ⟨by simp,by simp,by simp⟩ KM g1 br (λ_ h=>h) Tr.refl OS hK
 ·obtain⟨hn,h1c,jo⟩:=hx;have hxd:cd F β N H w v0 (.own id):=⟨hn,h1c,jo⟩;obtain⟨_,⟨hz,sq⟩,gD⟩:=hR.rel id _ hid;have hlu: ∀e∈l,e.length=ie.size:=λe he=>let⟨k,hk⟩:=Uy.1 he;sq k e hk;have hdx:j6 H ie.size (.own id)=some (l,[id]):=by simp[j6,hid]
  have afj: ∀(base:Option Addr) (cap:Nat),v0= .slice base l.length cap->¬l.length+ly.length<=cap->∃v w',(Builtin.append_ #[T,T'] ty #[v0,v1]).run C.P w= .ok v w'/\bh F β N H fid K w v w':=by
   rintro base cap rfl hgt;obtain⟨a,O0,new,rfl,nh,Xc,KM⟩:=iQ hG OS abg hdy h1 Pj;obtain⟨a0,ahr,old,e0,xp,amd,amB⟩:=iQ hG OS (td.jr hR hxd) hdx h1 hlu;cases e0;obtain⟨dH,rest,g1,g2,bC⟩:=(gu (P:=C.P) (w:=w) (ty:=ty) (base:=base) (sLen:=l.length) (sCap:=cap) hu OX hE.oc hE.size hE.bytes hE.zero h2 K0).2 hgt xp nh;rw[<- xI]at bC g1 g2;refine⟨_,_,bC,?_⟩;exact Hg (u:=[(fid,some (.aA ie.size (l++ly))),(id,none)]) (H0:=bn H id none) hR hf h1 amB KM g1 br (λ_ h=>h) (Tr.del id) (OS.del id) hK
  rcases jo _ ie.size l.length hid rfl with⟨b1,b2,rfl⟩|⟨b,cap,arr,T0,b1,rfl,b3,b4⟩
  ·by_cases GO:ly.length=0
   ·obtain⟨a,cap,new,rfl,nh,Xc,KM⟩:=iQ hG hR hy hdy h1 Pj;have bC:=(gu (P:=C.P) (w:=w) (ty:=ty) (base:=none) (sLen:=0) (sCap:=0) (old:= #[]) hu OX hE.oc hE.size hE.bytes hE.zero h2 (show 0+ly.length<=4294967296 by omega)).1 K0 nh w rfl;rw[GO]at bC;have e1:=IR GO;have e2:=IR b2;subst e1 e2;exact⟨_,w,bC,Ma (u:=[(fid,some (.aA ie.size [])),(id,none)]) (H0:=bn H id none) hf h1 (λ_ h=>h) (Tr.del id) (hR.del id) hK⟩
   grind
  ·by_cases np:l.length+ly.length<=cap
   ·obtain⟨a,O0,new,rfl,nh,Xc,KM⟩:=iQ hG hR hy hdy h1 Pj;have sP:=KM.one h1
    have Pa:l.length*ie.size+new.toList.length<=arr.size:=by
     have:new.toList.length=ly.length*ie.size:=by simpa using KM.size
     exact ajK
    have amy:=Sj C.P b (l.length*ie.size) T0 new.toList 0 arr w b3 K0 sP
    have bC:=(gu (P:=C.P) (w:=w) (ty:=ty) (base:=some ⟨b,0,none⟩) (sLen:=l.length) (sCap:=cap) (old:= #[]) hu OX hE.oc hE.size hE.bytes hE.zero h2 K0).1 np nh (w.setRow b (aO arr (l.length*ie.size) new.toList)) (by
     simp only[addr_add,jZ]
     grind[aO])
    rw[<- xI]at bC;exact⟨_,_,bC,U1 hR hf hid b1 b3 b4 KM np hK⟩
   grind
end
section
variable {C:bQ}{F:gN}{β:Nat->Option Nat}{N:Nat->Prop}{H:HF}{fid:Nat}{K:j0}{w w':World}{P:Program}
def SZ {d:TypeDesc}{k e:TypeId}(h:eA d= .map k e):d= .map k e:=by exact UF
theorem Hi: ∀ {l:List (Nat × Bool)} {t:Nat} {b:Bool},L9 l t=some b->(t,b)∈l
 | [],_,_,h=>by grind[L9]
 |(j,b)::l,t,i,h=>by
  simp only[L9]at h;split at h;simp_all
  ·exact i7 _ (Hi h)
def Yu (hC:C.Ok){e:TypeId}{x:SV}(h:SX C e=some x): ∃f v,C.P.info? e=some f/\f.zero=some v/\∀mv mr:Mem,eo mv mr v x:=by
 unfold SX at h;split at h
 ·rename_i ie ag lD hmz;split at h
  ·rename_i cs hzs;simp at h;subst h;obtain⟨f,d,v,hE⟩:=hC.get lD;have hm:=Hi hmz;obtain⟨k,hk⟩:=Uy.1 hm;have hty:=aP (·[k]?) hC.mz;simp only[gr,hk,xJ,lK]at hty
   have Xo:(ag=true->∃arr,v= .agg arr)/\(ag=false->v.oneCell'=true):=by
    simp only[X8,hE.oc,hE.zero]at hty
    grind
   rw[<- hE.xF]at hzs;obtain⟨b1,_,b3⟩:=pZ hzs;refine⟨f,v,hE.oc,hE.zero,λmv mr=>?_⟩;unfold eo;cases ag
   ·have h1:=Xo.2 rfl;rw[Ha h1]at b1 b3;obtain⟨c,rfl⟩: ∃c,cs= [c]:=wA.1 K0;obtain⟨v',q1,q2⟩:=b3 mv mr 0 c rfl
    grind
   ·obtain⟨arr,rfl⟩:=Xo.1 rfl;refine⟨arr,rfl,by grind[Value.cells],λk c hk=>?_⟩;obtain⟨v',q1,q2⟩:=b3 mv mr k c hk
    grind[Value.cells,mh]
  grind
 grind
def pf (mv mr:Mem)(es:List (ByteArray × SV))(l:List MapEntry):Prop:=l.length=es.length/\∀(i:Nat) (k:ByteArray) (x:SV) (e:MapEntry),es[i]? =some (k,x)->l[i]? =some e->e.key= .string k/\eo mv mr e.val x
theorem Je {mv mr:Mem}{a:ByteArray}: ∀ {es:List (ByteArray × SV)} {l:List MapEntry} (i0:Nat),pf mv mr es l->
  (iY es a=none/\Instr.findNow .string (.string a) l i0=some none/\∀(v:Value) (x:SV) (n:Nat),eo mv mr v x->pf mv mr (zZ es a x) (l++[⟨.string a,v,n⟩]))\/
   ∃x j e,iY es a=some x/\l[j]? =some e/\Instr.findNow .string (.string a) l i0=some (some (i0+j,e.val))/\e.key= .string a/\eo mv mr e.val x/\∀(v:Value) (x:SV),eo mv mr v x->pf mv mr (zZ es a x) (l.set j {e with val:=v})
 | [],l,i0,h=>by
  have hl:l= []:=IR (by simpa using h.1);subst hl;refine .inl ⟨rfl,rfl,λv x n hv=>⟨rfl,λi k y e h1 h2=>?_⟩⟩
  grind[zZ]
 |(k,x)::es,[],i0,h=>by have:=h.1;grind
 |(k,x)::es,e::l,i0,h=>by
  obtain⟨h0,h1⟩:=h;obtain⟨hk,hv⟩:=h1 0 k x e rfl rfl;have amA:pf mv mr es l:=⟨by grind,λi k' x' e' q1 q2=>h1 (i+1) k' x' e' br br⟩;have ww:Instr.sameNow .string (.string a) e.key=some (a==k):=by rw[hk];rfl
  have aoi: ∀ {WX:List (ByteArray × SV)} {l':List MapEntry} {y:SV} {e':MapEntry},e'.key= .string k->eo mv mr e'.val y->pf mv mr WX l'->pf mv mr ((k,y)::WX) (e'::l'):=by
   intro WX l' y e' g1 g2 g3;refine⟨by simp[g3.1],λi k' x' e2 q1 q2=>?_⟩
   cases i with
   |zero=>grind
   |succ i=>exact g3.2 i k' x' e2 br br
  cases hak:(a==k)
  ·rw[hak]at ww
   rcases Je (a:=a) (i0+1) amA with⟨q1,q2,q3⟩|⟨y,j,e',q1,q2,q3,q4,q5,q6⟩
   grind[iY,Instr.findNow,zZ]
   ·refine .inr ⟨y,j+1,e',by grind[iY],by grind,by grind[Instr.findNow],q4,q5,λv x' Pf=>?_⟩
    grind[zZ]
  ·rw[hak]at ww;have e0:a=k:=(Go.MapKept.bytes_beq a k).1 hak;subst e0;refine .inr ⟨x,0,e,by grind[iY],rfl,by grind[Instr.findNow],hk,hv,λv x' Pf=>?_⟩
   grind[zZ]
def Dj (hC:C.Ok){k:TypeId}(h:wL C k=true):C.P.underlying k=some .string :=by
 unfold wL at h;split at h
 ·rename_i i hi;obtain⟨tf,d,z,hT⟩:=hC.get hi;split at h
  ·rename_i hc;rw[hT.IN,mf (hT.bY.trans hc)]
  grind
 grind
def A5 (hR:ac F β N H w){v:Value}{id:Nat}{es:List (ByteArray × SV)}(hv:cd F β N H w v (.mp id))(he:H id=some (.map es)): ∃b arr ck,β id=some b/\v= .map (some b)/\F.dz b/\w.heap[b]? =some (.map arr ck)/\pf (MV F β H w) (MR F β H w) es arr.toList:=by
 obtain⟨_,b,h1,rfl⟩:=hv;obtain⟨_,b',arr,ck,q1,q2,q3,q4,q5⟩:=hR.rel id _ he;rw[h1]at q1;cases q1;exact⟨b,arr,ck,h1,rfl,q2,q3,by omega,λi k x e h2 h3=>q5 i k x e h2 br⟩
theorem U2 (hC:C.Ok)(hR:ac F β N H w){T kt et:TypeId}{i:TI}{v:Value}{id:Nat}{a:ByteArray}{es:List (ByteArray × SV)}{z:SV}{ok:Bool}(hi:C.ti T=some i)(jd:i.bY= .map kt et)(hs:wL C kt=true)(hz:SX C et=some z)
  (hv:cd F β N H w v (.mp id))(he:H id=some (.map es)): ∃r,(Instr.lookup T v (.string a) ok).run C.P w= .ok r w/\b8 F β N H w r (uM (iY es a) z ok):=by
 obtain⟨tf,d,zt,hT⟩:=hC.get hi;have hd:=SZ (hT.bY.trans jd);have abs:C.P.underlying T=some (.map kt et):=by rw[hT.IN,hd]
 have hk:=Dj hC hs;obtain⟨b,arr,ck,h1,rfl,h2,h3,h4⟩:=A5 hR hv he;obtain⟨f,zv,f1,f2,f3⟩:=Yu hC hz;have hck:=λem=>Go.MapKept.run_checkKey (P:=C.P) (w:=w) (k:=.string a) hk trivial em 9999;have hzr:(zeroValue et).run C.P w= .ok zv w:=by simp[zeroValue,typeInfo,f1,f2]
 have KO: ∀(r:Value) (x:SV) (bb:Bool),eo (MV F β H w) (MR F β H w) r x->orZ (iY es a) z=x->isS (iY es a)=bb->
   b8 F β N H w (if ok then .tuple #[r,.bool bb]else r) (uM (iY es a) z ok):=by
  intro r x bb hr e1 e2;unfold uM;rw[e1,e2];cases ok
  ·exact eo.dyn hr
  ·refine⟨#[r,.bool bb],rfl,rfl,λk y hk=>?_⟩
   match k with
   |0=>simp at hk;subst hk;exact eo.dyn hr
   |1=>simp at hk;subst hk;exact⟨_,rfl,.lit rfl⟩
   |k+2=>grind
 rcases Je (a:=a) 0 h4 with⟨q1,q2,_⟩|⟨x,j,e,q1,q2,q3,q4,q5,_⟩
 ·refine⟨if ok then .tuple #[zv,.bool false]else zv,?_,KO zv z false (f3 _ _) ab0 ab0⟩;simp only[Instr.lookup,eJ,sV abs,mw,R6 h3,lL,hck,Sb hk q2,hzr]
 ·refine⟨if ok then .tuple #[e.val,.bool true]else e.val,?_,KO e.val x true q5 ab0 ab0⟩;simp only[Instr.lookup,eJ,sV abs,mw,R6 h3,lL,hck,Sb hk q3]
theorem A6: ∀ {cs:List DC} {l:List SC},pd cs=some l->l.length=cs.length/\∀(k:Nat) (c:SC),l[k]? =some c->cs[k]? =some (.st c)
 | [],l,h=>by grind[pd]
 |d::cs,l,h=>by
  cases d<;>simp only[pd]at h<;>try cases h
  split at h
  ·rename_i l' hl;simp at h;subst h;obtain⟨h1,h2⟩:=A6 hl
   grind
  grind
def Mb {v:Value}{ag:Bool}{cs:List DC}{l:List SC}(h:aq F β N H w v (ag,cs))(hs:pd cs=some l):eo (MV F β H w) (MR F β H w) v (ag,l):=by
 obtain⟨h1,h2⟩:=A6 hs;unfold aq at h;unfold eo;cases ag
 ·obtain⟨c,e,hc⟩:=h;simp at e;subst e;obtain⟨x,rfl⟩: ∃x,l= [x]:=wA.1 K0;have:=h2 0 x rfl;simp at this;subst this;exact⟨x,rfl,hc⟩
 ·obtain⟨arr,e1,e2,e3⟩:=h;exact⟨arr,e1,by grind,λk c hk=>e3 k _ (h2 k c hk)⟩
def S3 {id b:Nat}{es WX:List (ByteArray × SV)}{arr arr':Array MapEntry}{ck ck':Nat}(hR:ac F β N H w)(hid:H id=some (.map es))(xm:β id=some b)(hm:F.dz b)(hb:w.heap[b]? =some (.map arr ck))(hen:pf (MV F β H w) (MR F β H w) WX arr'.toList):
  Tr F β N H w β N (bn H id (some (.map WX))) {w with heap:=w.heap.setIfInBounds b (.map arr' ck')}/\ac F β N (bn H id (some (.map WX))) {w with heap:=w.heap.setIfInBounds b (.map arr' ck')}:=by
 obtain⟨vK,e8⟩:=Go.MapKept.heap_set (o':=.map arr' ck') hb
 have IK:rd {w with heap:=w.heap.setIfInBounds b (.map arr' ck')}=rd w:=by
  funext b' x
  grind[rd,World.cell?]
 have live: ∀ {k:Nat} {b0:co},k≠id->bn H id (some (.map WX)) k=some b0->H k=some b0:=λhk h=>by grind[aH]
 have tr:Tr F β N H w β N (bn H id (some (.map WX))) {w with heap:=w.heap.setIfInBounds b (.map arr' ck')}:=by
  refine⟨⟨rfl,rfl,rfl,by simp,λk hk hn=>e8 k λe=>hn (e▸hm)⟩,λb' o v _ hs e=>⟨λiO bz e' jS=>?_,by simp_all⟩,λ_ h=>h,λ_ _=>rfl,λiO blk' hn e=>?_,λiO blk' zn b' xk T _ e hz jS _ he=>?_,λk x e=>?_⟩
  ·by_cases hk:iO=id
   ·subst hk;exact(hs iO _ hid jS).elim
   ·exact hs iO bz (live hk e') jS
  ·by_cases hk:iO=id
   ·subst hk;rw[an]at e;cases e;exact⟨_,hid,trivial⟩
   ·exact⟨blk',live hk e,blk'.fV⟩
  grind
  grind
 refine⟨tr,hR.step tr (λi=>i=id) (λi bz hi e=>⟨live hi e,(hR.rel i bz (live hi e)).1,λb' jS=>e8 b' λh=>hi ?_⟩) (λi bz hi e=>?_) (λi j x y y' hi hj bi bj=>?_)⟩
 ·subst h;exact hR.inj i id b' bz _ (live hi e) hid jS xm
 ·subst hi;rw[an]at e;cases e;refine⟨(hR.rel i _ hid).1,b,arr',ck',xm,hm,vK,by simpa using hen.1,λj k x e h1 h2=>?_⟩;obtain⟨a1,a2⟩:=hen.2 j k x e h1 br;exact⟨a1,a2.mono tr.mv tr.mr⟩
 ·have f: ∀ {i:Nat} {y:co},bn H id (some (.map WX)) i=some y->∃y0,H i=some y0:=by
   grind
  obtain⟨y0,h0⟩:=f hi;obtain⟨y1,h1⟩:=f hj;exact hR.inj i j x y0 y1 h0 h1 bi bj
def Hj (hC:C.Ok)(hR:ac F β N H w){T kt et:TypeId}{i:TI}{v vv:Value}{id:Nat}{a:ByteArray}{es:List (ByteArray × SV)}{ag:Bool}{cs:List DC}{l:List SC}(hi:C.ti T=some i)(jd:i.bY= .map kt et)(hs:wL C kt=true)
  (hv:cd F β N H w v (.mp id))(he:H id=some (.map es))(hvv:aq F β N H w vv (ag,cs))(hl:pd cs=some l):
  ∃w',(Instr.mapUpdate T v (.string a) vv).run C.P w= .ok () w'/\Tr F β N H w β N (bn H id (some (.map (zZ es a (ag,l))))) w'/\ac F β N (bn H id (some (.map (zZ es a (ag,l))))) w':=by
 obtain⟨tf,d,zt,hT⟩:=hC.get hi;have hd:=SZ (hT.bY.trans jd);have abs:C.P.underlying T=some (.map kt et):=by rw[hT.IN,hd]
 have hk:=Dj hC hs;obtain⟨b,arr,ck,h1,rfl,h2,h3,h4⟩:=A5 hR hv he;have hck:=Go.MapKept.run_checkKey (P:=C.P) (w:=w) (k:=.string a) hk trivial false 9999;have il:=Mb hvv hl
 rcases Je (a:=a) 0 h4 with⟨q1,q2,q3⟩|⟨x,j,e,q1,q2,q3,q4,q5,q6⟩
 ·obtain⟨t1,t2⟩:=S3 (arr':=arr.push ⟨.string a,vv,ck⟩) (ck':=ck+1) hR he h1 h2 h3 (by simpa using q3 vv _ ck il);refine⟨_,?_,t1,t2⟩;simp only[Instr.mapUpdate,eJ,sV abs,mw,R6 h3,hck,Sb hk q2,Go.MapKept.run_setObj_map _ h3]
 ·have lj:(arr.modify j λe=>{e with key:=.string a,val:=vv}).toList =arr.toList.set j {e with val:=vv}:=by
   have ak:j<arr.size:=by grind
   apply Ly
   grind
  obtain⟨t1,t2⟩:=S3 (arr':=arr.modify j λe=>{e with key:=.string a,val:=vv}) (ck':=ck) hR he h1 h2 h3 (by rw[lj];exact q6 vv _ il);refine⟨_,?_,t1,t2⟩;have hq:arr[j]? =some e:=by grind
  have hq':arr[0+j]? =some e:=by grind
  have eG:(Instr.keyThatStays (.string a) (.string a)).run C.P w= .ok (.string a) w:=by
   have:Instr.sameBits 10000 (.string a) (.string a)=true:=by
    show(a==a)=true
    grind[Go.MapKept.bytes_beq]
   simp only[Instr.keyThatStays,this,if_true,lL]
  simp only[Instr.mapUpdate,eJ,sV abs,mw,R6 h3,hck,Sb hk q3,hq',xJ,sY,q4,eG,Go.MapKept.run_setObj_map _ h3]
  grind
def PK (hR:ac F β N H w)(hf: ¬N fid){T:TypeId}:
  ∃v w',(Instr.makeMap T none).run C.P w= .ok v w'/\bh F β N H fid (λr u R=>r=bm (.mp fid)/\u= [(fid,some (.map []))]/\R= []) w v w':=by
 refine⟨.map (some w.heap.size),w.alloc (.map #[] 0),by simp[Instr.makeMap,newObj,Sem.run],?_⟩;refine bh.new (u:=[]) (b:=some w.heap.size) hR Tr.refl hf (Below.og w _) (by simp) ⟨rfl,rfl,rfl⟩ (λH1 xA t1 t2=>?_) (λH1 xA=>cI ⟨.inr rfl,w.heap.size,by simp[cR],rfl⟩);exact⟨w.heap.size,#[],0,by simp[cR],gN.gG hR.below.size,gO w _,rfl,by simp⟩
def PL (hC:C.Ok){e:TypeId}(h:zT C e=true):C.P.underlying e=some (.int .u8):=by
 unfold zT at h;split at h
 ·rename_i i hi;obtain⟨tf,d,z,hT⟩:=hC.get hi;split at h
  ·rename_i hc;rw[hT.IN,qT (hT.bY.trans hc)]
  grind
 grind
theorem PM (hC:C.Ok)(hR:ac F β N H w){src dst e:TypeId}{i j:TI}{s:ByteArray}(hi:C.ti src=some i)(hj:C.ti dst=some j)(h1:i.bY= .str)(h2:j.bY= .slice e)(h3:zT C e=true):
  ∃v w',(convert src dst (.string s)).run C.P w= .ok v w'/\bh F β N H fid (λr u R=>r=bm (.st (.view (kP s)))/\u= []/\R= []) w v w':=by
 obtain⟨tf,d,z,hT⟩:=hC.get hi;obtain⟨tf',d',z',fh⟩:=hC.get hj;have hu1:C.P.underlying src=some .string :=by rw[hT.IN,mf (hT.bY.trans h1)]
 have hu2:C.P.underlying dst=some (.slice e):=by rw[fh.IN,di (fh.bY.trans h2)]
 refine⟨_,_,run_bytes_of_string w src dst e s hu1 hu2 (PL hC h3),?_⟩;generalize gc:grownCap w s.size 0 e=cap;generalize l7:((bytesRow s cap).size,(bytesRow s cap).size +1)=fr;have hB:Below w.heap.size w (w.drew.alloc (.cells (bytesRow s cap) e fr)):=(Below.refl _ _).drew.trans (Below.og w.drew _);have hR2:=hR.grow hB;have t2:=Tr.grow hR hB;have vK:(w.drew.alloc (.cells (bytesRow s cap) e fr)).heap[w.heap.size]? =some (.cells (bytesRow s cap) e fr):=gO w.drew _
 have bB:(kP s).length =s.size:=by
  show(s.data.toList.map _).length =s.data.size
  grind
 have aoh:s.size<=cap:=by grind[grownCap,Question.cut]
 refine⟨β,_,_,_,⟨rfl,rfl,rfl⟩,t2.bf,hR2.bf,b8.bf (cI ?_)⟩;show dq _ _ _ _;by_cases h0:s.size=0
 ·rw[h0];exact .empty _ _ rfl akm
 ·have e1:s.size=(SC.view (kP s)).len :=by grind[SC.len]
  rw[e1];refine .view w.heap.size 0 cap 1 (λk=>(bytesRow s cap).getD k undef) rfl K0 K0 K0 (λi e he=>?_) (λk hk=>?_) (λi e j x he hx=>?_)
  grind[SC.elem,kP]
  ·rw[jZ,qR (gN.gG hR.below.size) (λid bz e' hb=>by have:=(hR.gb e' hb).1;omega)]
   have qF:k< (bytesRow s cap).size :=by
    simp only[bytesRow,Sy,XW,Array.size_replicate];have:s.data.size=s.size:=rfl;omega
   unfold rd World.cell?;simp_all
  ·simp only[SC.elem,kP,gr,my]at he;obtain⟨b,hb,rfl⟩:=he
   cases j with
   |succ j=>grind
   |zero=>
    simp at hx;subst hx;have jS:s.data[i]? =some b:=by grind
    have ak:i<s.data.size:=(FT.1 jS).1
    have:(bytesRow s cap).getD (i*1+0) undef= .int .u8 (b.toNat:Nat):=by
     refine mh ?_;simp only[bytesRow,AQ,CP]
     grind
    exact af7
theorem Yv {v:Value}{d:DC}(h:cd F β N H w v d)(hp:LR d=some true): ∃a,v= .pointer (some a):=by
 unfold LR at hp;split at hp
 ·obtain⟨_,b,_,rfl⟩:=h;grind
 ·obtain⟨_,b,_,rfl⟩:=h;grind
 ·cases h with
  |empty a cap hv=>grind[SC.ao]
  |view _ _ _ _ _ hv=>grind[SC.ao]
  |ref b o f hc hr=>grind
 grind
 grind
theorem U3 (hC:C.Ok)(hG:bE C F)(hR:ac F β N H w){T e:TypeId}{i:TI}{n:Nat}{l:List Int}{v:Value}(hi:C.ti T=some i)(jd:i.bY= .array n e)(hv:cd F β N H w v (.st (.ints l)))(h1:1<=n)(h2:n<=l.length):
  ∃u,(Instr.arrayAt T v).run C.P w= .ok u w/\cd F β N H w u (.st (.ref ((l.take n).map λk=>.lit (.int .i64 k)))):=by
 obtain⟨tf,d,z,hT⟩:=hC.get hi;have hd:d= .array n e:=km (hT.bY.trans jd);have hv:dq (MV F β H w) (MR F β H w) v (.ints l):=hv
 cases hv with
 |empty a cap hv h0=>exfalso;have h0:l.length=0:=h0;omega
 |view b o cap z f hv fO hz gc hl hc hr=>
  have fO:0<l.length:=fO;obtain⟨e0,RS⟩:=SC.od (c:=.ints l) fO;have hz1:z=1:=by grind[SC.elem]
  subst hz1;refine⟨.pointer (some ⟨b,o,none⟩),?_,?_⟩
  ·have: ¬(SC.ints l).len <n:=by grind[SC.len]
   simp[Instr.arrayAt,hT.cU,hd,this]
  ·refine .ref b o f (λk hk=>tk hG hR _ _ _ (hc k akm)) λk x hx=>?_;simp only[gr,my,GW]at hx;obtain⟨m,hm,rfl⟩:=hx;split at hm
   ·have:=hr k [.lit (.int .i64 m)] 0 (.lit (.int .i64 m)) abL rfl;simp only[AQ,CP]at this;obtain⟨e1,e2⟩:=cd.bw (F:=F) (β:=β) (N:=N) (H:=H) (w:=w) (dq.mono (Mem.le_refl _) (dX _) this);rw[e1];exact .lit e2
   grind
theorem U4 (hC:C.Ok)(hG:bE C F)(hR:ac F β N H w)(hf: ¬N fid){E:EF}{a:Act}(hE:dD F β N H w E a){o:Oper}{Q:Exit->Act->World->Prop}(h:opX C fid o (C.ev E) H K):
  o.wp C.P a w (λa' w'=>∃v,a'=a.put o.dst v/\bh F β N H fid K w v w') Q:=by
 have ev: ∀ {x:Operand} {d:DV},C.ev E x=some d->b8 F β N H w (a.eval x) d:=λh=>mC hG hR hE h;unfold opX at h;split at h;rotate_left
 ·grind
 rename_i P r u R hx;obtain⟨hP,hK⟩:=h
 have conv: ∀ {v:Value} {w':World},bh F β N H fid (λr' u' R'=>r'=r/\u'=u/\R'=R) w v w'->bh F β N H fid K w v w':=by
  rintro v w' ⟨cL,r',u',R',⟨rfl,rfl,rfl⟩,q1,q2,q3⟩;exact⟨cL,_,_,_,hK,q1,q2,q3⟩
 unfold PH at hx
 cases ho:o.op with
 |buildSlice T len parts=>
  rw[ho]at hx;simp only at hx;split at hx;rotate_left
  ·cases hx
  rename_i i hi;split at hx;rotate_left
  ·cases hx
  rename_i e bV;split at hx;rotate_left
  ·cases hx
  rename_i ie lD hdp;split at hx;rotate_left
  ·cases hx
  rename_i hb;obtain⟨hb,h3⟩:=aG hb;obtain⟨h1,h2⟩:=aG hb;split at hx;rotate_left
  ·cases hx
  rename_i l hl;simp only[lK,gt]at hx;obtain⟨rfl,rfl,rfl,rfl⟩:=hx;obtain⟨v,w',hr,hp⟩:=Jd hC hG hR hf hE hi bV lD (fP h1) (fP h2) (o8 h3) hl;exact bJ G6 ⟨_,rfl,conv hp⟩
 |call c=>
  rw[ho]at hx;simp only at hx;split at hx;rotate_left
  ·cases hx
  rename_i t t' x y hc vP dG;split at hx;rotate_left
  ·cases hx
  rename_i i i' hi kA;split at hx;rotate_left
  ·cases hx
  rename_i e e' jd ahj;split at hx;rotate_left
  ·cases hx
  rename_i ie lD hdp;split at hx;rotate_left
  ·cases hx
  rename_i hb;obtain⟨hb,h3⟩:=aG hb;obtain⟨h1,h2⟩:=aG hb;split at hx;rotate_left
  ·cases hx
  rename_i ly ry hdy;have h0:c.args.size=2:=by exact afX
  obtain⟨x0,x1,RY⟩: ∃x0 x1,c.args= #[x0,x1]:=aiW;have oX:C.ev E x0=some (.val (false,[x]))/\C.ev E x1=some (.val (false,[y])):=by grind
  have vK:c.argTypes= #[t,t']:=by grind
  have key: ∀ {v:Value} {w':World},(Builtin.append_ #[t,t'] o.type #[a.eval x0,a.eval x1]).run C.P w= .ok v w'->bh F β N H fid K w v w'->
    o.wp C.P a w (λa' w'=>∃v,a'=a.put o.dst v/\bh F β N H fid K w v w') Q:=by
   intro v w' hr hp;refine bJ ?_ ⟨v,rfl,hp⟩;simp only[execOp,ho,resolve,hc,eJ,lL,mw,invoke];exact afw
  split at hx
  ·simp only[lK,gt]at hx;obtain⟨rfl,rfl,rfl,rfl⟩:=hx;obtain⟨v,w',hr,hp⟩:=vU (K:=K) (ty:=o.type) hC hG hR hf hi jd kA ahj lD (fP h1) (fP h2) (o8 h3) (aq.am (ev oX.1)) (aq.am (ev oX.2)) hdy hP.1 (.inl ⟨rfl,hP.2,hK⟩)
   grind
  ·rename_i id;split at hx
   ·rename_i z l hid;split at hx
    ·rename_i hz;have hz:=o8 hz;subst hz;simp only[lK,gt]at hx;obtain⟨rfl,rfl,rfl,rfl⟩:=hx;obtain⟨v,w',hr,hp⟩:=vU (K:=K) (ty:=o.type) hC hG hR hf hi jd kA ahj lD (fP h1) (fP h2) (o8 h3) (aq.am (ev oX.1)) (aq.am (ev oX.2)) hdy hP.1 (.inr ⟨id,l,rfl,hid,hP.2,hK⟩)
     grind
    grind
   grind
  grind
 |makeMap T m=>
  rw[ho]at hx
  cases m with
  |some y=>cases hx
  |none=>
   simp only at hx;split at hx;rotate_left
   ·cases hx
   split at hx;rotate_left
   ·cases hx
   simp only[lK,gt]at hx;obtain⟨rfl,rfl,rfl,rfl⟩:=hx;obtain⟨v,w',hr,hp⟩:=PK (C:=C) (T:=T) hR hf;exact bJ aiV ⟨_,rfl,conv hp⟩
 |insert T m k v=>
  rw[ho]at hx;simp only at hx;split at hx;rotate_left
  ·cases hx
  rename_i i id s ag cs hi hm hk hv;split at hx;rotate_left
  ·cases hx
  rename_i kt et es l jd hid hl;split at hx;rotate_left
  ·cases hx
  rename_i hs;simp only[lK,gt]at hx;obtain⟨rfl,rfl,rfl,rfl⟩:=hx;obtain⟨w',hr,t1,t2⟩:=Hj hC hR hi jd hs (aq.am (ev hm)) hid (ev hv) hl;have hke:a.eval k= .string s:=(aq.am (ev hk)).bw.1;rw[<- hke]at hr;exact Df G6 ⟨_,rfl,⟨β,_,_,_,hK,t1.bf,t2.bf,⟨#[],rfl,rfl,by simp⟩⟩⟩
 |mapUpdate T m k v=>
  rw[ho]at hx;simp only at hx;split at hx;rotate_left
  ·cases hx
  rename_i i id s ag cs hi hm hk hv;split at hx;rotate_left
  ·cases hx
  rename_i kt et es l jd hid hl;split at hx;rotate_left
  ·cases hx
  rename_i hs;simp only[lK,gt]at hx;obtain⟨rfl,rfl,rfl,rfl⟩:=hx;obtain⟨w',hr,t1,t2⟩:=Hj hC hR hi jd hs (aq.am (ev hm)) hid (ev hv) hl;have hke:a.eval k= .string s:=(aq.am (ev hk)).bw.1;rw[<- hke]at hr;exact Df G6 ⟨_,rfl,⟨β,_,_,_,hK,t1.bf,t2.bf,⟨#[],rfl,rfl,by simp⟩⟩⟩
 |lookup T m k ok=>
  rw[ho]at hx;simp only at hx;split at hx;rotate_left
  ·cases hx
  rename_i i id s hi hm hk;split at hx;rotate_left
  ·cases hx
  rename_i kt et es jd hid;split at hx;rotate_left
  ·cases hx
  rename_i z hs hz;simp only[lK,gt]at hx;obtain⟨rfl,rfl,rfl,rfl⟩:=hx;obtain⟨v,hr,hp⟩:=U2 (ok:=ok) (a:=s) hC hR hi jd hs hz (aq.am (ev hm)) hid;have hke:a.eval k= .string s:=(aq.am (ev hk)).bw.1;rw[<- hke]at hr;exact bJ G6 ⟨_,rfl,bh.pure hR hK hp⟩
 |convert src dst y=>
  rw[ho]at hx;simp only at hx;split at hx;rotate_left
  ·cases hx
  rename_i i j s hi hj hy;split at hx;rotate_left
  ·cases hx
  rename_i e h1 h2;split at hx;rotate_left
  ·cases hx
  rename_i h3;simp only[lK,gt]at hx;obtain⟨rfl,rfl,rfl,rfl⟩:=hx;obtain⟨v,w',hr,hp⟩:=PM (fid:=fid) (s:=s) hC hR hi hj h1 h2 h3;have hye:a.eval y= .string s:=(aq.am (ev hy)).bw.1;rw[<- hye]at hr;exact bJ G6 ⟨_,rfl,conv hp⟩
 |nilCheck x=>
  rw[ho]at hx;simp only at hx;split at hx;rotate_left
  ·cases hx
  rename_i d hd;split at hx;rotate_left
  ·cases hx
  rename_i hp;simp only[lK,gt]at hx;obtain⟨rfl,rfl,rfl,rfl⟩:=hx;have hr:=aq.am (ev hd);obtain⟨p,hv⟩:=Yv hr hp;exact bJ (v:=a.eval x) (by simp only[execOp,ho,hv];rfl) ⟨_,rfl,bh.pure hR hK (cI hr)⟩
 |sliceToArrayPointer T x=>
  rw[ho]at hx;simp only at hx;split at hx;rotate_left
  ·cases hx
  rename_i i l hi hl;split at hx;rotate_left
  ·cases hx
  rename_i n e jd;simp only[lK,gt]at hx;obtain⟨rfl,rfl,rfl,rfl⟩:=hx;obtain⟨u,hr,hp⟩:=U3 hC hG hR hi jd (aq.am (ev hl)) hP.1 hP.2;exact bJ G6 ⟨_,rfl,bh.pure hR hK (cI hp)⟩
 |slice T x lo hi mx=>
  rw[ho]at hx
  cases x with
  |global g=>
   cases lo<;>cases hi<;>cases mx<;>simp only at hx<;>try(cases hx;done)
   split at hx;rotate_left
   ·cases hx
   rename_i i hi;split at hx;rotate_left
   ·cases hx
   rename_i n e jd;split at hx;rotate_left
   ·cases hx
   rename_i ie lD;simp only[lK,gt]at hx;obtain⟨rfl,rfl,rfl,rfl⟩:=hx;obtain⟨tf,d,z,hT⟩:=hC.get hi;obtain⟨ef,ed,ez,GP⟩:=hC.get lD;have hd:d= .array n e:=km (hT.bY.trans jd)
   have bC:(Instr.sliceAt T (a.eval (.global g)) none none none).run C.P w= .ok (.slice (some ⟨g,0,none⟩) n n) w:=by
    show(Instr.sliceAt T (.pointer (some ⟨g,0,none⟩)) none none none).run C.P w=_;exact afE
   exact bJ (by simp only[execOp,ho,eJ,SI,bC,mw];rfl) ⟨_,rfl,bh.pure hR hK (cI (.raw rfl))⟩
  |_=>cases hx
 |makeFunc fn first bI=>
  rw[ho]at hx
  cases fn with
  |func f=>
   simp only at hx;split at hx;rotate_left
   ·cases hx
   rename_i id kF hca;simp only[lK,gt]at hx;obtain⟨rfl,rfl,rfl,rfl⟩:=hx;obtain⟨c,hc⟩: ∃c,bI.toList= [c]:=wA.1 (by have:=aP List.length hca;grind);rw[hc,ju,CO]at hca;have oX:C.ev E c=some (.val (false,[.ptr id 0])):=by grind
   obtain⟨hn,b,hb,hv⟩:=aq.am (ev oX);have Fz:first= #[]:=by grind
   have hce:bI= #[c]:=by grind
   have bC:(Instr.makeFunc (.func f) (first.map a.eval) (bI.map a.eval)).run C.P w= .ok (.func (.func f) #[] #[.pointer (some ⟨b,0,none⟩)]) w:=by
    rw[Fz,hce];show Result.ok (Value.func (.func f) (#[].map a.eval) (#[c].map a.eval)) w=_
    grind
   exact bJ (by simp only[execOp,ho,eJ,bC,mw];rfl) ⟨_,rfl,bh.pure hR hK (cI ⟨hn,b,hb,rfl⟩)⟩
  |_=>cases hx
 |_=>grind
end
def bN (C:bQ)(fid:Nat)(f:FuncId)(xs:List DX)(H:HF)(r:DV)(u:Hp)(R:List Nat):Prop:=
 iG C.P f=true/\∀(F:gN) (β:Nat->Option Nat) (N:Nat->Prop) (H':HF) (w:World) (vs:Array Value),(∀id∈R,H' id=H id)->bE C F->ac F β N H' w->(∀id,N id->tag id≠tag fid)->
  vs.size=xs.length->(∀k x,xs[k]? =some x->aq F β N H' w (vs.getD k undef) x)->
  Calls C.P f vs w λe w'=>∃v cL,e= .returned v/\Tr F β N H' w cL (bf N fid) (u.on H') w'/\ac F cL (bf N fid) (u.on H') w'/\b8 F cL (bf N fid) (u.on H') w' v r
def bN.local {C:bQ}{fid:Nat}{f:FuncId}{xs:List DX}{H H':HF}{r:DV}{u:Hp}{R:List Nat}(h:bN C fid f xs H r u R)(hH: ∀id∈R,H' id=H id):bN C fid f xs H' r u R:=
 ⟨h.1,λF β N H0 w vs hR=>h.2 F β N H0 w vs λid hi=>(hR id hi).trans (hH id hi)⟩
def Dk (ev:Operand->Option DV)(o:Oper):Option (FuncId × List SV × List (List SC) × List DX):=match o.op with
 | .call c=>match c.callee with
  | .value f=>match ev f with
   |some (.val (false,[.st (.fn g first bI)]))=>match IY (c.args.toList.map ev)with
    |some xs=>some (g,first,bI,xs)
    |none=>none
   |_=>none
  |_=>none
 |_=>none
def hcA (C:bQ)(fid:Nat)(o:Oper)(ev:Operand->Option DV)(H:HF)(K:j0):Prop:=match Dk ev o with
 |some (g,first,bI,xs)=>∃r u R,bN C fid g (first.map dyn++xs++bI.map λcs=>(false,[.st (.ref cs)])) H r u R/\K r u R
 |none=>False
def opH (C:bQ)(fid:Nat)(o:Oper)(ev:Operand->Option DV)(H:HF)(K:j0):Prop:=fu C fid o ev H K\/opX C fid o ev H K\/hcA C fid o ev H K
section
variable {C:bQ}{F:gN}{β:Nat->Option Nat}{N:Nat->Prop}{H:HF}{fid:Nat}{K:j0}{w:World}
theorem Jf {o:Oper}{ev jY:Operand->Option DV}(he: ∀x∈o.op.operands.toList,jY x=ev x):Dk jY o=Dk ev o:=by
 unfold Dk
 cases ho:o.op with
 |call c=>
  grind[Op.operands,Call.operands,List.map_congr_left]
 |_=>rfl
def U5 {o:Oper}{ev:Operand->Option DV}(h:hcA C fid o ev H K): ∃r u R,K r u R/\∀(jY:Operand->Option DV) (H':HF) (K':j0),(∀x∈o.op.operands.toList,jY x=ev x)->(∀id∈R,H' id=H id)->K' r u R->hcA C fid o jY H' K':=by
 unfold hcA at h;split at h
 ·rename_i g first bI xs hx
  obtain⟨r,u,R,h1,h2⟩:=h;refine⟨r,u,R,h2,λjY H' K' he hH hK=>?_⟩;unfold hcA;rw[Jf he,hx];exact⟨r,u,R,h1.local hH,hK⟩
 grind
theorem Hk {o:Oper}{ev:Operand->Option DV}(h:opH C fid o ev H K): ∃r u R,K r u R/\∀(jY:Operand->Option DV) (H':HF) (K':j0),(∀x∈o.op.operands.toList,jY x=ev x)->(∀id∈R,H' id=H id)->K' r u R->opH C fid o jY H' K':=by
 rcases h with h|h|h
 ·obtain⟨r,u,R,h1,h2⟩:=UY h;exact⟨r,u,R,h1,λjY H' K' he hH hK=>.inl (h2 jY H' K' he hH hK)⟩
 ·obtain⟨r,u,R,h1,h2⟩:=U0 h;exact⟨r,u,R,h1,λjY H' K' he hH hK=>.inr (.inl (h2 jY H' K' he hH hK))⟩
 ·obtain⟨r,u,R,h1,h2⟩:=U5 h;exact⟨r,u,R,h1,λjY H' K' he hH hK=>.inr (.inr (h2 jY H' K' he hH hK))⟩
theorem Yw (hG:bE C F)(hR:ac F β N H w)(hf: ∀id,N id->tag id≠tag fid){E:EF}{a:Act}(hE:dD F β N H w E a){o:Oper}{Q:Exit->Act->World->Prop}(h:hcA C fid o (C.ev E) H K):
  o.wp C.P a w (λa' w'=>∃v,a'=a.put o.dst v/\bh F β N H fid K w v w') Q:=by
 unfold hcA at h;split at h;rotate_left
 ·grind
 rename_i g first bI xs hx
 obtain⟨r,u,R,afs,hK⟩:=h;unfold Dk at hx;split at hx;rotate_left
 ·cases hx
 rename_i c ho;split at hx;rotate_left
 ·cases hx
 rename_i fo hc;split at hx;rotate_left
 ·cases hx
 rename_i f' an2 aof KS;split at hx;rotate_left
 ·cases hx
 rename_i xs' FO;cases hx;have l7:aq F β N H w (a.eval fo) _:=mC hG hR hE KS;have GN:dq (MV F β H w) (MR F β H w) (a.eval fo) (.fn g first bI):=l7.am;obtain⟨fv,cv,Fz,uE,Ug⟩:=De GN;obtain⟨v1,v2⟩:=xZ FO
 have bC:(execOp a.eval o).run C.P w= .ok (.enter g (fv++c.args.map a.eval++cv)) w:=by
  have Xh:=afs.1;exact K54
 have s1:fv.size=first.length:=uE.1
 have s2:c.args.size=xs.length:=by grind
 have s3:cv.size=bI.length:=by have:=Ug.1;grind
 have dG: ∀k x,(first.map dyn++xs++bI.map λcs=>(false,[DC.st (.ref cs)]))[k]? =some x->aq F β N H w ((fv++c.args.map a.eval++cv).getD k undef) x:=by
  intro k x hk;by_cases h1:k<first.length
  ·rw[GY,Uw br]at hk;rw[gr,my]at hk;obtain⟨y,hy,rfl⟩:=hk;have iP:(fv++c.args.map a.eval++cv).getD k undef=fv.getD k undef:=by simp[sw,s1,h1,XI h1 (Nat.le_add_right _ _)]
   rw[iP];exact eo.dyn ((uE.2 k y hy))
  ·by_cases h2:k<first.length+xs.length
   ·rw[GY,Xw br,Uw br]at hk;rw[ja]at hk;have hd:=v2 _ x hk;simp at hd;obtain⟨oo,ho1,ho2⟩:=hd
    have iP:(fv++c.args.map a.eval++cv).getD k undef=a.eval oo:=by
     have e2:k<first.length+c.args.size:=by omega
     simp only[sw,Se,Sy,XW,h1,e2,if_true,kJ,s1,Array.getElem?_map,ho1];rfl
    rw[iP];exact mC hG hR hE ho2
   ·rw[Xw br]at hk;simp at hk;obtain⟨cs,Uf,rfl⟩:=hk
    have iP:(fv++c.args.map a.eval++cv).getD k undef=cv.getD (k -(first.length+xs.length)) undef:=by
     have e1: ¬k<first.length+xs.length:=h2
     simp only[sw,Se,Sy,XW,s1,s2,e1,kJ]
    rw[iP];have:=Ug.2 (k -(first.length+xs.length)) (false,[.ref cs]) br;exact eo.dyn this
 have RM:=afs.2 F β N H w (fv++c.args.map a.eval++cv) (λ_ _=>rfl) hG hR hf br dG;unfold Oper.wp;rw[bC];refine RM.mono λe w1 he=>?_;obtain⟨v,cL,rfl,h1,h2,h3⟩:=he;exact⟨v,rfl,cL,r,u,R,hK,h1,h2,h3⟩
def U6 (hC:C.Ok)(hG:bE C F)(hR:ac F β N H w)(hf: ∀id,N id->tag id≠tag fid){E:EF}{a:Act}(hE:dD F β N H w E a){o:Oper}{Q:Exit->Act->World->Prop}(h:opH C fid o (C.ev E) H K):
  o.wp C.P a w (λa' w'=>∃v,a'=a.put o.dst v/\bh F β N H fid K w v w') Q:=by
 rcases h with h|h|h
 grind[Ys]
 grind[U4]
 grind[Yw]
end
end Go.Fw
namespace Go.Fw
open Go.RowKit (Below)
abbrev F8:=DV × Hp × List Nat
def Yx:List Oper->Nat->Option Oper
 | [],_=>none
 |o::_,0=>some o
 |_::l,i+1=>Yx l i
theorem Jg (l:List Oper)(i:Nat):Yx l i=l[i]? :=by
 induction l generalizing i with
 |nil=>rfl
 |cons o l ih=>cases i with
  |zero=>rfl
  |succ i=>grind[Yx]
def jF (l:List Oper)(i:Nat):Option Tmp:=match Yx l i with
 |some o=>o.dst
 |none=>none
theorem Mc (ci:Array Oper)(i:Nat):jF ci.toList i=(ci[i]?).bind (·.dst):=by grind[jF,Jg]
def akG (d:Option Tmp)(r:DV)(E:dP):dP:=match d with
 |none=>E
 |some d=>(d,some r)::E
def Jh (d:Option Tmp)(r:DV)(E:EF):EF:=match d with
 |none=>E
 |some d=>λs=>if s=d then some r else E s
theorem dP.ar (j:Nat)(b:Option DV)(E:dP):dP.get ((j,b)::E)=λs=>if s=j then b else dP.get E s:=by
 funext i;by_cases h:i=j
 ·subst h;simp[dP.get]
 grind[Nat.eq_of_beq_eq_true,dP.get]
def Md (d:Option Tmp)(r:DV)(E:dP):(akG d r E).get =Jh d r E.get:=by
 cases d with
 |none=>rfl
 |some d=>exact dP.ar _ _ _
def Xd (b:Bool)(X Y:Prop):Prop:=match b with
 |true=>X
 |false=>Y
def z6 {b:Bool}{X Y:Prop}(h:b=true->X)(h':b=false->Y):Xd b X Y:=by
 cases b
 ·exact h' rfl
 ·exact h rfl
theorem Me {X Y:Prop}(h:X):Xd true X Y:=h
theorem Hl {X Y:Prop}(h:Y):Xd false X Y:=h
theorem qa {X Y:Prop}(h:Xd true X Y):X:=h
theorem ov {X Y:Prop}(h:Xd false X Y):Y:=h
attribute [irreducible] Xd
abbrev vw (b:Bool):DV:=lit (.bool b)
abbrev bk:=List (List Nat × List Nat)
def ep (d:Option Tmp)(r:DV)(E:dP)(K:dP->Prop):Prop:=match d with
 |none=>K E
 |some d=>K ((d,some r)::E)
def Ga:Hp->Hp->(Hp->Prop)->Prop
 | [],H,K=>K H
 |p::u,H,K=>Ga u H λH=>K (p::H)
theorem yd {d:Option Tmp}{r:DV}{E:dP}{K:dP->Prop}:ep d r E K↔K (akG d r E):=by cases d<;>exact Iff.rfl
theorem Dl {u H:Hp}{K:Hp->Prop}:Ga u H K↔K (u++H):=by
 induction u generalizing K with
 |nil=>exact Iff.rfl
 |cons p u ih=>unfold Ga;grind
def Gb (C:bQ)(fid:Nat)(o:Oper)(E:dP)(H:Hp)(t:bk)(k:dP->Hp->bk->Prop):Prop:=
 opH C fid o (C.ev E.get) H.get λr u R=>Ga u H λH'=>ep o.dst r E λE'=>k E' H' ((R,u.map Prod.fst)::t)
def kQ (o:Oper)(E:dP)(H:Hp)(t:bk)(k:dP->Hp->bk->Prop):Prop:=
 ep o.dst (.aJ []) E λE'=>k E' H (([],[])::t)
def agf (C:bQ)(fid:Nat)(o:Oper)(g:Nat)(FJ b:Bool)(E:dP)(H:Hp)(t:bk)(k:dP->Hp->bk->Prop):Prop:=
 (b=FJ/\Gb C fid o E H t k)\/(b= !FJ/\kQ o E H t k)\/
  (FJ=true/\Xd b (Gb C fid o ((g,some (vw true))::E) H t k) (kQ o ((g,some (vw false))::E) H t k))\/
  (FJ=false/\Xd b (kQ o ((g,some (vw true))::E) H t k) (Gb C fid o ((g,some (vw false))::E) H t k))
def qb (C:bQ)(all:List Oper)(n0:Nat):List Oper->Nat->dP->Hp->bk->(dP->Hp->Nat->bk->Prop)->Prop
 | [],i,E,H,t,K=>K E H i t
 |o::rest,i,E,H,t,K=>match o.guard with
  |none=>Gb C (2*(n0+i)) o E H t λE' H' t'=>qb C all n0 rest (i+1) E' H' t' K
  |some (j,FJ)=>match jF all j with
   |none=>False
   |some g=>match E.get g with
    |some (.val (false,[.st (.lit (.bool b))]))=>agf C (2*(n0+i)) o g FJ b E H t λE' H' t'=>qb C all n0 rest (i+1) E' H' t' K
    |some (.aJ [])=>kQ o E H t λE' H' t'=>qb C all n0 rest (i+1) E' H' t' K
    |_=>False
def jJ (all:List Oper)(E:EF)(o:Oper):Option Bool:=match o.guard with
 |none=>some true
 |some (j,FJ)=>match jF all j with
  |none=>none
  |some g=>match E g with
   |some (.val (false,[.st (.lit (.bool b))]))=>some (b==FJ)
   |some (.aJ [])=>some false
   |_=>none
inductive Dm (C:bQ) (all:List Oper) (fid:Nat) (o:Oper) (E:EF) (H:HF):F8->Prop
 |run (r:DV) (u:Hp) (R:List Nat) (hg:jJ all E o=some true)
   (h: ∀(jY:Operand->Option DV) (H':HF) (K':j0),(∀x∈o.op.operands.toList,jY x=C.ev E x)->(∀id∈R,H' id=H id)->K' r u R->opH C fid o jY H' K'):Dm C all fid o E H (r,u,R)
 |skip (hg:jJ all E o=some false):Dm C all fid o E H (.aJ [],[],[])
inductive Ji (C:bQ) (all:List Oper) (n0:Nat):List Oper->Nat->EF->HF->List F8->EF->HF->Prop
 |nil (i:Nat) (E:EF) (H:HF):Ji C all n0 [] i E H [] E H
 |cons {o:Oper} {rest:List Oper} {i:Nat} {E:EF} {H:HF} {e:F8} {es:List F8} {E':EF} {H':HF}
   (h:Dm C all (2*(n0+i)) o E H e) (t:Ji C all n0 rest (i+1) (Jh o.dst e.1 E) (e.2.1.on H) es E' H'):Ji C all n0 (o::rest) i E H (e::es) E' H'
def qZ (es:List F8)(t:bk):bk:=es.foldl (λt e=>(e.2.2,e.2.1.map Prod.fst)::t) t
section
variable {C:bQ}{all:List Oper}{n0:Nat}
def yf {E:dP}{g:Nat}{d:DV}(h:E.get g=some d):dP.get ((g,some d)::E)=E.get:=by
 rw[dP.ar]
 grind
theorem Hm {rest:List Oper}: ∀ {i:Nat} {E:dP} {H:Hp} {t:bk} {K:dP->Hp->Nat->bk->Prop},qb C all n0 rest i E H t K->
  ∃es E' H',Ji C all n0 rest i E.get H.get es E'.get H'.get/\K E' H' (i+rest.length) (qZ es t):=by
 induction rest with
 |nil=>intro i E H t K h;exact⟨[],E,H,.nil _ _ _,h⟩
 |cons o rest ih=>
  intro i E H t K h;have el:i+1+rest.length=i+(o::rest).length :=by grind
  have afk: ∀ {E0:dP},E0.get=E.get->jJ all E.get o=some true->(Gb C (2*(n0+i)) o E0 H t λE' H' t'=>qb C all n0 rest (i+1) E' H' t' K)->
    ∃es E' H',Ji C all n0 (o::rest) i E.get H.get es E'.get H'.get/\K E' H' (i+(o::rest).length) (qZ es t):=by
   intro E0 hE0 hg h;unfold Gb at h;obtain⟨r,u,R,h1,h2⟩:=Hk h;rw[Dl,yd]at h1;obtain⟨es,E',H',hr,hK⟩:=ih h1;rw[el]at hK;rw[Md,Hp.get_append,hE0]at hr;rw[hE0]at h2;exact⟨(r,u,R)::es,E',H',.cons (.run r u R hg h2) hr,hK⟩
  have RW: ∀ {E0:dP},E0.get=E.get->jJ all E.get o=some false->(kQ o E0 H t λE' H' t'=>qb C all n0 rest (i+1) E' H' t' K)->
    ∃es E' H',Ji C all n0 (o::rest) i E.get H.get es E'.get H'.get/\K E' H' (i+(o::rest).length) (qZ es t):=by
   intro E0 hE0 hg h;unfold kQ at h;rw[yd]at h;obtain⟨es,E',H',hr,hK⟩:=ih h;rw[el]at hK;rw[Md,hE0]at hr;exact⟨(.aJ [],[],[])::es,E',H',.cons (.skip hg) hr,hK⟩
  unfold qb at h;split at h
  grind[jJ]
  ·rename_i j FJ hg;split at h
   ·grind
   rename_i g hj;split at h
   ·rename_i b hb
    rcases h with⟨rfl,h⟩|⟨rfl,h⟩|⟨rfl,h⟩|⟨rfl,h⟩
    ·grind[jJ]
    ·exact RW rfl (by simp[jJ,hg,hj,hb]) h
    ·cases b
     ·exact RW (yf hb) abW (ov h)
     ·exact afk (yf hb) abW (qa h)
    ·cases b
     ·exact afk (yf hb) abW (ov h)
     ·exact RW (yf hb) abW (qa h)
   grind[jJ]
   grind
def yg {b:Bool}{X Y X' Y':Prop}(h:Xd b X Y)(hx:X->X')(hy:Y->Y'):Xd b X' Y':=by
 cases b
 grind[Hl,ov]
 grind[Me,qa]
def Yy {fid:Nat}{o:Oper}{ev:Operand->Option DV}{H:HF}{K K':j0}(h:opH C fid o ev H K)(hK: ∀r u R,K r u R->K' r u R):opH C fid o ev H K':=by grind[Hk]
theorem qc {fid:Nat}{o:Oper}{E:dP}{H:Hp}{t:bk}{k k':dP->Hp->bk->Prop}(h:Gb C fid o E H t k)(hk: ∀E H t,k E H t->k' E H t):Gb C fid o E H t k':=by
 refine Yy h λr u R h=>?_
 grind[Dl,yd]
theorem ow {o:Oper}{E:dP}{H:Hp}{t:bk}{k k':dP->Hp->bk->Prop}(h:kQ o E H t k)(hk: ∀E H t,k E H t->k' E H t):kQ o E H t k':=by grind[kQ,yd]
theorem U7 {rest:List Oper}: ∀ {i:Nat} {E:dP} {H:Hp} {t:bk} {K K':dP->Hp->Nat->bk->Prop},qb C all n0 rest i E H t K->(∀E H n t,K E H n t->K' E H n t)->
  qb C all n0 rest i E H t K':=by
 induction rest with
 |nil=>intro i E H t K K' h hK;exact hK _ _ _ _ h
 |cons o rest ih=>
  intro i E H t K K' h hK;unfold qb at h ⊢;split at h
  grind[qc]
  ·split at h
   ·omega
   split at h
   ·rcases h with⟨e,h⟩|⟨e,h⟩|⟨e,h⟩|⟨e,h⟩
    ·exact .inl ⟨e,qc h λ_ _ _ h=>ih h hK⟩
    ·exact .inr (.inl ⟨e,ow h λ_ _ _ h=>ih h hK⟩)
    ·exact .inr (.inr (.inl ⟨e,yg h (λh=>qc h λ_ _ _ h=>ih h hK) λh=>ow h λ_ _ _ h=>ih h hK⟩))
    ·exact .inr (.inr (.inr ⟨e,yg h (λh=>ow h λ_ _ _ h=>ih h hK) λh=>qc h λ_ _ _ h=>ih h hK⟩))
   grind[ow]
   omega
end
structure jx (C:bQ) (all:List Oper) (n0:Nat) (rest:List Oper) (i:Nat) (E:dP) (H:Hp) (t:bk) (K:dP->Hp->Nat->bk->Prop):Prop where
 out:qb C all n0 rest i E H t K
structure cS (C:bQ) (fid:Nat) (o:Oper) (E:dP) (H:Hp) (t:bk) (k:dP->Hp->bk->Prop):Prop where
 out:Gb C fid o E H t k
section
variable {C:bQ}{all:List Oper}{n0 i fid:Nat}{o:Oper}{rest:List Oper}{E:dP}{H:Hp}{t:bk}{K:dP->Hp->Nat->bk->Prop}{k:dP->Hp->bk->Prop}
def oN (h:K E H i t):jx C all n0 [] i E H t K:=⟨h⟩
def cS.go {E:dP}(h:cS C fid o E H t λE' H' t'=>jx C all n0 rest (i+1) E' H' t' K):Gb C fid o E H t λE' H' t'=>qb C all n0 rest (i+1) E' H' t' K:=
 qc h.out λ_ _ _ h=>h.out
def rc {E:dP}(h:kQ o E H t λE' H' t'=>jx C all n0 rest (i+1) E' H' t' K):kQ o E H t λE' H' t'=>qb C all n0 rest (i+1) E' H' t' K:=
 ow h λ_ _ _ h=>h.out
def oP (hg:o.guard=none)(h:cS C (2*(n0+i)) o E H t λE' H' t'=>jx C all n0 rest (i+1) E' H' t' K):jx C all n0 (o::rest) i E H t K:=by
 refine⟨?_⟩;unfold qb;rw[hg];exact h.go
def oY {g j:Nat}{b:Bool}(hg:o.guard=some (j,b))(hd:jF all j=some g)(hv:E.get g=some (.val (false,[.st (.lit (.bool b))])))
  (h:cS C (2*(n0+i)) o E H t λE' H' t'=>jx C all n0 rest (i+1) E' H' t' K):jx C all n0 (o::rest) i E H t K:=by
 refine⟨?_⟩;unfold qb;simp only[hg,hd,hv];exact .inl ⟨rfl,h.go⟩
def oZ {g j:Nat}{b:Bool}(hg:o.guard=some (j,b))(hd:jF all j=some g)(hv:E.get g=some (.val (false,[.st (.lit (.bool (!b)))])))
  (h:kQ o E H t λE' H' t'=>jx C all n0 rest (i+1) E' H' t' K):jx C all n0 (o::rest) i E H t K:=by
 refine⟨?_⟩;unfold qb;simp only[hg,hd,hv];exact .inr (.inl ⟨rfl,rc h⟩)
def oO {g j:Nat}{b:Bool}(hg:o.guard=some (j,b))(hd:jF all j=some g)(hv:E.get g=some (.aJ []))
  (h:kQ o E H t λE' H' t'=>jx C all n0 rest (i+1) E' H' t' K):jx C all n0 (o::rest) i E H t K:=by
 refine⟨?_⟩;unfold qb;simp only[hg,hd,hv];exact rc h
def Jj {g j:Nat}{b:Bool}(hg:o.guard=some (j,true))(hd:jF all j=some g)(hv:E.get g=some (.val (false,[.st (.lit (.bool b))])))
  (h:b=true->cS C (2*(n0+i)) o ((g,some (vw true))::E) H t λE' H' t'=>jx C all n0 rest (i+1) E' H' t' K)
  (h':b=false->kQ o ((g,some (vw false))::E) H t λE' H' t'=>jx C all n0 rest (i+1) E' H' t' K):jx C all n0 (o::rest) i E H t K:=by
 refine⟨?_⟩;unfold qb;simp only[hg,hd,hv];exact .inr (.inr (.inl ⟨rfl,z6 (λe=>(h e).go) λe=>rc (h' e)⟩))
def Mf {g j:Nat}{b:Bool}(hg:o.guard=some (j,false))(hd:jF all j=some g)(hv:E.get g=some (.val (false,[.st (.lit (.bool b))])))
  (h:b=true->kQ o ((g,some (vw true))::E) H t λE' H' t'=>jx C all n0 rest (i+1) E' H' t' K)
  (h':b=false->cS C (2*(n0+i)) o ((g,some (vw false))::E) H t λE' H' t'=>jx C all n0 rest (i+1) E' H' t' K):jx C all n0 (o::rest) i E H t K:=by
 refine⟨?_⟩;unfold qb;simp only[hg,hd,hv];exact .inr (.inr (.inr ⟨rfl,z6 (λe=>rc (h e)) λe=>(h' e).go⟩))
def rG {r:DV}{u:Hp}{R:List Nat}(h1: ∀K:j0,K r u R->fu C fid o (C.ev E.get) H.get K)
  (h2:Ga u H λH'=>ep o.dst r E λE'=>k E' H' ((R,u.map Prod.fst)::t)):cS C fid o E H t k:=⟨.inl (h1 _ h2)⟩
def ij {r:DV}{u:Hp}{R:List Nat}(h1: ∀K:j0,K r u R->hcA C fid o (C.ev E.get) H.get K)
  (h2:Ga u H λH'=>ep o.dst r E λE'=>k E' H' ((R,u.map Prod.fst)::t)):cS C fid o E H t k:=⟨.inr (.inr (h1 _ h2))⟩
def rGX {P:Prop}{r:DV}{u:Hp}{R:List Nat}(h1:PH C fid o (C.ev E.get) H.get=some (P,r,u,R))(hP:P)
  (h2:Ga u H λH'=>ep o.dst r E λE'=>k E' H' ((R,u.map Prod.fst)::t)):cS C fid o E H t k:=⟨.inr (.inl (by grind[opX]))⟩
end
structure eB (B:Nat) (l:List Deferred) (w:World):Prop where
 all: ∀d∈l,∃D,d= {target:=.collected D,args:= #[]}/\w.heap[D]? =some (.deferred (some []))/\B<=D
 nodup:l.Nodup
def eB.nil (B:Nat)(w:World):eB B [] w:=⟨by simp,G0⟩
def eB.keep {B:Nat}{l:List Deferred}{w w':World}(h:eB B l w)(k: ∀(k:Nat) (x:Option (List Deferred)),w.heap[k]? =some (.deferred x)->w'.heap[k]? =some (.deferred x)):eB B l w':=
 ⟨λd hd=>let⟨D,h1,h2,h3⟩:=h.all d hd;⟨D,h1,k D _ h2,h3⟩,h.nodup⟩
def gN.okD (F:gN)(nt t:Nat):Prop:=t<nt/\∀p∈F.fixed,p.1≠t
structure BO (F:gN) (nt:Nat) (E:EF) (H:HF) (N:Nat->Prop) (a:Act) (w:World):Prop where
 size:a.tmps.size=nt
 defers:eB F.db a.defers w
 fix: ∀p∈F.fixed,a.tmps.getD p.1 undef=p.2
 rel: ∃β,dD F β N H w E a/\ac F β N H w
section
variable {C:bQ}{F:gN}{nt:Nat}{E:EF}{H:HF}{N:Nat->Prop}{a:Act}{w:World}{ci:Array Oper}{o:Oper}{fid:Nat}{e:F8}{Q:Exit->Act->World->Prop}{K:Act->World->Prop}
theorem vV {β:Nat->Option Nat}(hE:dD F β N H w E a){b:Bool}(h:jJ ci.toList E o=some b):Region.wanted o (yielded ci a.tmps)=b:=by
 unfold jJ at h;unfold Region.wanted;split at h
 grind
 ·rename_i j FJ hg;simp only[hg];split at h
  ·cases h
  rename_i g hj;rw[Mc]at hj;unfold yielded;rw[hj];simp only[LB];split at h
  ·rename_i c hc;have:=hE g _ hc;have hv:=(aq.am this).bw.1
   have ak:a.tmps[g]? =some (.bool c):=by
    rw[sw]at hv
    cases h':a.tmps[g]? with
    |none=>rw[h']at hv;cases hv
    |some x=>grind
   simp_all
  ·rename_i hc;obtain⟨arr,h1,h2,_⟩:=hE g _ hc;simp only[lK]at h;rw[<- h];rw[sw]at h1
   grind
  grind
theorem dD.put {β:Nat->Option Nat}{d:Option Tmp}{v:Value}{r:DV}(hE:dD F β N H w E a)(hv:b8 F β N H w v r)(hd: ∀t,d=some t->t<a.tmps.size):
  dD F β N H w (Jh d r E) (a.put d v):=by
 cases d with
 |none=>exact hE
 |some d=>
  intro s dv hs;simp only[Jh]at hs;have ak:=hd d rfl;by_cases h:s=d
  ·subst h;simp at hs;subst hs;simp[Act.put,ak];exact hv
  ·rw[if_neg h]at hs;have:=hE s dv hs;have e:(a.put (some d) v).tmps.getD s undef=a.tmps.getD s undef:=by simp[Act.put,Xz (ol h)]
   grind
theorem Mg (a:Act)(d:Option Tmp)(v:Value):(a.put d v).tmps.size =a.tmps.size:=by cases d<;>simp[Act.put]
theorem S4 {F:gN}{a:Act}(h: ∀p∈F.fixed,a.tmps.getD p.1 undef=p.2)(d:Option Tmp)(v:Value)(hd: ∀t,d=some t->∀p∈F.fixed,p.1≠t): ∀p∈F.fixed,(a.put d v).tmps.getD p.1 undef=p.2:=by
 intro p hp
 cases d with
 |none=>exact h p hp
 |some t=>
  have:=hd t rfl p hp;rw[<- h p hp];simp[Act.put,Xz (ol this)]
theorem Dn (a:Act)(d:Option Tmp)(v:Value):(a.put d v).defers =a.defers:=by cases d<;>rfl
theorem S5 (hC:C.Ok)(hG:bE C F)(hd: ∀t,o.dst=some t->F.okD nt t){E0:EF}{H0:HF}(h:Dm C ci.toList fid o E0 H0 e)
  (hop: ∀x∈o.op.operands.toList,C.ev E x=C.ev E0 x)(hgd:jJ ci.toList E o=jJ ci.toList E0 o)(IK: ∀id∈e.2.2,H id=H0 id)
  (hrel:BO F nt E H N a w)(hf: ∀id,N id->tag id≠tag fid)
  (hK: ∀a' w',BO F nt (Jh o.dst e.1 E) (e.2.1.on H) (bf N fid) a' w'->K a' w'):
  if Region.wanted o (yielded ci a.tmps)then o.wp C.P a w K Q\/(o.asks C.P a w/\LetsOut Q)else K (a.put o.dst undef) w:=by
 obtain⟨hs,hdf,hfx,β,hE,hR⟩:=hrel
 cases h with
 |run r u R hg h=>
  rw[vV hE (hgd.trans hg)];simp only[if_true];refine .inl ?_;have h1:=h (C.ev E) H (λr' u' R'=>r'=r/\u'=u/\R'=R) hop IK ⟨rfl,rfl,rfl⟩;refine Oper.wp_mono ?_ (U6 (Q:=Q) hC hG hR hf hE h1);rintro a' w' ⟨v,rfl,cL,r',u',R',⟨rfl,rfl,rfl⟩,ht,zH,hv⟩;exact hK _ _ ⟨by grind[Mg],by rw[Dn];exact hdf.keep ht.ax,S4 hfx _ _ λt e=>(hd t e).2,cL,(ht.env hR hE).put hv aj0,zH⟩
 |skip hg=>
  rw[vV hE (hgd.trans hg)];simp only[sU,kJ];refine hK _ _ ⟨by grind[Mg],by grind[Dn],S4 hfx _ _ λt e=>(hd t e).2,β,?_,hR.bf⟩;refine dD.put (λs dv h=>(hE s dv h).bf) ?_ aj0;exact⟨#[],rfl,rfl,by simp⟩
theorem U8 (hC:C.Ok)(hG:bE C F){n0:Nat}{rest:List Oper}{es:List F8}{E':EF}{H':HF}: ∀ {i:Nat} {E:EF} {H:HF} {N:Nat->Prop} {a:Act} {w:World},Ji C ci.toList n0 rest i E H es E' H'->
  (∀o∈rest,∀t,o.dst=some t->F.okD nt t)->BO F nt E H N a w->(∀id,N id->tag id<n0+i)->
  (∀a' w' N',BO F nt E' H' N' a' w'->(∀id,N' id->tag id<n0+(i+rest.length))->Q .normal a' w')->wpList C.P ci Q rest a w:=by
 induction rest generalizing es with
 |nil=>
  intro i E H N a w h _ hrel hN hQ;cases h;exact hQ a w N hrel hN
 |cons o rest ih=>
  intro i E H N a w h hd hrel hN hQ
  cases h with
  |cons h t=>
   unfold wpList;refine S5 hC hG (hd o i8) h (λ_ _=>rfl) rfl (λ_ _=>rfl) hrel (λid hn=>by have:=hN _ hn;rw[jM];omega) ?_;intro a' w' afn;refine ih t (λo' ho'=>hd o' (i7 _ ho')) afn ?_ ?_
   ·rintro id (hn|hn)
    grind
    ·rw[jM]at hn;omega
   grind
end
section
variable {α:Type}(uK:Nat->(Nat->α)->Nat->α)(wr:Nat->Nat->Prop)(f0:Nat->α)
structure S6:Prop where
 same: ∀i k f g,wr i k->uK i f k=uK i g k
 other: ∀i k f,¬wr i k->uK i f k=f k
def cV (X:Nat->Bool):Nat->Nat->α
 |0=>f0
 |n+1=>if X n then uK n (cV X n)else cV X n
variable {uK wr f0}
theorem ko (h:S6 uK wr){X Y:Nat->Bool}{k:Nat}: ∀ {n:Nat},(∀i,i<n->wr i k->X i=Y i)->cV uK f0 X n k=cV uK f0 Y n k
 |0,_=>rfl
 |n+1,hXY=>by
  have ih:=ko h (n:=n) λi hi=>hXY i K0
  have aor: ∀f g:Nat->α,f k=g k->uK n f k=uK n g k:=λf g e=>by
   by_cases hw:wr n k
   ·exact h.same _ _ _ _ hw
   ·rw[h.other _ _ _ hw,h.other _ _ _ hw,e]
  simp only[cV];by_cases hw:wr n k
  grind
  ·split<;>split
   grind
   ·rw[h.other _ _ _ hw,ih]
   ·rw[h.other _ _ _ hw,ih]
   omega
theorem Mh (j:Nat): ∀ {n:Nat},j<=n->cV uK f0 (λi=>decide (i<j)) n=cV uK f0 (λ_=>true) j:=by
 have h1: ∀n,n<=j->cV uK f0 (λi=>decide (i<j)) n=cV uK f0 (λ_=>true) n:=by
  intro n
  induction n with
  |zero=>intro _;rfl
  |succ n ih=>intro hn;simp only[cV,if_true];grind
 intro n hn
 induction n with
 |zero=>grind
 |succ n ih=>
  by_cases e:j=n+1
  grind
  ·simp only[cV]
   grind
def qd (X:Nat->Bool)(j:Nat):Nat->Bool:=λi=>if i=j then true else X i
theorem Hn (h:S6 uK wr){X:Nat->Bool}{j n:Nat}(hj:j<n)(hX:X j=false)(dx: ∀i,j<i->i<n->X i=true->∀k,wr i k->wr j k->False):
  cV uK f0 (qd X j) n=uK j (cV uK f0 X n):=by
 funext k;by_cases hw:wr j k
 ·have key: ∀m,j<m->m<=n->∃g,cV uK f0 (qd X j) m k=uK j g k:=by
   intro m
   induction m with
   |zero=>omega
   |succ m ih=>
    intro hm hmn;simp only[cV];by_cases e:m=j
    ·subst e;rw[if_pos (by simp[qd])];grind
    ·obtain⟨g,hg⟩:=ih K0 K0;split
     ·rename_i hx;have hx:X m=true:=by grind[qd]
      rw[h.other _ _ _ λhm'=>dx m K0 K0 hx k hm' hw]
      grind
     grind
  obtain⟨g,hg⟩:=key n hj (dw _);rw[hg];exact h.same _ _ _ _ hw
 ·rw[h.other _ _ _ hw]
  grind[ko,qd]
end
def kR (o:Oper):List Nat:=(o.after.toList.filter (Region.binds .any)).map (·.on)
def nw (all:List Oper):Nat->Nat->Nat->Bool
 |0,_,_=>false
 |f+1,i,j=>match Yx all j with
  |none=>false
  |some o=>(kR o).any (λk=>Nat.beq k i) || (kR o).any λk=>Nat.blt i k&&nw all f i k
def Ho:List Operand->List Tmp
 | []=>[]
 | .tmp t::l=>t::Ho l
 |_::l=>Ho l
def aci:Op->List Operand
 | .build _ ps=>ps.toList.map (·.2)
 | .buildSlice _ _ ps=>ps.toList.map (·.2)
 | .makeFunc _ first captured=>first.toList++captured.toList
 | .slice _ x l h m=>x::(l.toList++h.toList++m.toList)
 | .call c=>(match c.callee with| .value f=>[f]| .invoke r _=>[r]| .builtin _=>[])++c.args.toList
 |op=>op.operands.toList
theorem acj (op:Op):aci op=op.operands.toList:=by
 cases op<;>first
  |rfl
  |grind[aci,Op.operands]
  |grind[aci,Op.operands,Call.operands]
def looks (all:List Oper)(o:Oper):List Tmp:=Ho (aci o.op)++(match o.guard with
 |some (g,_)=>(jF all g).toList
 |none=>[])
def Do (all:List Oper)(x y:Oper):Bool:=match x.dst with
 |some d=>(looks all y).any (λt=>Nat.beq t d) || (match y.dst with
  |some e=>Nat.beq e d
  |none=>false)
 |none=>false
def Hq (a b:List Nat):Bool:=a.any λi=>b.any λj=>Nat.beq i j
def Jk (x y:List Nat × List Nat):Bool:=Hq x.2 y.1 || Hq x.2 y.2
def Gc:bk->Nat->List Nat × List Nat
 | [],_=>([],[])
 |x::_,0=>x
 |_::l,i+1=>Gc l i
def yh (all:List Oper)(tr:bk)(j:Nat)(oj:Oper)(tj:List Nat × List Nat):Nat->List Oper->Bool
 |_,[]=>true
 |i,o::l=>match Nat.blt i j with
  |false=>true
  |true=>(!(Do all o oj || Do all oj o || Jk (Gc tr i) tj || Jk tj (Gc tr i)) || nw all 6 i j)&&yh all tr j oj tj (i+1) l
def Jl (all:List Oper)(tr:bk):Nat->List Oper->Bool
 |_,[]=>true
 |j,o::l=>(kR o).all (λk=>Nat.blt k j)&&yh all tr j o (Gc tr j) 0 all&&Jl all tr (j+1) l
def z7 (all:List Oper)(t:bk):Bool:=Jl all t.reverse 0 all
theorem ack (t:bk)(i:Nat):Gc t i=t.getD i ([],[]):=by
 induction t generalizing i with
 |nil=>rfl
 |cons x l ih=>cases i with
  |zero=>rfl
  |succ i=>grind[Gc]
def yi {all:List Oper}{tr:bk}{j:Nat}{oj:Oper}{tj:List Nat × List Nat}: ∀ {l:List Oper} {k:Nat},yh all tr j oj tj k l=true->
  ∀i o,l[i]? =some o->k+i<j->(Do all o oj || Do all oj o || Jk (Gc tr (k+i)) tj || Jk tj (Gc tr (k+i)))=true->nw all 6 (k+i) j=true
 | [],_,_,i,o,h,_,_=>by grind
 |x::l,k,h,i,o,hi,ak,hh=>by
  unfold yh at h;have hk:Nat.blt k j=true:=by grind[Nat.blt_eq]
  rw[hk]at h;simp only[sC]at h
  cases i with
  |zero=>
   grind
  |succ i=>
   have e:k+(i+1)=(k+1)+i:=by omega
   rw[e]at hh ⊢;exact yi h.2 i o br K0 hh
def tu {all:List Oper}{tr:bk}: ∀ {l:List Oper} {k:Nat},Jl all tr k l=true->∀j o,l[j]? =some o->
  (∀e∈kR o,e<k+j)/\yh all tr (k+j) o (Gc tr (k+j)) 0 all=true
 | [],_,_,i,o,h=>by grind
 |x::l,k,h,j,o,hj=>by
  unfold Jl at h;simp only[sC,wC,AR]at h
  cases j with
  |zero=>
   grind
  |succ j=>
   have e:k+(j+1)=(k+1)+j:=by omega
   rw[e];exact tu h.2 j o br
def Mi {o:Oper}{e:Edge}(he:e∈o.after)(hb:Region.binds .any e=true):e.on∈kR o:=
 dN.2 ⟨e,XR.2 ⟨by grind,hb⟩,rfl⟩
theorem Mj {o:Oper}{k:Nat}(h:k∈kR o): ∃e∈o.after,Region.binds .any e=true/\e.on=k:=by
 obtain⟨e,he,rfl⟩:=dN.1 h
 grind
def ox {all:List Oper}{X:Nat->Bool}(jd: ∀j o,all[j]? =some o->X j=true->∀k∈kR o,X k=true):
  ∀ {f i j:Nat},nw all f i j=true->(∀o,all[j]? =some o->∀k∈kR o,X k=true)->X i=true
 |0,_,_,h,_=>by grind[nw]
 |f+1,i,j,h,hj=>by
  unfold nw at h;rw[Jg]at h;split at h
  grind
  ·rename_i o ho;simp only[XS,CS,sC]at h
   rcases h with⟨k,hk,he⟩|⟨k,hk,_,he⟩;simp_all
   ·exact ox jd he λo' ho'=>jd k o' ho' (hj o ho k hk)
def iH (X:Nat->Bool):Nat->Nat
 |0=>0
 |n+1=>iH X n+if X n then 0 else 1
def vW {X:Nat->Bool}{j:Nat}: ∀ {n:Nat},n<=j->iH (qd X j) n=iH X n
 |0,_=>rfl
 |n+1,h=>by
  simp only[iH];rw[vW K0]
  grind[qd]
theorem yj {X:Nat->Bool}{j:Nat}(hX:X j=false): ∀ {n:Nat},j<n->iH (qd X j) n+1=iH X n
 |0,h=>by omega
 |n+1,h=>by
  simp only[iH];by_cases e:n=j
  ·subst e;rw[vW (dw _)]
   grind[qd]
  ·have:=yj hX (n:=n) K0
   grind[qd]
theorem vX {X:Nat->Bool}: ∀ {n:Nat},iH X n=0->∀i,i<n->X i=true
 |0,_,i,h=>by omega
 |n+1,h,i,hi=>by
  simp only[iH]at h;by_cases e:i=n
  grind
  ·exact vX (n:=n) K0 i K0
theorem Dp (n:Nat):iH (λ_=>false) n=n:=by
 induction n with
 |zero=>rfl
 |succ n ih=>grind[iH]
def gz (es:List F8)(i:Nat):F8:=es.getD i (.aJ [],[],[])
def gQ (l:List Oper)(es:List F8)(i:Nat)(E:EF):EF:=Jh (jF l i) (gz es i).1 E
def Mk (l:List Oper)(i k:Nat):Prop:=jF l i=some k
def jy (es:List F8)(i:Nat)(H:HF):HF:=(gz es i).2.1.on H
def agh (es:List F8)(i k:Nat):Prop:=k∈(gz es i).2.1.map Prod.fst
def agi (l:List Oper)(es:List F8):S6 (gQ l es) (Mk l) where
 same:=λi k f g h=>by grind[gQ,Mk,Jh]
 other:=λi k f h=>by
  unfold gQ;unfold Mk at h
  cases hd:jF l i with
  |none=>rfl
  |some d=>
   grind[Jh]
def acl {u:Hp}{k:Nat}(f g:HF)(h:k∈u.map Prod.fst):u.on f k=u.on g k:=by
 induction u with
 |nil=>grind
 |cons p u ih=>
  show bn _ _ _ k=bn _ _ _ k;unfold bn
  grind
def Yz {u:Hp}{k:Nat}(f:HF)(h:k∉u.map Prod.fst):u.on f k=f k:=by
 induction u with
 |nil=>rfl
 |cons p u ih=>
  show bn _ _ _ k=_;unfold bn
  grind
def acm (es:List F8):S6 (jy es) (agh es) where
 same:=λ_ _ f g h=>acl f g h
 other:=λ_ _ f h=>Yz f h
def U9 {C:bQ}{all:List Oper}{n0:Nat}{E0:EF}{H0:HF}{es0:List F8}: ∀ {rest:List Oper} {i:Nat} {es:List F8} {E:EF} {H:HF} {E':EF} {H':HF},Ji C all n0 rest i E H es E' H'->
  (∀k,rest[k]? =all[i+k]?)->(∀k,es[k]? =es0[i+k]?)->E=cV (gQ all es0) E0 (λ_=>true) i->H=cV (jy es0) H0 (λ_=>true) i->
  (∀k o,rest[k]? =some o->Dm C all (2*(n0+(i+k))) o (cV (gQ all es0) E0 (λ_=>true) (i+k)) (cV (jy es0) H0 (λ_=>true) (i+k)) (gz es0 (i+k)))/\
   E'=cV (gQ all es0) E0 (λ_=>true) (i+rest.length)/\H'=cV (jy es0) H0 (λ_=>true) (i+rest.length):=by
 intro rest
 induction rest with
 |nil=>intro i es E H E' H' h _ _ hE hH;cases h;grind
 |cons o rest ih=>
  intro i es E H E' H' h hr he hE hH
  cases h with
  | @cons _ _ _ _ _ e es _ _ h t=>
   have h0:es0[i]? =some e:=by simpa using(he 0).symm
   have aoG:gz es0 i=e:=by grind[gz]
   have hd:jF all i=o.dst:=by
    have:all[i]? =some o:=by simpa using(hr 0).symm
    grind[jF,Jg]
   obtain⟨h1,h2,h3⟩:=ih t (λk=>by have:=hr (k+1);grind) (λk=>by have:=he (k+1);grind)
    (by simp only[cV,if_true];grind[gQ]) (by simp only[cV,if_true];grind[jy])
   grind
theorem PN (es:List F8)(t:bk):qZ es t=(es.map λe=>(e.2.2,e.2.1.map Prod.fst)).reverse ++t:=by
 unfold qZ;simp_all
def Dq {es:List F8}{i:Nat}:Gc (qZ es []).reverse i=((gz es i).2.2,(gz es i).2.1.map Prod.fst):=by grind[PN,ack,gz]
def Ht {a b:List Nat}:Hq a b=true↔∃k,k∈a/\k∈b:=by
 simp only[Hq,CS];simp_all
def Va {l:List Operand}{t:Tmp}(h: .tmp t∈l):t∈Ho l:=by
 induction l with
 |nil=>cases h
 |cons x l ih=>
  rcases cQ.1 h with rfl|h'
  ·simp[Ho]
  ·have:=ih K0;cases x<;>simp[Ho,this]
section
variable {C:bQ}{F:gN}{nt:Nat}{ci:Array Oper}{Q:Exit->Act->World->Prop}
def NX (N0:Nat->Prop)(n0 n:Nat)(X:Nat->Bool)(id:Nat):Prop:=N0 id\/∃i,i<n/\X i=true/\tag id=n0+i
theorem YA (hC:C.Ok)(hG:bE C F){n0:Nat}{es:List F8}{E0 E':EF}{H0 H':HF}{N0:Nat->Prop}{a:Act}{w:World}(h:Ji C ci.toList n0 ci.toList 0 E0 H0 es E' H')
  (hdr:z7 ci.toList (qZ es [])=true)(hd: ∀o∈ci.toList,∀t,o.dst=some t->F.okD nt t)(hrel:BO F nt E0 H0 N0 a w)(hN: ∀id,N0 id->tag id<n0)
  (hQ: ∀a' w' N',BO F nt E' H' N' a' w'->(∀id,N' id->tag id<n0+ci.size)->Q .normal a' w'):wpAny C.P .any ci Q ci.size (Array.replicate ci.size false) a w:=by
 obtain⟨eG,GP,hH'⟩:=U9 (es0:=es) h (by simp) (by simp) rfl rfl;simp only[jZ,Array.length_toList]at eG GP hH';have hlE:=agi ci.toList es;have hlH:=acm es
 have amw: ∀i j,i<j->j<ci.size->(∃oi oj,ci[i]? =some oi/\ci[j]? =some oj/\(Do ci.toList oi oj || Do ci.toList oj oi ||
   Jk ((gz es i).2.2,(gz es i).2.1.map Prod.fst) ((gz es j).2.2,(gz es j).2.1.map Prod.fst) || Jk ((gz es j).2.2,(gz es j).2.1.map Prod.fst) ((gz es i).2.2,(gz es i).2.1.map Prod.fst))=true)->nw ci.toList 6 i j=true:=by
  rintro i j Lb hj ⟨oi,oj,hoi,hoj,hh⟩;have h1:=(tu hdr j oj br).2;rw[jZ]at h1;have h2:=yi h1 i oi br K0;rw[jZ,Dq,Dq]at h2
  grind
 have amq: ∀j o,ci[j]? =some o->∀e∈kR o,e<j:=λj o ho=>by
  have:=(tu hdr j o br).1
  grind
 have ahF: ∀i o,ci[i]? =some o->jF ci.toList i=o.dst:=λi o ho=>by grind[Mc]
 have ahf: ∀(AL:Nat) (X:Nat->Bool) (ki:Array Bool) (a:Act) (w:World),ki.size=ci.size->(∀i,i<ci.size->ki.getD i true=X i)->
   (∀j o,ci.toList[j]? =some o->X j=true->∀k∈kR o,X k=true)->iH X ci.size<=AL->
   BO F nt (cV (gQ ci.toList es) E0 X ci.size) (cV (jy es) H0 X ci.size) (NX N0 n0 ci.size X) a w->wpAny C.P .any ci Q AL ki a w:=by
  have Pb: ∀(X:Nat->Bool) (ki:Array Bool) (a:Act) (w:World),ki.size=ci.size->(∀i,i<ci.size->ki.getD i true=X i)->
    Region.ready .any ci ki= []->BO F nt (cV (gQ ci.toList es) E0 X ci.size) (cV (jy es) H0 X ci.size) (NX N0 n0 ci.size X) a w->Q .normal a w:=by
   intro X ki a w hls hX hr hrel
   have hall: ∀i,i<ci.size->X i=true:=by
    intro i
    induction i using Nat.strongRecOn with
    |_ i ih=>
     intro hi;cases hx:X i
     ·exfalso
      have:i∈Region.ready .any ci ki:=by
       rw[mem_ready];refine⟨by grind,ci[i],by grind,λe he hb=>?_⟩;have ak:=amq i ci[i] br e.on (Mi he hb)
       grind
      grind
     ·rfl
   have e1:cV (gQ ci.toList es) E0 X ci.size=E':=by rw[GP];funext k;grind[ko]
   have e2:cV (jy es) H0 X ci.size=H':=by rw[hH'];funext k;grind[ko]
   rw[e1,e2]at hrel;refine hQ a w _ hrel ?_;rintro id (hn|⟨i,hi,_,e⟩)
   grind
   ·omega
  intro AL
  induction AL with
  |zero=>
   intro X ki a w hls hX jd hu hrel
   have hr:Region.ready .any ci ki= []:=by
    rw[List.eq_nil_iff_forall_not_mem];intro j hj;obtain⟨h0,o,ho,_⟩:=mem_ready.1 hj
    grind[vX]
   exact⟨hr,Pb X ki a w hls hX hr hrel⟩
  |succ AL ih=>
   intro X ki a w hls hX jd hu hrel;refine⟨λhr=>Pb X ki a w hls hX hr hrel,λj hj=>?_⟩;obtain⟨h0,o,ho,hall⟩:=mem_ready.1 hj;have ak:j<ci.size:=(FT.1 ho).1;have hXj:X j=false:=by grind
   have aob: ∀k∈kR o,X k=true:=by grind[Mj]
   have RT: ∀i,i<j->nw ci.toList 6 i j=true->X i=true:=λi _ ho'=>
    ox jd ho' λo' amt k hk=>by grind
   have abi: ∀i,j<i->i<ci.size->X i=true->nw ci.toList 6 j i=true->False:=λi _ hi hXi ho'=>by
    have:=ox jd ho' λo' amt k hk=>jd i o' amt hXi k hk
    grind
   have ww: ∀i,i<ci.size->(∃oi,ci[i]? =some oi/\(Do ci.toList oi o || Jk ((gz es i).2.2,(gz es i).2.1.map Prod.fst) ((gz es j).2.2,(gz es j).2.1.map Prod.fst))=true)->i≠j->X i=decide (i<j):=by grind
   have Uc:=eG j o br
   have afh: ∀t∈looks ci.toList o,cV (gQ ci.toList es) E0 X ci.size t=cV (gQ ci.toList es) E0 (λ_=>true) j t:=by
    intro t ht;rw[<- Mh (n:=ci.size) j K0];refine ko hlE λi hi hw=>?_;by_cases e8:i=j
    grind
    ·refine ww i hi ⟨ci[i],by grind,?_⟩ e8;unfold Mk at hw;rw[ahF i ci[i] br]at hw
     have:Do ci.toList ci[i] o=true:=by
      simp only[Do,hw,XS,CS]
      grind[Nat.beq_refl]
     grind
   have hop: ∀x∈o.op.operands.toList,C.ev (cV (gQ ci.toList es) E0 X ci.size) x=C.ev (cV (gQ ci.toList es) E0 (λ_=>true) j) x:=by
    intro x hx
    cases x with
    |tmp t=>
     refine afh t (Pp _ (Va ?_))
     grind[acj]
    |_=>rfl
   have hgd:jJ ci.toList (cV (gQ ci.toList es) E0 X ci.size) o=jJ ci.toList (cV (gQ ci.toList es) E0 (λ_=>true) j) o:=by
    unfold jJ;split
    ·rfl
    ·rename_i g FJ hg;split
     ·rfl
     ·rename_i t ht;rw[afh t (List.mem_append_right _ br)]
   have IK: ∀id∈(gz es j).2.2,cV (jy es) H0 X ci.size id=cV (jy es) H0 (λ_=>true) j id:=by
    intro id hid;rw[<- Mh (n:=ci.size) j K0];refine ko hlH λi hi hw=>?_;by_cases e8:i=j
    grind
    ·refine ww i hi ⟨ci[i],by grind,?_⟩ e8;have:Hq ((gz es i).2.1.map Prod.fst) (gz es j).2.2=true:=Ht.2 ⟨id,hw,hid⟩
     grind[Jk]
   unfold wpOp;rw[ho];have ahC: ∀t,o.dst=some t->F.okD nt t:=hd o br;refine S5 hC hG ahC Uc hop hgd IK hrel ?_ ?_
   ·rw[jM];rintro id (hn|⟨i,hi,hx,e⟩)
    grind
    grind
   ·intro a' w' afn;refine ih (qd X j) _ a' w' br ?_ ?_ ?_ ?_
    ·intro i hi;by_cases e:i=j
     ·subst e;have:i<ki.size:=by omega
      simp[qd,this]
     ·rw[getD_set_ne true (ol e),hX i hi];simp[qd,e]
    grind[qd]
    grind[yj]
    ·have e1:cV (gQ ci.toList es) E0 (qd X j) ci.size=Jh o.dst (gz es j).1 (cV (gQ ci.toList es) E0 X ci.size):=by
      rw[Hn hlE ak hXj ?_]
      grind[gQ]
      ·intro i Lb hi hx k sQ RG;refine abi i Lb hi hx (amw j i Lb hi ⟨o,ci[i],ho,by grind,?_⟩);unfold Mk at sQ RG;rw[ahF i ci[i] br]at sQ;rw[ahF j o ho]at RG
       have:Do ci.toList o ci[i]=true:=by
        simp only[Do,sQ,RG,XS]
        grind[Nat.beq_refl]
       grind
     have e2:cV (jy es) H0 (qd X j) ci.size=(gz es j).2.1.on (cV (jy es) H0 X ci.size):=by
      rw[Hn hlH ak hXj ?_]
      ·rfl
      ·intro i Lb hi hx k sQ RG;refine abi i Lb hi hx (amw j i Lb hi ⟨o,ci[i],ho,by grind,?_⟩);have:Hq ((gz es j).2.1.map Prod.fst) ((gz es i).2.1.map Prod.fst)=true:=Ht.2 ⟨k,RG,sQ⟩
       grind[Jk]
     have e3:NX N0 n0 ci.size (qd X j)=bf (NX N0 n0 ci.size X) (2*(n0+j)):=by
      funext id;apply propext;constructor
      ·rintro(hn|⟨i,hi,hx,et⟩)
       ·exact .inl (.inl hn)
       ·by_cases e:i=j
        ·subst e;exact .inr (by rw[jM];exact et)
        ·exact .inl (.inr ⟨i,hi,by grind[qd],et⟩)
      ·rintro((hn|⟨i,hi,hx,et⟩)|et)
       ·exact .inl hn
       ·refine .inr ⟨i,hi,?_,et⟩
        grind[qd]
       ·rw[jM]at et;exact .inr ⟨j,ak,by simp[qd],et⟩
     grind
 refine ahf ci.size (λ_=>false) _ a w (by simp) (λi hi=>by simp[hi]) (λ_ _ _ h=>by grind) (by grind[Dp]) ?_;have e1: ∀n,cV (gQ ci.toList es) E0 (λ_=>false) n=E0:=λn=>by exact aj1
 have e2: ∀n,cV (jy es) H0 (λ_=>false) n=H0:=λn=>by exact aj1
 have e3:NX N0 n0 ci.size (λ_=>false)=N0:=by funext id;simp[NX]
 grind
end
def dI {l:List Oper}{t:bk}{X:Prop}(h:z7 l t=true)(x:X):z7 l t=true/\X:=⟨h,x⟩
attribute [irreducible] z7
def akH (P:Program)(g:Nat)(fb cv:Array Value)(xs:List (Array Value))(mv:Mem)(w:World):Prop:=
 ∀(l:Nat) (J:Nat × (Nat->Prop)->World->Prop) (Jx:Unit->World->Prop) (W:World) (M0:Nat->Prop),Below w.heap.size w W->(∀b,M0 b->b<W.heap.size)->AbidesFrom W.heap.size J->AbidesFrom W.heap.size Jx->
  (∀s W1,J s W1->mv.le (rd W1))->
  (∀i M x W1,xs[i]? =some x->J (i,M) W1->YieldAt Fence.wide 0 P l x W1 λe W'=>
   (e= .returned (.bool true)/\∃M',J (i+1,M') W'/\W1.heap.size<=W'.heap.size/\(∀b,M' b->M b\/W1.heap.size<=b)/\∀b arr T,W1.heap[b]? =some (.cells arr T)->¬M b->W'.heap[b]? =some (.cells arr T))\/
   (e= .returned (.bool false)/\Jx () W'))->
  J (0,M0) W->CallsIn Fence.wide 0 P g (fb++ #[.func (.yield l) #[] #[]]++cv) W λe W'=>(∃v,e= .returned v)/\((∃M,J (xs.length,M) W')\/Jx () W')
def S7 (P:Program)(gl:s6)(g:FuncId)(first:List SV)(bI:List (List SC))(xs:List (List SV)):Prop:=
 iG P g=true/\∀(mv mr:Mem) (w:World) (fb cv:Array Value),mv.le mr->mr.le (rd w)->eP gl (rd w)->o4 mv mr fb first->o4 mv mr cv (bI.map λcs=>(false,[.ref cs]))->
  ∃xv:List (Array Value),xv.length=xs.length/\(∀(i:Nat) (x:Array Value) (r:List SV),xv[i]? =some x->xs[i]? =some r->o4 mv eU x r)/\akH P g fb cv xv mr w
section
variable {P:Program}{l:Nat}{n:Nat}
def Gd {f:FuncId}{args:Array Value}{w:World}{R:Ending->World->Prop}(h:Calls P f args w R):CallsIn (Fence.wide.inRound l) n P f args w R:=(callsIn_wide (n:=n)).2 h
def Jm {row:String}{args:Array Value}{w:World}{R:Value->World->Prop}(h:Rows P row args w R):RowsIn (Fence.wide.inRound l) n P row args w R:=
 λc cs _=>let⟨v,w',r,s⟩:=h c cs;⟨v,w',r,stepsIn_wide.2 s⟩
theorem YB {o:Oper}{a:Act}{w:World}{K:Act->World->Prop}{Q:Exit->Act->World->Prop}(hd: ∀c,o.op≠ .defer c)(h:o.wp P a w K Q):o.wpIn (Fence.wide.inRound l) n P a w K Q:=by
 refine⟨λ_ _=>trivial,?_⟩;rw[Fence.inRound_round,Oper.semAt_some l _ _ hd];unfold Oper.wp at h;generalize (execOp a.eval o).run P w=r at*
 cases r with
 |ok x w'=>
  cases x<;>simp only[Oper.upon,Oper.uponIn]at h ⊢ <;>first
   |exact h
   |exact⟨λh=>by simp[Fence.inRound,Fence.wide]at h,Gd h⟩
   |exact⟨λh=>by simp[Fence.inRound,Fence.wide]at h,Jm h⟩
 |halt x w'=>cases x<;>simp only[Oper.upon,Oper.uponIn]at h ⊢ <;>exact h
def rf:List Oper->Bool
 | []=>true
 |o::l=>match o.op with
  | .defer _=>false
  |_=>rf l
theorem Ml {l:List Oper}(h:rf l=true): ∀o∈l,∀c,o.op≠ .defer c:=by
 induction l with
 |nil=>simp
 |cons x l ih=>
  unfold rf at h;split at h
  ·cases h
  ·rename_i hx;intro o ho c e;rcases cQ.1 ho with rfl|ho
   ·exact hx c e
   ·exact ih h o ho c e
theorem Hu {ci:Array Oper}{Q:Exit->Act->World->Prop}(hd:rf ci.toList=true)(hQ: ¬LetsOut Q): ∀(is:List Nat) (a:Act) (w:World),wpOps P ci Q is a w->wpOpsIn (Fence.wide.inRound l) n P ci Q is a w:=by
 intro is
 induction is with
 |nil=>intro a w h;exact h
 |cons i is ih=>
  intro a w h;unfold wpOps at h;unfold wpOpsIn;split at h
  ·rename_i ho;simp only[ho];exact ih a w h
  ·rename_i o ho;simp only[ho];split at h
   ·rename_i hw;simp only[hw,if_true];rcases h with h|h
    ·exact Oper.wpIn_mono ih (YB (Ml hd o (by simpa using XC ho)) h)
    ·exact absurd h.2 hQ
   ·rename_i hw;simp only[hw];exact⟨λ_ _=>trivial,ih _ _ h⟩
def yk {id:Nat}{ci:Array Oper}{Q:Exit->Act->World->Prop}{a:Act}{w:World}(hd:rf ci.toList=true)(hQ: ¬LetsOut Q)(h:wpList P ci Q ci.toList a w):
  (Code.region id ci false).wpIn (Fence.wide.inRound l) n P Q a w:=by
 refine wpIn_region (Hu hd hQ _ _ _ ?_);rw[List.range_eq_range',<- Array.length_toList,wpOps_eq_wpList ci.toList 0 (by simp)];exact h
def z8 {id:Nat}{ci:Array Oper}{Q:Exit->Act->World->Prop}{a:Act}{w:World}(hd:rf ci.toList=true)(hQ: ¬LetsOut Q)(hm:P.follows .mixedOrders =true)
  (h:wpAny P .any ci Q ci.size (Array.replicate ci.size false) a {w with drawn:=w.drawn+1}):(Code.region id ci true).wpIn (Fence.wide.inRound l) n P Q a w:=by
 refine wpIn_region_draw λt=>Hu hd hQ _ _ _ ?_;simp only[Region.schedule,hm,Bool.true_or,if_true];exact wpAny_sound ci.size t _ a _ h
end
structure St where
 env:dP
 hp:Hp
 nx:Nat
def Rel (F:gN)(nt:Nat)(S:St)(a:Act)(w:World):Prop:=∃N,BO F nt S.env.get S.hp.get N a w/\∀id,N id->tag id<S.nx
def bs (S S':St):Prop:=∀F nt a w,Rel F nt S a w->Rel F nt S' a w
theorem bs.refl (S:St):bs S S:=λ_ _ _ _ h=>h
def bs.trans {S S' S'':St}(h:bs S S')(k:bs S' S''):bs S S'':=λF nt a w r=>k F nt a w (h F nt a w r)
@[irreducible] def S8 (step:(St->Prop)->St->Prop)(S:St):Prop:=∀Z:St->Prop,(∀S,step (λS'=>∃S'',bs S' S''/\Z S'') S->Z S)->Z S
def Cd (C:bQ)(ci:List Oper)(uI:Bool)(S:St)(kn:St->Prop):Prop:=match S with
 |⟨E,H,nx⟩=>qb C ci nx ci 0 E H [] λE H n t=>match uI with
  |false=>kn ⟨E,H,nx+n⟩
  |true=>z7 ci t=true/\kn ⟨E,H,nx+n⟩
def params:List Tmp->List SV->dP->dP
 |p::ps,x::xs,E=>params ps xs ((p,some (.val (dyn x)))::E)
 |_,_,E=>E
def Ce (n:Nat)(l:List Nat):Bool:= !xP n l
def rg (l:List Nat):List Oper->Bool
 | []=>true
 |o::r=>(match o.dst with|some d=>Ce d l|none=>true)&&rg l r
def aM (l:List Nat):Code->Bool
 | .seq x y=>aM l x&&aM l y
 | .cond _ x y=>aM l x&&aM l y
 | .block _ c=>aM l c
 | .loop c=>aM l c
 | .scope c=>aM l c
 | .rangeFunc _ _ x y=>aM l x&&aM l y
 | .region _ ci _=>rg l ci.toList
 |_=>true
def mE:Code->Bool
 | .skip =>true
 | .label _=>true
 | .ret =>true
 | .exit _=>true
 | .seq x y=>mE x&&mE y
 | .cond _ x y=>mE x&&mE y
 | .block _ c=>mE c
 | .region _ ci _=>rf ci.toList
 |_=>false
def rh:Hp->Bool
 | []=>true
 |(_,some (.map _))::_=>false
 |_::H=>rh H
def j7:dP->List Nat
 | []=>[]
 |(k,_)::E=>k::j7 E
def qe (l:List Nat):List Tmp->Bool
 | []=>true
 |p::ps=>Ce p l&&qe l ps
def ri (C:bQ):Code->St->(St->Prop)->(Nat->St->Prop)->(St->Prop)->Prop
 | .skip,S,kn,_,_=>kn S
 | .label _,S,kn,_,_=>kn S
 | .ret,S,_,_,kr=>kr S
 | .exit id,S,_,kx,_=>kx id S
 | .seq x y,S,kn,kx,kr=>ri C x S (λS=>∃S',bs S S'/\ri C y S' kn kx kr) kx kr
 | .cond c x y,S,kn,kx,kr=>match C.ev S.env.get c with
  |some (.val (false,[.st (.lit (.bool b))]))=>Xd b (ri C x S kn kx kr) (ri C y S kn kx kr)
  |_=>False
 | .block id c,S,kn,kx,kr=>ri C c S kn (λiO S=>match Nat.beq iO id with
  |true=>kn S
  |false=>kx iO S) kr
 | .loop c,S,_,kx,kr=>∃S',bs S S'/\S8 (λZ S=>ri C c S Z kx kr) S'
 | .region _ ci uI,S,kn,_,_=>Cd C ci.toList uI S kn
 | .scope c,S,kn,kx,kr=>ri C c S kn kx kr
 | .rangeFunc g ps x y,S,kn,_,kr=>match C.ev S.env.get g with
  |some (.val (false,[.st (.fn gf first bI)]))=>∃(xs:List (List SV)) (Hs:Nat->Hp) (nx:Nat) (Inv:Nat->Prop),S7 C.P C.gl gf first bI xs/\(∀r∈xs,r.length=ps.size)/\
    (mE x=true/\mE y=true/\aM (j7 S.env) x=true/\aM (j7 S.env) y=true/\qe (j7 S.env) ps.toList=true)/\(∀i,rh (Hs i)=true)/\bs S ⟨S.env,Hs 0,nx⟩/\Inv 0/\
    (∀i r,xs[i]? =some r->Inv i->ri C x ⟨params ps.toList r S.env,Hs i,nx⟩ (λS1=>∃Xl,bs S1 Xl/\ri C y Xl (λS2=>Inv (i+1)/\bs S2 ⟨S.env,Hs (i+1),nx⟩) (λ_ _=>False)
     (λS2=>∃Hr nr,rh Hr=true/\bs S2 ⟨S.env,Hr,nr⟩/\kr ⟨S.env,Hr,nr⟩)) (λ_ _=>False) (λ_=>False))/\(Inv xs.length->kn ⟨S.env,Hs xs.length,nx⟩)
  |_=>False
 |_,_,_,_,_=>False
def Mm (nt:Nat):List Oper->Bool
 | []=>true
 |o::l=>(match o.dst with|some d=>Nat.blt d nt|none=>true)&&Mm nt l
def bM (nt:Nat):Code->Bool
 | .seq x y=>bM nt x&&bM nt y
 | .cond _ x y=>bM nt x&&bM nt y
 | .block _ c=>bM nt c
 | .loop c=>bM nt c
 | .scope c=>bM nt c
 | .rangeFunc _ ps x y=>(ps.toList.all λp=>Nat.blt p nt)&&(bM nt x&&bM nt y)
 | .region _ ci _=>Mm nt ci.toList
 |_=>true
def Vc {n:Nat}{l:List Nat}:xP n l=true↔n∈l:=by
 induction l with
 |nil=>simp[xP]
 |cons m l ih=>
  grind[xP,Nat.eq_of_beq_eq_true,Nat.beq_refl]
theorem Mn {n:Nat}{l:List Nat}(h:Ce n l=true):n∉l:=by
 intro hm;rw[Ce,Vc.2 hm]at h;cases h
def Jn {k:List Nat}{l:List Oper}(h:rg k l=true): ∀o∈l,∀t,o.dst=some t->t∉k:=by
 induction l with
 |nil=>grind
 |cons x l ih=>
  rw[rg]at h;exact akj
def Mo (l:List Oper):rg [] l=true:=by
 induction l with
 |nil=>rfl
 |cons o l ih=>
  rw[rg,ih,Bool.and_true];split<;>rfl
def Jo (c:Code):aM [] c=true:=by
 induction c with
 |seq x y ihx ihy=>grind[aM]
 |cond c x y ihx ihy=>grind[aM]
 |rangeFunc g ps x y ihx ihy=>grind[aM]
 |block id c ih=>rw[aM,ih]
 |loop c ih=>rw[aM,ih]
 |scope c ih=>rw[aM,ih]
 |region id ci uI=>exact Mo _
 |_=>rfl
def PO {nt:Nat}{l:List Oper}(h:Mm nt l=true): ∀o∈l,∀t,o.dst=some t->t<nt:=by
 induction l with
 |nil=>grind
 |cons x l ih=>
  rw[Mm]at h;obtain⟨h1,h2⟩:=aG h
  grind[Nat.blt_eq]
section
variable {C:bQ}
def YC {step afr:(St->Prop)->St->Prop}(hs: ∀Z S,step Z S->afr Z S){S:St}(h:S8 step S):S8 afr S:=by
 unfold S8 at*;exact λZ hZ=>h Z λS hS=>hZ S (hs _ _ hS)
theorem mF {c:Code}: ∀ {S:St} {kn RN:St->Prop} {kx RV:Nat->St->Prop} {kr RH:St->Prop},ri C c S kn kx kr->(∀S,kn S->RN S)->(∀id S,kx id S->RV id S)->(∀S,kr S->RH S)->ri C c S RN RV RH:=by
 induction c with
 |skip=>intro S kn RN kx RV kr RH h h1 h2 h3;exact h1 _ h
 |label l=>intro S kn RN kx RV kr RH h h1 h2 h3;exact h1 _ h
 |ret=>intro S kn RN kx RV kr RH h h1 h2 h3;exact h3 _ h
 |exit id=>intro S kn RN kx RV kr RH h h1 h2 h3;exact h2 _ _ h
 |seq x y ihx ihy=>intro S kn RN kx RV kr RH h h1 h2 h3;exact ihx h (λS ⟨S',hs,h⟩=>⟨S',hs,ihy h h1 h2 h3⟩) h2 h3
 |cond c x y ihx ihy=>
  intro S kn RN kx RV kr RH h h1 h2 h3;unfold ri at h ⊢;split at h
  ·rename_i b hb;exact yg h (λh=>ihx h h1 h2 h3) λh=>ihy h h1 h2 h3
  omega
 |block id c ih=>
  intro S kn RN kx RV kr RH h h1 h2 h3;refine ih h h1 (λiO S h=>?_) h3
  grind
 |loop c ih=>
  intro S kn RN kx RV kr RH h h1 h2 h3;obtain⟨S',hs,h⟩:=h;exact⟨S',hs,YC (λZ S h=>ih h (λ_ h=>h) h2 h3) h⟩
 |region id ci uI=>
  intro S kn RN kx RV kr RH h h1 h2 h3;refine U7 h λE H n t h=>?_
  grind
 |scope c ih=>intro S kn RN kx RV kr RH h h1 h2 h3;exact ih h h1 h2 h3
 |rangeFunc g ps x y ihx ihy=>
  intro S kn RN kx RV kr RH h h1 h2 h3;unfold ri at h ⊢;split at h
  ·obtain⟨xs,Hs,nx,Inv,q1,q2,q3,qm,q4,q0,q5,q6⟩:=h;exact⟨xs,Hs,nx,Inv,q1,q2,q3,qm,q4,q0,λi r hr hi=>ihx (q5 i r hr hi) (λ_ ⟨Xl,hs,h⟩=>⟨Xl,hs,ihy h (λ_ h=>h) (λ_ _ h=>h) λ_ ⟨Hr,nr,hm,hs,h⟩=>⟨Hr,nr,hm,hs,h3 _ h⟩⟩) (λ_ _ h=>h) λ_ h=>h,λhi=>h1 _ (q6 hi)⟩
  omega
 |goto=>intro S kn RN kx RV kr RH h;exact h.elim
 |refuse=>intro S kn RN kx RV kr RH h;exact h.elim
def Hv {c:Code}{kx:Nat->St->Prop}{kr:St->Prop}{S:St}(h:ri C c S (λS'=>∃S'',bs S' S''/\S8 (λZ S=>ri C c S Z kx kr) S'') kx kr):S8 (λZ S=>ri C c S Z kx kr) S:=by
 unfold S8;intro Z hZ;refine hZ S (mF h (λS' h=>?_) (λ_ _ h=>h) λ_ h=>h);obtain⟨S'',h1,h2⟩:=h;unfold S8 at h2;exact⟨S'',h1,h2 Z hZ⟩
end
def tv (P:Program)(c:Code)(Q:Exit->Act->World->Prop)(a:Act)(w:World):Prop:=
 ∀(b:Frame) (k:List Item) (cs:List Frame),∃e a' w',Q e a' w'/\Arrives P (lone (b.at a (.code c:: .inLoop c::k)) cs w) b k cs e a' w'
def tv.wp {P:Program}{c:Code}{Q:Exit->Act->World->Prop}{a:Act}{w:World}(h:tv P c Q a w):(Code.loop c).wp P Q a w:=
 λb k cs=>let⟨e,a',w',hq,lB⟩:=h b k cs;⟨e,a',w',hq,.of_steps (.one step_loop) lB⟩
def tv.round {P:Program}{c:Code}{Q:Exit->Act->World->Prop}{a:Act}{w:World}(h:c.wp P (Exit.then (tv P c Q) Q) a w):tv P c Q a w:=by
 intro b k cs;obtain⟨e,abo,abq,hq,lB⟩:=h b (.inLoop c::k) cs
 cases e with
 |normal=>
  obtain⟨an8,an6,aoc,amU,aed⟩:=hq b k cs;exact⟨an8,an6,aoc,amU,.of_steps (Steps.trans lB (.one step_inLoop)) aed⟩
 |exit id=>exact⟨_,abo,abq,hq,.pass (x:=.inLoop c) rfl (λ_ _=>.inl (by simp)) lB⟩
 |goto l=>exact⟨_,abo,abq,hq,.pass (x:=.inLoop c) rfl (λ_ _=>.inl (by simp)) lB⟩
 |ret=>exact⟨_,abo,abq,hq,.pass (x:=.inLoop c) rfl (λ_ _=>.inl (by simp)) lB⟩
 |panic ch=>exact⟨_,abo,abq,hq,.pass (x:=.inLoop c) rfl (λ_ _=>.inl (by simp)) lB⟩
 |outgrown=>exact⟨_,abo,abq,hq,.pass (x:=.inLoop c) rfl (λ_ _=>.inl (by simp)) lB⟩
section
variable {C:bQ}{F:gN}{nt:Nat}
def BO.drawn {E:EF}{H:HF}{N:Nat->Prop}{a:Act}{w:World}(h:BO F nt E H N a w)(n:Nat):BO F nt E H N a {w with drawn:=n}:=by
 obtain⟨h1,h2,h3,β,hE,hR⟩:=h;have hB:Below w.heap.size w {w with drawn:=n}:=⟨rfl,rfl,rfl,dw _,λ_ _=>rfl⟩;exact⟨h1,h2.keep (Tr.grow hR hB).ax,h3,β,(Tr.grow hR hB).env hR hE,hR.grow hB⟩
def PP {l:List Oper}(h1:Mm nt l=true)(h2:rg (F.fixed.map Prod.fst) l=true): ∀o∈l,∀t,o.dst=some t->F.okD nt t:=
 λo ho t ht=>⟨PO h1 o ho t ht,λp hp e=>Jn h2 o ho t ht br⟩
theorem A7 (hC:C.Ok)(hG:bE C F){ci:Array Oper}{S:St}{kn:St->Prop}{a:Act}{w:World}{Q:Exit->Act->World->Prop}(hd: ∀o∈ci.toList,∀t,o.dst=some t->F.okD nt t)
  (h:Cd C ci.toList false S kn)(hrel:Rel F nt S a w)(hQ: ∀S a w,kn S->Rel F nt S a w->Q .normal a w):wpList C.P ci Q ci.toList a w:=by
 obtain⟨N,hr,hN⟩:=hrel;obtain⟨es,E',H',abr,hK⟩:=Hm h;refine U8 (nt:=nt) hC hG abr hd hr K0 ?_;intro a' w' N' B9 hN';exact hQ _ a' w' hK ⟨N',B9,hN'⟩
def Dr (hC:C.Ok)(hG:bE C F){ci:Array Oper}{S:St}{kn:St->Prop}{a:Act}{w:World}{Q:Exit->Act->World->Prop}(hd: ∀o∈ci.toList,∀t,o.dst=some t->F.okD nt t)
  (h:Cd C ci.toList true S kn)(hrel:Rel F nt S a w)(hQ: ∀S a w,kn S->Rel F nt S a w->Q .normal a w):wpAny C.P .any ci Q ci.size (Array.replicate ci.size false) a {w with drawn:=w.drawn+1}:=by
 obtain⟨N,hr,hN⟩:=hrel;obtain⟨es,E',H',abr,h1,h2⟩:=Hm h;refine YA (nt:=nt) hC hG abr h1 hd (hr.drawn _) hN ?_;intro a' w' N' B9 hN';exact hQ _ a' w' h2 ⟨N',B9,by grind⟩
theorem Jp (hC:C.Ok)(hG:bE C F){id:Nat}{ci:Array Oper}{uI:Bool}{S:St}{kn:St->Prop}{a:Act}{w:World}{Q:Exit->Act->World->Prop}(hd: ∀o∈ci.toList,∀t,o.dst=some t->F.okD nt t)
  (h:Cd C ci.toList uI S kn)(hrel:Rel F nt S a w)(hQ: ∀S a w,kn S->Rel F nt S a w->Q .normal a w):(Code.region id ci uI).wp C.P Q a w:=by
 cases uI with
 |false=>grind[wp_region_list,A7]
 |true=>exact wp_region_any hC.mixed (Dr hC hG hd h hrel hQ)
theorem Vd (hC:C.Ok)(hG:bE C F){l n:Nat}{c:Code}: ∀ {S:St} {kn:St->Prop} {kx:Nat->St->Prop} {kr:St->Prop} {a:Act} {w:World} {Q:Exit->Act->World->Prop},mE c=true->bM nt c=true->aM (F.fixed.map Prod.fst) c=true->¬LetsOut Q->
  ri C c S kn kx kr->Rel F nt S a w->
  (∀S a w,kn S->Rel F nt S a w->Q .normal a w)->(∀id S a w,kx id S->Rel F nt S a w->Q (.exit id) a w)->(∀S a w,kr S->Rel F nt S a w->Q .ret a w)->c.wpIn (Fence.wide.inRound l) n C.P Q a w:=by
 induction c with
 |skip=>intro S kn kx kr a w Q _ _ _ _ h hr h1 h2 h3;exact wpIn_skip (h1 _ _ _ h hr)
 |label l=>intro S kn kx kr a w Q _ _ _ _ h hr h1 h2 h3;exact wpIn_label (h1 _ _ _ h hr)
 |ret=>intro S kn kx kr a w Q _ _ _ _ h hr h1 h2 h3;exact wpIn_ret (h3 _ _ _ h hr)
 |exit id=>intro S kn kx kr a w Q _ _ _ _ h hr h1 h2 h3;exact wpIn_exit (h2 _ _ _ _ h hr)
 |seq x y ihx ihy=>
  intro S kn kx kr a w Q hf hc l7 hQ h hr h1 h2 h3;obtain⟨hx,hy⟩:=aG (a:=bM nt x) (b:=bM nt y) hc;obtain⟨fx,fy⟩:=aG (a:=mE x) (b:=mE y) hf;obtain⟨gx,gy⟩:=aG (a:=aM (F.fixed.map Prod.fst) x) (b:=aM (F.fixed.map Prod.fst) y) l7;refine wpIn_seq (ihx fx hx gx (λ⟨a,w,h⟩=>hQ ⟨a,w,h⟩) h hr (λS a w ⟨S',hs,h⟩ hr=>ihy fy hy gy hQ h (hs _ _ _ _ hr) h1 h2 h3) h2 h3)
 |cond c x y ihx ihy=>
  intro S kn kx kr a w Q hf hc l7 hQ h hr h1 h2 h3;obtain⟨hx,hy⟩:=aG (a:=bM nt x) (b:=bM nt y) hc;obtain⟨fx,fy⟩:=aG (a:=mE x) (b:=mE y) hf;obtain⟨gx,gy⟩:=aG (a:=aM (F.fixed.map Prod.fst) x) (b:=aM (F.fixed.map Prod.fst) y) l7;unfold ri at h;split at h
  ·rename_i b hb;have hv:a.eval c= .bool b:=aiN
   grind[wpIn_cond,ov,qa]
  grind
 |block id c ih=>
  intro S kn kx kr a w Q hf hc l7 hQ h hr h1 h2 h3;refine wpIn_block (ih hf hc l7 (λ⟨a,w,h⟩=>hQ ⟨a,w,h⟩) h hr (λS a w h hr=>h1 S a w h hr) (λiO S a w h hr=>?_) λS a w h hr=>h3 S a w h hr);exact ah0
 |region id ci uI=>
  intro S kn kx kr a w Q hf hc l7 hQ h hr h1 h2 h3
  cases uI with
  |false=>exact yk hf hQ (A7 hC hG (PP hc l7) h hr h1)
  |true=>exact z8 hf hQ hC.mixed (Dr hC hG (PP hc l7) h hr h1)
 |loop c ih=>intro S kn kx kr a w Q hf;cases hf
 |scope c ih=>intro S kn kx kr a w Q hf;cases hf
 |rangeFunc=>intro S kn kx kr a w Q hf;cases hf
 |goto=>intro S kn kx kr a w Q hf;cases hf
 |refuse=>intro S kn kx kr a w Q hf;cases hf
def live (β:Nat->Option Nat)(H:HF)(b:Nat):Prop:=∃id bz,H id=some bz/\β id=some b
structure Jq (F:gN) (nt:Nat) (S:St) (t:Array Value) (w:World) (β:Nat->Option Nat) (N:Nat->Prop):Prop where
 size:t.size=nt
 env: ∀s dv,S.env.get s=some dv->b8 F β N S.hp.get w (t.getD s undef) dv
 heap:ac F β N S.hp.get w
 ids: ∀id,N id->tag id<S.nx
structure S9 (F:gN) (β:Nat->Option Nat) (H:HF) (w:World) (cL:Nat->Option Nat) (H':HF) (w':World):Prop where
 size:w.heap.size<=w'.heap.size
 keep: ∀(b:Nat) (o:Obj),w.heap[b]? =some o->¬live β H b->w'.heap[b]? =some o
 live: ∀b,live cL H' b->live β H b\/w.heap.size<=b
 mv:(MV F β H w).le (MV F cL H' w')
def mG {β:Nat->Option Nat}{H:HF}{b o:Nat}(h: ¬live β H b):fT β H b o:=λid bz e hb=>absurd ⟨id,bz,e,hb⟩ h
def lP {β:Nat->Option Nat}{N:Nat->Prop}{H:HF}{w:World}(hR:ac F β N H w){b:Nat}(h:live β H b):b<w.heap.size/\F.dz b:=
 let⟨_,_,e,hb⟩:=h;hR.gb e hb
noncomputable def gN.mY (F:gN)(β:Nat->Option Nat)(H:HF)(w:World)(fx:List (Nat × Value)):gN:=⟨w,MV F β H w,live β H,fx,F.db,MR F β H w⟩
section
variable {β cL:Nat->Option Nat}{N N':Nat->Prop}{H H':HF}{w w':World}{fx:List (Nat × Value)}
def nP (hR:ac F β N H w){b:Nat}(h:(F.mY β H w fx).dz b):F.dz b:=by
 rcases h with h|h
 ·exact .inl (o3 hR.below.size h)
 ·exact(lP hR h).2
def Jr (hR:ac F β N H w):MV (F.mY β H w fx) β H w=MV F β H w:=by
 funext b o;by_cases h1:(F.mY β H w fx).dz b
 ·have h2:=nP hR h1;unfold MV
  grind
 ·unfold MV;rw[if_neg h1];rfl
def Ta (hR:ac F β N H w):MR (F.mY β H w fx) β H w=MR F β H w:=by
 funext b o;by_cases h1:(F.mY β H w fx).dz b
 ·have h2:=nP hR h1;unfold MR;rw[if_pos h1,if_pos h2,Jr hR]
 ·have e:MR (F.mY β H w fx) β H w b o=(F.mY β H w fx).mr0 b o:=by unfold MR;grind
  exact e
theorem Js {G:gN}(h1:MV G β H w=MV F β H w)(h2:MR G β H w=MR F β H w){v:Value}{d:DC}:cd G β N H w v d↔cd F β N H w v d:=by cases d<;>simp only[cd,h1,h2]
def Ds {G:gN}(h1:MV G β H w=MV F β H w)(h2:MR G β H w=MR F β H w){v:Value}{d:DX}:aq G β N H w v d↔aq F β N H w v d:=by grind[aq,Js]
theorem Mp {G:gN}(h1:MV G β H w=MV F β H w)(h2:MR G β H w=MR F β H w){v:Value}{d:DV}:b8 G β N H w v d↔b8 F β N H w v d:=by
 cases d with
 |val x=>exact Ds h1 h2
 |aJ l=>
  constructor
  ·rintro⟨arr,q1,q2,q3⟩;exact⟨arr,q1,q2,λk c hc=>(Ds h1 h2).1 (q3 k c hc)⟩
  ·rintro⟨arr,q1,q2,q3⟩;exact⟨arr,q1,q2,λk c hc=>(Ds h1 h2).2 (q3 k c hc)⟩
theorem Hw {G:gN}(h1:MV G β H w=MV F β H w)(h2:MR G β H w=MR F β H w){id:Nat}{bz:co}(hm: ∀b,β id=some b->G.dz b->F.dz b)(h:ir G β N H w id bz):ir F β N H w id bz:=by
 cases bz with
 |box t cs=>
  obtain⟨b,arr,T,q1,q2,q3,q4,q5⟩:=h;exact⟨b,arr,T,q1,hm b q1 q2,q3,q4,λk x hx=>(Js h1 h2).1 (q5 k x hx)⟩
 |dV cs=>
  obtain⟨b,arr,T,q1,q2,q3,q4,q5⟩:=h;exact⟨b,arr,T,q1,hm b q1 q2,q3,q4,λk x hx=>by grind⟩
 |row m z c=>
  obtain⟨q0,q1|⟨b,cap,q1,q2,q3⟩⟩:=h
  ·exact LO
  ·exact⟨q0,.inr ⟨b,cap,q1,hm b q1 q2,by grind⟩⟩
 |aA z l=>
  obtain⟨q0,q1|⟨b,cap,arr,T,q1,q2,q3,q4,q5,q6⟩⟩:=h
  ·exact LO
  ·exact⟨q0,.inr ⟨b,cap,arr,T,q1,hm b q1 q2,q3,q4,q5,λi e k x hi hx=>(Js h1 h2).1 (q6 i e k x hi hx)⟩⟩
 |map es=>
  obtain⟨b,arr,ck,q1,q2,q3,q4,q5⟩:=h;exact⟨b,arr,ck,q1,hm b q1 q2,q3,q4,by grind⟩
def ac.mY (hG:bE C F)(hR:ac F β N H w):ac (F.mY β H w fx) β N H w:=by
 refine⟨λid bz e=>⟨(hR.rel id bz e).1,?_⟩,hR.inj,jv.refl _ _,λb o v e=>⟨xU hG hR e,λ_=>?_⟩⟩
 ·exact Hw (Jr hR).symm (Ta hR).symm (λb hb _=>.inr ⟨id,bz,e,hb⟩) (hR.rel id bz e).2
 ·have e:MV F β H w b o=some v:=e;unfold MV at e;split at e
  grind
  ·rename_i hm;exact mG λh=>hm (lP hR h).2
def Ve (hR:ac F β N H w)(zH:ac (F.mY β H w fx) cL N' H' w'):MV (F.mY β H w fx) cL H' w'=MV F cL H' w'/\MR (F.mY β H w fx) cL H' w'=MR F cL H' w'/\S9 F β H w cL H' w'/\ac F cL N' H' w':=by
 have hl: ∀b,live cL H' b->(F.mY β H w fx).dz b:=λb h=>(lP zH h).2;have ak: ∀ {b:Nat},¬(F.mY β H w fx).dz b->b<w.heap.size:=λh=>Nat.lt_of_not_le λe=>h (.inl e)
 have e1:MV (F.mY β H w fx) cL H' w'=MV F cL H' w':=by
  funext b o;by_cases h1:(F.mY β H w fx).dz b
  ·have h2:=nP hR h1;unfold MV
   grind
  ·unfold MV;rw[if_neg h1];show MV F β H w b o=_;unfold MV;split
   ·rw[if_pos (mG λh=>h1 (.inr h)),if_pos (mG λh=>h1 (hl b h))];exact ai2
   ·rfl
 have e2:MR (F.mY β H w fx) cL H' w'=MR F cL H' w':=by
  funext b o;by_cases h1:(F.mY β H w fx).dz b
  ·have h2:=nP hR h1;unfold MR;simp_all
  ·have e:MR (F.mY β H w fx) cL H' w' b o=MR F β H w b o:=by
    have e:MR (F.mY β H w fx) cL H' w' b o=(F.mY β H w fx).mr0 b o:=by unfold MR;grind
    exact e
   rw[e];by_cases h2:F.dz b
   ·unfold MR MV;rw[if_pos h2,if_pos h2,if_pos h2,if_pos h2,if_pos (mG λh=>h1 (.inr h)),if_pos (mG λh=>h1 (hl b h))];exact ai2
   ·unfold MR
    grind
 have hk:jv F.dz w w':=zH.below.mono λb _ h=>nP hR h
 have wz:(MV F β H w).le (MV F cL H' w'):=by
  rw[<- e1];intro b o v e;obtain⟨h3,h4⟩:=zH.sT b o v e;unfold MV;split
  grind
  ·exact e
 refine⟨e1,e2,⟨zH.below.size,λb o e hn=>?_,λb h=>?_,wz⟩,λid bz e=>⟨(zH.rel id bz e).1,?_⟩,zH.inj,hR.below.trans hk,λb o v e=>?_⟩
 ·rw[zH.below.block b (kM e) ?_]
  ·exact e
  ·rintro(h|h)
   ·have:=kM e;have h:w.heap.size<=b:=h;omega
   ·exact hn h
 ·rcases hl b h with h|h
  ·exact .inr h
  ·exact .inl h
 ·exact Hw e1 e2 (λb hb hm=>nP hR hm) (zH.rel id bz e).2
 ·obtain⟨h1,h2⟩:=hR.sT b o v e
  have amr:MV F β H w b o=some v:=by
   unfold MV
   grind
  have h3:=wz b o v amr;refine⟨?_,λhm=>?_⟩
  ·have:=(zH.sT b o v amr).1;omega
  ·unfold MV at h3
   grind
def PS:Obj->Bool
 | .map _ _=>true
 |_=>false
theorem rj: ∀ {H:Hp},rh H=true->∀id es,H.get id≠some (.map es)
 | [],_,id,es,h=>by grind[Hp.get]
 |(j,b)::H,hn,id,es,h=>by
  have IE:rh H=true:=by
   cases b with
   |none=>exact hn
   |some b=>cases b<;>first|exact hn|cases hn
  rw[Hp.ar]at h;by_cases hj:id=j
  ·subst hj;rw[an]at h;subst h;cases hn
  ·rw[aH _ _ _ hj]at h;exact rj IE id es h
def Tr.walk (_hR:ac F β N H w){row:Option Nat}(hg:w.grownBy w' row)(hr: ∀r,row=some r->F.base<=r/\∃o:Obj,w.heap[r]? =some o/\o.isCells=false/\(∀x,o≠ .deferred x)):Tr F β N H w β N H w':=by
 have hkc: ∀ {b:Nat} {arr:Array Value} {T:TypeId},w.heap[b]? =some (.cells arr T)->w'.heap[b]? =some (.cells arr T):=λ{b arr T} e=>
  (grownBy_keeps_cells hg (λr h=>let⟨_,o,h1,h2,_⟩:=hr r h;⟨o,h1,h2⟩) e rfl).trans e
 refine⟨⟨hg.os,hg.tape,hg.output,hg.size,λk hk hm=>hg.block k hk λe=>hm (.inl (hr k e.symm).1)⟩,λb o v _ hs e=>⟨hs,?_⟩,λ_ h=>h,λ_ _=>rfl,λ_ b _ e=>⟨b,e,b.fV⟩,λ_ _ _ b arr T _ _ _ _ _ e=>⟨arr,hkc e,rfl⟩,λk x e=>?_⟩
 ·exact cell_kept (a:=⟨b,o,none⟩) e hg λr h=>let⟨_,o,h1,h2,_⟩:=hr r h;⟨o,h1,h2⟩
 ·rw[hg.block k (kM e) λh=>?_];omega
  grind
theorem ac.walk (hR:ac F β N H w){row:Option Nat}(hg:w.grownBy w' row)(hr: ∀r,row=some r->F.base<=r/\∃o:Obj,w.heap[r]? =some o/\o.isCells=false/\(∀x,o≠ .deferred x))(hm:(∀r o,row=some r->w.heap[r]? =some o->PS o=false)\/∀id es,H id≠some (.map es)):ac F β N H w':=by
 refine hR.step (Tr.walk hR hg hr) (λ_=>False) (λid bz _ e=>⟨e,(hR.rel id bz e).1,λb hb=>?_⟩) (λ_ _ h=>h.elim) hR.inj;have ak:=(hR.gb e hb).1;refine hg.block b ak λh=>?_;obtain⟨_,o,h1,h2,_⟩:=hr b h.symm;have hc:(∃arr T,w.heap[b]? =some (.cells arr T))\/∃es ck,w.heap[b]? =some (.map es ck):=K55
 rcases hc with⟨arr,T,hc⟩|⟨es,ck,hc⟩
 ·rw[hc]at h1;cases h1;cases h2
 ·rw[hc]at h1;cases h1;rcases hm with hm|hm
  ·have:=hm b _ h.symm hc;cases this
  ·obtain⟨_,hB⟩:=hR.rel id bz e
   cases bz with
   |map WX=>grind
   |box t cs=>obtain⟨b',arr,T,q1,q2,q3,_⟩:=hB;grind
   |dV cs=>obtain⟨b',arr,T,q1,q2,q3,_⟩:=hB;grind
   |row m z c=>
    obtain⟨_,q1|⟨b',cap,q1,q2,arr,T,q3,_⟩⟩:=hB
    grind
    grind
   |aA z l=>
    obtain⟨_,q1|⟨b',cap,arr,T,q1,q2,q3,_⟩⟩:=hB
    grind
    grind
end
def aeB (hC:C.Ok)(hG:bE C F){l n:Nat}{c:Code}{S:St}{kn:St->Prop}{kr:St->Prop}{a:Act}{w:World}{Q:Exit->Act->World->Prop}{β:Nat->Option Nat}{N:Nat->Prop}{fx:List Nat}(hf:mE c=true)(hc:bM nt c=true)(l7:aM fx c=true)(hQ: ¬LetsOut Q)
  (h:ri C c S kn (λ_ _=>False) kr)(hd:eB F.db a.defers w)(hr:Jq F nt S a.tmps w β N)
  (h1: ∀S1 a' w',kn S1->(∀S',bs S1 S'->∃cL N',Jq F nt S' a'.tmps w' cL N'/\S9 F β S.hp.get w cL S'.hp.get w'/\(∀s∈fx,a'.tmps.getD s undef=a.tmps.getD s undef)/\eB F.db a'.defers w')->Q .normal a' w')
  (h3: ∀S1 a' w',kr S1->(∀S',bs S1 S'->∃cL N',Jq F nt S' a'.tmps w' cL N'/\S9 F β S.hp.get w cL S'.hp.get w'/\(∀s∈fx,a'.tmps.getD s undef=a.tmps.getD s undef)/\eB F.db a'.defers w')->Q .ret a' w'):
  c.wpIn (Fence.wide.inRound l) n C.P Q a w:=by
 obtain⟨q1,q2,q3,q4⟩:=hr;let fxv:List (Nat × Value):=fx.map λs=>(s,a.tmps.getD s undef)
 have hG1:bE C (F.mY β S.hp.get w fxv):=by
  refine⟨eP.later hG q3,λb o v e=>xU hG q3 e,λg cs hm fO hl=>?_,eP.mr hG,IZ hG q3,tk hG q3⟩;obtain⟨v,e1,_⟩:=(hG.ok g cs hm).1 0 cs[0] br;exact th e1 (hG.Ut g cs hm fO) (lP q3 hl).2
 have aoy:fxv.map Prod.fst=fx:=by simp[fxv,FV]
 have hrel:Rel (F.mY β S.hp.get w fxv) nt S a w:=by
  refine⟨N,⟨q1,hd,?_,β,λs dv e=>(Mp (Jr q3) (Ta q3)).2 (q2 s dv e),ac.mY hG q3⟩,q4⟩;intro p hp;obtain⟨s,_,rfl⟩:=dN.1 hp;rfl
 have KN: ∀ {S1:St} {a':Act} {w':World},Rel (F.mY β S.hp.get w fxv) nt S1 a' w'->∀S',bs S1 S'->∃cL N',Jq F nt S' a'.tmps w' cL N'/\S9 F β S.hp.get w cL S'.hp.get w'/\(∀s∈fx,a'.tmps.getD s undef=a.tmps.getD s undef)/\eB F.db a'.defers w':=by
  intro S1 a' w' hr S' hs;obtain⟨N',⟨r1,r2,r3,cL,r4,r5⟩,r6⟩:=hs _ _ _ _ hr;obtain⟨e1,e2,e3,e4⟩:=Ve q3 r5;refine⟨cL,N',⟨r1,λs dv e=>(Mp e1 e2).1 (r4 s dv e),e4,r6⟩,e3,λs hs=>?_,r2⟩;exact r3 (s,a.tmps.getD s undef) (dN.2 ⟨s,hs,rfl⟩)
 exact Vd hC hG1 hf hc (by show aM (fxv.map Prod.fst) c=true;grind) hQ h hrel (λS1 a' w' hk B9=>h1 S1 a' w' hk (KN B9)) (λ_ _ _ _ h=>h.elim) λS1 a' w' hk B9=>h3 S1 a' w' hk (KN B9)
def rk (ps:List Tmp)(vs:List Value)(t:Array Value):Array Value:=(ps.zip vs).foldl (λt p=>t.setIfInBounds p.1 p.2) t
theorem A8: ∀(ps:List Tmp) (vs:List Value) (t:Array Value),(rk ps vs t).size =t.size
 | [],_,_=>rfl
 |_::_,[],_=>rfl
 |p::ps,v::vs,t=>by
  show(rk ps vs (t.setIfInBounds p v)).size =_;rw[A8];simp
theorem yl {s:Nat}: ∀(ps:List Tmp) (vs:List Value) (t:Array Value),s∉ps->(rk ps vs t).getD s undef=t.getD s undef
 | [],_,_,_=>rfl
 |_::_,[],_,_=>rfl
 |p::ps,v::vs,t,h=>by
  show(rk ps vs (t.setIfInBounds p v)).getD s undef=_;rw[yl ps vs _ (λe=>h (i7 _ e))];have:p≠s:=λe=>h br;simp_all
theorem Dt {β:Nat->Option Nat}{N:Nat->Prop}{H:HF}{w:World}: ∀(ps:List Tmp) (vs:List Value) (rs:List SV) (t:Array Value) (E:dP),vs.length=ps.length->rs.length=ps.length->
  (∀(k:Nat) (r:SV),rs[k]? =some r->aq F β N H w (vs.getD k undef) (dyn r))->(∀p∈ps,p<t.size)->(∀s dv,E.get s=some dv->b8 F β N H w (t.getD s undef) dv)->
  ∀s dv,(params ps rs E).get s=some dv->b8 F β N H w ((rk ps vs t).getD s undef) dv
 | [],_,[],_,_,_,_,_,_,h=>h
 |p::ps,v::vs,r::rs,t,E,h1,h2,h3,h4,h=>by
  refine Dt ps vs rs (t.setIfInBounds p v) ((p,some (.val (dyn r)))::E) br br (λk r' hk=>?_) (λq hq=>by grind) (λs dv e=>?_)
  ·simpa using h3 (k+1) r' br
  ·rw[dP.ar]at e;have ak:=h4 p i8;by_cases hs:s=p
   ·subst hs;simp at e;subst e;have:(t.setIfInBounds s v).getD s undef=v:=by simp_all
    rw[this];show aq _ _ _ _ _ _ _;simpa using h3 0 r rfl
   ·simp only[hs,kJ]at e;have:(t.setIfInBounds p v).getD s undef=t.getD s undef:=by simp[sw,Xz (ol hs)]
    grind
 |_::_,[],_,_,_,h1,_,_,_,_=>by grind
 |_::_,_::_,[],_,_,_,h2,_,_,_=>by grind
 | [],_,_::_,_,_,_,h2,_,_,_=>by grind
theorem PT {E:dP}{s:Nat}{dv:DV}(h:E.get s=some dv):s∈j7 E:=by
 induction E with
 |nil=>grind[dP.get]
 |cons p E ih=>
  obtain⟨k,b⟩:=p;rw[dP.ar]at h;by_cases hs:s=k
  grind[j7]
  ·simp only[hs,kJ]at h;exact i7 _ (ih h)
theorem Ge {l:List Nat}{ps:List Tmp}(h:qe l ps=true): ∀p∈ps,p∉l:=by
 induction ps with
 |nil=>simp
 |cons q ps ih=>
  rw[qe]at h;exact akj
def nA (F:gN)(nt:Nat)(E:dP)(H:Hp)(nx:Nat)(a:Act)(mv:Mem)(M:Nat->Prop)(w:World):Prop:=
 ∃β N,Jq F nt ⟨E,H,nx⟩ a.tmps w β N/\eB F.db a.defers w/\mv.le (MV F β H.get w)/\(∀b,M b↔live β H.get b)/\∀id es,H.get id≠some (.map es)
def nA.walk {E:dP}{H:Hp}{nx:Nat}{a:Act}{mv:Mem}{M:Nat->Prop}{w w':World}(h:nA F nt E H nx a mv M w){row:Option Nat}(hg:w.grownBy w' row)
  (hr: ∀r,row=some r->F.base<=r/\∃o:Obj,w.heap[r]? =some o/\o.isCells=false/\(∀x,o≠ .deferred x)):nA F nt E H nx a mv M w':=by
 obtain⟨β,N,⟨q1,q2,q3,q4⟩,q5,q6,q7,q8⟩:=h;have t:=Tr.walk q3 hg hr;exact⟨β,N,⟨q1,λs dv e=>t.vQ q3 (q2 s dv e),q3.walk hg hr (.inr q8),q4⟩,q5.keep t.ax,λb o v e=>t.mv b o v (q6 b o v e),q7,q8⟩
def Du {β:Nat->Option Nat}{N:Nat->Prop}{H:HF}{w:World}(hR:ac F β N H w){b:Nat}(h:live β H b):(∃arr T,w.heap[b]? =some (.cells arr T))\/∃es ck,w.heap[b]? =some (.map es ck):=by
 obtain⟨id,bz,e,hb⟩:=h;exact K55
def Mq (hC:C.Ok)(hG:bE C F){g:Operand}{ps:Array Tmp}{x y:Code}{E:dP}{gf:FuncId}{first:List SV}{bI:List (List SC)}{xs:List (List SV)}{Hs:Nat->Hp}{nx:Nat}{Inv:Nat->Prop}{kr:St->Prop}{a:Act}{w:World}{Q:Exit->Act->World->Prop}
  (fB:bM nt (.rangeFunc g ps x y)=true)(hg:C.ev E.get g=some (.val (false,[.st (.fn gf first bI)])))(hit:S7 C.P C.gl gf first bI xs)(bB: ∀r∈xs,r.length=ps.size)
  (oe:mE x=true/\mE y=true/\aM (j7 E) x=true/\aM (j7 E) y=true/\qe (j7 E) ps.toList=true)
  (hnm: ∀i,rh (Hs i)=true)(hrel:Rel F nt ⟨E,Hs 0,nx⟩ a w)(hdb:F.db<=F.base)(zE:Inv 0)
  (mV: ∀i r,xs[i]? =some r->Inv i->ri C x ⟨params ps.toList r E,Hs i,nx⟩ (λS1=>∃Xl,bs S1 Xl/\ri C y Xl (λS2=>Inv (i+1)/\bs S2 ⟨E,Hs (i+1),nx⟩) (λ_ _=>False)
   (λS2=>∃Hr nr,rh Hr=true/\bs S2 ⟨E,Hr,nr⟩/\kr ⟨E,Hr,nr⟩)) (λ_ _=>False) (λ_=>False))
  (aol:Inv xs.length->∀a' w',Rel F nt ⟨E,Hs xs.length,nx⟩ a' w'->Q .normal a' w')(aog: ∀S a' w',kr S->Rel F nt S a' w'->Q .ret a' w'):(Code.rangeFunc g ps x y).wp C.P Q a w:=by
 refine(wpIn_wide (n:=0)).1 ?_;refine wpIn_rangeFunc λfn GN=>?_
 obtain⟨zB,hcx,hcy⟩:(∀p∈ps.toList,p<nt)/\bM nt x=true/\bM nt y=true:=by
  obtain⟨h1,h2⟩:=aG (a:=ps.toList.all λp=>Nat.blt p nt) (b:=bM nt x&&bM nt y) fB;obtain⟨h2,h3⟩:=aG h2
  grind[Nat.blt_eq]
 obtain⟨fx,fy,gx,gy,gp⟩:=oe;obtain⟨N,⟨hs,hdf,an5,β,hE,hR⟩,hN⟩:=hrel;obtain⟨fv,cv,Fz,KS,hcv⟩:=De ((mC hG hR hE hg).am :dq _ _ _ _);obtain⟨xv,hxl,hxr,hI⟩:=hit.2 (MV F β (Hs 0).get w) (MR F β (Hs 0).get w) w fv cv (tk hG hR) (vT hG hR) (eP.later hG hR) KS hcv;have hro:Fence.wide.round=none:=rfl;rw[hro];let rec':LoopState->Option Code->Loop:=λst pe=>{state:=st,pending:=pe,fn,tmps:=a.tmps,params:=ps,assign:=x,body:=y,defers:=w.heap.size};let D:=w.heap.size;let L:=w.heap.size+1;generalize hW1:(w.alloc (.deferred (some []))).alloc (.loop (rec' .ready none))=W1;have s1:W1.heap.size=w.heap.size+2:=by rw[<- hW1];simp
 have hL:W1.heap[L]? =some (.loop (rec' .ready none)):=by grind[World.alloc_heap_new]
 have hD:W1.heap[D]? =some (.deferred (some [])):=by grind[Below.heap_alloc,World.alloc_heap_new]
 have xz:Below w.heap.size w W1:=by rw[<- hW1];exact((Below.refl _ w).alloc (dw _) _).alloc (by simp) _
 have FA:F.base<=w.heap.size:=hR.below.size;have tG:=Tr.grow hR xz
 have KQ:nA F nt E (Hs 0) nx a (MV F β (Hs 0).get w) (live β (Hs 0).get) W1:=
  ⟨β,N,⟨hs,λs dv e=>tG.vQ hR (hE s dv e),hR.grow xz,hN⟩,hdf.keep tG.ax,tG.mv,λ_=>Iff.rfl,rj (hnm 0)⟩
 refine⟨L,[{target:=.collected D,args:= #[]}],W1,{target:=.fn (.func gf) cv,args:=fv++ #[.func (.yield L) #[] #[]]},W1,gf,fv++ #[.func (.yield L) #[] #[]]++cv,W1,?_,?_,λ_ _=>trivial,?_,λh=>by grind[Fence.wide],?_⟩
 ·grind[run_enterLoop_outer]
 ·simp only[resolve,Fz];simp[go_sem,L]
 ·simp[invoke,go_sem,UV hit.1]
 have wk: ∀ {H:Hp} {M:Nat->Prop} {n:Nat} {W:World} {r r':Loop},nA F nt E H n a (MV F β (Hs 0).get w) M W->W.heap[L]? =some (.loop r)->nA F nt E H n a (MV F β (Hs 0).get w) M (W.putObj L (.loop r')):=λh hl=>
  h.walk (grownBy_putObj' _ L _) λr e=>by cases e;exact⟨by omega,_,hl,rfl,λx=>by simp⟩
 have hDL:D≠L:=by omega
 refine(hI L (λs W=>(Inv s.1/\nA F nt E (Hs s.1) nx a (MV F β (Hs 0).get w) s.2 W)/\W.heap[L]? =some (.loop (rec' .ready none))/\W.heap[D]? =some (.deferred (some [])))
  (λ_ W=>(∃Hr nr M,kr ⟨E,Hr,nr⟩/\nA F nt E Hr nr a (MV F β (Hs 0).get w) M W)/\W.heap[L]? =some (.loop (rec' .done (some .ret)))/\W.heap[D]? =some (.deferred (some []))) W1 (live β (Hs 0).get) xz
  (λb hb=>by have:=(lP hR hb).1;omega) ?_ ?_ ?_ ?_ ⟨⟨zE,KQ⟩,hL,hD⟩).mono ?_
 ·intro s A B row hs Um hr;exact⟨⟨hs.1.1,hs.1.2.walk Um λr e=>let⟨h1,o,h2,h3⟩:=hr r e;⟨by omega,o,h2,Obj.not_cells_of_walk h3,λx e=>by grind[Obj.isWalk]⟩⟩,(SG Um (λr e=>(hr r e).2) hs.2.1 rfl).trans hs.2.1,(SG Um (λr e=>(hr r e).2) hs.2.2 rfl).trans hs.2.2⟩
 ·intro s A B row hs Um hr;obtain⟨⟨Hr,nr,M,hk,hB⟩,h2,h3⟩:=hs;exact⟨⟨Hr,nr,M,hk,hB.walk Um λr e=>let⟨h1,o,h2,h3⟩:=hr r e;⟨by omega,o,h2,Obj.not_cells_of_walk h3,λx e=>by grind[Obj.isWalk]⟩⟩,(SG Um (λr e=>(hr r e).2) h2 rfl).trans h2,(SG Um (λr e=>(hr r e).2) h3 rfl).trans h3⟩
 ·rintro s W ⟨⟨_,cL,N',q1,_,q3,_⟩,_⟩ b o v e;refine vT hG q1.heap b o v ?_;unfold MR at e ⊢;split
  ·rename_i hm;rw[if_pos hm]at e;exact q3 b o v e
  grind
 ·rintro i M xr W hx ⟨⟨O3,β0,N0,q1,q2,q3,q4,_⟩,hl,hd⟩;have hi:i<xs.length:=by grind
  have hr:=hxr i xr xs[i] hx (nM hi);have Xj:xs[i].length =ps.size:=bB _ (oh hi);have B6:xr.size=ps.size:=by rw[hr.1,Xj]
  refine⟨fn,_,x,y,run_yield hl B6,roundIn_of_wpIn GN ?_⟩;have OU:(ps.zip xr).foldl (λtmps (p:Tmp × Value)=>tmps.setIfInBounds p.1 p.2) a.tmps=rk ps.toList xr.toList a.tmps:=by grind[rk,Array.toList_zip]
  show x.wpIn _ _ _ _ {tmps:=(ps.zip xr).foldl (λtmps (p:Tmp × Value)=>tmps.setIfInBounds p.1 p.2) a.tmps,defers:=[]} W;rw[OU]
  have zC: ∀ {H:HF} {cL:Nat->Option Nat} {N':Nat->Prop} {A:World} {k:Nat} {o:Obj},ac F cL N' H A->A.heap[k]? =some o->o.isCells=false->PS o=false->¬live cL H k:=by
   intro H cL N' A k o zH ho hc hm sr
   rcases Du zH sr with⟨arr,T,e⟩|⟨es,ck,e⟩
   ·rw[e]at ho;cases ho;cases hc
   ·rw[e]at ho;cases ho;cases hm
  have gD:Jq F nt ⟨params ps.toList xs[i] E,Hs i,nx⟩ (rk ps.toList xr.toList a.tmps) W β0 N0:=by
   refine⟨by grind[A8],?_,q1.heap,q1.ids⟩;refine Dt ps.toList xr.toList xs[i] a.tmps E K0 K0 (λk r hk=>?_) (λp hp=>by grind) q1.env;have h:=hr.2 k r hk;have e:xr.toList.getD k undef=xr.getD k undef:=by simp_all
   rw[e];exact eo.dyn (h.mono q3 (dX _))
  have amQ: ∀s∈j7 E,(rk ps.toList xr.toList a.tmps).getD s undef=a.tmps.getD s undef:=λs hs=>yl _ _ _ λhp=>Ge gp s hp hs;refine aeB (fx:=j7 E) hC hG fx hcx gx akd (mV i xs[i] (nM hi) O3) (eB.nil _ W) gD (λS1 a1 w1 hk KN=>?_) λS1 a1 w1 hk KN=>hk.elim;obtain⟨Xl,RP,hy⟩:=hk;obtain⟨β1,N1,p1,p2,p3,p4⟩:=KN Xl RP;have hl1:=p2.keep L _ hl (zC q1.heap hl rfl rfl);have Xa:=p2.keep D _ hd (zC q1.heap hd rfl rfl);have anW:L<w1.heap.size:=kM hl1;refine⟨_,run_beginRound hl1 rfl,?_⟩;have hgb:=grownBy_putObj' w1 L (.loop {rec' .ready none with state:=.busy});have hgr: ∀r,some L=some r->F.base<=r/\∃o:Obj,w1.heap[r]? =some o/\o.isCells=false/\(∀x,o≠ .deferred x):=λr e=>by cases e;exact⟨by omega,_,hl1,rfl,λx=>by simp⟩
  have t2:=Tr.walk p1.heap hgb hgr;have hl2:(w1.putObj L (.loop {rec' .ready none with state:=.busy})).heap[L]? =some (.loop {rec' .ready none with state:=.busy}):=R7 anW;have WY:(w1.putObj L (.loop {rec' .ready none with state:=.busy})).heap[D]? =some (.deferred (some [])):=(Uv hDL).trans Xa;have r2:Jq F nt Xl a1.tmps (w1.putObj L (.loop {rec' .ready none with state:=.busy})) β1 N1:=⟨p1.size,λs dv e=>t2.vQ p1.heap (p1.env s dv e),p1.heap.walk hgb hgr (.inl λr o e ho=>by cases e;rw[hl1]at ho;cases ho;rfl),p1.ids⟩;have mv1:(MV F β (Hs 0).get w).le (MV F β1 Xl.hp.get (w1.putObj L (.loop {rec' .ready none with state:=.busy}))):=λb o v e=>t2.mv b o v (p2.mv b o v (q3 b o v e))
  have df2:eB F.db a.defers (w1.putObj L (.loop {rec' .ready none with state:=.busy})):=by
   refine eB.keep q2 λk xx e=>?_;have:=p2.keep k _ e (zC q1.heap e rfl rfl);exact t2.ax k xx this
  refine aeB (fx:=j7 E) hC hG fy hcy gy akd hy (p4.keep t2.ax) r2 (λS2 a2 w2 hk KN=>?_) (λS2 a2 w2 hk KN=>?_)
  ·obtain⟨amx,hk⟩:=hk;obtain⟨β3,N3,u1,u2,u3,u4⟩:=KN _ hk;have hl3:=u2.keep L _ hl2 (zC r2.heap hl2 rfl rfl);have hd3:=u2.keep D _ WY (zC r2.heap WY rfl rfl);have ahi:L<w2.heap.size:=kM hl3;refine⟨_,_,run_endRound (P:=C.P) none hl3,.inl ⟨rfl,live β3 (Hs (i+1)).get,⟨⟨amx,?_⟩,R7 ahi,(Uv hDL).trans hd3⟩,?_,?_,?_⟩⟩
   ·refine wk (r:={rec' .ready none with state:=.busy}) ?_ hl3;refine⟨β3,N3,⟨q1.size,λs dv e=>?_,u1.heap,u1.ids⟩,df2.keep λk xx e=>u2.keep k _ e (zC r2.heap e rfl rfl),λb o v e=>u2.mv b o v (mv1 b o v e),λ_=>Iff.rfl,rj (hnm (i+1))⟩;exact aij
   ·have h1:=p2.size;have h2:=u2.size
    grind[World.putObj_size]
   ·intro b hb;have h0:=p2.size;rcases u2.live b hb with h|h
    ·rcases p2.live b h with h|h
     grind
     omega
    grind[World.putObj_size]
   ·intro b arr T e hM;have n0: ¬live β0 (Hs i).get b:=λh=>hM ((q4 b).2 h);have hbl:b<W.heap.size:=kM e;have e1:=p2.keep b _ e n0;have e8:b≠L:=λh=>by grind
    have n1: ¬live β1 Xl.hp.get b:=λh=>by
     rcases p2.live b h with h|h
     grind
     ·omega
    have e2:(w1.putObj L (.loop {rec' .ready none with state:=.busy})).heap[b]? =some (.cells arr T):=(Uv e8).trans e1;have e3:=u2.keep b _ e2 n1
    grind[World.putObj_heap_other]
  ·obtain⟨Hr,nr,hnr,RP,hkr⟩:=hk;obtain⟨β3,N3,u1,u2,u3,u4⟩:=KN _ RP;have hl3:=u2.keep L _ hl2 (zC r2.heap hl2 rfl rfl);have hd3:=u2.keep D _ WY (zC r2.heap WY rfl rfl);have ahi:L<w2.heap.size:=kM hl3;refine⟨_,_,run_endRound (P:=C.P) (some .ret) hl3,.inr ⟨rfl,⟨Hr,nr,live β3 Hr.get,hkr,?_⟩,R7 ahi,(Uv hDL).trans hd3⟩⟩;refine wk (r:={rec' .ready none with state:=.busy}) ?_ hl3;refine⟨β3,N3,⟨q1.size,λs dv e=>?_,u1.heap,u1.ids⟩,df2.keep λk xx e=>u2.keep k _ e (zC r2.heap e rfl rfl),λb o v e=>u2.mv b o v (mv1 b o v e),λ_=>Iff.rfl,rj hnr⟩;exact aij
 ·have fin: ∀ {H:Hp} {n:Nat} {M:Nat->Prop} {W:World} {r r':Loop},nA F nt E H n a (MV F β (Hs 0).get w) M W->W.heap[L]? =some (.loop r)->W.heap[D]? =some (.deferred (some []))->
    Rel F nt ⟨E,H,n⟩ {a with defers:=[{target:=.collected D,args:= #[]}]++a.defers} (W.putObj L (.loop r')):=by
   intro H n M W r r' hB hl hd;obtain⟨β3,N3,u1,u2,_,_,_⟩:=wk (r':=r') hB hl;refine⟨N3,⟨u1.size,⟨?_,?_⟩,an5,β3,u1.env,u1.heap⟩,u1.ids⟩
   ·intro d xq;rcases cQ.1 xq with rfl|xq
    grind[World.putObj_heap_other]
    ·exact u2.all d xq
   ·refine zO.2 ⟨λhm=>?_,u2.nodup⟩;obtain⟨D',h1,h2,_⟩:=hdf.all _ hm
    grind
  rintro e W2 ⟨⟨v,rfl⟩,(⟨M,⟨O3,hi⟩,hl,hd⟩|⟨⟨Hr,nr,M,hk,hi⟩,hl,hd⟩)⟩
  ·refine⟨none,_,run_endLoop (P:=C.P) hl br,?_⟩
   grind
  ·refine⟨some .ret,_,run_endLoop (P:=C.P) hl br,?_⟩
   grind[wpIn_ret]
theorem Vf {β:Nat->Option Nat}{N:Nat->Prop}{H:HF}{w w':World}(hR:ac F β N H w){D:Nat}{o o':Obj}(ho:w.heap[D]? =some o)(h1:o.isCells=false)(h2:o'.isCells=false)(h3:PS o=false)(hD:F.base<=D)(hw:w'=w.putObj D o'):
  ac F β N H w'/\∀ {v:Value} {d:DV},b8 F β N H w v d->b8 F β N H w' v d:=by
 subst hw;have ak:=kM ho;have vK:(w.putObj D o').heap[D]? =some o':=R7 ak;have e8: ∀ {b:Nat},b≠D->(w.putObj D o').heap[b]? =w.heap[b]? :=λh=>Uv h;have hc: ∀ {b:Nat} {arr:Array Value} {T:TypeId},w.heap[b]? =some (.cells arr T)->(w.putObj D o').heap[b]? =some (.cells arr T):=λ{b arr T} e=>by rw[e8 (λh=>by subst h;rw[ho]at e;cases e;cases h1)];exact e
 have IK:rd (w.putObj D o')=rd w:=by
  funext b x
  grind[rd,World.cell?,Obj.isCells]
 have hMV:MV F β H (w.putObj D o')=MV F β H w:=by unfold MV;rw[IK]
 have hMR:MR F β H (w.putObj D o')=MR F β H w:=by unfold MR;rw[hMV]
 have hD': ∀ {v:Value} {d:DC},cd F β N H w v d->cd F β N H (w.putObj D o') v d:=by
  intro v d h
  cases d with
  |st c=>have h:dq _ _ v c:=h;show dq _ _ v c;grind
  |nil=>exact h
  |sv g id=>exact h
  |mp id=>exact h
  |ptr id off=>exact h
  |own id=>
   obtain⟨q1,q2,q3⟩:=h;refine⟨q1,q2,λm z c e hz=>?_⟩;rcases q3 m z c e hz with h|⟨b,cap,arr,T,p1,p2,p3,p4⟩
   ·exact .inl h
   ·exact .inr ⟨b,cap,arr,T,p1,p2,hc p3,p4⟩
  |cF id z i off=>exact h
 have hX: ∀ {v:Value} {x:DX},aq F β N H w v x->aq F β N H (w.putObj D o') v x:=by
  intro v x h;unfold aq at h ⊢
  grind
 refine⟨⟨λid bz e=>⟨(hR.rel id bz e).1,?_⟩,hR.inj,hR.below.trans ⟨rfl,rfl,rfl,by simp,λk hk hm=>e8 (λh=>hm (.inl K0))⟩,λb x v e=>by rw[IK];exact hR.sT b x v e⟩,?_⟩
 ·obtain⟨_,hB⟩:=hR.rel id bz e
  cases bz with
  |box t cs=>obtain⟨b,arr,T,q1,q2,q3,q4,q5⟩:=hB;exact⟨b,arr,T,q1,q2,hc q3,q4,λk x hx=>hD' (q5 k x hx)⟩
  |dV cs=>obtain⟨b,arr,T,q1,q2,q3,q4,q5⟩:=hB;exact⟨b,arr,T,q1,q2,hc q3,q4,λk x hx=>by grind⟩
  |row m z c=>
   obtain⟨q0,q1|⟨b,cap,q1,q2,arr,T,q3,q4⟩⟩:=hB
   ·exact LO
   ·exact⟨q0,.inr ⟨b,cap,q1,q2,arr,T,hc q3,by grind⟩⟩
  |aA z l=>
   obtain⟨q0,q1|⟨b,cap,arr,T,q1,q2,q3,q4,q5,q6⟩⟩:=hB
   ·exact LO
   ·exact⟨q0,.inr ⟨b,cap,arr,T,q1,q2,hc q3,q4,q5,λi e k x hi hx=>hD' (q6 i e k x hi hx)⟩⟩
  |map es=>
   obtain⟨b,arr,ck,q1,q2,q3,q4,q5⟩:=hB;exact⟨b,arr,ck,q1,q2,by rw[e8 (λh=>by subst h;rw[ho]at q3;cases q3;cases h3)];exact q3,q4,by grind⟩
 ·intro v d h
  cases d with
  |val x=>exact hX h
  |aJ l=>obtain⟨arr,q1,q2,q3⟩:=h;exact⟨arr,q1,q2,λk x hk=>hX (q3 k x hk)⟩
theorem Aa {P:Program}{fn:Func}{R:Ending->World->Prop}{S:St}{t:Array Value}{β:Nat->Option Nat}{N:Nat->Prop}
  (hdb:F.base<=F.db)(KO: ∀w,Jq F nt S t w β N->∃v,(results fn t).run P w= .ok v w/\R (.returned v) w): ∀(ds:List Deferred) (w:World),Jq F nt S t w β N->eB F.db ds w->LeavesInM Fence.wide 0 P fn t R ds .returning w
 | [],w,hr,_=>by
  obtain⟨v,h1,h2⟩:=KO w hr;exact⟨v,h1,h2⟩
 |d::ds,w,hr,hd=>by
  obtain⟨D,rfl,hD,hb⟩:=hd.all d i8;obtain⟨h1,h2⟩:=Vf (o':=.deferred none) hr.heap hD rfl rfl rfl (o3 hdb hb) rfl;refine⟨by simp,.inl ⟨_,_,rfl,run_takeDeferred hD,?_⟩⟩;refine Aa hdb KO ds _ ⟨hr.size,λs dv e=>h2 (hr.env s dv e),h1,hr.ids⟩ ⟨λd xq=>?_,(zO.1 hd.nodup).2⟩;obtain⟨D',e1,e2,e3⟩:=hd.all d (i7 _ xq);refine⟨D',e1,?_,e3⟩;rw[Uv (λh=>?_)];omega
  ·subst h;subst e1;exact(zO.1 hd.nodup).1 xq
theorem Hx (hC:C.Ok)(hG:bE C F)(hdb:F.db<=F.base){c:Code}:aM (F.fixed.map Prod.fst) c=true->∀ {S:St} {kn:St->Prop} {kx:Nat->St->Prop} {kr:St->Prop} {a:Act} {w:World} {Q:Exit->Act->World->Prop},bM nt c=true->ri C c S kn kx kr->Rel F nt S a w->
  (∀S a w,kn S->Rel F nt S a w->Q .normal a w)->(∀id S a w,kx id S->Rel F nt S a w->Q (.exit id) a w)->(∀S a w,kr S->Rel F nt S a w->Q .ret a w)->c.wp C.P Q a w:=by
 induction c with
 |skip=>intro _ S kn kx kr a w Q _ h hr h1 h2 h3;exact wp_skip (h1 _ _ _ h hr)
 |label l=>intro _ S kn kx kr a w Q _ h hr h1 h2 h3;exact wp_label (h1 _ _ _ h hr)
 |ret=>intro _ S kn kx kr a w Q _ h hr h1 h2 h3;exact wp_ret (h3 _ _ _ h hr)
 |exit id=>intro _ S kn kx kr a w Q _ h hr h1 h2 h3;exact wp_exit (h2 _ _ _ _ h hr)
 |seq x y ihx ihy=>
  intro l7 S kn kx kr a w Q hc h hr h1 h2 h3;obtain⟨hx,hy⟩:=aG (a:=bM nt x) (b:=bM nt y) hc;obtain⟨fx,fy⟩:=aG (a:=aM (F.fixed.map Prod.fst) x) (b:=aM (F.fixed.map Prod.fst) y) l7;refine wp_seq (ihx fx hx h hr (λS a w ⟨S',hs,h⟩ hr=>ihy fy hy h (hs _ _ _ _ hr) h1 h2 h3) h2 h3)
 |cond c x y ihx ihy=>
  intro l7 S kn kx kr a w Q hc h hr h1 h2 h3;obtain⟨hx,hy⟩:=aG (a:=bM nt x) (b:=bM nt y) hc;obtain⟨fx,fy⟩:=aG (a:=aM (F.fixed.map Prod.fst) x) (b:=aM (F.fixed.map Prod.fst) y) l7;unfold ri at h;split at h
  ·rename_i b hb;have hv:a.eval c= .bool b:=aiN
   grind[wp_cond,ov,qa]
  grind
 |block id c ih=>
  intro l7 S kn kx kr a w Q hc h hr h1 h2 h3;refine wp_block (ih l7 hc h hr (λS a w h hr=>h1 S a w h hr) (λiO S a w h hr=>?_) λS a w h hr=>h3 S a w h hr);exact ah0
 |loop c ih=>
  intro l7 S kn kx kr a w Q hc h hr h1 h2 h3;refine tv.wp ?_;obtain⟨S0,hs0,h'⟩:=h;have hr:=hs0 _ _ _ _ hr;unfold S8 at h';refine h' (λS=>∀a w,Rel F nt S a w->tv C.P c Q a w) (λS hS a w hr=>?_) a w hr;refine tv.round (ih l7 hc hS hr (λS' a w h hr=>?_) (λid S a w h hr=>h2 id S a w h hr) λS a w h hr=>h3 S a w h hr);obtain⟨S'',RP,hz⟩:=h;exact hz a w (RP _ _ _ _ hr)
 |region id ci uI=>
  intro l7 S kn kx kr a w Q hc h hr h1 h2 h3;exact Jp hC hG (PP hc l7) h hr h1
 |scope c ih=>
  intro l7 S kn kx kr a w Q hc h hr h1 h2 h3;exact wp_scope_straight (ih l7 hc h hr (λS a w h hr=>h1 S a w h hr) (λid S a w h hr=>h2 id S a w h hr) λS a w h hr=>h3 S a w h hr)
 |rangeFunc g ps x y=>
  intro l7 S kn kx kr a w Q hc h hr h1 h2 h3;unfold ri at h;split at h
  ·rename_i gf first bI hg
   obtain⟨xs,Hs,nx,Inv,q1,q2,q3,qm,q4,q0,q5,q6⟩:=h;exact Mq hC hG hc hg q1 q2 q3 qm (q4 _ _ _ _ hr) hdb q0 q5 (λhi a' w' B9=>h1 _ a' w' (q6 hi) B9) λS a' w' hk B9=>h3 S a' w' hk B9
  grind
 |goto=>intro _ S kn kx kr a w Q _ h;exact h.elim
 |refuse=>intro _ S kn kx kr a w Q _ h;exact h.elim
end
structure m6 (C:bQ) (c:Code) (S:St) (kn:St->Prop) (kx:Nat->St->Prop) (kr:St->Prop):Prop where
 out:ri C c S kn kx kr
structure Brn (b:Bool) (X Y:Prop):Prop where
 out:Xd b X Y
def oy {b:Bool}{X Y:Prop}(h:b=true->X)(h':b=false->Y):Brn b X Y:=⟨z6 h h'⟩
def bT {X Y:Prop}(h:X):Brn true X Y:=⟨Me h⟩
def bF {X Y:Prop}(h:Y):Brn false X Y:=⟨Hl h⟩
def acn (C:bQ)(ci:List Oper)(uI:Bool)(S:St)(kn:St->Prop):Prop:=match S with
 |⟨E,H,nx⟩=>jx C ci nx ci 0 E H [] λE H n t=>match uI with
  |false=>kn ⟨E,H,nx+n⟩
  |true=>z7 ci t=true/\kn ⟨E,H,nx+n⟩
structure Tb (C:bQ) (c:Code) (S:St) (kx:Nat->St->Prop) (kr:St->Prop):Prop where
 out: ∃S',bs S S'/\S8 (λZ S=>ri C c S Z kx kr) S'
section
variable {C:bQ}{S:St}{kn:St->Prop}{kx:Nat->St->Prop}{kr:St->Prop}
def aK (h:kn S):m6 C .skip S kn kx kr:=⟨h⟩
def aT (h:kr S):m6 C .ret S kn kx kr:=⟨h⟩
def aX {id:Nat}(h:kx id S):m6 C (.exit id) S kn kx kr:=⟨h⟩
def aS {x y:Code}(h:m6 C x S (λS=>m6 C y S kn kx kr) kx kr):m6 C (.seq x y) S kn kx kr:=by
 have h':ri C x S (λS=>∃S',bs S S'/\ri C y S' kn kx kr) kx kr:=mF h.out (λS h=>⟨S,bs.refl S,h.out⟩) (λ_ _ h=>h) λ_ h=>h;exact⟨h'⟩
def aco {x y:Code}{ι:Type}(Inv:ι->Prop)(σ:ι->St)(h1:m6 C x S (λS'=>∃i,Inv i/\bs S' (σ i)) kx kr)(h2: ∀i,Inv i->m6 C y (σ i) kn kx kr):m6 C (.seq x y) S kn kx kr:=by
 have h':ri C x S (λS=>∃S',bs S S'/\ri C y S' kn kx kr) kx kr:=mF h1.out (λ_ ⟨i,hi,hs⟩=>⟨σ i,hs,(h2 i hi).out⟩) (λ_ _ h=>h) λ_ h=>h;exact⟨h'⟩
def aC {c:Operand}{x y:Code}{b:Bool}(hc:C.ev S.env.get c=some (.val (false,[.st (.lit (.bool b))])))(h:Brn b (m6 C x S kn kx kr) (m6 C y S kn kx kr)):m6 C (.cond c x y) S kn kx kr:=by
 refine⟨?_⟩;unfold ri;simp only[hc];exact yg h.out (λh=>h.out) λh=>h.out
theorem aB {id:Nat}{c:Code}(h:m6 C c S kn (λiO S=>match Nat.beq iO id with
  |true=>kn S
  |false=>kx iO S) kr):m6 C (.block id c) S kn kx kr:=⟨h.out⟩
def aL {c:Code}(h:Tb C c S kx kr):m6 C (.loop c) S kn kx kr:=⟨h.out⟩
def aE {c:Code}(h:m6 C c S kn kx kr):m6 C (.scope c) S kn kx kr:=⟨h.out⟩
def aR {id:Nat}{ci:Array Oper}{uI:Bool}(h:acn C ci.toList uI S kn):m6 C (.region id ci uI) S kn kx kr:=by
 obtain⟨E,H,nx⟩:=S;exact⟨h.out⟩
end
def tw:Nat->List SV->dP
 |_,[]=>[]
 |i,x::xs=>(i,some (.val (dyn x)))::tw (i+1) xs
def entry (args:List SV):St:=⟨tw 0 args,[],0⟩
def er (C:bQ)(H:HF)(E:EF):List ResultVar->(List DX->Prop)->Prop
 | [],K=>K []
 | .tmp t::rs,K=>match E t with
  |some (.val x)=>er C H E rs λxs=>K (x::xs)
  |_=>False
 | .cell a t::rs,K=>match E a with
  |some (.val x)=>ot C t x H λr u _=>match r,u with
   | .val y,[]=>er C H E rs λxs=>K (y::xs)
   |_,_=>False
  |_=>False
def aeC (H:HF):List DX->Option (Nat × SC)
 | [(false,[.own id])]=>match H id with
  |some (.row true z c)=>some (z,c)
  |_=>none
 |_=>none
def ym:List SV->Bool
 | []=>true
 |x::l=>om x.2&&ym l
def aeD:SC->SC
 | .ref _=>.ref []
 |c=>c
def Dv:SC->Bool
 | .fn _ _ _=>false
 |_=>true
def Hy (x:SV):SV:=(x.1,x.2.map aeD)
def Cf:List SV->Bool
 | []=>true
 |x::l=>x.2.all Dv&&Cf l
def acp (C:bQ)(H:HF)(ts:List TypeId)(xs:List DX)(K:mb->Prop):Prop:=match aeC H xs with
 |some (z,c)=>K (.own z c)
 |none=>match o9 C H ts xs with
  |some (l,_,_)=>match ym l with
   |true=>match l with
    | [y]=>K (.one y)
    |l=>K (.aJ l)
   |false=>match Cf l with
    |true=>match l with
     | [y]=>K (.one (Hy y))
     |l=>K (.aJ (l.map Hy))
    |false=>False
  |none=>False
def acq (C:bQ)(fn:Func)(S:St)(K:mb->Prop):Prop:=er C S.hp.get S.env.get fn.results.toList λxs=>acp C S.hp.get fn.resultTypes.toList xs K
def Jt {xs:List SV}: ∀ {i s:Nat} {dv:DV},(tw i xs).get s=some dv->∃k x,s=i+k/\xs[k]? =some x/\dv= .val (dyn x):=by
 induction xs with
 |nil=>grind[tw,dP.get]
 |cons x xs ih=>
  intro i s dv h;unfold tw at h;rw[dP.ar]at h;simp only at h;by_cases e:s=i
  ·subst e;grind
  ·rw[if_neg e]at h;obtain⟨k,y,h1,h2,h3⟩:=ih h;exact⟨k+1,y,by omega,by grind,h3⟩
section
variable {C:bQ}{F:gN}{β:Nat->Option Nat}{N:Nat->Prop}{H:HF}{w w':World}{fn:Func}
def Dw (tmps:Array Value):ResultVar->Sem Value
 | .tmp t=>pure (tmps.getD t undef)
 | .cell a t=>do loadVar t (<- asAddr (tmps.getD a undef))
def PU (tmps:Array Value):results fn tmps=(do let vs <- fn.results.mapM (Dw tmps);pure (if h:vs.size=1 then vs[0]else .tuple vs)):=by
 unfold results;congr 1
def A9:List Value->Value
 | [v]=>v
 |vs=>.tuple vs.toArray
theorem Ba {P:Program}{tmps:Array Value}{vs:List Value}(h:(fn.results.toList.mapM (Dw tmps)).run P w= .ok vs w):
  (results fn tmps).run P w= .ok (A9 vs) w:=by
 rw[PU,aet];simp only[map_eq_pure_bind,eJ,h,mw,lL];congr 1
 match vs with
 | []=>rfl
 | [v]=>rfl
 |v::u::vs=>simp;rfl
def Vg {P:Program}{T:TypeId}{x:DX}{v0 v:Value}{K:j0}{w':World}(hx:aq F β N H w v0 x)(h:ot C T x H K)(hr:(Instr.loadAt T v0).run P w= .ok v w'):
  (do loadVar T (<- asAddr v0):Sem Value).run P w= .ok v w':=by
 have key: ∃b o,v0= .pointer (some ⟨b,o,none⟩):=by
  unfold ot at h;split at h
  grind
  ·split at h
   ·obtain⟨_,b,_,e⟩:=hx.am;grind
   ·exact I0 hx.am
   ·obtain⟨_,b,_,e⟩:=hx.am;grind
   grind
 grind[Instr.loadAt,Instr.sureAddr,asAddr]
theorem Dx (hC:C.Ok)(hG:bE C F){E:EF}{a:Act}: ∀ {rs:List ResultVar} {K:List DX->Prop} {β:Nat->Option Nat} {N:Nat->Prop},ac F β N H w->dD F β N H w E a->er C H E rs K->
  ∃xs vs cL N',K xs/\Tr F β N H w cL N' H w/\ac F cL N' H w/\(rs.mapM (Dw a.tmps)).run C.P w= .ok vs w/\vs.length=xs.length/\∀k x,xs[k]? =some x->aq F cL N' H w (vs.getD k undef) x:=by
 intro rs
 induction rs with
 |nil=>intro K β N hR hE h;exact⟨[],[],β,N,h,Tr.refl,hR,by simp,rfl,by simp⟩
 |cons r rs ih=>
  intro K β N hR hE h
  cases r with
  |tmp t=>
   unfold er at h;split at h
   ·rename_i x hx;obtain⟨xs,vs,cL,N',h1,ht,zH,h2,h3,h4⟩:=ih hR hE h;refine⟨x::xs,a.tmps.getD t undef::vs,cL,N',h1,ht,zH,?_,by grind,λk y hk=>?_⟩
    grind[Sem.run_bind,Dw,Sem.run_pure,Result.andThen_ok]
    ·cases k with
     |zero=>simp at hk;subst hk;exact ht.r8 hR (hE t _ hx)
     |succ k=>grind
   grind
  |cell s t=>
   unfold er at h;split at h
   ·rename_i x hx;obtain⟨v,bC,β1,r,u,R,hK,ht,W6,hv⟩:=SQ (fid:=0) hC hG hR (hE s _ hx) h;have aon:=Vg (hE s _ hx) h bC;split at hK
    ·rename_i y;obtain⟨xs,vs,cL,N',h1,Ph,zH,h2,h3,h4⟩:=ih W6 (ht.env hR hE) hK;refine⟨y::xs,v::vs,cL,N',h1,ht.trans Ph,zH,?_,by grind,λk y' hk=>?_⟩
     grind[Sem.run_bind,Dw,Result.andThen_ok,Sem.run_pure]
     ·cases k with
      |zero=>simp at hk;subst hk;exact Ph.r8 W6 hv
      |succ k=>grind
    grind
   grind
def gN.pure (F:gN):Prop:=∀b,¬F.own b
def gN.pure.base {F:gN}(h:F.pure){b:Nat}(hb:F.dz b):F.base<=b:=hb.elim id λe=>absurd e (h b)
def yn (FE:F.pure):(MV F β H w).le (dT F.Pc F.base w):=by
 intro b o v h;unfold MV at h;unfold dT;split at h
 ·rename_i hb;rw[if_pos (FE.base hb)]
  grind
 ·rename_i hb;rw[if_neg (λe=>hb (.inl e))];exact h
theorem eo.flat {mv mr mv' CB:Mem}(wz:mv.le mv'){v:Value}{x:SV}(h:eo mv mr v x)(hf:om x.2=true):eo mv' CB v x:=by
 unfold eo at*;split
 ·rename_i hx;rw[if_pos hx]at h;obtain⟨arr,h1,h2,h3⟩:=h;exact⟨arr,h1,h2,λk c hc=>((h3 k c hc).mono wz (Mem.le_refl _)).flat (lO hf k c hc)⟩
 ·rename_i hx;rw[if_neg hx]at h;obtain⟨c,h1,h2⟩:=h;exact⟨c,h1,(h2.mono wz (Mem.le_refl _)).flat (lO hf 0 c br)⟩
theorem Bb {l:List SV}(h:ym l=true): ∀(k:Nat) (x:SV),l[k]? =some x->om x.2=true:=by
 induction l with
 |nil=>simp
 |cons y l ih=>
  rw[ym]at h
  grind
theorem dq.Pk {mv mr mv' CB:Mem}(wz:mv.le mv'){v:Value}{c:SC}(h:dq mv mr v c)(hf:Dv c=true):dq mv' CB v (aeD c):=by
 cases c with
 |ref cs=>
  exact ait
 |fn f a b=>cases hf
 |_=>exact(h.mono wz (Mem.le_refl _)).flat rfl
theorem eo.Pk {mv mr mv' CB:Mem}(wz:mv.le mv'){v:Value}{x:SV}(h:eo mv mr v x)(hf:x.2.all Dv=true):eo mv' CB v (Hy x):=by
 have hall: ∀c∈x.2,Dv c=true:=wC.1 hf;unfold eo at*;split
 ·rename_i hx;rw[if_pos (show x.1=true from hx)]at h
  grind[Hy,dq.Pk]
 ·rename_i hx;rw[if_neg (show ¬x.1=true from hx)]at h
  grind[Hy,dq.Pk]
theorem Mr {l:List SV}(h:Cf l=true): ∀(k:Nat) (x:SV),l[k]? =some x->x.2.all Dv=true:=by
 induction l with
 |nil=>simp
 |cons y l ih=>
  rw[Cf]at h
  grind
theorem acr (FE:F.pure)(hG:bE C F)(hR:ac F β N H w){ts:List TypeId}{xs:List DX}{vs:List Value}{K:mb->Prop}(hl:vs.length=xs.length)(hv: ∀k x,xs[k]? =some x->aq F β N H w (vs.getD k undef) x)
  (h:acp C H ts xs K): ∃r,K r/\qL F.Pc F.base w (A9 vs) r:=by
 unfold acp at h;split at h
 ·rename_i z c ho;refine⟨_,h,?_⟩;unfold aeC at ho;split at ho
  ·rename_i id;split at ho
   ·rename_i z' c' hb;simp only[lK,gt]at ho;obtain⟨rfl,rfl⟩:=ho
    match vs,hl with
    | [v],_=>
     have h0:=(hv 0 _ rfl).am;obtain⟨hn,_,jo⟩:=h0;have jo:=jo _ _ _ hb rfl;obtain⟨_,⟨hz,Xk,iE⟩,gD⟩:=hR.rel id _ hb
     rcases jo with⟨h1,h2,h3⟩|⟨b,cap,arr,T,h1,h2,h3,h4⟩
     ·exact .inl ⟨h3,h2,Xk,hz,iE⟩
     ·rcases gD with gD|⟨b',jD,q1,q2,q3⟩
      grind
      ·rw[h1]at q1;cases q1;obtain⟨arr',T',e1,e2,e3,e4,e5,e6,e7⟩:=q3;rw[h3]at e1;cases e1;have gc:jD=cap:=XZ;subst gc;refine .inr ⟨b,jD,h2,FE.base q2,arr,T,h3,e2,e3,e4,e5,e6,λi e j x he hx=>(e7 i e j x he hx).mono ?_ (Mem.le_refl _)⟩;exact K98
   grind
  grind
 ·split at h
  ·rename_i l u rr eG;obtain⟨q1,q2,q3⟩:=xY eG;have hg:ii C H u:=ii.kj q1;have il: ∀k x,l[k]? =some x->eo (MV F β (u.on H) w) (rd w) (vs.getD k undef) x:=by grind[He]
   split at h
   ·rename_i hf
    have Uh: ∀k x,l[k]? =some x->eo (dT F.Pc F.base w) eU (vs.getD k undef) x:=λk x hk=>
     (il k x hk).flat (yn FE) (Bb hf k x hk)
    split at h
    ·rename_i y;exact aiE
    ·rename_i e8;refine⟨_,h,?_⟩;have xw:A9 vs= .tuple vs.toArray:=ah7;rw[xw];exact⟨vs.toArray,rfl,by grind,λk x hk=>by simpa using Uh k x hk⟩
   ·split at h
    ·rename_i hf
     have Uh: ∀k x,l[k]? =some x->eo (dT F.Pc F.base w) eU (vs.getD k undef) (Hy x):=λk x hk=>
      (il k x hk).Pk (yn FE) (Mr hf k x hk)
     split at h
     ·rename_i y _;exact aiE
     ·rename_i e8;refine⟨_,h,?_⟩;have xw:A9 vs= .tuple vs.toArray:=ah7;rw[xw];refine⟨vs.toArray,rfl,by grind,λk x hk=>?_⟩;rw[gr,my]at hk;obtain⟨x0,RY,rfl⟩:=hk;simpa using Uh k x0 RY
    grind
  grind
def agj:List DC->Option (List (Option SC) × List Nat)
 | []=>some ([],[])
 | .st c::ds=>match c.flat,agj ds with
  |true,some (l,is)=>some (some c::l,is)
  |_,_=>none
 | .own id::ds=>match agj ds with
  |some (l,is)=>some (none::l,id::is)
  |none=>none
 |_=>none
def akI:List DX->Option (List (Bool × List (Option SC)) × List Nat)
 | []=>some ([],[])
 |x::xs=>match agj x.2,akI xs with
  |some (l,is),some (ls,js)=>some ((x.1,l)::ls,is++js)
  |_,_=>none
def akJ (H:HF)(xs:List DX)(K:mb->Prop):Prop:=match akI xs with
 |some (l,[id])=>match H id with
  |some (.row true z c)=>K (.mix (match l with| [_]=>false|_=>true) l z c)
  |_=>False
 |_=>False
def agk (C:bQ)(fn:Func)(S:St)(K:mb->Prop):Prop:=er C S.hp.get S.env.get fn.results.toList λxs=>akJ S.hp.get xs K
def Dy (hC:C.Ok){f:FuncId}{c:Code}{args:List SV}{r:mb}{ret:St->Prop}(hn:iG C.P f=true)(hf:C.P.funcs[f]? =some fn)(hb:fn.body=some c)(uJ:bM fn.ntmps c=true)(dG:args.length<=fn.ntmps)
  (eL: ∀S,ret S->∃RX:HF->List DX->(mb->Prop)->Prop,(∀ {F:gN} {β:Nat->Option Nat} {N:Nat->Prop} {w:World} {xs:List DX} {vs:List Value} {K:mb->Prop},F.pure->bE C F->ac F β N S.hp.get w->vs.length=xs.length->(∀k x,xs[k]? =some x->aq F β N S.hp.get w (vs.getD k undef) x)->RX S.hp.get xs K->∃r,K r/\qL F.Pc F.base w (A9 vs) r)/\
   er C S.hp.get S.env.get fn.results.toList λxs=>RX S.hp.get xs λr'=>r'=r)
  (h:m6 C c (entry args) ret (λ_ _=>False) ret):nN C.P C.gl f args r:=by
 refine .inl ⟨hn,λmv w vs wz hgl xw=>?_⟩;let F:gN:=⟨w,mv,λ_=>False,[],w.heap.size,rd w⟩;have FE:F.pure:=λ_ h=>h;have hG:bE C F:=⟨hgl,wz,λ_ _ _ _ h=>h,hgl,Mem.le_refl _,wz⟩;have ID:vs.size=args.length:=xw.1;refine(callsIn_wide (n:=0)).1 (callsIn_of_wp_marks hf hb trivial ?_ rfl);have hR:ac F (λ_=>none) (λ_=>False) (Hp.get []) w:=⟨λid bz e=>by grind[Hp.get],λi j b x y e=>by grind,jv.refl _ _,λb o v e=>⟨wz b o v e,λ_ id bz e'=>by grind⟩⟩;have abp: ∀b o v,mv b o=some v->b<F.base:=λb o v h=>IS _ _ (wz b o v h)
 have hE:dD F (λ_=>none) (λ_=>False) (Hp.get []) w (entry args).env.get {tmps:=vs++Array.replicate (fn.ntmps -vs.size) undef,defers:=[]}:=by
  intro s dv hs;obtain⟨k,x,h1,h2,rfl⟩:=Jt hs;rw[jZ]at h1;subst h1;have ak:s<args.length:=(kl.1 h2).1;have iP:(vs++Array.replicate (fn.ntmps -vs.size) undef).getD s undef=vs.getD s undef:=by simp[sw,Se,ID,ak]
  show aq _ _ _ _ _ ((vs++Array.replicate (fn.ntmps -vs.size) undef).getD s undef) (dyn x);rw[iP];refine eo.dyn ((xw.2 s x h2).mono (λb o v h=>?_) λb o v h=>?_)
  ·unfold MV;rw[if_neg (λe=>absurd (FE.base e) (Nat.not_le.2 (abp b o v h)))];exact h
  ·unfold MR;rw[if_neg (λe=>absurd (FE.base e) (Nat.not_le.2 (show b<F.base from IS _ _ h)))];exact h
 have hrel:Rel F fn.ntmps (entry args) {tmps:=vs++Array.replicate (fn.ntmps -vs.size) undef,defers:=[]} w:=
  ⟨λ_=>False,⟨by grind,eB.nil _ _,λ_ h=>am9,_,hE,hR⟩,λ_ h=>h.elim⟩
 have Pb: ∀S a w',ret S->Rel F fn.ntmps S a w'->LeavesInM Fence.wide 0 C.P fn a.tmps (λe w'=>∃v',e= .returned v'/\Below w.heap.size w w'/\qL mv w.heap.size w' v' r) a.defers .returning w':=by
  rintro S a w' hr ⟨N,⟨hs,hd,_,β,hE,hR⟩,hN⟩;obtain⟨RX,fB,hr⟩:=eL S hr;refine Aa (F:=F) (S:=S) (β:=β) (N:=N) (dw _) (λw' hB=>?_) a.defers w' ⟨hs,hE,hR,hN⟩ hd;obtain⟨xs,ws,cL,N',h1,ht,zH,h2,h3,h4⟩:=Dx (a:={tmps:=a.tmps,defers:=[]}) hC hG hB.heap hB.env hr;obtain⟨r',rfl,il⟩:=fB FE hG zH h3 h4 h1;exact⟨_,Ba h2,_,rfl,zH.below.below (λb hb e=>absurd (FE.base e) (Nat.not_le.2 hb)),il⟩
 refine(wpIn_wide (n:=0)).2 (Hx (F:=F) hC hG (dw _) (Jo c) uJ h.out hrel (λS a w' eL hr=>?_) (λ_ _ _ _ h=>h.elim) λS a w' eL hr=>?_)
 ·exact ab7
 ·exact ab7
def PV (hC:C.Ok){f:FuncId}{c:Code}{args:List SV}{r:mb}(hn:iG C.P f=true)(hf:C.P.funcs[f]? =some fn)(hb:fn.body=some c)(uJ:bM fn.ntmps c=true)(dG:args.length<=fn.ntmps)
  (h:m6 C c (entry args) (λS=>acq C fn S λr'=>r'=r) (λ_ _=>False) (λS=>acq C fn S λr'=>r'=r)):nN C.P C.gl f args r:=by
 exact Dy hC hn hf hb uJ dG (λS hS=>⟨λH xs K=>acp C H fn.resultTypes.toList xs K,λFE hG hR hl hv h=>acr FE hG hR hl hv h,hS⟩) h
end
def bO:List (Nat × Nat)->Nat->Option Nat
 | [],_=>none
 |(o,n)::m,id=>match Nat.beq id o with
  |true=>some n
  |false=>bO m id
def Tc:List (Nat × Nat)->Nat->Option Nat
 | [],_=>none
 |(o,n)::m,id=>match Nat.beq id n with
  |true=>some o
  |false=>Tc m id
def m7 (m:List (Nat × Nat)):DC->Option DC
 | .st c=>some (.st c)
 | .nil =>some .nil
 | .ptr id off=>match bO m id with
  |some n=>some (.ptr n off)
  |none=>none
 | .own id=>match bO m id with
  |some n=>some (.own n)
  |none=>none
 | .cF id z i off=>match bO m id with
  |some n=>some (.cF n z i off)
  |none=>none
 | .mp id=>match bO m id with
  |some n=>some (.mp n)
  |none=>none
 | .sv g id=>match bO m id with
  |some n=>some (.sv g n)
  |none=>none
def eX (m:List (Nat × Nat)):List DC->Option (List DC)
 | []=>some []
 |d::l=>match m7 m d with
  |some d'=>match eX m l with
   |some l'=>some (d'::l')
   |none=>none
  |none=>none
def kS (m:List (Nat × Nat)):List DX->Option (List DX)
 | []=>some []
 |x::l=>match eX m x.2 with
  |some d'=>match kS m l with
   |some l'=>some ((x.1,d')::l')
   |none=>none
  |none=>none
def Bc (m:List (Nat × Nat)):DV->Option DV
 | .val x=>match eX m x.2 with
  |some l=>some (.val (x.1,l))
  |none=>none
 | .aJ l=>match kS m l with
  |some l'=>some (.aJ l')
  |none=>none
def fI (m:List (Nat × Nat)):List (List DC)->Option (List (List DC))
 | []=>some []
 |e::l=>match eX m e with
  |some e'=>match fI m l with
   |some l'=>some (e'::l')
   |none=>none
  |none=>none
def fm (m:List (Nat × Nat)):co->Option co
 | .box t cs=>match eX m cs with
  |some l=>some (.box t l)
  |none=>none
 | .aA z l=>match fI m l with
  |some l'=>some (.aA z l')
  |none=>none
 |b=>some b
def eZ (m:List (Nat × Nat))(E:EF):List Nat->Option dP
 | []=>some []
 |k::ks=>match E k with
  |some d=>match Bc m d with
   |some d'=>match eZ m E ks with
    |some E'=>some ((k,some d')::E')
    |none=>none
   |none=>none
  |none=>none
def jT (m:List (Nat × Nat))(H:HF):List (Nat × Nat)->Option Hp
 | []=>some []
 |(o,n)::l=>match H o with
  |some b=>match fm m b with
   |some b'=>match jT m H l with
    |some H'=>some ((n,some b')::H')
    |none=>none
   |none=>none
  |none=>none
def YD (x:Nat):List Nat->Bool
 | []=>false
 |y::l=>Nat.beq x y || YD x l
def eM:List Nat->Bool
 | []=>true
 |x::l=> !YD x l&&eM l
def Td (ks:List Nat)(m:List (Nat × Nat))(n:Nat)(S:St):Option St:=
 match eM (m.map Prod.fst)&&eM (m.map Prod.snd)&&m.all λp=>Nat.blt p.2 n with
 |true=>match eZ m S.env.get ks with
  |some E=>match jT m S.hp.get m with
   |some H=>some ⟨E,H,n⟩
   |none=>none
  |none=>none
 |false=>none
def YE {x:Nat}{l:List Nat}:YD x l=true↔x∈l:=by
 induction l with
 |nil=>simp[YD]
 |cons y l ih=>simp[YD,ih]
def bW {l:List Nat}(h:eM l=true):l.Nodup:=by
 induction l with
 |nil=>grind
 |cons x l ih=>
  rw[eM]at h;obtain⟨h1,h2⟩:=aG h;refine zO.2 ⟨λhx=>?_,ih h2⟩;rw[YE.2 hx]at h1;cases h1
def Ab {m:List (Nat × Nat)}{o n:Nat}(h:bO m o=some n):(o,n)∈m:=by
 induction m with
 |nil=>cases h
 |cons p m ih=>
  grind[bO,Nat.eq_of_beq_eq_true]
def Dz {m:List (Nat × Nat)}{o n:Nat}(hd:(m.map Prod.snd).Nodup)(h:(o,n)∈m):Tc m n=some o:=by
 induction m with
 |nil=>cases h
 |cons p m ih=>
  obtain⟨a,b⟩:=p;simp only[ju,zO]at hd;simp only[Tc];rcases cQ.1 h with h'|h';simp_all
  ·split;simp_all
   grind
def PW {m:List (Nat × Nat)}{o i j:Nat}(hd:(m.map Prod.fst).Nodup)(h:(o,i)∈m)(k:(o,j)∈m):i=j:=by
 induction m with
 |nil=>cases h
 |cons p m ih=>
  grind
theorem pg {m:List (Nat × Nat)}{H:HF}: ∀ {l:List (Nat × Nat)} {H':Hp} {n:Nat} {b':co},jT m H l=some H'->H'.get n=some b'->∃o b,(o,n)∈l/\H o=some b/\fm m b=some b':=by
 intro l
 induction l with
 |nil=>grind[jT,Hp.get]
 |cons p l ih=>
  intro H' n b' h e;obtain⟨o,i⟩:=p;simp only[jT]at h;split at h
  ·rename_i b hb;split at h
   ·rename_i b1 xz;split at h
    ·rename_i H1 xA;simp at h;subst h;rw[Hp.ar]at e
     grind[bn]
    grind
   grind
  grind
def Ju {m:List (Nat × Nat)}{E:EF}: ∀ {ks:List Nat} {E':dP} {s:Nat} {d':DV},eZ m E ks=some E'->E'.get s=some d'->∃d,E s=some d/\Bc m d=some d':=by
 intro ks
 induction ks with
 |nil=>grind[eZ,dP.get]
 |cons k ks ih=>
  intro E' s d' h e;simp only[eZ]at h;split at h
  grind[dP.ar]
  grind
section
variable {F:gN}{β:Nat->Option Nat}{N:Nat->Prop}{H H':HF}{w:World}{m:List (Nat × Nat)}
def pG (m:List (Nat × Nat))(β:Nat->Option Nat):Nat->Option Nat:=λid=>match Tc m id with
 |some o=>β o
 |none=>none
def yp (m:List (Nat × Nat)):Nat->Prop:=λid=>∃o,(o,id)∈m
theorem yq {m:List (Nat × Nat)}: ∀ {l l':List (List DC)},fI m l=some l'->l'.length=l.length
 | [],l',h=>by grind[fI]
 |e::l,l',h=>by
  unfold fI at h;split at h
  ·split at h
   ·cases h;simp[yq FW]
   grind
  grind
theorem DA {m:List (Nat × Nat)}: ∀ {l l':List (List DC)} {i:Nat} {e':List DC},fI m l=some l'->l'[i]? =some e'->∃e,l[i]? =some e/\eX m e=some e'
 | [],l',i,e',h,hi=>by grind[fI]
 |e::l,l',i,e',h,hi=>by
  unfold fI at h;split at h
  ·rename_i a ha;split at h
   ·rename_i b hb;cases h
    cases i with
    |zero=>grind
    |succ i=>
     simp at hi;obtain⟨d,d1,d2⟩:=DA hb hi
     grind
   grind
  grind
structure cW (m:List (Nat × Nat)) (H H':HF):Prop where
 abD:(m.map Prod.fst).Nodup
 news:(m.map Prod.snd).Nodup
 heap: ∀n b',H' n=some b'->∃o b,(o,n)∈m/\H o=some b/\fm m b=some b'
def cW.kH (h:cW m H H'){o n:Nat}(hm:(o,n)∈m):pG m β n=β o:=by simp[pG,Dz h.news hm]
def cW.fT (h:cW m H H'){b o:Nat}(hs:Fw.fT β H b o):Fw.fT (pG m β) H' b o:=by
 intro id blk' he hbe;obtain⟨old,bz,h1,h2,h3⟩:=h.heap id blk' he;rw[h.kH h1]at hbe;have:=hs old bz h2 hbe;cases bz<;>simp only[fm]at h3
 ·exact this.elim
 grind
 grind
 ·exact this.elim
 grind
def cW.mv (h:cW m H H'):(MV F β H w).le (MV F (pG m β) H' w):=by
 intro b o v e;unfold MV at*;split
 ·rename_i hb;rw[if_pos hb]at e;split at e
  ·rename_i hs;rw[if_pos (h.fT hs)];exact e
  grind
 grind
def cW.mr (h:cW m H H'):(MR F β H w).le (MR F (pG m β) H' w):=by
 intro b o v e;unfold MR at*;split
 ·rename_i hb;rw[if_pos hb]at e;exact h.mv b o v e
 grind
theorem cW.jr (h:cW m H H'){v:Value}{d d':DC}(hd:cd F β N H w v d)(hr:m7 m d=some d'):cd F (pG m β) (yp m) H' w v d':=by
 cases d with
 |st c=>simp[m7]at hr;subst hr;exact dq.mono h.mv h.mr hd
 |nil=>simp[m7]at hr;subst hr;exact hd
 |ptr id off=>
  exact K40
 |own id=>
  simp only[m7]at hr;split at hr
  ·rename_i n hn;simp at hr;subst hr;have hm:=Ab hn;obtain⟨_,h1,h2⟩:=hd;refine⟨⟨_,hm⟩,h1,λnL z n0 hb hz0=>?_⟩;obtain⟨o,b,q1,q2,q3⟩:=h.heap _ _ hb
   have ho:o=id:=by
    have e1:=Dz h.news hm;rw[Dz h.news q1]at e1
    grind
   subst ho;cases b<;>simp only[fm]at q3
   ·split at q3<;>cases q3;cases hz0
   ·cases q3;cases hz0
   ·cases q3;have:=h2 _ _ _ q2 hz0;unfold UN at*;rw[h.kH hm];omega
   ·split at q3
    ·rename_i l' sr;cases q3;have:=h2 _ z n0 q2 (by grind[co.sz,yq]);unfold UN at*;rw[h.kH hm];omega
    grind
   ·cases q3;cases hz0
  grind
 |cF id z i off=>
  exact K40
 |sv g id=>
  exact K40
 |mp id=>
  exact K40
theorem uN {l l':List DC}(h:eX m l=some l'):l'.length=l.length/\∀(k:Nat) (d':DC),l'[k]? =some d'->∃d,l[k]? =some d/\m7 m d=some d':=by
 induction l generalizing l' with
 |nil=>grind[eX]
 |cons d l ih=>
  grind[eX]
def cW.r8 (h:cW m H H'){v:Value}{x:DX}{l:List DC}(hd:aq F β N H w v x)(hr:eX m x.2=some l):aq F (pG m β) (yp m) H' w v (x.1,l):=by
 obtain⟨h1,h2⟩:=uN hr;obtain⟨g,cs⟩:=x;cases g
 ·obtain⟨c,hc,il⟩:=hd;simp at hc;subst hc;obtain⟨c',rfl⟩: ∃c',l= [c']:=wA.1 K0;obtain⟨d,Xa,WY⟩:=h2 0 c' rfl;simp at Xa;subst Xa;exact⟨c',rfl,h.jr il WY⟩
 ·obtain⟨arr,h3,h4,h5⟩:=hd;refine⟨arr,h3,by grind,λk c hk=>?_⟩;obtain⟨d,Xa,WY⟩:=h2 k c hk;exact h.jr (h5 k d Xa) WY
theorem Hz {l l':List DX}(h:kS m l=some l'):l'.length=l.length/\∀(k:Nat) (d':DX),l'[k]? =some d'->∃d c,l[k]? =some d/\eX m d.2=some c/\d'=(d.1,c):=by
 induction l generalizing l' with
 |nil=>grind[kS]
 |cons d l ih=>
  grind[kS]
theorem cW.vQ (h:cW m H H'){v:Value}{d d':DV}(hd:b8 F β N H w v d)(hr:Bc m d=some d'):b8 F (pG m β) (yp m) H' w v d':=by
 cases d with
 |val x=>
  simp only[Bc]at hr;split at hr
  ·rename_i l hl;simp at hr;subst hr;exact h.r8 hd hl
  grind
 |aJ l=>
  simp only[Bc]at hr;split at hr
  ·rename_i l1 hl;simp at hr;subst hr;obtain⟨h1,h2⟩:=Hz hl;obtain⟨arr,q1,q2,q3⟩:=hd;refine⟨arr,q1,by omega,λk x hk=>?_⟩;obtain⟨d,c,a1,a2,rfl⟩:=h2 k x hk;exact h.r8 (q3 k d a1) a2
  grind
theorem cW.nq (h:cW m H H')(hR:ac F β N H w):ac F (pG m β) (yp m) H' w:=by
 refine⟨λid blk' he=>?_,λi j x y b hi hj bi bj=>?_,hR.below,?_⟩
 ·obtain⟨o,bz,h1,h2,h3⟩:=h.heap id blk' he;refine⟨⟨_,h1⟩,?_⟩;have hb:=(hR.rel o bz h2).2;have eb:=h.kH (β:=β) h1
  cases bz with
  |box t cs=>
   simp only[fm]at h3;split at h3
   ·rename_i l hl;cases h3;obtain⟨e1,e2⟩:=uN hl;obtain⟨b,arr,T,q1,q2,q3,q4,q5⟩:=hb;refine⟨b,arr,T,by grind,q2,q3,by omega,λk x hk=>?_⟩;obtain⟨d,a1,a2⟩:=e2 k x hk;exact h.jr (q5 k d a1) a2
   grind
  |dV cs=>
   simp only[fm]at h3;cases h3;obtain⟨b,arr,T,q1,q2,q3,q4,q5⟩:=hb;exact⟨b,arr,T,by grind,q2,q3,q4,λk x hk=>(q5 k x hk).mono h.mv h.mr⟩
  |row mu z c=>
   simp only[fm]at h3;cases h3;obtain⟨q0,q1|⟨b,cap,q1,q2,arr,T,p1,p2,p3,p4,p5,p6,p7⟩⟩:=hb
   ·exact X0
   ·exact⟨q0,.inr ⟨b,cap,by grind,q2,arr,T,p1,p2,p3,p4,p5,p6,λi e j x he hx=>(p7 i e j x he hx).mono h.mv (Mem.le_refl _)⟩⟩
  |aA z l=>
   simp only[fm]at h3;split at h3
   ·rename_i l' sr;cases h3;obtain⟨⟨z0,hz⟩,q1|⟨b,cap,arr,T,q1,q2,q3,q4,q5,q6⟩⟩:=hb
    all_goals
     have bB: ∀(i:Nat) (e:List DC),l'[i]? =some e->e.length=z:=λi e he=>by
      obtain⟨d,d1,d2⟩:=DA sr he;rw[(uN d2).1];grind
    ·exact⟨⟨z0,bB⟩,.inl ⟨by grind,by grind[yq]⟩⟩
    ·refine⟨⟨z0,bB⟩,.inr ⟨b,cap,arr,T,by grind,q2,q3,q4,by grind[yq],λi e k x he hx=>?_⟩⟩;obtain⟨d,d1,d2⟩:=DA sr he;obtain⟨y,y1,y2⟩:=(uN d2).2 k x hx;exact h.jr (q6 i d k y d1 y1) y2
   grind
  |map es=>
   simp only[fm]at h3;cases h3;obtain⟨b,arr,ck,q1,q2,q3,q4,q5⟩:=hb;exact⟨b,arr,ck,by grind,q2,q3,q4,λi k x e hi he=>let⟨a1,a2⟩:=q5 i k x e hi he;⟨a1,a2.mono h.mv h.mr⟩⟩
 ·obtain⟨o,bo,h1,h2,_⟩:=h.heap i _ hi;obtain⟨o',bo',h1',h2',_⟩:=h.heap j _ hj;rw[h.kH h1]at bi;rw[h.kH h1']at bj;have:=hR.inj o o' _ _ _ h2 h2' bi bj;subst this;exact PW h.abD h1 h1'
 ·intro b o v e;obtain⟨h1,h2⟩:=hR.sT b o v e;exact⟨h1,λhb=>h.fT (h2 hb)⟩
end
def fA {ks:List Nat}{m:List (Nat × Nat)}{n:Nat}{S S':St}(h:Td ks m n S=some S'):bs S S':=by
 unfold Td at h;split at h
 ·rename_i hd;obtain⟨hd,h3⟩:=aG hd;obtain⟨h1,h2⟩:=aG hd;split at h
  ·rename_i E hE;split at h
   ·rename_i H hH;simp at h;subst h;rintro F nt a w ⟨N,⟨q1,q2,q0,β,q3,q4⟩,q5⟩;have fB:cW m S.hp.get H.get:=⟨bW h1,bW h2,λi b' e=>pg hH e⟩;refine⟨yp m,⟨q1,q2,q0,pG m β,λs d' e=>?_,fB.nq q4⟩,?_⟩
    ·exact abE
    ·rintro id ⟨o,ho⟩
     grind[aga,Nat.blt_eq]
   grind
  grind
 grind
def acs {C:bQ}{c:Code}{kx:Nat->St->Prop}{kr:St->Prop}{ι:Type}(Inv:ι->Prop)(μ:ι->Nat)(σ:ι->St)
  (step: ∀i,Inv i->ri C c (σ i) (λS'=>∃j,Inv j/\μ j<μ i/\bs S' (σ j)) kx kr): ∀ {i:ι},Inv i->S8 (λZ S=>ri C c S Z kx kr) (σ i):=by
 have key: ∀n i,μ i=n->Inv i->S8 (λZ S=>ri C c S Z kx kr) (σ i):=by
  intro n
  induction n using Nat.strongRecOn with
  |_ n ih=>
   intro i hn hi;refine Hv (mF (step i hi) (λS' h=>?_) (λ_ _ h=>h) λ_ h=>h)
   grind
 grind
def af {C:bQ}{c:Code}{kx:Nat->St->Prop}{kr:St->Prop}{ι:Type}(Inv:ι->Prop)(μ:ι->Nat)(σ:ι->St)(i:ι){S:St}(hS:bs S (σ i))(hi:Inv i)
  (step: ∀i,Inv i->m6 C c (σ i) (λS'=>∃j,Inv j/\μ j<μ i/\bs S' (σ j)) kx kr):Tb C c S kx kr:=
 ⟨σ i,hS,acs Inv μ σ (λi h=>(step i h).out) hi⟩
end Go.Fw
namespace Go.Fw
open Go.RowKit Go.ChangeShapes
def sE (C:bQ):Nat->TypeId->List SC->Prop
 |0,_,_=>False
 |d+1,t,xs=>match C.ti t with
  |none=>False
  |some i=>match i.bY with
   | .int k=>∃n,xs= [.lit (.int k n)]/\(Lit.int k n).wf =true
   | .bool =>∃b,xs= [.lit (.bool b)]
   | .str =>∃s:ByteArray,xs= [.lit (.string s)]/\s.size<=maxLen
   | .slice e=>match C.kG e with
    |true=>∃l:List Int,xs= [.ints l]/\l.length<=maxLen/\∀n∈l,(Lit.int .i64 n).wf =true
    |false=>∃es:List (List SC),xs= [.view es]/\es.length<=maxLen/\∀e'∈es,sE C d e e'
   | .struct fs=>∃parts:List (List SC),xs=parts.flatten/\parts.length=fs.length/\∀(k o:Nat) (ft:TypeId),fs[k]? =some (o,ft)->∃p,parts[k]? =some p/\sE C d ft p
   | .array n e=>∃parts:List (List SC),xs=parts.flatten/\parts.length=n/\∀p∈parts,sE C d e p
   |_=>False
def Jv (C:bQ):Nat->List (Nat × TypeId)->Nat->Bool
 |FH,[],size=>Nat.beq FH size
 |FH,(o,ft)::r,size=>match C.ti ft with
  |some i=>Nat.beq o FH&&Jv C (FH+i.size) r size
  |none=>false
def oz (C:bQ):Nat->TypeId->Bool
 |0,_=>false
 |d+1,t=>match C.ti t with
  |none=>false
  |some i=>match i.bY with
   | .int _=>Nat.beq i.size 1
   | .bool =>Nat.beq i.size 1
   | .str =>Nat.beq i.size 1
   | .slice e=>Nat.beq i.size 1&&(match C.ti e with
    |some ie=>Nat.ble 1 ie.size&&oz C d e&&(match C.kG e with|true=>Nat.beq ie.size 1|false=>true)
    |none=>false)
   | .struct fs=>Jv C 0 fs i.size&&fs.all λp=>oz C d p.2
   | .array n e=>(match C.ti e with
    |some ie=>Nat.beq (n*ie.size) i.size&&oz C d e
    |none=>false)
   |_=>false
theorem oA {P:Program}{t:TypeId}{i:TI}{f:TypeInfo}{d:TypeDesc}{v:Value}(h:LW P t i f d v):P.cellsOf t=i.size:=by simp[Program.cellsOf,h.oc,h.size]
def lE (m:Mem)(cs:List Value)(xs:List SC):Prop:=xs.length=cs.length/\∀(k:Nat) (c:SC),xs[k]? =some c->dq m eU (cs.getD k undef) c
def lE.one {m:Mem}{v:Value}{c:SC}(h:dq m eU v c):lE m [v] [c]:=by
 refine⟨rfl,λk c' hk=>?_⟩
 grind
def lE.parts {m:Mem}{cs:List Value}{C:bQ}: ∀ {fs:List (Nat × TypeId)} {FH size:Nat} {Q:TypeId->List SC->Prop},Jv C FH fs size=true->cs.length=size->
  (∀(k o:Nat) (ft:TypeId),fs[k]? =some (o,ft)->∀i,C.ti ft=some i->∃p,Q ft p/\p.length=i.size/\lE m ((cs.drop o).take i.size) p)->
  ∃parts:List (List SC),lE m (cs.drop FH) parts.flatten/\parts.length=fs.length/\∀(k o:Nat) (ft:TypeId),fs[k]? =some (o,ft)->∃p,parts[k]? =some p/\Q ft p:=by
 intro fs
 induction fs with
 |nil=>
  intro FH size Q ht hs _;have:=o8 ht;exact⟨[],⟨by grind,by grind⟩,rfl,by grind⟩
 |cons f fs ih=>
  obtain⟨o,ft⟩:=f;intro FH size Q ht hs hq;simp only[Jv]at ht;split at ht
  ·rename_i i hi;obtain⟨h1,h2⟩:=aG ht;have h1:=o8 h1;subst h1;obtain⟨p,hp,hl,hr⟩:=hq 0 o ft rfl i hi;obtain⟨parts,q1,q2,q3⟩:=ih h2 hs (Q:=Q) (λk o' ft' hk=>hq (k+1) o' ft' br);have bB:p.length=((cs.drop o).take i.size).length :=hr.1;have eu:o+i.size<=cs.length\/i.size=0:=by grind
   refine⟨p::parts,⟨?_,?_⟩,by grind,?_⟩
   ·have:=q1.1
    grind
   ·intro k c hk;simp only[XN]at hk;by_cases hkp:k<p.length
    ·exact ajL
    ·rw[Xw K0]at hk;have:=q1.2 _ c hk
     grind
   grind
  grind
theorem lE.az {m:Mem}{Q:List SC->Prop}{z:Nat}: ∀ {n:Nat} {cs:List Value},cs.length=n*z->
  (∀i,i<n->∃p,Q p/\lE m ((cs.drop (i*z)).take z) p)->∃parts:List (List SC),lE m cs parts.flatten/\parts.length=n/\∀p∈parts,Q p:=by
 intro n
 induction n with
 |zero=>intro cs hl _;exact⟨[],⟨by grind,by grind⟩,rfl,by simp⟩
 |succ n ih=>
  intro cs hl h;obtain⟨p,hp,hr⟩:=h 0 K0;have hz:z<=cs.length:=by grind
  have sr:(cs.drop z).length =n*z:=by grind
  obtain⟨parts,q1,q2,q3⟩:=ih sr (λi hi=>by
   obtain⟨p,hp,hr⟩:=h (i+1) K0;refine⟨p,hp,?_⟩;rw[XX]
   grind)
  have pE:p.length=z:=by have:=hr.1;grind
  refine⟨p::parts,⟨?_,?_⟩,by grind,?_⟩
  ·have:=q1.1
   grind
  ·intro k c hk;simp only[XN]at hk;by_cases hkp:k<p.length
   ·exact ajL
   ·rw[Xw K0]at hk;have:=q1.2 _ c hk
    grind
  grind
def Te (a:Addr)(n k:Nat)(hs:a.spot=none):(a.add n).add k=⟨a.block,a.off+(n+k),none⟩:=by
 obtain⟨b,o,s⟩:=a
 grind[Addr.add]
section
variable {H:Type}{enc:TypeId × Value->H}{C:bQ}{w:World}{Uq:Nat->Bool}
theorem Ms {a:Addr}{len z:Nat}{Q:List SC->Prop}(hz:0<z)(h: ∀i,i<len->∃cs xs,w.cells? 0 (a.add (i*z)) z=some cs/\Q xs/\lE (rd w) cs xs):
  ∃es:List (List SC),es.length=len/\(∀e∈es,Q e)/\(0<len->∃b o,a=⟨b,o,none⟩/\(∀e∈es,e.length=z)/\(∀k,k<len*z->∃v,rd w b (o+k)=some v)/\
   ∀(i:Nat) (e:List SC) (j:Nat) (x:SC),es[i]? =some e->e[j]? =some x->dq (rd w) eU ((rd w b (o+(i*z+j))).getD undef) x):=by
 by_cases hl:len=0
 ·simp_all
 have afi:a.spot=none:=by
  obtain⟨cs,xs,h1,_⟩:=h 0 K0;obtain⟨_,h2,h3⟩:=Sk h1
  grind[World.cell?_spot,Addr.add]
 have hall: ∀n,n<=len->∃es:List (List SC),es.length=n/\(∀e∈es,Q e/\e.length=z)/\∀(i:Nat) (e:List SC),es[i]? =some e->∃cs,w.cells? 0 (a.add (i*z)) z=some cs/\lE (rd w) cs e:=by
  intro n
  induction n with
  |zero=>simp_all
  |succ n ih=>
   intro hn;obtain⟨es,h1,h2,h3⟩:=ih K0;obtain⟨cs,xs,q1,q2,q3⟩:=h n K0;refine⟨es++[xs],by grind,?_,?_⟩
   ·intro e he;rcases gC.1 he with he|he
    grind
    ·simp at he;subst he;exact⟨q2,by rw[q3.1,(Sk q1).2.1]⟩
   grind
 obtain⟨es,h1,h2,h3⟩:=hall len (dw _);refine⟨es,h1,λe he=>(h2 e he).1,λ_=>⟨a.block,a.off,by obtain⟨b,o,s⟩:=a;grind,λe he=>(h2 e he).2,?_,?_⟩⟩
 ·intro k hk;have hi:k/z<len:=(XB hz).2 hk;obtain⟨cs,q1,_⟩:=h3 (k/z) es[k/z] br;obtain⟨_,q2,q4⟩:=Sk q1;have hm:k%z<z:=sZ _ hz;have q5:=q4 (k%z) hm;rw[Te _ _ _ afi]at q5;have e:k/z*z+k%z=k:=by grind[Nat.div_add_mod]
  rw[e]at q5;refine⟨cs[k%z]'K0,?_⟩;show w.cell? _=_
  grind
 ·intro i e j x he hx;obtain⟨cs,q1,q3⟩:=h3 i e he;obtain⟨_,q2,q4⟩:=Sk q1;have hj:j<z:=by grind
  have q5:=q4 j hj;rw[Te _ _ _ afi]at q5;have:=q3.2 j x hx
  grind[rd]
theorem YF (hC:C.Ok): ∀ {d:Nat} {t:TypeId} {cs:List Value} {AL:Nat} {y:DataW H × List MemPlace},oz C d t=true->DataW.trod enc C.P w 0 Uq true AL t cs=some y->
  ∃xs,sE C d t xs/\lE (rd w) cs xs/\∀i,C.ti t=some i->xs.length=i.size:=by
 intro d
 induction d with
 |zero=>grind[oz]
 |succ d ih=>
  intro t cs AL y hd h;unfold oz at hd;split at hd
  ·cases hd
  rename_i i hi;obtain⟨f,ds,v,hT⟩:=hC.get hi;have hu:=hT.IN;have jd:=hT.bY;unfold sE;simp only[hi];split at hd
  ·rename_i k hk;rw[hk]at jd;rw[qT jd]at hu;obtain⟨n,rfl,_,hw⟩:=CQ hu h;refine⟨_,⟨n,rfl,hw⟩,lE.one (.lit rfl),?_⟩;simp_all
  ·rename_i hk;rw[hk]at jd;rw[LX jd]at hu;obtain⟨b,rfl,_⟩:=DataW.trod_bool hu h;refine⟨_,⟨b,rfl⟩,lE.one (.lit rfl),?_⟩;simp_all
  ·rename_i hk;rw[hk]at jd;rw[mf jd]at hu;obtain⟨s,rfl,_,hs⟩:=DataW.trod_string hu h;refine⟨_,⟨s,rfl,hs⟩,lE.one (.lit rfl),?_⟩;simp_all
  ·rename_i e hk;rw[hk]at jd;rw[di jd]at hu;obtain⟨Xa,WY⟩:=aG hd;have nn:=o8 Xa;split at WY
   ·rename_i ie lD;obtain⟨hd3,hd4⟩:=aG WY;obtain⟨hd5,hd6⟩:=aG hd3;obtain⟨fe,de,ve,hTe⟩:=hC.get lD;have fO:0<ie.size:=by have:=fP hd5;omega
    have ahf: ∃es:List (List SC),es.length<=maxLen/\(∀e'∈es,sE C d e e')/\∃v',cs= [v']/\
      ((es= []/\∃a cap,v'= .slice a 0 cap)\/(∃b o cap,v'= .slice (some ⟨b,o,none⟩) es.length cap/\es.length<=cap/\0<es.length/\(∀e∈es,e.length=ie.size)/\(∀k,k<es.length*ie.size->∃v,rd w b (o+k)=some v)/\
       ∀(i:Nat) (e:List SC) (j:Nat) (x:SC),es[i]? =some e->e[j]? =some x->dq (rd w) eU ((rd w b (o+(i*ie.size+j))).getD undef) x)):=by
     rcases DataW.trod_slice hu h with⟨rfl,_⟩|⟨a,len,cap,az,rest,n,_,rfl,_,_,hlc,BG,iE,iP,_⟩;simp_all
     ·have hce:=oA hTe
      obtain⟨es,h1,h2,h3⟩:=Ms (w:=w) (a:=a) (len:=len) (Q:=sE C d e) fO (by
       grind[Option.bind_eq_some_iff])
      grind
    obtain⟨es,m1,m2,v',rfl,m3⟩:=ahf
    have mk: ∀c:SC,c.ao=true->c.len=es.length->(∀i e',c.elem i=some e'->es[i]? =some e')->dq (rd w) eU v' c:=by
     intro c hv bB aml
     rcases m3 with⟨rfl,a,cap,rfl⟩|⟨b,o,cap,rfl,q0,q1,q2,q3,q4⟩
     ·exact .empty a cap hv bB
     ·rw[<- bB];refine .view b o cap ie.size (λk=>(rd w b (o+k)).getD undef) hv K0 fO K0 (λi e' he=>q2 e' (jt (aml i e' he))) ?_ ?_
      grind
      grind
    split
    ·rename_i O7;rw[O7]at hd4;have FQ:=o8 hd4;have amW:ie.bY= .int .i64 :=by grind[bQ.kG]
     have sP: ∀e'∈es,∃n:Int,e'= [.lit (.int .i64 n)]/\(Lit.int .i64 n).wf =true:=by
      intro e' he;have:=m2 e' he
      cases d with
      |zero=>exact this.elim
      |succ d=>
       grind[sE]
     have hl: ∃l:List Int,es=l.map (λn=>[.lit (.int .i64 n)])/\∀n∈l,(Lit.int .i64 n).wf =true:=by
      clear mk m3 m1 m2
      induction es with
      |nil=>simp_all
      |cons e' es ih'=>
       obtain⟨n,rfl,hn⟩:=sP e' i8;obtain⟨l,rfl,hl⟩:=ih' (λe h=>sP e (i7 _ h));exact⟨n::l,rfl,by grind⟩
     obtain⟨l,rfl,hl⟩:=hl;refine⟨[.ints l],⟨l,rfl,by grind,hl⟩,lE.one (mk (.ints l) rfl X6 abL),?_⟩
     grind
    ·refine⟨[.view es],⟨es,rfl,m1,m2⟩,lE.one (mk (.view es) rfl rfl (by intro i e' he;exact he)),?_⟩
     grind
   grind
  ·rename_i fs hk;obtain⟨Xa,WY⟩:=aG hd;rw[hk]at jd;obtain⟨gs,rfl,hgs⟩:=qU jd;obtain⟨ys,n,_,_,bB,hyl,iP⟩:=Sl hu h;rw[oA hT]at bB
   obtain⟨parts,q1,q2,q3⟩:=lE.parts (m:=rd w) (Q:=sE C d) Xa bB (by
    intro k o ft hkk j hj;have FR:(gs.toList.map λf=>(f.offset,f.type))[k]? =some (o,ft):=by grind
    simp only[gr,my]at FR;obtain⟨g,hg1,hg2⟩:=FR;simp only[gt]at hg2;obtain⟨rfl,rfl⟩:=hg2;have anK:gs[k]? =some g:=by grind
    have:=iP k g anK;obtain⟨fe,de,ve,hTe⟩:=hC.get hj
    grind[oA])
   refine⟨parts.flatten,⟨parts,rfl,q2,q3⟩,by grind,?_⟩;intro j hj;simp at hj;subst hj;have:=q1.1
   grind
  ·rename_i n e hk;rw[hk]at jd;rw[km jd]at hu;split at hd
   ·rename_i ie lD;obtain⟨Xa,WY⟩:=aG hd;have Xa:=o8 Xa;obtain⟨fe,de,ve,hTe⟩:=hC.get lD;obtain⟨ys,m,_,_,bB,hyl,iP⟩:=Sq hu h;rw[oA hT]at bB
    obtain⟨parts,q1,q2,q3⟩:=lE.az (m:=rd w) (Q:=sE C d e) (z:=ie.size) (n:=n) (cs:=cs) K0 (by
     grind[oA])
    refine⟨parts.flatten,⟨parts,rfl,q2,q3⟩,q1,?_⟩;intro j hj;simp at hj;subst hj;rw[q1.1];omega
   grind
  grind
end
def DB (C:bQ)(d:Nat)(t:TypeId)(x:SV):Prop:=∃i,C.ti t=some i/\x.1=cH i.bY/\sE C d t x.2
def act {P:Program}{w:World}{r:Reach}{b:Nat}{t:TypeId}{v:Value}{d:TypeDesc}(hu:P.underlying t=some d)(hd:cH (eA d)=false)(h:Value.okWide P w r b t v):v.cells= #[v]:=by
 cases v with
 |agg cs=>
  unfold Value.okWide Cell.okWide Cell.ok at h
  grind[eA,cH]
 |_=>rfl
def acu {C:bQ}{d:Nat}{t:TypeId}{i:TI}{xs:List SC}(hi:C.ti t=some i)(hg:cH i.bY=false)(h:sE C d t xs): ∃c,xs= [c]:=by
 cases d with
 |zero=>exact h.elim
 |succ d=>
  unfold sE at h;simp only[hi]at h;split at h
  grind
  grind
  grind
  grind
  ·rename_i hk;rw[hk]at hg;cases hg
  ·rename_i hk;rw[hk]at hg;cases hg
  grind
section
variable {H:Type}{enc:TypeId × Value->H}{C:bQ}{w:World}{Uq:Nat->Bool}
theorem acv (hC:C.Ok){d:Nat}{r:Reach}{b0:Nat}{t:TypeId}{v:Value}{y:DataW H}{ps:List MemPlace}(hd:oz C d t=true)(oV:Value.okWide C.P w r b0 t v)(h:DataW.Trod enc C.P w 0 Uq true t v y ps):
  ∃x,DB C d t x/\eo (rd w) (rd w) v x:=by
 obtain⟨AL,hf⟩:=h;obtain⟨xs,h1,h2,h3⟩:=YF hC hd hf
 cases d with
 |zero=>grind[oz]
 |succ d=>
  have xq:=hd;unfold oz at xq;split at xq
  ·grind
  rename_i i hi;obtain⟨f,ds,v0,hT⟩:=hC.get hi;clear xq
  cases hg:cH i.bY with
  |false=>
   have l8:=act hT.IN (by rw[hT.bY];exact hg) oV;obtain⟨c,rfl⟩:=acu hi hg h1;refine⟨(false,[c]),⟨i,hi,hg.symm,h1⟩,?_⟩;refine⟨c,rfl,?_⟩;have:=h2.2 0 c rfl;rw[l8]at this;exact dq.mono (Mem.le_refl _) (dX _) this
  |true=>
   have: ∃cs,v= .agg cs:=by
    unfold Value.okWide at oV;rw[hT.IN]at oV;rw[<- hT.bY]at hg;cases ds<;>simp[eA,cH]at hg<;>(grind)
   obtain⟨cs,rfl⟩:=this;refine⟨(true,xs),⟨i,hi,hg.symm,h1⟩,?_⟩;refine⟨cs,rfl,by simpa [Value.cells]using h2.1.symm,λk c hk=>?_⟩;have:=h2.2 k c hk;have:=dq.mono (Mem.le_refl _) (dX (rd w)) this
   grind[Value.cells,Array.getD_eq_getD_getElem?]
def Jw (C:bQ)(d:Nat):List TypeId->List SV->Prop
 | [],[]=>True
 |t::ts,x::xs=>DB C d t x/\Jw C d ts xs
 |_,_=>False
theorem YG (hC:C.Ok){d:Nat}{r:Reach}{b0:Nat}: ∀ {ts:List TypeId} {vs:List Value} {ys:List (DataW H)} {ps:List MemPlace},(ts.all (oz C d))=true->
  (∀(j:Nat) t v,ts[j]? =some t->vs[j]? =some v->Value.okWide C.P w r b0 t v)->DataW.TrodAll enc C.P w 0 Uq true ts vs ys ps->
  ys.length=ts.length/\vs.length=ts.length/\∃xs,Jw C d ts xs/\xs.length=vs.length/\∀(k:Nat) (x:SV),xs[k]? =some x->eo (rd w) (rd w) (vs.getD k undef) x:=by
 intro ts
 induction ts with
 |nil=>
  intro vs ys ps _ _ h;cases vs<;>cases ys<;>simp[DataW.TrodAll]at h;exact⟨rfl,rfl,[],trivial,rfl,by grind⟩
 |cons t ts ih=>
  intro vs ys ps hd oV h
  cases vs with
  |nil=>grind[DataW.TrodAll]
  |cons v vs=>
   cases ys with
   |nil=>grind[DataW.TrodAll]
   |cons y ys=>
    obtain⟨p,q,h1,h2,_⟩:=h;simp only[List.all_cons,sC]at hd;obtain⟨x,x1,x2⟩:=acv hC hd.1 (oV 0 t v rfl rfl) h1;obtain⟨e1,e2,xs,f1,f2,f3⟩:=ih hd.2 (λj t' v' a b=>oV (j+1) t' v' br br) h2;refine⟨by grind,by grind,x::xs,⟨x1,f1⟩,by grind,λk z hk=>?_⟩
    grind
theorem Gf {P:Program}(hl:laidOutB P=true){W W':World}(hb:Below W.heap.size W W'): ∀ {ts:List TypeId} {vs:List Value} {ys:List (DataW H)} {ps:List MemPlace},(ts.all λt=>P.readableRec t&&decide (t<P.types.size))=true->
  DataW.TrodAll enc P W 0 (λ_=>true) true ts vs ys ps->(∀x∈ps,x.block<W.heap.size)->DataW.TrodAll enc P W' 0 (λb=>decide (b<W.heap.size)) true ts vs ys ps:=by
 intro ts
 induction ts with
 |nil=>
  grind[DataW.TrodAll]
 |cons t ts ih=>
  intro vs ys ps hd h ak
  cases vs with
  |nil=>grind[DataW.TrodAll]
  |cons v vs=>
   cases ys with
   |nil=>grind[DataW.TrodAll]
   |cons y ys=>
    obtain⟨p,q,h1,h2,rfl⟩:=h;simp only[List.all_cons,sC,CR]at hd;exact⟨p,q,Below.trod hl hd.1.1 hd.1.2 h1 hb (λx hx=>ak x (Pp _ hx)),ih br h2 (λx hx=>ak x (List.mem_append_right _ hx)),rfl⟩
theorem gh {mv mr:Mem}{v x:Value}(h:dq mv mr v (.lit x)):v=x:=ai6
def Jy (hC:C.Ok){f:FuncId}{fn:Func}{s:ChangeSpec}{d:Nat}{tb:TypeId}(hl:laidOutB C.P=true)
  (hp:(fn.params.toList.all (oz C d))=true)(Lc:(fn.params.toList.all λt=>C.P.readableRec t&&decide (t<C.P.types.size))=true)
  (hr:fn.resultTypes= #[tb])(hb:C.P.underlying tb=some .bool)(hv:s.vars= [])
  (hs: ∀ds:List (DataW H),ds.length=fn.params.toList.length->s.fn H (ds++[])= {results:=[.lit (.bool true)],args:=ds})
  (iX: ∀xs,Jw C d fn.params.toList xs->nN C.P C.gl f xs (.one (false,[.lit (.bool true)])))
  {W:World}(hG:eP C.gl (rd W)){base:Nat}{args:Array Value}{ds gs:List (DataW H)}{RT:List MemPlace}
  (oV: ∀(j:Nat) t v,fn.params[j]? =some t->args[j]? =some v->Value.okWide C.P W .any base t v)
  (hW:DataW.Whole enc C.P fn.params.toList s.vars false W args.toList ds gs RT):
  Calls C.P f args W λe W'=>∃v,e= .returned v/\s.post enc C.P fn false true false false W args v W':=by
 have hW':=hW;obtain⟨p,q,hA,hV,rfl,hfz,AM⟩:=hW;rw[hv]at hV;obtain⟨rfl,rfl⟩:gs= []/\q= []:=by grind[DataW.TrodVars]
 obtain⟨e1,e2,xs,f1,f2,f3⟩:=YG hC hp (λj t v a b=>oV j t v br br) hA;obtain⟨_,hc⟩:=(iX xs f1).pure;refine(hc (rd W) W args (Mem.le_refl _) hG ⟨by grind,λk x hk=>?_⟩).mono λe W' ⟨v,he,hbelow,il⟩=>?_
 ·have:=f3 k x hk;simp_all
 ·obtain⟨c,h1,h2⟩:=il;simp at h1;subst h1;obtain rfl:=gh h2;refine⟨_,he,ds,[],_,[],p,[],hW',?_,?_,?_,Below.frame hbelow _,λh=>by cases h⟩
  ·rw[hs ds e1,hr];exact trodAll_mk1 (shut_bool hb _)
  ·rw[hs ds e1];exact Gf hl hbelow Lc hA (λx hx=>by simpa using hW'.lt x (Pp _ hx))
  ·rw[hs ds e1,hv];rfl
end
theorem akK {C:bQ}{d:Nat}{xs:List SV}(h:Jw C d [] xs):xs= []:=by
 cases xs with
 |nil=>rfl
 |cons x xs=>exact h.elim
theorem aeE {C:bQ}{d:Nat}{t:TypeId}{ts:List TypeId}{xs:List SV}(h:Jw C d (t::ts) xs): ∃x ys,xs=x::ys/\DB C d t x/\Jw C d ts ys:=by
 cases xs with
 |nil=>exact h.elim
 |cons x xs=>exact⟨x,xs,rfl,h⟩
theorem akL {C:bQ}{d:Nat}{t:TypeId}{xs:List SV}(h:Jw C d [t] xs): ∃x,xs= [x]/\DB C d t x:=by grind[aeE,akK]
def akM {C:bQ}{d:Nat}{t u:TypeId}{xs:List SV}(h:Jw C d [t,u] xs): ∃x y,xs= [x,y]/\DB C d t x/\DB C d u y:=by grind[aeE,akL]
section
variable {C:bQ}{d:Nat}{t e:TypeId}{i:TI}{xs:List SC}
def Tf {k:IntKind}(hi:C.ti t=some i)(hk:i.bY= .int k)(h:sE C (d+1) t xs): ∃n,xs= [.lit (.int k n)]/\(Lit.int k n).wf =true:=by grind[sE]
def acw (hi:C.ti t=some i)(hk:i.bY= .int .i64)(h:sE C (d+1) t xs): ∃n:Int,xs= [.lit (.int .i64 n)]/\ -9223372036854775808<=n/\n<=9223372036854775807:=by
 obtain⟨n,h1,h2⟩:=Tf hi hk h;exact⟨n,h1,bounds_i64 h2⟩
def acx (hi:C.ti t=some i)(hk:i.bY= .str)(h:sE C (d+1) t xs): ∃s:ByteArray,xs= [.lit (.string s)]/\s.size<=maxLen:=by grind[sE]
def tC (hi:C.ti t=some i)(hk:i.bY= .slice e)(he:C.kG e=false)(h:sE C (d+1) t xs): ∃es:List (List SC),xs= [.view es]/\es.length<=maxLen/\∀e'∈es,sE C d e e':=by grind[sE]
def YH (C:bQ)(d:Nat):List (Nat × TypeId)->List SC->Prop
 | [],xs=>xs= []
 |(_,ft)::r,xs=>∃p q,xs=p++q/\sE C d ft p/\YH C d r q
theorem Mt: ∀ {fs:List (Nat × TypeId)} {parts:List (List SC)},parts.length=fs.length->(∀(k o:Nat) (ft:TypeId),fs[k]? =some (o,ft)->∃p,parts[k]? =some p/\sE C d ft p)->YH C d fs parts.flatten
 | [],[],_,_=>rfl
 |(o,ft)::fs,p::parts,hl,h=>by
  obtain⟨p',h1,h2⟩:=h 0 o ft rfl;simp at h1;subst h1;exact⟨p,parts.flatten,rfl,h2,Mt br λk o' ft' hk=>h (k+1) o' ft' br⟩
 | [],_::_,hl,_=>by grind
 |_::_,[],hl,_=>by grind
def lQ {fs:List (Nat × TypeId)}(hi:C.ti t=some i)(hk:i.bY= .struct fs)(h:sE C (d+1) t xs):YH C d fs xs:=by grind[sE,Mt]
def Mu {x:SV}(hi:C.ti t=some i)(hg:cH i.bY=false)(h:DB C d t x):x=(false,x.2)/\sE C d t x.2:=by
 obtain⟨j,h1,h2,h3⟩:=h
 grind
def YI {x:SV}(hi:C.ti t=some i)(hg:cH i.bY=true)(h:DB C d t x):x=(true,x.2)/\sE C d t x.2:=by
 obtain⟨j,h1,h2,h3⟩:=h
 grind
end
end Go.Fw
namespace Go.Fw
open Go.IntWalk
class dK (z:Int) (n:outParam Nat):Prop where
 eq:z=(n:Int)
instance agl (n:Nat):dK (n:Int) n:=⟨rfl⟩
instance amX:dK 0 0:=⟨rfl⟩
instance amY:dK 1 1:=⟨rfl⟩
instance amZ:dK 2 2:=⟨rfl⟩
instance am0:dK 3 3:=⟨rfl⟩
instance ahH (a b:Int)(m n:Nat) [h:dK a m] [k:dK b n]:dK (a+b) (m+n):=⟨by rw[h.eq,k.eq];simp⟩
instance ahI (a b:Int)(m n:Nat) [h:dK a m] [k:dK b n]:dK (a*b) (m*n):=⟨by rw[h.eq,k.eq];simp⟩
class BP (b:Bool) (p:outParam Prop):Prop where
 iff:b=true↔p
instance (priority:=low) bp_any (b:Bool):BP b (b=true):=⟨Iff.rfl⟩
instance ang (p:Prop) [Decidable p]:BP (decide p) p:=⟨wB⟩
instance anh (a b:Int):BP (a==b) (a=b):=⟨beq_iff_eq⟩
instance ani (a b:Int):BP (a != b) (a≠b):=⟨bne_iff_ne⟩
instance anj (b:Bool)(p:Prop) [h:BP b p]:BP (!b) (¬p):=⟨by rw[<- h.iff];grind⟩
instance ank (a b:Bool)(p q:Prop) [h:BP a p] [k:BP b q]:BP (a&&b) (p/\q):=⟨by rw[<- h.iff,<- k.iff];simp⟩
instance (priority:=high) bp_and_true (b:Bool)(p:Prop) [h:BP b p]:BP (b&&true) p:=⟨by rw[<- h.iff];simp⟩
instance aoe (a b:Bool)(p q:Prop) [h:BP a p] [k:BP b q]:BP (a || b) (p\/q):=⟨by rw[<- h.iff,<- k.iff];simp⟩
def BP.no {b:Bool}{p:Prop}(h:BP b p)(e:b=false): ¬p:=λhp=>by rw[h.iff.2 hp]at e;cases e
def BP.yes {b:Bool}{p:Prop}(h:BP b p)(e:b=true):p:=h.iff.1 e
def BP.eq_true {b:Bool}{p:Prop}(h:BP b p)(hp:p):b=true:=h.iff.2 hp
def BP.eq_false {b:Bool}{p:Prop}(h:BP b p)(hp: ¬p):b=false:=by
 cases e:b
 ·rfl
 ·exact absurd (h.iff.1 e) hp
def brp {b:Bool}{p X Y:Prop} [i:BP b p](h:p->X)(h': ¬p->Y):Brn b X Y:=oy (λe=>h (i.yes e)) λe=>h' (i.no e)
def bPt {b:Bool}{p X Y:Prop} [i:BP b p](hp:p)(h:X):Brn b X Y:=by rw[i.eq_true hp];exact bT h
def bPf {b:Bool}{p X Y:Prop} [i:BP b p](hp: ¬p)(h:Y):Brn b X Y:=by rw[i.eq_false hp];exact bF h
section
variable {C:bQ}{all:List Oper}{n0 i fid:Nat}{o:Oper}{rest:List Oper}{E:dP}{H:Hp}{t:bk}{K:dP->Hp->Nat->bk->Prop}{k:dP->Hp->bk->Prop}
def yr {g j:Nat}{b:Bool}{p:Prop} [w:BP b p](hg:o.guard=some (j,true))(hd:jF all j=some g)(hv:E.get g=some (.val (false,[.st (.lit (.bool b))])))
  (h:p->cS C (2*(n0+i)) o ((g,some (vw true))::E) H t λE' H' t'=>jx C all n0 rest (i+1) E' H' t' K)
  (h': ¬p->kQ o ((g,some (vw false))::E) H t λE' H' t'=>jx C all n0 rest (i+1) E' H' t' K):jx C all n0 (o::rest) i E H t K:=
 Jj hg hd hv (λe=>h (w.yes e)) λe=>h' (w.no e)
def nB {g j:Nat}{b:Bool}{p:Prop} [w:BP b p](hg:o.guard=some (j,false))(hd:jF all j=some g)(hv:E.get g=some (.val (false,[.st (.lit (.bool b))])))
  (h:p->kQ o ((g,some (vw true))::E) H t λE' H' t'=>jx C all n0 rest (i+1) E' H' t' K)
  (h': ¬p->cS C (2*(n0+i)) o ((g,some (vw false))::E) H t λE' H' t'=>jx C all n0 rest (i+1) E' H' t' K):jx C all n0 (o::rest) i E H t K:=
 Mf hg hd hv (λe=>h (w.yes e)) λe=>h' (w.no e)
def oIt {g j:Nat}{b:Bool}{p:Prop} [w:BP b p](hg:o.guard=some (j,true))(hd:jF all j=some g)(hv:E.get g=some (.val (false,[.st (.lit (.bool b))])))(hp:p)
  (h:cS C (2*(n0+i)) o ((g,some (vw true))::E) H t λE' H' t'=>jx C all n0 rest (i+1) E' H' t' K):jx C all n0 (o::rest) i E H t K:=
 yr hg hd hv (λ_=>h) λn=>absurd hp n
def oIf {g j:Nat}{b:Bool}{p:Prop} [w:BP b p](hg:o.guard=some (j,true))(hd:jF all j=some g)(hv:E.get g=some (.val (false,[.st (.lit (.bool b))])))(hp: ¬p)
  (h:kQ o ((g,some (vw false))::E) H t λE' H' t'=>jx C all n0 rest (i+1) E' H' t' K):jx C all n0 (o::rest) i E H t K:=
 yr hg hd hv (λy=>absurd y hp) λ_=>h
def oUt {g j:Nat}{b:Bool}{p:Prop} [w:BP b p](hg:o.guard=some (j,false))(hd:jF all j=some g)(hv:E.get g=some (.val (false,[.st (.lit (.bool b))])))(hp:p)
  (h:kQ o ((g,some (vw true))::E) H t λE' H' t'=>jx C all n0 rest (i+1) E' H' t' K):jx C all n0 (o::rest) i E H t K:=
 nB hg hd hv (λ_=>h) λn=>absurd hp n
def oUf {g j:Nat}{b:Bool}{p:Prop} [w:BP b p](hg:o.guard=some (j,false))(hd:jF all j=some g)(hv:E.get g=some (.val (false,[.st (.lit (.bool b))])))(hp: ¬p)
  (h:cS C (2*(n0+i)) o ((g,some (vw false))::E) H t λE' H' t'=>jx C all n0 rest (i+1) E' H' t' K):jx C all n0 (o::rest) i E H t K:=
 nB hg hd hv (λy=>absurd y hp) λ_=>h
def opK:Op->Nat
 | .binOp .. =>1
 | .unOp .. =>2
 | .load .. =>3
 | .store .. =>4
 | .indexAddr .. =>5
 | .call c=>match c.callee with
  | .builtin _=>6
  |_=>7
 | .slice .. =>8
 | .makeSlice .. =>8
 | .index .. =>8
 |_=>0
def kO (n:Nat)(_:opK o.op=n)(g:cS C fid o E H t k):cS C fid o E H t k:=g
def rP {r:DV}{u:Hp}{R:List Nat}(_:opK o.op=0)(h1: ∀K:j0,K r u R->fu C fid o (C.ev E.get) H.get K)
  (h2:Ga u H λH'=>ep o.dst r E λE'=>k E' H' ((R,u.map Prod.fst)::t)):cS C fid o E H t k:=rG h1 h2
abbrev lI (n:Int):Option DV:=some (.val (false,[.st (.lit (.int .i64 n))]))
def stp {r:DV}(h1:fu C fid o (C.ev E.get) H.get=λK=>K r [] [])(h2:ep o.dst r E λE'=>k E' H (([],[])::t)):cS C fid o E H t k:=
 rG (r:=r) (u:=[]) (R:=[]) (λK hK=>by grind) h2
variable {T:TypeId}{x y:Operand}{p:TypeId}{a b:Int}
theorem yt {op:BinOp}(ho:o.op= .binOp op T x y p)(hx:C.ev E.get x=lI a)(hy:C.ev E.get y=lI b)(hop:op≠ .shl /\op≠ .shr):fu C fid o (C.ev E.get) H.get=λK=>s7 op .i64 a b λv=>K (lit v) [] []:=by
 funext K;unfold fu;rw[ho];simp only[hx,hy,lI,LS]
 grind[qN]
def akN (ho:o.op= .binOp .add T x y p)(hx:C.ev E.get x=lI a)(hy:C.ev E.get y=lI b)(hb: -9223372036854775808<=a+b/\a+b<=9223372036854775807)
  (h2:ep o.dst (lit (.int .i64 (a+b))) E λE'=>k E' H (([],[])::t)):cS C fid o E H t k:=
 stp afV h2
def akO (ho:o.op= .binOp .sub T x y p)(hx:C.ev E.get x=lI a)(hy:C.ev E.get y=lI b)(hb: -9223372036854775808<=a -b/\a -b<=9223372036854775807)
  (h2:ep o.dst (lit (.int .i64 (a -b))) E λE'=>k E' H (([],[])::t)):cS C fid o E H t k:=
 stp afV h2
def akP (ho:o.op= .binOp .mul T x y p)(hx:C.ev E.get x=lI a)(hy:C.ev E.get y=lI b)(hb: -9223372036854775808<=a*b/\a*b<=9223372036854775807)
  (h2:ep o.dst (lit (.int .i64 (a*b))) E λE'=>k E' H (([],[])::t)):cS C fid o E H t k:=
 stp afV h2
def akQ (ho:o.op= .binOp .quo T x y p)(hx:C.ev E.get x=lI a)(hy:C.ev E.get y=lI b)(hb:(0<=a/\a<=9223372036854775807)/\0<b)
  (h2:ep o.dst (lit (.int .i64 (a/b))) E λE'=>k E' H (([],[])::t)):cS C fid o E H t k:=by
 have e:IntKind.i64.wrap (a.tdiv b)=a/b:=by
  rw[Int.tdiv_eq_ediv_of_nonneg hb.1.1];have h1:0<=a/b:=LF hb.1.1 K0;have h2:a/b<=a:=XP b hb.1.1
  grind[i64_in]
 refine rG (r:=lit (.int .i64 (a/b))) (u:=[]) (R:=[]) (λK hK=>?_) h2;rw[yt ho hx hy K9];exact⟨by omega,by grind⟩
def akR (ho:o.op= .binOp .rem T x y p)(hx:C.ev E.get x=lI a)(hy:C.ev E.get y=lI b)(hb:0<=a/\0<b)
  (h2:ep o.dst (lit (.int .i64 (a%b))) E λE'=>k E' H (([],[])::t)):cS C fid o E H t k:=by
 refine rG (r:=lit (.int .i64 (a%b))) (u:=[]) (R:=[]) (λK hK=>?_) h2;rw[yt ho hx hy K9];exact⟨by omega,by grind⟩
def aeF (ho:o.op= .binOp .quo T x y p)(hx:C.ev E.get x=lI a)(hy:C.ev E.get y=lI b)(hb:b≠0)
  (h2:ep o.dst (lit (.int .i64 (IntKind.i64.wrap (a.tdiv b)))) E λE'=>k E' H (([],[])::t)):cS C fid o E H t k:=by
 refine rG (r:=lit (.int .i64 (IntKind.i64.wrap (a.tdiv b)))) (u:=[]) (R:=[]) (λK hK=>?_) h2;rw[yt ho hx hy K9];exact⟨hb,hK⟩
def aeG (ho:o.op= .binOp .rem T x y p)(hx:C.ev E.get x=lI a)(hy:C.ev E.get y=lI b)(hb:b≠0)
  (h2:ep o.dst (lit (.int .i64 (a.tmod b))) E λE'=>k E' H (([],[])::t)):cS C fid o E H t k:=by
 refine rG (r:=lit (.int .i64 (a.tmod b))) (u:=[]) (R:=[]) (λK hK=>?_) h2;rw[yt ho hx hy K9];exact⟨hb,hK⟩
def akS (ho:o.op= .unOp .neg T x)(hx:C.ev E.get x=lI a)(hb: -9223372036854775808<a/\a<=9223372036854775807)
  (h2:ep o.dst (lit (.int .i64 (-a))) E λE'=>k E' H (([],[])::t)):cS C fid o E H t k:=by
 refine rG (r:=lit (.int .i64 (-a))) (u:=[]) (R:=[]) (λK hK=>?_) h2;have e:IntKind.i64.wrap (0 -a)= -a:=by grind[i64_in]
 unfold fu;rw[ho];simp only[hx,lI,Pd]
 grind
def agm {i:TI}{e:TypeId}{ie:TI}{l:List Int}{k':IntKind}{n:Int}(ho:o.op= .indexAddr T x y)(hx:C.ev E.get x=some (.val (false,[.st (.ints l)])))(hy:C.ev E.get y=some (.val (false,[.st (.lit (.int k' n))])))
  (hi:C.ti T=some i)(hc:i.bY= .slice e)(he:C.ti e=some ie)(hs:ie.size=1)(hb:0<=n/\n< (l.length:Int))
  (h2:ep o.dst (bm (.st (.ref [.lit (.int .i64 (l.getD n.toNat 0))]))) E λE'=>k E' H (([],[])::t)):cS C fid o E H t k:=by
 refine rG (r:=bm (.st (.ref [.lit (.int .i64 (l.getD n.toNat 0))]))) (u:=[]) (R:=[]) (λK hK=>?_) h2
 grind[fu,eQ,SC.ao,SC.elem]
theorem anl {i:TI}{e:TypeId}{ie:TI}{l:List (List SC)}{k':IntKind}{n:Int}(ho:o.op= .indexAddr T x y)(hx:C.ev E.get x=some (.val (false,[.st (.view l)])))(hy:C.ev E.get y=some (.val (false,[.st (.lit (.int k' n))])))
  (hi:C.ti T=some i)(hc:i.bY= .slice e)(he:C.ti e=some ie){el:List SC}(hb:0<=n/\l[n.toNat]? =some el)(hs:el.length=ie.size)
  (h2:ep o.dst (bm (.st (.ref el))) E λE'=>k E' H (([],[])::t)):cS C fid o E H t k:=by
 refine rG (r:=bm (.st (.ref el))) (u:=[]) (R:=[]) (λK hK=>?_) h2;unfold fu;rw[ho];simp only[hx,hy];unfold eQ;simp only[hi,hc,he,SC.ao];exact⟨hb.1,el,hb.2,hs,hK⟩
theorem agn {i:TI}{e:TypeId}{ie:TI}{id:Nat}{m:Bool}{z:Nat}{c:SC}{k':IntKind}{n:Int}(ho:o.op= .indexAddr T x y)(hx:C.ev E.get x=some (.val (false,[.own id])))(hy:C.ev E.get y=some (.val (false,[.st (.lit (.int k' n))])))
  (hi:C.ti T=some i)(hc:i.bY= .slice e)(he:C.ti e=some ie)(hH:H.get id=some (.row m z c))(hz:Nat.beq z ie.size=true)(hb:0<=n/\n< (c.len:Int))
  (h2:ep o.dst (bm (.cF id z n.toNat 0)) E λE'=>k E' H (([id],[])::t)):cS C fid o E H t k:=by
 refine rG (r:=bm (.cF id z n.toNat 0)) (u:=[]) (R:=[id]) (λK hK=>?_) h2;unfold fu
 grind[eQ]
def akT {i:TI}{id n:Nat}{m:Bool}{l:List Int}(ho:o.op= .load T x)(hx:C.ev E.get x=some (.val (false,[.cF id 1 n 0])))(hi:C.ti T=some i)(hg:cH i.bY=false)(hs:i.size=1)
  (hH:H.get id=some (.row m 1 (.ints l)))(hb:n<l.length)
  (h2:ep o.dst (lit (.int .i64 (l.getD n 0))) E λE'=>k E' H (([id],[])::t)):cS C fid o E H t k:=by
 refine rG (r:=lit (.int .i64 (l.getD n 0))) (u:=[]) (R:=[id]) (λK hK=>?_) h2;unfold fu;rw[ho];simp only[hx];unfold ot;simp only[hi,hH,hs,hg];exact ajH
def akU {i:TI}{id n:Nat}{l:List Int}(ho:o.op= .store T x y)(hx:C.ev E.get x=some (.val (false,[.cF id 1 n 0])))(hy:C.ev E.get y=lI a)(hi:C.ti T=some i)(hs:i.size=1)
  (hH:H.get id=some (.row true 1 (.ints l)))(hb:n<l.length)
  (h2:ep o.dst (.aJ []) E λE'=>k E' ((id,some (.row true 1 (.ints (l.set n a))))::H) (([id],[id])::t)):cS C fid o E H t k:=by
 refine rG (r:=.aJ []) (u:=[(id,some (.row true 1 (.ints (l.set n a))))]) (R:=[id]) (λK hK=>?_) h2;unfold fu;rw[ho];simp only[hx,hy];unfold qO;simp only[hi,hH,hs];show ∃e,_/\_;exact ajH
def akV {i:TI}{e:TypeId}{ie:TI}{l:List Int}{k':IntKind}{z:Int}{n:Nat} [nz:dK z n](ho:o.op= .indexAddr T x y)(hx:C.ev E.get x=some (.val (false,[.st (.ints l)])))(hy:C.ev E.get y=some (.val (false,[.st (.lit (.int k' z))])))
  (hi:C.ti T=some i)(hc:i.bY= .slice e)(he:C.ti e=some ie)(hs:ie.size=1)(hb:n<l.length)
  (h2:ep o.dst (bm (.st (.ref [.lit (.int .i64 (l.getD n 0))]))) E λE'=>k E' H (([],[])::t)):cS C fid o E H t k:=
 by rw[nz.eq]at hy;exact agm (n:=(n:Int)) ho hx hy hi hc he hs ⟨Int.natCast_nonneg n,by omega⟩ h2
def aeH {i:TI}{e:TypeId}{ie:TI}{id:Nat}{m:Bool}{z:Nat}{c:SC}{k':IntKind}{zz:Int}{n:Nat} [nz:dK zz n](ho:o.op= .indexAddr T x y)(hx:C.ev E.get x=some (.val (false,[.own id])))(hy:C.ev E.get y=some (.val (false,[.st (.lit (.int k' zz))])))
  (hi:C.ti T=some i)(hc:i.bY= .slice e)(he:C.ti e=some ie)(hH:H.get id=some (.row m z c))(hz:Nat.beq z ie.size=true)(hb:n<c.len)
  (h2:ep o.dst (bm (.cF id z n 0)) E λE'=>k E' H (([id],[])::t)):cS C fid o E H t k:=
 by rw[nz.eq]at hy;grind[agn]
def aeI {i:TI}{e:TypeId}{ie:TI}{l:List (List SC)}{k':IntKind}{z:Int}{n:Nat} [nz:dK z n](ho:o.op= .indexAddr T x y)(hx:C.ev E.get x=some (.val (false,[.st (.view l)])))(hy:C.ev E.get y=some (.val (false,[.st (.lit (.int k' z))])))
  (hi:C.ti T=some i)(hc:i.bY= .slice e)(he:C.ti e=some ie){el:List SC}(hb:l[n]? =some el)(hs:el.length=ie.size)
  (h2:ep o.dst (bm (.st (.ref el))) E λE'=>k E' H (([],[])::t)):cS C fid o E H t k:=
 by rw[nz.eq]at hy;grind[anl]
def akW {i:TI}{c:SC}{cs:List SC}(ho:o.op= .load T x)(hx:C.ev E.get x=some (.val (false,[.st (.ref (c::cs))])))(hi:C.ti T=some i)(hg:cH i.bY=false)(hs:i.size=1)
  (h2:ep o.dst (bm (.st c)) E λE'=>k E' H (([],[])::t)):cS C fid o E H t k:=by
 refine rG (r:=bm (.st c)) (u:=[]) (R:=[]) (λK hK=>?_) h2;unfold fu;rw[ho];simp only[hx];unfold ot;simp only[hi,hs,hg];exact hK
def akX {i:TI}{id off:Nat}{t':TypeId}{cs:List DC}{c:DC}(ho:o.op= .load T x)(hx:C.ev E.get x=some (.val (false,[.ptr id off])))(hi:C.ti T=some i)(hg:cH i.bY=false)(hs:i.size=1)
  (hH:H.get id=some (.box t' cs))(hc:cs[off]? =some c)
  (h2:ep o.dst (bm c) E λE'=>k E' H (([id],[])::t)):cS C fid o E H t k:=by
 refine rG (r:=bm c) (u:=[]) (R:=[id]) (λK hK=>?_) h2;have ak:=(kl.1 hc).1;have e:(cs.drop off).take 1= [c]:=by grind[List.drop_eq_getElem_cons]
 have hb:Nat.ble (off+1) cs.length=true:=Nat.ble_eq_true_of_le ak;unfold fu;rw[ho];simp only[hx];unfold ot;simp only[hi,hH,hs,hg,hb,e];exact hK
def akY {c:Call}{i:TI}{tt:TypeId}{ts:List TypeId}{e:TypeId}{l:List Int}(ho:o.op= .call c)(hc:c.callee= .builtin .len)(ha:c.argTypes.toList=tt::ts)(hx:(c.args.toList.map (C.ev E.get))= [some (.val (false,[.st (.ints l)]))])
  (hi:C.ti tt=some i)(hk:i.bY= .slice e)(h2:ep o.dst (lit (.int .i64 (l.length:Nat))) E λE'=>k E' H (([],[])::t)):cS C fid o E H t k:=by
 exact ah2
def aeJ {c:Call}{i:TI}{tt:TypeId}{ts:List TypeId}{e:TypeId}{l:List (List SC)}(ho:o.op= .call c)(hc:c.callee= .builtin .len)(ha:c.argTypes.toList=tt::ts)(hx:(c.args.toList.map (C.ev E.get))= [some (.val (false,[.st (.view l)]))])
  (hi:C.ti tt=some i)(hk:i.bY= .slice e)(h2:ep o.dst (lit (.int .i64 (l.length:Nat))) E λE'=>k E' H (([],[])::t)):cS C fid o E H t k:=by
 exact ah2
def aeK {c:Call}{i:TI}{tt:TypeId}{ts:List TypeId}{e:TypeId}{id z:Nat}{m:Bool}{l:List Int}(ho:o.op= .call c)(hc:c.callee= .builtin .len)(ha:c.argTypes.toList=tt::ts)(hx:(c.args.toList.map (C.ev E.get))= [some (.val (false,[.own id]))])
  (hi:C.ti tt=some i)(hk:i.bY= .slice e)(hH:H.get id=some (.row m z (.ints l)))(h2:ep o.dst (lit (.int .i64 (l.length:Nat))) E λE'=>k E' H (([id],[])::t)):cS C fid o E H t k:=by
 exact ah4
def YJ {c:Call}{i:TI}{tt:TypeId}{ts:List TypeId}{e:TypeId}{id z:Nat}{m:Bool}{l:List (List SC)}(ho:o.op= .call c)(hc:c.callee= .builtin .len)(ha:c.argTypes.toList=tt::ts)(hx:(c.args.toList.map (C.ev E.get))= [some (.val (false,[.own id]))])
  (hi:C.ti tt=some i)(hk:i.bY= .slice e)(hH:H.get id=some (.row m z (.view l)))(h2:ep o.dst (lit (.int .i64 (l.length:Nat))) E λE'=>k E' H (([id],[])::t)):cS C fid o E H t k:=by
 exact ah4
def akZ {i:TI}{e:TypeId}{ie:TI}{l:List Int}{k':IntKind}{n:Int}(ho:o.op= .slice T x none (some y) none)(hx:C.ev E.get x=some (.val (false,[.st (.ints l)])))(hy:C.ev E.get y=some (.val (false,[.st (.lit (.int k' n))])))
  (hi:C.ti T=some i)(hc:i.bY= .slice e)(he:C.ti e=some ie)(hs:ie.size=1)(hb:0<=n/\n<=(l.length:Int))
  (h2:ep o.dst (bm (.st (.ints (l.take n.toNat)))) E λE'=>k E' H (([],[])::t)):cS C fid o E H t k:=by
 refine rG (r:=bm (.st (.ints (l.take n.toNat)))) (u:=[]) (R:=[]) (λK hK=>?_) h2;unfold fu;rw[ho];simp only[hx,Option.map];unfold gL;simp only[hi,hc,he,bS,bv,hy,SC.ao,FX,SC.len,SC.zK,SC.sub,xL]
 grind
def ak0 {i:TI}{e:TypeId}{ie:TI}{l:List Int}{k':IntKind}{n:Int}(ho:o.op= .slice T x (some y) none none)(hx:C.ev E.get x=some (.val (false,[.st (.ints l)])))(hy:C.ev E.get y=some (.val (false,[.st (.lit (.int k' n))])))
  (hi:C.ti T=some i)(hc:i.bY= .slice e)(he:C.ti e=some ie)(hs:ie.size=1)(hb:0<=n/\n<=(l.length:Int))
  (h2:ep o.dst (bm (.st (.ints (l.drop n.toNat)))) E λE'=>k E' H (([],[])::t)):cS C fid o E H t k:=by
 refine rG (r:=bm (.st (.ints (l.drop n.toNat)))) (u:=[]) (R:=[]) (λK hK=>?_) h2;unfold fu;rw[ho];simp only[hx,Option.map];unfold gL;simp only[hi,hc,he,bS,bv,hy,SC.ao,FX,SC.len,SC.zK,SC.sub,lu]
 grind
end
def ak1:DC->DC->List (Nat × Nat)
 | .ptr a _,.ptr b _=>[(a,b)]
 | .own a,.own b=>[(a,b)]
 | .cF a _ _ _,.cF b _ _ _=>[(a,b)]
 |_,_=>[]
def PX:List DC->List DC->List (Nat × Nat)
 |a::l,b::l'=>ak1 a b++PX l l'
 |_,_=>[]
def YK (E:EF):dP->List (Nat × Nat)
 | []=>[]
 |(k,some (.val (_,xn)))::E'=>(match E k with
  |some (.val (_,cs))=>PX cs xn
  |_=>[])++YK E E'
 |_::E'=>YK E E'
def YL (H H':HF):List (Nat × Nat)->List (Nat × Nat)
 | []=>[]
 |(a,b)::l=>(match H a,H' b with
  |some (.box _ cs),some (.box _ xn)=>PX cs xn
  |_,_=>[])++YL H H' l
def aeL (n:Nat):List (Nat × Nat)->List (Nat × Nat)
 | []=>[]
 |(a,b)::l=>match Nat.beq b n with
  |true=>[(a,b)]
  |false=>aeL n l
def abD (ps:List (Nat × Nat)):Hp->List (Nat × Nat)
 | []=>[]
 |(n,_)::H=>aeL n ps++abD ps H
def YM:dP->List Nat
 | []=>[]
 |(k,_)::E=>k::YM E
def aeM (S S':St):List (Nat × Nat):=
 let p:=YK S.env.get S'.env;let p:=p++YL S.hp.get S'.hp.get p;let p:=p++YL S.hp.get S'.hp.get p
 abD p S'.hp
def ai {S S':St}(h:Td (YM S'.env) (aeM S S') S'.nx S=some S'):bs S S':=fA h
def fs:List Int->Int
 | []=>0
 |x::l=>if x≠0 then x else fs l
def acy (l:List Int):(l.find? (· ≠0)).getD 0=fs l:=by
 induction l with
 |nil=>rfl
 |cons x l ih=>grind[fs]
def aD {C:bQ}{c:Code}{S:St}{kx:Nat->St->Prop}{kr:St->Prop}(h:m6 C c S (λS'=>Tb C c S' kx kr) kx kr):Tb C c S kx kr:=
 ⟨S,bs.refl S,Hv (mF h.out (λ_ h=>h.out) (λ_ _ h=>h) λ_ h=>h)⟩
def YN (C:bQ){E:dP}{Hh:Hp}{nx:Nat}(id:Nat){t:TypeId}{cs:List DC}{l:List SC}{u:Hp}{r:List Nat}(hb:Hh.get id=some (.box t cs))(eG:bS Hh.get (C.kinds t) cs=some (l,u,r)):
  bs ⟨E,Hh,nx⟩ ⟨E,((id,some (.dV l))::u)++Hh,nx⟩:=by
 rintro F nt a w ⟨N,⟨q1,q2,q0,β,q3,q4⟩,q5⟩;have hg:ii C Hh.get ((id,some (.dV l))::u):=ah6;have h1:=hg.soft.tr (F:=F) (β:=β) (N:=N) (w:=w);have h2:=hg.heap q4;refine⟨N,⟨q1,q2,q0,β,?_,?_⟩,q5⟩
 ·show dD F β N (Hp.get (((id,some (.dV l))::u)++Hh)) w E.get a;rw[Hp.get_append];exact h1.env q4 q3
 grind[Hp.get_append]
def aQ {C:bQ}{x y:Code}{S:St}{kn:St->Prop}{kx:Nat->St->Prop}{kr:St->Prop}(h:m6 C x S (λS1=>∃S2,bs S1 S2/\m6 C y S2 kn kx kr) kx kr):m6 C (.seq x y) S kn kx kr:=by
 have h':ri C x S (λS=>∃S',bs S S'/\ri C y S' kn kx kr) kx kr:=mF h.out (λ_ ⟨S',hs,h⟩=>⟨S',hs,h.out⟩) (λ_ _ h=>h) λ_ h=>h;exact⟨h'⟩
def lnS {l:List Int}{x:Int}(h:l.length<4294967296):(SC.ints (l++[x])).len <=xy:=by grind[SC.len,xy]
def lnN {l:List Int}(h:l.length<=4294967296):(SC.ints ([]++l)).len <=xy:=by grind[SC.len,xy]
def lnC {l l':List Int}(h:l.length+l'.length<=4294967296):(SC.ints (l++l')).len <=xy:=by grind[SC.len,xy]
def lvS {l:List (List SC)}{x:List SC}(h:l.length<4294967296):(SC.view (l++[x])).len <=xy:=by grind[SC.len,xy]
def lvN {l:List (List SC)}(h:l.length<=4294967296):(SC.view ([]++l)).len <=xy:=by grind[SC.len,xy]
def lvC {l l':List (List SC)}(h:l.length+l'.length<=4294967296):(SC.view (l++l')).len <=xy:=by grind[SC.len,xy]
def uvS {x:List SC}{z:Nat}(h:x.length=z):(SC.view [x]).zK z:=by intro e he;grind
def uvN {x:List SC}{z:Nat}(h:x.length=z):(SC.view ([]++[x])).zK z:=by intro e he;grind
end Go.Fw
namespace Go.Fw
open Go.RowKit (Below)
open Classical
def bt (C:bQ)(f:FuncId)(nx:Nat)(xs:List DX)(Hs:Hp)(fM:List Nat)(r:DV)(mo:Hp):Prop:=
 iG C.P f=true/\∀(F:gN) (β:Nat->Option Nat) (N:Nat->Prop) (w:World) (vs:Array Value),bE C F->F.w0=w->(∀b,F.own b->live β Hs.get b)->ac F β N Hs.get w->(∀id,N id->tag id<nx)->
  vs.size=xs.length->(∀k x,xs[k]? =some x->aq F β N Hs.get w (vs.getD k undef) x)->
  Calls C.P f vs w λe w'=>∃v cL N',e= .returned v/\ac F cL N' mo.get w'/\b8 F cL N' mo.get w' v r/\∀id∈fM,∃b,β id=some b/\cL id=some b
def DC.dM (ok:Nat->Prop):DC->Prop
 | .ptr id _=>ok id
 | .own id=>ok id
 | .cF id _ _ _=>ok id
 | .mp id=>ok id
 | .sv _ id=>ok id
 |_=>True
def dY (ok:Nat->Prop)(x:DX):Prop:=∀d∈x.2,d.dM ok
def lF (ok:Nat->Prop):DV->Prop
 | .val x=>dY ok x
 | .aJ l=>∀x∈l,dY ok x
def co.dM (ok:Nat->Prop):co->Prop
 | .box _ cs=>∀d∈cs,d.dM ok
 | .aA _ l=>∀e∈l,∀d∈e,d.dM ok
 |_=>True
def cC (Hs mo:Hp):Hp:=mo++Hs.map λp=>(p.1,none)
theorem Hp.get_none {H:Hp}{id:Nat}(h:id∉H.map Prod.fst):H.get id=none:=by
 induction H with
 |nil=>rfl
 |cons p H ih=>
  obtain⟨j,b⟩:=p;simp only[ju,cQ,not_or]at h;rw[Hp.ar,aH _ _ _ h.1];grind
theorem Hp.dS {H:Hp}{id:Nat}{b:co}(h:H.get id=some b):id∈H.map Prod.fst:=by
 by_cases hm:id∈H.map Prod.fst;omega
 grind[Hp.get_none]
def oB (H:Hp)(K:HF)(id:Nat):H.on K id=if id∈H.map Prod.fst then H.get id else K id:=by
 induction H with
 |nil=>rfl
 |cons p H ih=>
  obtain⟨j,b⟩:=p;show bn _ _ _ id=_;rw[Hp.ar]
  grind[an,aH]
def acz (H:Hp)(K:HF)(id:Nat):Hp.on (H.map λp=>(p.1,(none:Option co))) K id=if id∈H.map Prod.fst then none else K id:=by
 rw[oB];have e:(H.map λp=>(p.1,(none:Option co))).map Prod.fst=H.map Prod.fst:=by simp_all
 rw[e];by_cases h:id∈H.map Prod.fst
 ·rw[if_pos h,if_pos h]
  cases hg:Hp.get (H.map λp=>(p.1,(none:Option co))) id with
  |none=>rfl
  |some b=>
   exfalso
   have: ∀ {H:Hp},Hp.get (H.map λp=>(p.1,(none:Option co))) id≠some b:=by
    intro H
    induction H with
    |nil=>simp[Hp.get]
    |cons p H ih=>
     intro h;rw[ju,Hp.ar]at h
     grind[an,aH]
   grind
 grind
def tD (Hs mo:Hp)(H:HF)(id:Nat):(cC Hs mo).on H id=if id∈mo.map Prod.fst then mo.get id else if id∈Hs.map Prod.fst then none else H id:=by
 unfold cC;rw[Hp.Us,oB];by_cases h:id∈mo.map Prod.fst
 grind
 ·rw[if_neg h,if_neg h,acz]
section
variable {C:bQ}{F:gN}{β cL:Nat->Option Nat}{N N':Nat->Prop}{H:HF}{w w':World}{Hs mo:Hp}{fid:Nat}
noncomputable def gN.hand (F:gN)(β:Nat->Option Nat)(H:HF)(Hs:Hp)(w:World):gN:=⟨w,MV F β H w,live β Hs.get,[],w.heap.size,MR F β H w⟩
def PY (hG:bE C F)(hR:ac F β N H w)(hs: ∀id b,Hs.get id=some b->H id=some b):bE C (F.hand β H Hs w):=by
 refine⟨eP.later hG hR,λb o v e=>xU hG hR e,λg cs hm fO hl=>?_,eP.mr hG,IZ hG hR,tk hG hR⟩;obtain⟨v,e1,_⟩:=(hG.ok g cs hm).1 0 cs[0] br;obtain⟨id,bz,e,hb⟩:=hl;exact th e1 (hG.Ut g cs hm fO) (lP hR ⟨id,bz,hs id bz e,hb⟩).2
def gS (hR:ac F β N H w)(hs: ∀id b,Hs.get id=some b->H id=some b){b:Nat}(h:(F.hand β H Hs w).dz b):F.dz b:=by
 rcases h with h|h
 ·exact .inl (o3 hR.below.size h)
 ·obtain⟨id,bz,e,hb⟩:=h;exact(lP hR ⟨id,bz,hs id bz e,hb⟩).2
def Jz (hR:ac F β N H w)(hs: ∀id b,Hs.get id=some b->H id=some b):(MV F β H w).le (MV (F.hand β H Hs w) β Hs.get w):=by
 intro b o v e;unfold MV;by_cases h1:(F.hand β H Hs w).dz b
 ·rw[if_pos h1];have h2:=gS hR hs h1;unfold MV at e;rw[if_pos h2]at e;split at e
  ·rename_i eG;have aow:fT β Hs.get b o:=λid bz e' hb=>eG id bz (hs id bz e') hb
   grind
  grind
 ·rw[if_neg h1];exact e
def Tg (_hG:bE C F)(hR:ac F β N H w)(hs: ∀id b,Hs.get id=some b->H id=some b):(MR F β H w).le (MR (F.hand β H Hs w) β Hs.get w):=by
 intro b o v e;unfold MR;by_cases h1:(F.hand β H Hs w).dz b
 ·rw[if_pos h1];have h2:=gS hR hs h1;unfold MR at e;rw[if_pos h2]at e;exact Jz hR hs b o v e
 ·rw[if_neg h1];exact e
theorem uO (hG:bE C F)(hR:ac F β N H w)(hs: ∀id b,Hs.get id=some b->H id=some b){v:Value}{d:DC}(h:cd F β N H w v d):cd (F.hand β H Hs w) β N Hs.get w v d:=by
 cases d with
 |st c=>exact dq.mono (Jz hR hs) (Tg hG hR hs) h
 |nil=>exact h
 |ptr id off=>exact h
 |own id=>exact⟨h.1,h.2.1,λbz z n e hz=>h.2.2 bz z n (hs id bz e) hz⟩
 |cF id z i off=>exact h
 |sv g id=>exact h
 |mp id=>exact h
def PZ (hG:bE C F)(hR:ac F β N H w)(hs: ∀id b,Hs.get id=some b->H id=some b){v:Value}{x:DX}(h:aq F β N H w v x):aq (F.hand β H Hs w) β N Hs.get w v x:=by
 unfold aq at*;split
 ·rename_i hx;rw[if_pos hx]at h
  grind[uO]
 ·rename_i hx;rw[if_neg hx]at h
  grind[uO]
theorem Vh (hG:bE C F)(hR:ac F β N H w)(hs: ∀id b,Hs.get id=some b->H id=some b):ac (F.hand β H Hs w) β N Hs.get w:=by
 have mv:=Jz hR hs (Hs:=Hs);have mr:=Tg hG hR hs (Hs:=Hs);refine⟨λid bz e=>⟨(hR.rel id bz (hs id bz e)).1,?_⟩,λi j b x y hi hj=>hR.inj i j b x y (hs i x hi) (hs j y hj),jv.refl _ _,λb o v e=>⟨xU hG hR e,λhm=>?_⟩⟩
 ·obtain⟨_,hB⟩:=hR.rel id bz (hs id bz e);have hm: ∀ {b:Nat},β id=some b->(F.hand β H Hs w).dz b:=λhb=>.inr ⟨id,bz,e,hb⟩
  cases bz with
  |box t cs=>
   obtain⟨b,arr,T,q1,q2,q3,q4,q5⟩:=hB;exact⟨b,arr,T,q1,hm q1,q3,q4,λk x hx=>uO hG hR hs (q5 k x hx)⟩
  |dV cs=>
   obtain⟨b,arr,T,q1,q2,q3,q4,q5⟩:=hB;exact⟨b,arr,T,q1,hm q1,q3,q4,λk x hx=>(q5 k x hx).mono mv mr⟩
  |row m z c=>
   obtain⟨q0,q1|⟨b,cap,q1,q2,arr,T,p1,p2,p3,p4,p5,p6,p7⟩⟩:=hB
   ·exact LO
   ·exact⟨q0,.inr ⟨b,cap,q1,hm q1,arr,T,p1,p2,p3,p4,p5,p6,λi e j x he hx=>(p7 i e j x he hx).mono mv (Mem.le_refl _)⟩⟩
  |aA z l=>
   obtain⟨q0,q1|⟨b,cap,arr,T,q1,q2,q3,q4,q5,q6⟩⟩:=hB
   ·exact LO
   ·exact⟨q0,.inr ⟨b,cap,arr,T,q1,hm q1,q3,q4,q5,λi e k x hi hx=>uO hG hR hs (q6 i e k x hi hx)⟩⟩
  |map es=>
   obtain⟨b,arr,ck,q1,q2,q3,q4,q5⟩:=hB;exact⟨b,arr,ck,q1,hm q1,q3,q4,λi k x e hi he=>let⟨a1,a2⟩:=q5 i k x e hi he;⟨a1,a2.mono mv mr⟩⟩
 ·have h2:=gS hR hs hm;have e:MV F β H w b o=some v:=e;unfold MV at e;rw[if_pos h2]at e;split at e
  ·rename_i eG;exact λid bz e' hb=>eG id bz (hs id bz e') hb
  grind
theorem Vi (hG:bE C F)(hR:ac F β N H w)(hf: ∀id,N id->tag id≠tag fid)(hs: ∀id b,Hs.get id=some b->H id=some b){fM:List Nat}
  (qG: ∀id∈fM,(∃t cs,Hs.get id=some (.box t cs))/\∀b',mo.get id=some b'->∃t cs,b'= .box t cs)
  (amo: ∀id∈mo.map Prod.fst,id∈fM\/tag id=tag fid)(OV: ∀id b,mo.get id=some b->b.dM λi=>i∈fM\/tag i=tag fid)
  (zH:ac (F.hand β H Hs w) cL N' mo.get w')(xm: ∀id∈fM,∃b,β id=some b/\cL id=some b){v:Value}{r:DV}(hv:b8 (F.hand β H Hs w) cL N' mo.get w' v r)(hmr:lF (λi=>i∈fM\/tag i=tag fid) r):
  ∃GR,Tr F β N H w GR (bf N fid) ((cC Hs mo).on H) w'/\ac F GR (bf N fid) ((cC Hs mo).on H) w'/\b8 F GR (bf N fid) ((cC Hs mo).on H) w' v r:=by
 let GR:Nat->Option Nat:=λid=>if tag id=tag fid then cL id else β id
 generalize hH2:(cC Hs mo).on H=H2;have iP: ∀id,H2 id=if id∈mo.map Prod.fst then mo.get id else if id∈Hs.map Prod.fst then none else H id:=λid=>by rw[<- hH2,tD]
 have hN: ∀ {id:Nat} {b:co},H id=some b->N id:=λe=>(hR.rel _ _ e).1
 have fB: ∀id,id∈fM\/tag id=tag fid->GR id=cL id/\bf N fid id:=by
  rintro id (h|h)
  ·obtain⟨⟨t,cs,e⟩,_⟩:=qG id h;have hn:=hN (hs id _ e);obtain⟨b,e1,e2⟩:=xm id h;exact⟨by grind,.inl hn⟩
  ·exact⟨if_pos h,.inr h⟩
 have xp: ∀id,N id->GR id=β id:=λid hn=>if_neg (hf id hn);have su: ∀ {id:Nat} {b:co},H2 id=some b->(mo.get id=some b/\(id∈fM\/tag id=tag fid))\/(id∉mo.map Prod.fst/\id∉Hs.map Prod.fst/\H id=some b):=by grind
 have OW: ∀ {id:Nat} {b:co} {x:Nat},H id=some b->id∉Hs.map Prod.fst->β id=some x->¬(F.hand β H Hs w).dz x:=by
  rintro id b x e hn hb (h|⟨iO,blk',e',jS⟩)
  ·have h1:=(hR.gb e hb).1;have h:w.heap.size<=x:=h;omega
  ·have:=hR.inj id iO x b blk' e (hs iO blk' e') hb jS
   grind[Hp.dS]
 have an3: ∀ {id:Nat} {b:co} {x:Nat},mo.get id=some b->cL id=some x->(F.hand β H Hs w).dz x:=λe hb=>(zH.gb e hb).2;have RU: ∀ {b:Nat},b<w.heap.size->¬(F.hand β H Hs w).dz b->w'.heap[b]? =w.heap[b]? :=λh1 h2=>zH.below.block _ h1 h2
 have an0: ∀ {b o:Nat},(F.hand β H Hs w).dz b->fT cL mo.get b o->fT GR H2 b o:=by
  intro b o hm eG id bz e hb
  rcases su e with⟨e',h⟩|⟨_,h2,e'⟩
  ·rw[(fB id h).1]at hb;exact eG id bz e' hb
  grind
 have abp: ∀ {b o:Nat} {v:Value},MV F β H w b o=some v->rd w' b o=some v/\(F.dz b->fT GR H2 b o):=by
  intro b o v e;by_cases h1:(F.hand β H Hs w).dz b
  ·obtain⟨a1,a2⟩:=zH.sT b o v e
   grind
  ·have IK:=xU hG hR e;have ak:=IS _ _ IK;refine⟨(Po (w:=w) (a:=⟨b,o,none⟩) (RU ak h1)).trans IK,λhF=>?_⟩;unfold MV at e;rw[if_pos hF]at e;split at e
   ·rename_i eG;intro id bz e' hb
    rcases su e' with⟨e'',h⟩|⟨_,_,e''⟩
    grind
    ·rw[xp id (hN e'')]at hb;exact eG id bz e'' hb
   grind
 have mvC:(MV F β H w).le (MV F GR H2 w'):=by
  intro b o v e;obtain⟨a1,a2⟩:=abp e;unfold MV;by_cases hF:F.dz b
  grind
  ·rw[if_neg hF];unfold MV at e;grind
 have mvG:(MV (F.hand β H Hs w) cL mo.get w').le (MV F GR H2 w'):=by
  intro b o v e;by_cases h1:(F.hand β H Hs w).dz b
  ·unfold MV at e;rw[if_pos h1]at e;split at e
   ·rename_i eG;unfold MV;rw[if_pos (gS hR hs h1),if_pos (an0 h1 eG)];exact e
   grind
  ·unfold MV at e;rw[if_neg h1]at e;exact mvC b o v e
 have mrC: ∀ {b o:Nat} {v:Value},MR F β H w b o=some v->MR F GR H2 w' b o=some v:=by
  intro b o v e;unfold MR at e ⊢;by_cases hF:F.dz b
  ·rw[if_pos hF]at e ⊢;exact mvC b o v e
  grind
 have mrG:(MR (F.hand β H Hs w) cL mo.get w').le (MR F GR H2 w'):=by
  intro b o v e;by_cases h1:(F.hand β H Hs w).dz b
  ·unfold MR at e ⊢;rw[if_pos h1]at e;rw[if_pos (gS hR hs h1)];exact mvG b o v e
  ·have e2:MR (F.hand β H Hs w) cL mo.get w' b o=(F.hand β H Hs w).mr0 b o:=by unfold MR;grind
   rw[e2]at e;exact mrC e
 have aem: ∀ {id:Nat} {b:co},(id∈fM\/tag id=tag fid)->H2 id=some b->mo.get id=some b:=by grind[Hp.dS]
 have rD: ∀ {v:Value} {d:DC},cd (F.hand β H Hs w) cL N' mo.get w' v d->d.dM (λi=>i∈fM\/tag i=tag fid)->cd F GR (bf N fid) H2 w' v d:=by
  intro v d h hm
  cases d with
  |st c=>exact dq.mono mvG mrG h
  |nil=>exact h
  |ptr id off=>
   exact K89
  |own id=>
   refine⟨(fB id hm).2,h.2.1,λbz z n e hz=>?_⟩;have:=h.2.2 bz z n (aem hm e) hz;unfold UN at*;rw[(fB id hm).1];omega
  |cF id z i off=>
   exact K89
  |sv g id=>
   exact K89
  |mp id=>
   exact K89
 have rX: ∀ {v:Value} {x:DX},aq (F.hand β H Hs w) cL N' mo.get w' v x->dY (λi=>i∈fM\/tag i=tag fid) x->aq F GR (bf N fid) H2 w' v x:=by
  intro v x h hm;unfold aq at*;split
  ·rename_i hx;rw[if_pos hx]at h;obtain⟨arr,h1,h2,h3⟩:=h;exact⟨arr,h1,h2,λk c hc=>rD (h3 k c hc) (hm c (jt hc))⟩
  ·rename_i hx;rw[if_neg hx]at h;obtain⟨c,h1,h2⟩:=h;exact⟨c,h1,rD h2 (hm c br)⟩
 have anM: ∀ {id:Nat} {b:co},N id->H2 id=some b->b.sz≠none->id∉mo.map Prod.fst/\id∉Hs.map Prod.fst/\H id=some b:=by
  intro id b hn e hz;rcases su e with⟨e',h⟩|h
  ·rcases h with h|h
   ·obtain⟨_,hb⟩:=qG id h;obtain⟨t,cs,rfl⟩:=hb b e';exact absurd rfl hz
   grind
  omega
 have afp:jv F.dz w w':=zH.below.mono λb _ h=>gS hR hs h
 have tr:Tr F β N H w GR (bf N fid) H2 w':=by
  refine⟨afp,λb o v hb eG e=>?_,λ_ h=>.inl h,xp,λid blk' hn e=>?_,λid blk' zn b arr T hn e hz hb hm he=>?_,λk x e=>?_⟩
  ·have wz:MV F β H w b o=some v:=by unfold MV;grind
   grind
  ·rcases su e with⟨e',h⟩|⟨_,_,e'⟩
   ·rcases h with h|h
    ·obtain⟨⟨t,cs,e0⟩,hb⟩:=qG id h;obtain⟨t',xn,rfl⟩:=hb blk' e';exact⟨_,hs id _ e0,trivial⟩
    grind
   ·exact⟨blk',e',blk'.fV⟩
  grind
  ·rw[RU (kM e) λhm=>?_];omega
   ·rcases hm with h|hl
    ·have:=kM e;have h:w.heap.size<=k:=h;omega
    ·obtain⟨id,bz,e1,e2⟩:=hl
     rcases Du hR ⟨id,bz,hs id bz e1,e2⟩with⟨arr,T,h⟩|⟨es,ck,h⟩
     grind
     grind
 refine⟨GR,tr,⟨λid bz e=>?_,λi j b x y hi hj bi bj=>?_,hR.below.trans afp,tr.sT hR.sT⟩,?_⟩
 ·rcases su e with⟨e',h⟩|⟨_,h2,e'⟩
  ·obtain⟨eb,hn⟩:=fB id h;refine⟨hn,?_⟩;obtain⟨_,hB⟩:=zH.rel id bz e';have hme:=OV id bz e'
   cases bz with
   |box t cs=>
    obtain⟨b,arr,T,q1,q2,q3,q4,q5⟩:=hB;exact⟨b,arr,T,by grind,gS hR hs q2,q3,q4,λk x hx=>rD (q5 k x hx) (hme x (jt hx))⟩
   |dV cs=>
    obtain⟨b,arr,T,q1,q2,q3,q4,q5⟩:=hB;exact⟨b,arr,T,by grind,gS hR hs q2,q3,q4,λk x hx=>(q5 k x hx).mono mvG mrG⟩
   |row m z c=>
    obtain⟨q0,q1|⟨b,cap,q1,q2,arr,T,p1,p2,p3,p4,p5,p6,p7⟩⟩:=hB
    ·exact X0
    ·exact⟨q0,.inr ⟨b,cap,by grind,gS hR hs q2,arr,T,p1,p2,p3,p4,p5,p6,λi e j x he hx=>(p7 i e j x he hx).mono mvG (Mem.le_refl _)⟩⟩
   |aA z l=>
    obtain⟨q0,q1|⟨b,cap,arr,T,q1,q2,q3,q4,q5,q6⟩⟩:=hB
    ·exact X0
    ·exact⟨q0,.inr ⟨b,cap,arr,T,by grind,gS hR hs q2,q3,q4,q5,λi e k x hi hx=>rD (q6 i e k x hi hx) (hme e (jt hi) x (jt hx))⟩⟩
   |map es=>
    obtain⟨b,arr,ck,q1,q2,q3,q4,q5⟩:=hB;exact⟨b,arr,ck,by grind,gS hR hs q2,q3,q4,λi k x e hi he=>let⟨a1,a2⟩:=q5 i k x e hi he;⟨a1,a2.mono mvG mrG⟩⟩
  ·have hn:=hN e';have eb:=xp id hn;refine⟨.inl hn,?_⟩;obtain⟨_,hB⟩:=hR.rel id bz e';have hw: ∀ {b:Nat},β id=some b->w'.heap[b]? =w.heap[b]? :=λhb=>RU (hR.gb e' hb).1 (OW e' h2 hb);have rd0: ∀ {v:Value} {d:DC},cd F β N H w v d->cd F GR (bf N fid) H2 w' v d:=λh=>tr.jr hR h
   cases bz with
   |box t cs=>
    obtain⟨b,arr,T,q1,q2,q3,q4,q5⟩:=hB;exact⟨b,arr,T,by grind,q2,by grind,q4,λk x hx=>rd0 (q5 k x hx)⟩
   |dV cs=>
    obtain⟨b,arr,T,q1,q2,q3,q4,q5⟩:=hB;exact⟨b,arr,T,by grind,q2,by grind,q4,λk x hx=>(q5 k x hx).mono tr.mv tr.mr⟩
   |row m z c=>
    obtain⟨q0,q1|⟨b,cap,q1,q2,arr,T,p1,p2,p3,p4,p5,p6,p7⟩⟩:=hB
    ·exact X0
    ·exact⟨q0,.inr ⟨b,cap,by grind,q2,arr,T,by grind,p2,p3,p4,p5,p6,λi e j x he hx=>(p7 i e j x he hx).mono tr.mv (Mem.le_refl _)⟩⟩
   |aA z l=>
    obtain⟨q0,q1|⟨b,cap,arr,T,q1,q2,q3,q4,q5,q6⟩⟩:=hB
    ·exact X0
    ·exact⟨q0,.inr ⟨b,cap,arr,T,by grind,q2,by grind,q4,q5,λi e k x hi hx=>rd0 (q6 i e k x hi hx)⟩⟩
   |map es=>
    obtain⟨b,arr,ck,q1,q2,q3,q4,q5⟩:=hB;exact⟨b,arr,ck,by grind,q2,by grind,q4,λi k x e hi he=>let⟨a1,a2⟩:=q5 i k x e hi he;⟨a1,a2.mono tr.mv tr.mr⟩⟩
 ·rcases su hi with⟨ei,h1⟩|⟨_,n1,ei⟩
  ·rcases su hj with⟨ej,h2⟩|⟨_,n2,ej⟩
   ·rw[(fB i h1).1]at bi;rw[(fB j h2).1]at bj;exact zH.inj i j b _ _ ei ej bi bj
   grind
  ·rcases su hj with⟨ej,h2⟩|⟨_,n2,ej⟩
   grind
   ·rw[xp i (hN ei)]at bi;rw[xp j (hN ej)]at bj;exact hR.inj i j b _ _ ei ej bi bj
 ·cases r with
  |val x=>exact rX hv hmr
  |aJ l=>
   obtain⟨arr,h1,h2,h3⟩:=hv;exact⟨arr,h1,h2,λk x hk=>rX (h3 k x hk) (hmr x (jt hk))⟩
theorem cd.less {M:Nat->Prop}{v:Value}{d:DC}(h:cd F β N H w v d)(hm:d.dM M):cd F β M H w v d:=by
 cases d with
 |st c=>exact h
 |nil=>exact h
 |ptr id off=>exact⟨hm,h.2⟩
 |own id=>exact⟨hm,h.2⟩
 |cF id z i off=>exact⟨hm,h.2⟩
 |sv g id=>exact⟨hm,h.2⟩
 |mp id=>exact⟨hm,h.2⟩
def aq.less {M:Nat->Prop}{v:Value}{x:DX}(h:aq F β N H w v x)(hm:dY M x):aq F β M H w v x:=by
 unfold aq at*;split
 ·rename_i hx;rw[if_pos hx]at h;obtain⟨arr,h1,h2,h3⟩:=h;exact⟨arr,h1,h2,λk c hc=>(h3 k c hc).less (hm c (jt hc))⟩
 ·rename_i hx;rw[if_neg hx]at h;obtain⟨c,h1,h2⟩:=h;exact⟨c,h1,h2.less (hm c br)⟩
theorem ir.less {M:Nat->Prop}{id:Nat}{b:co}(h:ir F β N H w id b)(hm:b.dM M):ir F β M H w id b:=by
 cases b with
 |box t cs=>obtain⟨b,arr,T,h1,h2,h3,h4,h5⟩:=h;exact⟨b,arr,T,h1,h2,h3,h4,λk x hx=>(h5 k x hx).less (hm x (jt hx))⟩
 |dV cs=>exact h
 |row m z c=>exact h
 |aA z l=>
  obtain⟨q0,q1|⟨b,cap,arr,T,q1,q2,q3,q4,q5,q6⟩⟩:=h
  ·exact LO
  ·exact⟨q0,.inr ⟨b,cap,arr,T,q1,q2,q3,q4,q5,λi e k x hi hx=>(q6 i e k x hi hx).less (hm e (jt hi) x (jt hx))⟩⟩
 |map es=>exact h
def ac.less {M:Nat->Prop}(h:ac F β N H w)(hm: ∀id b,H id=some b->M id/\b.dM M):ac F β M H w:=
 ⟨λid b e=>⟨(hm id b e).1,(h.rel id b e).2.less (hm id b e).2⟩,h.inj,h.below,h.sT⟩
def gv {f:FuncId}{nx:Nat}{xs:List DX}{fM:List Nat}{r:DV}(h:bt C f nx xs Hs fM r mo)(iT: ∀id∈Hs.map Prod.fst,tag id<nx)(hs: ∀id∈Hs.map Prod.fst,Hs.get id=H id)
  (zJ: ∀id b,Hs.get id=some b->b.dM λi=>i∈Hs.map Prod.fst)(B6: ∀x∈xs,dY (λi=>i∈Hs.map Prod.fst) x)
  (qG: ∀id∈fM,(∃t cs,Hs.get id=some (.box t cs))/\∀b',mo.get id=some b'->∃t cs,b'= .box t cs)
  (amo: ∀id∈mo.map Prod.fst,id∈fM\/tag id=tag fid)(OV: ∀id b,mo.get id=some b->b.dM λi=>i∈fM\/tag i=tag fid)(hmr:lF (λi=>i∈fM\/tag i=tag fid) r):
  bN C fid f xs H r (cC Hs mo) (Hs.map Prod.fst):=by
 refine⟨h.1,λF β N H' w vs OS hG hR hf nn dG=>?_⟩;have hs': ∀id b,Hs.get id=some b->H' id=some b:=λid b e=>by grind[Hp.dS]
 have W6:=Vh hG hR hs';have hR2:ac (F.hand β H' Hs w) β (λi=>i∈Hs.map Prod.fst) Hs.get w:=W6.less λid b e=>⟨Hp.dS e,zJ id b e⟩;have hc:=h.2 (F.hand β H' Hs w) β _ w vs (PY hG hR hs') rfl (λ_ h=>h) hR2 (λid hid=>iT id hid) nn λk x hx=>(PZ hG hR hs' (dG k x hx)).less (B6 x (jt hx));refine hc.mono λe w' he=>?_;obtain⟨v,cL,N',rfl,q1,q2,q3⟩:=he;obtain⟨GR,a1,a2,a3⟩:=Vi hG hR hf hs' qG amo OV q1 q3 q2 hmr
 grind
end
def iz:Nat->List DX->dP
 |_,[]=>[]
 |i,x::xs=>(i,some (.val x))::iz (i+1) xs
def P0 {xs:List DX}: ∀ {i s:Nat} {dv:DV},(iz i xs).get s=some dv->∃k x,s=i+k/\xs[k]? =some x/\dv= .val x:=by
 induction xs with
 |nil=>intro i s dv h;simp[iz,dP.get]at h
 |cons x xs ih=>
  intro i s dv h;unfold iz at h;rw[dP.ar]at h;simp only at h;by_cases hs:s=i
  ·rw[if_pos hs]at h;simp at h;subst h;exact⟨0,x,by omega,rfl,rfl⟩
  ·rw[if_neg hs]at h;obtain⟨k,y,e,h1,h2⟩:=ih h;exact⟨k+1,y,by omega,by simpa using h1,h2⟩
def ph:List DX->DV
 | [x]=>.val x
 |l=>.aJ l
section
variable {C:bQ}{fn:Func}{F:gN}{β:Nat->Option Nat}{N:Nat->Prop}{H:HF}{w:World}
theorem Vj {xs:List DX}{vs:List Value}(hl:vs.length=xs.length)(h: ∀k x,xs[k]? =some x->aq F β N H w (vs.getD k undef) x):b8 F β N H w (A9 vs) (ph xs):=by
 match xs,vs with
 | [],[]=>exact⟨#[],rfl,rfl,by simp⟩
 | [x],[v]=>exact h 0 x rfl
 |x::y::xs,v::u::vs=>
  refine⟨(v::u::vs).toArray,rfl,by simpa using hl,λk z hk=>?_⟩;have:=h k z hk;simpa [sw,jE]using this
def fw (hC:C.Ok){f:FuncId}{c:Code}{xs:List DX}{Hs mo:Hp}{nx:Nat}{r:DV}{ret:St->Prop}(hn:iG C.P f=true)(hf:C.P.funcs[f]? =some fn)(hb:fn.body=some c)(uJ:bM fn.ntmps c=true)(dG:xs.length<=fn.ntmps)
  (A:List (Nat × Nat))(hA: ∀p∈A,∃off,xs[p.1]? =some (false,[.ptr p.2 off]))(O4:aM (A.map Prod.fst) c=true)
  (eL: ∀S,ret S->∃m:List (Nat × Nat),cW m S.hp.get mo.get/\(∀p∈A,∃o off,S.env.get p.1=some (.val (false,[.ptr o off]))/\(o,p.2)∈m)/\
   er C S.hp.get S.env.get fn.results.toList λys=>∃zs,kS m ys=some zs/\ph zs=r)
  (h:m6 C c ⟨iz 0 xs,Hs,nx⟩ ret (λ_ _=>False) ret):bt C f nx xs Hs (A.map Prod.snd) r mo:=by
 refine⟨hn,λF β N w vs hG Cz jo hR hN nn xw=>?_⟩;let F1:gN:={F with fixed:=A.map λp=>(p.1,vs.getD p.1 undef),db:=w.heap.size};have hG1:bE C F1:=⟨hG.ok,hG.mv,hG.Ut,hG.rok,hG.rle,hG.mvr⟩;have W6:ac F1 β N Hs.get w:=⟨hR.rel,hR.inj,hR.below,hR.sT⟩;have FA:F1.base=w.heap.size:=by show F.w0.heap.size=_;rw[Cz]
 refine(callsIn_wide (n:=0)).1 (callsIn_of_wp_marks hf hb trivial ?_ rfl);have iP: ∀s,s<xs.length->(vs++Array.replicate (fn.ntmps -vs.size) undef).getD s undef=vs.getD s undef:=λs hs=>by simp[sw,Se,nn,hs]
 have hE:dD F1 β N Hs.get w (iz 0 xs).get {tmps:=vs++Array.replicate (fn.ntmps -vs.size) undef,defers:=[]}:=by
  intro s dv hs;obtain⟨k,x,h1,h2,rfl⟩:=P0 hs;rw[jZ]at h1;subst h1;have ak:s<xs.length:=(kl.1 h2).1;show aq _ _ _ _ _ ((vs++Array.replicate (fn.ntmps -vs.size) undef).getD s undef) x;rw[iP s ak];exact xw s x h2
 have ahv: ∀p∈F1.fixed,(vs++Array.replicate (fn.ntmps -vs.size) undef).getD p.1 undef=p.2:=by
  intro p hp;obtain⟨q,hq,rfl⟩:=dN.1 hp;obtain⟨off,e⟩:=hA q hq;exact iP _ (kl.1 e).1
 have hrel:Rel F1 fn.ntmps ⟨iz 0 xs,Hs,nx⟩ {tmps:=vs++Array.replicate (fn.ntmps -vs.size) undef,defers:=[]} w:=
  ⟨N,⟨by simp;omega,eB.nil _ _,ahv,β,hE,W6⟩,hN⟩
 have Pb: ∀S a w',ret S->Rel F1 fn.ntmps S a w'->LeavesInM Fence.wide 0 C.P fn a.tmps (λe w'=>∃v cL N',e= .returned v/\ac F cL N' mo.get w'/\b8 F cL N' mo.get w' v r/\∀id∈A.map Prod.snd,∃b,β id=some b/\cL id=some b) a.defers .returning w':=by
  rintro S a w' hr ⟨N1,⟨hs,hd,hfx,β1,hE1,W6⟩,hN1⟩;obtain⟨m,hm,han,hr⟩:=eL S hr;refine Aa (F:=F1) (S:=S) (β:=β1) (N:=N1) ake (λw' hB=>?_) a.defers w' ⟨hs,hE1,W6,hN1⟩ hd;obtain⟨ys,ws,GR,N2,⟨zs,h1,rfl⟩,ht,hR2,h2,h3,h4⟩:=Dx (a:={tmps:=a.tmps,defers:=[]}) hC hG1 hB.heap hB.env hr;have hR3:=hm.nq hR2;obtain⟨e1,e2⟩:=Hz h1
  have hv:b8 F1 (pG m GR) (yp m) mo.get w' (A9 ws) (ph zs):=by
   refine Vj (by rw[h3,e1]) λk x hk=>?_;obtain⟨d,c,d1,d2,rfl⟩:=e2 k x hk;exact hm.r8 (h4 k d d1) d2
  refine⟨_,Ba h2,_,pG m GR,yp m,rfl,⟨hR3.rel,hR3.inj,hR3.below,hR3.sT⟩,hv,λid hid=>?_⟩;obtain⟨p,hp,rfl⟩:=dN.1 hid;obtain⟨off,e⟩:=hA p hp;obtain⟨o,anI,e3,e4⟩:=han p hp;obtain⟨_,b,q1,q2⟩:cd F β N Hs.get w (vs.getD p.1 undef) (.ptr p.2 off):=aq.am (xw p.1 _ e);obtain⟨q3,b',q4,q5⟩:cd F1 β1 N1 S.hp.get w' (a.tmps.getD p.1 undef) (.ptr o anI):=aq.am (hB.env p.1 _ e3);have ww:=hfx (p.1,vs.getD p.1 undef) (dN.2 ⟨p,hp,rfl⟩);simp only at ww;rw[q5,q2]at ww;simp at ww;refine⟨b,q1,?_⟩;rw[hm.kH e4,ht.kH o q3,q4,ww.1]
 refine(wpIn_wide (n:=0)).2 (Hx (F:=F1) hC hG1 ake (by show aM ((A.map λp=>(p.1,vs.getD p.1 undef)).map Prod.fst) c=true;rw[zR];exact O4) uJ h.out hrel (λS a w' eL hr=>?_) (λ_ _ _ _ h=>h.elim) λS a w' eL hr=>?_)
 ·exact ab7
 ·exact ab7
end
end Go.Fw
namespace Go.Fw
open Go.RowKit (Below)
inductive Full (H:HF) (R:List Nat):DC->SC->Prop
 |st (c:SC):Full H R (.st c) c
 |nil (k:Bool):Full H R .nil (AU k)
 |any (d:DC):Full H R d .any
 |row {id:Nat} {m:Bool} {z:Nat} {c:SC} (hr:id∈R) (h:H id=some (.row m z c)):Full H R (.own id) c
 |aA {id z:Nat} {l:List (List DC)} {es:List (List SC)} (hr:id∈R) (h:H id=some (.aA z l)) (hl:es.length=l.length)
   (he: ∀(i:Nat) (e:List DC) (e':List SC),l[i]? =some e->es[i]? =some e'->e'.length=e.length)
   (hc: ∀(i:Nat) (e:List DC) (e':List SC) (k:Nat) (d:DC) (c:SC),l[i]? =some e->es[i]? =some e'->e[k]? =some d->e'[k]? =some c->Full H R d c)
   (oe: ∀(i:Nat) (e':List SC) (k:Nat) (c:SC),es[i]? =some e'->e'[k]? =some c->c.flat=true):Full H R (.own id) (.view es)
 |dV {id off:Nat} {cs:List SC} (hr:id∈R) (h:H id=some (.dV cs)):Full H R (.ptr id off) (.ref (cs.drop off))
 |box {id off:Nat} {t:TypeId} {ds:List DC} {cs:List SC} (hr:id∈R) (h:H id=some (.box t ds)) (hl:cs.length=ds.length) (hc: ∀(k:Nat) (d:DC) (c:SC),ds[k]? =some d->cs[k]? =some c->Full H R d c):
   Full H R (.ptr id off) (.ref (cs.drop off))
 |Xs {id z i off:Nat} {l:List (List DC)} {e:List DC} {cs:List SC} (hr:id∈R) (h:H id=some (.aA z l)) (hi:l[i]? =some e) (hl:cs.length=e.length) (hc: ∀(k:Nat) (d:DC) (c:SC),e[k]? =some d->cs[k]? =some c->Full H R d c):
   Full H R (.cF id z i off) (.ref (cs.drop off))
 |aeo {id z i off:Nat} {m:Bool} {c:SC} {e:List SC} (hr:id∈R) (h:H id=some (.row m z c)) (hi:c.elem i=some e):Full H R (.cF id z i off) (.ref (e.drop off))
 |sv {g id:Nat} {t:TypeId} {ds:List DC} {cs:List SC} (hr:id∈R) (h:H id=some (.box t ds)) (hl:cs.length=ds.length) (hc: ∀(k:Nat) (d:DC) (c:SC),ds[k]? =some d->cs[k]? =some c->Full H R d c):
   Full H R (.sv g id) (.fn g [] [cs])
def yu (H:HF)(R:List Nat)(x:DX)(y:SV):Prop:=y.1=x.1/\y.2.length=x.2.length/\∀(k:Nat) (d:DC) (c:SC),x.2[k]? =some d->y.2[k]? =some c->Full H R d c
def Mv (H:HF)(R:List Nat)(xs:List DX)(l:List SV):Prop:=l.length=xs.length/\∀(k:Nat) (x:DX) (y:SV),xs[k]? =some x->l[k]? =some y->yu H R x y
def oC:SC->Bool
 | .lit _=>true
 | .ref []=>true
 | .view []=>true
 | .ints []=>true
 |_=>false
def DD (x:SV):Bool:=x.2.all oC
def JA (c:SC):Prop:=∀(i:Nat) (e:List SC) (k:Nat) (x:SC),c.elem i=some e->e[k]? =some x->∃v,x= .lit v
def JB:mb->Prop
 | .one x=>DD x=true
 | .aJ l=>∀x∈l,DD x=true
 | .own _ c=>JA c
 | .mix _ l _ c=>JA c/\∀x∈l,∀o∈x.2,∀c,o=some c->oC c=true
 | .uK _ _=>False
section
variable {C:bQ}{F:gN}{β:Nat->Option Nat}{N:Nat->Prop}{H H':HF}{fid:Nat}{w w':World}{R:List Nat}
theorem DE (hG:bE C F)(hR:ac F β N H' w)(hH: ∀id∈R,H' id=H id){d:DC}{c:SC}(hf:Full H R d c): ∀ {v:Value},cd F β N H' w v d->dq (rd w) (rd w) v c:=by
 have wz:(MV F β H' w).le (rd w):=λb o v h=>xU hG hR h;have hmr:(MR F β H' w).le (rd w):=vT hG hR
 induction hf with
 |st c=>intro v h;exact dq.mono wz hmr h
 |nil k=>intro v h;have h:v= .slice none 0 0:=h;subst h;exact .empty _ _ X5 X5
 |any d=>intro v h;exact .any h.one_cell
 | @row id m z c hr h=>
  intro v hv;obtain⟨hn,h1,h2⟩:=hv;have hb:H' id=some (.row m z c):=by grind
  obtain⟨_,⟨hz,Xk,iE⟩,gD⟩:=hR.rel id _ hb
  rcases h2 _ _ _ hb rfl with⟨a1,a2,rfl⟩|⟨b,cap,arr,T,a1,rfl,a3,a4⟩
  ·exact .empty _ _ Xk a2
  ·by_cases h0:c.len=0
   ·rw[h0];exact .empty _ _ Xk h0
   rcases gD with⟨q,_⟩|⟨b',jD,q1,q2,arr',T',e1,e2,e3,e4,e5,e6,e7⟩;omega
   ·rw[a1]at q1;cases q1;rw[a3]at e1;cases e1;have gc:cap=jD:=by exact XZ
    subst gc;refine .view b 0 cap z (λk=>arr.getD k undef) Xk K0 hz e5 iE (λk hk=>?_) λi e j x he hx=>(e7 i e j x he hx).mono wz (Mem.le_refl _);exact abF
 | @aA id z l es hr h hl he hc oe ih=>
  intro v hv;obtain⟨hn,h1,h2⟩:=hv;have hb:H' id=some (.aA z l):=by grind
  obtain⟨_,⟨hz,iE⟩,gD⟩:=hR.rel id _ hb;have bB:(SC.view es).len =l.length:=hl
  rcases h2 _ _ _ hb rfl with⟨a1,a2,rfl⟩|⟨b,cap,arr,T,a1,rfl,a3,a4⟩
  ·exact .empty _ _ rfl K0
  ·by_cases h0:l.length=0
   ·rw[h0];exact .empty _ _ rfl K0
   rcases gD with⟨q,_⟩|⟨b',jD,arr',T',q1,q2,e1,e2,e3,e4⟩;omega
   ·rw[a1]at q1;cases q1;rw[a3]at e1;cases e1;have gc:cap=jD:=by exact XZ
    subst gc;rw[<- bB]
    have key: ∀(i:Nat) (e':List SC),es[i]? =some e'->∃e,l[i]? =some e/\e'.length=e.length:=λi e' hi=>by
     have ak:=(kl.1 hi).1;have OZ:i<l.length:=by omega
     exact⟨l[i],by grind,he i l[i] e' br hi⟩
    refine .view b 0 cap z (λk=>arr.getD k undef) rfl K0 hz K0 (λi e hi=>?_) (λk hk=>?_) λi e j x hi hx=>?_
    ·obtain⟨e0,g1,g2⟩:=key i e hi
     grind
    ·exact abF
    ·obtain⟨e0,g1,g2⟩:=key i e hi;have hj:=(kl.1 hx).1;have hj':j<e0.length:=by omega
     have hd:e0[j]? =some e0[j]:=by grind
     exact(ih i e0 e j e0[j] x g1 hi hd hx (e4 i e0 j e0[j] g1 hd)).flat (oe i e j x hi hx)
 | @dV id off cs hr h=>
  intro v hv;obtain⟨hn,b,jq,rfl⟩:=hv;have hb:H' id=some (.dV cs):=by grind
  obtain⟨_,b',arr,T,h1,h2,h3,h4,h5⟩:=hR.rel id _ hb;rw[jq]at h1;cases h1;exact p8 h3 h4 λk x hx=>(h5 k x hx).mono wz hmr
 | @box id off t ds cs hr h hl hc ih=>
  intro v hv;obtain⟨hn,b,jq,rfl⟩:=hv;have hb:H' id=some (.box t ds):=by grind
  obtain⟨_,b',arr,T,h1,h2,h3,h4,h5⟩:=hR.rel id _ hb;rw[jq]at h1;cases h1;refine p8 h3 K0 λk x hx=>?_;exact aiC
 | @sv g id t ds cs hr h hl hc ih=>
  intro v hv;obtain⟨hn,b,jq,rfl⟩:=hv;have hb:H' id=some (.box t ds):=by grind
  obtain⟨_,b',arr,T,h1,h2,h3,h4,h5⟩:=hR.rel id _ hb;rw[jq]at h1;cases h1;have aox:dq (rd w) (rd w) (.pointer (some ⟨b,0,none⟩)) (.ref (cs.drop 0)):=p8 h3 K0 λk x hx=>by exact aiC
  refine .fn _ _ (λ_=> #[]) rfl rfl (λj c hj=>by grind) (λj c hj=>by grind) (λj c hj=>by grind) (λj c k x hj=>by grind) λj c hj=>?_
  cases j with
  |zero=>simp_all
  |succ j=>grind
 | @Xs id z i off l e cs hr h hi hl hc ih=>
  intro v hv;obtain⟨hn,b,jq,rfl⟩:=hv;have hb:H' id=some (.aA z l):=by grind
  obtain⟨_,⟨hz,iE⟩,gD⟩:=hR.rel id _ hb
  rcases gD with⟨q,_⟩|⟨b',jD,arr',T',q1,q2,e1,e2,e3,e4⟩
  grind
  ·rw[jq]at q1;cases q1;have hez:e.length=z:=iE i e hi;have anZ:=(kl.1 hi).1;refine xX (o:=i*z) e1 ?_ λk x hx=>?_
   ·rw[e2,hl,hez];have:(i+1)*z<=jD*z:=kC z K0
    grind
   ·have hk:=(kl.1 hx).1;have qF:k<e.length:=by omega
    have hd:e[k]? =some e[k]:=by grind
    grind
 | @aeo id z i off m c e hr h hi=>
  intro v hv;obtain⟨hn,b,jq,rfl⟩:=hv;have hb:H' id=some (.row m z c):=by grind
  obtain⟨_,⟨hz,Xk,iE⟩,gD⟩:=hR.rel id _ hb
  rcases gD with⟨q,_⟩|⟨b',jD,q1,q2,arr',T',e1,e2,e3,e4,e5,e6,e7⟩
  grind
  ·rw[jq]at q1;cases q1;have hez:e.length=z:=iE i e hi;have anZ:=SC.ip hi;refine xX (o:=i*z) e1 ?_ λk x hx=>(e7 i e k x hi hx).mono wz (dX _);rw[e2,hez];have:(i+1)*z<=jD*z:=kC z K0
   grind
def Vk (hG:bE C F)(hR:ac F β N H' w)(hH: ∀id∈R,H' id=H id){x:DX}{y:SV}(hf:yu H R x y){v:Value}(hv:aq F β N H' w v x):eo (rd w) (rd w) v y:=by
 obtain⟨g,ds⟩:=x;obtain⟨g',cs⟩:=y;obtain⟨e,hl,hc⟩:=hf;simp only at e hl hc;subst e;cases g'
 ·obtain⟨c,R0,hr⟩:=hv;simp only at R0;subst R0;obtain⟨c',rfl⟩:=wA.1 af8;exact⟨c',rfl,DE hG hR hH (hc 0 c c' rfl rfl) hr⟩
 ·obtain⟨arr,h1,h2,h3⟩:=hv;simp only at h2 h3;refine⟨arr,h1,by grind,λk c hk=>?_⟩;simp only at hk;have ak:=(kl.1 hk).1;have OZ:k<ds.length:=by omega
  have hd:ds[k]? =some ds[k]:=by grind
  grind[DE]
theorem nC {mv mr mv' CB:Mem}{v:Value}{c:SC}(hm:oC c=true)(h:dq mv mr v c):dq mv' CB v c:=by
 unfold oC at hm;split at hm
 ·cases h with
  |lit h=>exact .lit h
  |empty _ _ hv=>grind[SC.ao]
  |view _ _ _ _ _ hv=>grind[SC.ao]
 ·exact ait
 ·exact aiX
 ·exact aiX
 grind
def yv {mv mr mv' CB:Mem}{v:Value}{x:SV}(hm:DD x=true)(h:eo mv mr v x):eo mv' CB v x:=by
 have hall: ∀c∈x.2,oC c=true:=wC.1 hm;unfold eo at*;split
 ·rename_i hx;rw[if_pos hx]at h
  grind[nC]
 ·rename_i hx;rw[if_neg hx]at h
  grind[nC]
def DF {mv mv':Mem}{b z cap:Nat}{c:SC}(hl:JA c)(h:LP w' mv b z c cap):LP w' mv' b z c cap:=by
 obtain⟨arr,T,h1,h2,h3,h4,h5,h6,h7⟩:=h;refine⟨arr,T,h1,h2,h3,h4,h5,h6,λi e j x he hx=>?_⟩;obtain⟨v,rfl⟩:=hl i e j x he hx;exact nC rfl (h7 i e j _ he hx)
theorem Bd {mv mv':Mem}{n:Nat}{v:Value}{r:mb}(hm:JB r)(h:qL mv n w' v r):qL mv' n w' v r:=by
 cases r with
 |one x=>exact yv hm h
 |aJ l=>
  obtain⟨arr,h1,h2,h3⟩:=h;exact⟨arr,h1,h2,λk x hx=>yv (hm x (jt hx)) (h3 k x hx)⟩
 |own z c=>
  rcases h with h|⟨b,cap,h1,h2,h3⟩
  ·exact .inl h
  ·exact .inr ⟨b,cap,h1,h2,DF hm h3⟩
 |mix t l z c=>
  obtain⟨vo,m,hvo,hr⟩:=h
  have cell: ∀ {m':Mem} {v:Value} {o:Option SC},(∀c,o=some c->oC c=true)->Py m vo v o->Py m' vo v o:=by
   intro m' v o ho h
   cases o with
   |none=>exact h
   |some c=>exact nC (ho c rfl) h
  have aom: ∀ {m':Mem} {v:Value} {x:Bool × List (Option SC)},x∈l->BJ m vo v x->BJ m' vo v x:=by
   intro m' v x hx h;have ho: ∀ {k:Nat} {o:Option SC},x.2[k]? =some o->∀c,o=some c->oC c=true:=λhk=>hm.2 x hx _ (jt hk);unfold BJ at*;split
   grind
   ·rename_i hg;rw[if_neg hg]at h;obtain⟨c,h1,h2⟩:=h;exact⟨c,h1,cell (ho (k:=0) br) h2⟩
  have tail: ∀ {m':Mem},(if t then ∃arr,v= .tuple arr/\arr.size=l.length/\∀k x,l[k]? =some x->BJ m' vo (arr.getD k undef) x else ∃x,l= [x]/\BJ m' vo v x):=by grind
  rcases hvo with⟨a1,a2,a3,a4,a5,_⟩|⟨b,cap,a1,a2,a3,_⟩
  ·exact⟨vo,_,.inl ⟨a1,a2,a3,a4,a5,rfl⟩,tail⟩
  ·exact⟨vo,_,.inr ⟨b,cap,a1,a2,DF hm.1 a3,rfl⟩,tail⟩
 |uK z c=>exact hm.elim
def iI {f:FuncId}{xs:List DX}{l:List SV}{r:mb}{rv:DV}{u:Hp}(hx:Mv H R xs l)(hs:nN C.P C.gl f l r)(hm:JB r)
  (hk:jb fid [] R (λa b c=>a=rv/\b=u/\c=R) r):bN C fid f xs H rv u R:=by
 rcases hs with hs|hs
 ·refine⟨hs.1,λF β N H' w vs hH hG hR hf nn hv=>?_⟩
  have dG:o4 (rd w) (rd w) vs l:=by
   refine⟨by rw[nn,hx.1],λk y hk=>?_⟩;have ak:=(kl.1 hk).1;have OZ:k<xs.length:=by rw[<- hx.1];omega
   have hd:xs[k]? =some xs[k]:=by grind
   exact Vk hG hR hH (hx.2 k xs[k] y hd hk) (hv k xs[k] hd)
  refine(hs.2 (rd w) w vs (Mem.le_refl _) (eP.later hG hR) dG).mono λe w1 he=>?_;obtain⟨v,rfl,sQ,lC⟩:=he;have hg:ii C H' []:=ii.kj (λp hp=>by cases hp);obtain⟨cL,r',u',R',⟨rfl,rfl,_⟩,q1,q2,q3⟩:=Dd (K:=λa b c=>a=rv/\b=u/\c=R) (u:=[]) (rs:=R) (fid:=fid) hR (λh=>hf _ h rfl) hg sQ (Bd (mv':=MV F β H' w) hm lC) hk
  grind
 ·exact ajV
end
def acA {P:Program}{gl:s6}{f:FuncId}{g z cap:Nat}{cs:List SC}{es:List (List SC)}{rest:List SV}{r:mb}(hs:nN P gl f ((false,[.view es])::rest) r)(hm:JB r)(hg:(g,cs)∈gl)(hz:0<z)(hn:0<es.length)
  (gc:es.length<=cap)(bB: ∀e∈es,e.length=z)(Uf: ∀(i:Nat) (e:List SC) (j:Nat) (x:SC),es[i]? =some e->e[j]? =some x->cs[i*z+j]? =some x):nN P gl f ((false,[.raw (.slice (some ⟨g,0,none⟩) es.length cap)])::rest) r:=by
 rcases hs with hs|hs
 ·refine .inl ⟨hs.1,λmv w vs wz hG hv=>?_⟩;obtain⟨nn,hv⟩:=hv;have amk: ∀(i:Nat) (e:List SC),(SC.view es).elem i=some e->e.length=z:=λi e he=>bB e (jt he)
  have dG:o4 (rd w) (rd w) vs ((false,[.view es])::rest):=by
   refine⟨nn,λk x hk=>?_⟩
   cases k with
   |succ k=>exact(hv (k+1) x br).mono wz (Mem.le_refl _)
   |zero=>
    simp only[Ux,lK]at hk;subst hk;obtain⟨c,hc,hr⟩:=hv 0 _ rfl;simp only[BI,r9]at hc;subst hc;generalize vs.getD 0 undef=v0 at hr
    cases hr with
    |empty _ _ hv=>grind[SC.ao]
    |view _ _ _ _ _ hv=>grind[SC.ao]
    |raw sP=>
     refine⟨_,rfl,?_⟩;have amO:es.length=(SC.view es).len :=rfl;have fB:=hG g cs hg;rw[amO];refine .view g 0 cap z (λk=>(rd w g k).getD undef) rfl hn hz gc amk (λk hk=>?_) λi e j x he hx=>?_
     ·have hk:k<es.length*z:=hk;have h1:k/z<es.length:=Nat.div_lt_of_lt_mul br;have h2:k%z<z:=sZ _ hz;have he:es[k/z]? =some es[k/z]:=by grind
      have hez:=bB _ (jt he);have hx:es[k/z][k%z]? =some es[k/z][k%z]:=by grind
      obtain⟨v,q1,_⟩:=fB.1 _ _ (Uf _ _ _ _ he hx);have e1:k/z*z+k%z=k:=Nat.div_add_mod' k z
      grind
     ·obtain⟨v,q1,q2⟩:=fB.1 _ _ (Uf _ _ _ _ he hx);rw[q1];exact q2.mono (dX _) (Mem.le_refl _)
  exact(hs.2 (rd w) w vs (Mem.le_refl _) hG dG).mono λe w1 he=>let⟨v,h1,h2,h3⟩:=he;⟨v,h1,h2,Bd hm h3⟩
 ·exact ajV
open Classical
def DC.rn (ρ:Nat->Nat):DC->DC
 | .ptr id off=>.ptr (ρ id) off
 | .own id=>.own (ρ id)
 | .cF id z i off=>.cF (ρ id) z i off
 | .mp id=>.mp (ρ id)
 | .sv g id=>.sv g (ρ id)
 | .st c=>.st c
 | .nil =>.nil
def co.rn (ρ:Nat->Nat):co->co
 | .box t cs=>.box t (cs.map (DC.rn ρ))
 | .aA z l=>.aA z (l.map λe=>e.map (DC.rn ρ))
 | .dV cs=>.dV cs
 | .row m z c=>.row m z c
 | .map es=>.map es
def Gg (ρ:Nat->Nat)(x:DX):DX:=(x.1,x.2.map (DC.rn ρ))
def KV (ρ:Nat->Nat):DV->DV
 | .val x=>.val (Gg ρ x)
 | .aJ l=>.aJ (l.map (Gg ρ))
def sc (ks:List Nat)(ρ:Nat->Nat):List (Nat × Nat):=ks.map λk=>(k,ρ k)
def jU {ks:List Nat}{ρ:Nat->Nat}{o n:Nat}:(o,n)∈sc ks ρ↔o∈ks/\n=ρ o:=by
 simp only[sc,dN,gt];constructor
 ·rintro⟨k,hk,rfl,rfl⟩;exact⟨hk,rfl⟩
 ·rintro⟨hk,rfl⟩;exact⟨o,hk,rfl,rfl⟩
theorem uP {ks:List Nat}{ρ:Nat->Nat}{k:Nat}(h:k∈ks):bO (sc ks ρ) k=some (ρ k):=by
 induction ks with
 |nil=>cases h
 |cons a ks ih=>
  show bO ((a,ρ a)::sc ks ρ) k=_;simp only[bO];by_cases e:k=a
  ·subst e;simp
  ·have e':Nat.beq k a=false:=by
    cases hb:Nat.beq k a
    ·rfl
    ·exact absurd (o8 hb) e
   rw[e'];exact ih ((cQ.1 h).resolve_left e)
def YO {ks:List Nat}{ρ:Nat->Nat}{d:DC}(h:d.dM (· ∈ks)):m7 (sc ks ρ) d=some (d.rn ρ):=by
 cases d<;>simp only[m7,DC.rn];all_goals(have h:_∈ks:=h;rw[uP h])
def nQ {ks:List Nat}{ρ:Nat->Nat}: ∀ {l:List DC},(∀d∈l,d.dM (· ∈ks))->eX (sc ks ρ) l=some (l.map (DC.rn ρ))
 | [],_=>rfl
 |d::l,h=>by
  simp only[eX];rw[YO (h d i8),nQ λx hx=>h x (i7 _ hx)];rfl
def HA {ks:List Nat}{ρ:Nat->Nat}: ∀ {l:List DX},(∀x∈l,dY (· ∈ks) x)->kS (sc ks ρ) l=some (l.map (Gg ρ))
 | [],_=>rfl
 |x::l,h=>by
  simp only[kS];rw[nQ (h x i8),HA λy hy=>h y (i7 _ hy)];rfl
def HB {ks:List Nat}{ρ:Nat->Nat}{v:DV}(h:lF (· ∈ks) v):Bc (sc ks ρ) v=some (KV ρ v):=by
 cases v with
 |val x=>simp only[Bc];rw[nQ h];rfl
 |aJ l=>simp only[Bc];rw[HA h];rfl
def Mw {ks:List Nat}{ρ:Nat->Nat}: ∀ {l:List (List DC)},(∀e∈l,∀d∈e,d.dM (· ∈ks))->fI (sc ks ρ) l=some (l.map λe=>e.map (DC.rn ρ))
 | [],_=>rfl
 |e::l,h=>by
  simp only[fI];rw[nQ (h e i8),Mw λx hx=>h x (i7 _ hx)];rfl
def P1 {ks:List Nat}{ρ:Nat->Nat}{b:co}(h:b.dM (· ∈ks)):fm (sc ks ρ) b=some (b.rn ρ):=by
 cases b with
 |box t cs=>simp only[fm];rw[nQ h];rfl
 |aA z l=>simp only[fm];rw[Mw h];rfl
 |_=>rfl
structure m8 (ks:List Nat) (ρ:Nat->Nat) (H H':HF):Prop where
 nd:ks.Nodup
 inj: ∀i∈ks,∀j∈ks,ρ i=ρ j->i=j
 dM: ∀k b,H k=some b->b.dM (· ∈ks)
 heap: ∀n b',H' n=some b'->∃o b,o∈ks/\n=ρ o/\H o=some b/\b'=b.rn ρ
def m8.ok {ks:List Nat}{ρ:Nat->Nat}{H H':HF}(h:m8 ks ρ H H'):cW (sc ks ρ) H H':=by
 refine⟨?_,?_,λn b' e=>?_⟩
 ·have:(sc ks ρ).map Prod.fst=ks:=by exact X3
  rw[this];exact h.nd
 ·have:(sc ks ρ).map Prod.snd=ks.map ρ:=by exact X3
  rw[this];have hn:=h.nd;have hi:=h.inj;clear h this
  induction ks with
  |nil=>exact G0
  |cons a ks ih=>
   rw[ju,zO];rw[zO]at hn;refine⟨λhm=>?_,ih hn.2 λi kA j hj=>hi i (i7 _ kA) j (i7 _ hj)⟩;obtain⟨k,hk,e⟩:=dN.1 hm;have:=hi k (i7 _ hk) a i8 e;subst this;exact hn.1 hk
 ·obtain⟨o,b,h1,h2,h3,h4⟩:=h.heap n b' e;exact⟨o,b,jU.2 ⟨h1,h2⟩,h3,by rw[h4];exact P1 (h.dM o b h3)⟩
section
variable {C:bQ}{f:FuncId}{nx nx0:Nat}{xs xs0:List DX}{Hs Hs0 mo Hs1:Hp}{fM:List Nat}{r:DV}{ks:List Nat}{ρ:Nat->Nat}
def bt.inn (h:bt C f nx (xs0.map (Gg ρ)) Hs fM r mo)(hR:m8 ks ρ Hs0.get Hs.get)(hall: ∀o b,Hs0.get o=some b->o∈ks/\Hs.get (ρ o)=some (b.rn ρ))(iT: ∀k∈ks,tag (ρ k)<nx)(B6: ∀x∈xs0,dY (· ∈ks) x)
  (qG: ∀id∈fM,id∈ks/\ρ id=id):bt C f nx0 xs0 Hs0 fM r mo:=by
 have fB:=hR.ok;refine⟨h.1,λF β N w vs hG Cz jo hH hN nn hv=>?_⟩;have hH2:=fB.nq hH;have e: ∀ {k:Nat},k∈ks->pG (sc ks ρ) β (ρ k)=β k:=λhk=>fB.kH (jU.2 ⟨hk,rfl⟩);refine(h.2 F (pG (sc ks ρ) β) (yp (sc ks ρ)) w vs hG Cz (λb hb=>?_) hH2 (λid hid=>?_) (by rw[nn];simp) (λk x hk=>?_)).mono λe' w' he=>?_
 ·obtain⟨id,bz,q1,q2⟩:=jo b hb;obtain⟨q3,q4⟩:=hall id bz q1;exact⟨ρ id,_,q4,by rw[e q3];exact q2⟩
 ·obtain⟨o,ho⟩:=hid;obtain⟨q1,q2⟩:=jU.1 ho;rw[q2];exact iT o q1
 ·exact aig
 ·obtain⟨v,cL,N',rfl,q1,q2,q3⟩:=he;refine⟨v,cL,N',rfl,q1,q2,λid hid=>?_⟩;obtain⟨b,g1,g2⟩:=q3 id hid;obtain⟨g3,g4⟩:=qG id hid;refine⟨b,?_,g2⟩;rw[<- e g3,g4];exact g1
def bt.out (h:bt C f nx xs Hs fM r mo)(hR:m8 ks ρ mo.get Hs1.get)(hr:lF (· ∈ks) r)(qG: ∀id∈fM,id∈ks/\ρ id=id):bt C f nx xs Hs fM (KV ρ r) Hs1:=by
 have fB:=hR.ok;refine⟨h.1,λF β N w vs hG Cz jo hH hN nn hv=>(h.2 F β N w vs hG Cz jo hH hN nn hv).mono λe' w' he=>?_⟩;obtain⟨v,cL,N',rfl,q1,q2,q3⟩:=he;refine⟨v,pG (sc ks ρ) cL,yp (sc ks ρ),rfl,fB.nq q1,fB.vQ q2 (HB hr),λid hid=>?_⟩;obtain⟨b,g1,g2⟩:=q3 id hid;obtain⟨g3,g4⟩:=qG id hid;refine⟨b,g1,?_⟩;have:=fB.kH (β:=cL) (jU.2 ⟨g3,rfl⟩);rw[g4]at this;rw[this];exact g2
end
def fresh (n root id:Nat):Nat:=match Nat.beq id root with
 |true=>id
 |false=>2*(n*4294967296+id)+1
def j8 (n root:Nat):fresh n root root=root:=by simp[fresh]
def qf {n root id:Nat}(h:id≠root):fresh n root id=2*(n*4294967296+id)+1:=by
 have e':Nat.beq id root=false:=by
  cases hb:Nat.beq id root
  ·rfl
  ·exact absurd (o8 hb) h
 simp[fresh,e']
theorem JC {id:Nat}(h:id%2=1):tag id=id/8589934592:=by
 unfold tag;rw[h]
def acB {n k:Nat}(hk:k<4294967296):(2*(n*4294967296+k)+1)/8589934592=n:=by
 have e:2*(n*4294967296+k)+1=(2*k+1)+8589934592*n:=by omega
 rw[e,Nat.add_mul_div_left _ _ K0,Nat.div_eq_of_lt K0,jZ]
def qg {n root id:Nat}(h:id≠root)(hl:id<4294967296):tag (fresh n root id)=n:=by rw[qf h,JC K0,acB hl]
def HC {n root:Nat}{i j:Nat}(hi:i<4294967296)(hj:j<4294967296)(hr:tag root≠n\/root<2*(n*4294967296)+1)(h:fresh n root i=fresh n root j):i=j:=by
 by_cases h1:i=root
 ·by_cases h2:j=root
  ·rw[h1,h2]
  ·exfalso;subst h1;have ht:=qg (n:=n) h2 hj;rw[j8]at h;rw[<- h]at ht;rcases hr with hr|hr
   ·exact hr ht
   ·rw[qf h2]at h;omega
 ·by_cases h2:j=root
  ·exfalso;subst h2;have ht:=qg (n:=n) h1 hi;rw[j8]at h;rw[h]at ht;rcases hr with hr|hr
   ·exact hr ht
   ·rw[qf h1]at h;omega
  ·rw[qf h1,qf h2]at h;omega
abbrev ah (T:Hp):List Nat:=T.map Prod.fst
def cN (ρ:Nat->Nat)(T:Hp):Hp:=T.map λp=>(ρ p.1,p.2.map (co.rn ρ))
theorem dj (ρ:Nat->Nat)(T:Hp):ah (cN ρ T)=(ah T).map ρ:=by simp[ah,cN,FV]
def jN {ρ:Nat->Nat}: ∀ {T:Hp},(∀i∈ah T,∀j∈ah T,ρ i=ρ j->i=j)->∀k∈ah T,(cN ρ T).get (ρ k)=(T.get k).map (co.rn ρ)
 | [],_,k,hk=>by cases hk
 |(a,b)::T,hi,k,hk=>by
  show Hp.get ((ρ a,b.map (co.rn ρ))::cN ρ T) (ρ k)=_;rw[Hp.ar,Hp.ar];by_cases e:k=a
  ·subst e;rw[an,an]
  ·have qF:k∈ah T:=(cQ.1 hk).resolve_left e;rw[aH _ _ _ e,aH _ _ _ λh=>e (hi k hk a i8 h)];exact jN (λi h1 j h2=>hi i (i7 _ h1) j (i7 _ h2)) k qF
structure KW (T:Hp) (root:Nat):Prop where
 nd:(ah T).Nodup
 lt: ∀k∈ah T,k<4294967296/\tag k=0
 dM: ∀k b,T.get k=some b->b.dM (· ∈ah T)
 root: ∃t cs,T.get root=some (.box t cs)
def KW.xG {T:Hp}{root:Nat}(h:KW T root):root∈ah T:=by
 obtain⟨t,cs,e⟩:=h.root;exact Hp.dS e
def m8.hp {T:Hp}{root:Nat}(hT:KW T root){ρ:Nat->Nat}(hi: ∀i∈ah T,∀j∈ah T,ρ i=ρ j->i=j):m8 (ah T) ρ T.get (cN ρ T).get :=by
 refine⟨hT.nd,hi,hT.dM,λn b' e=>?_⟩;have hk:=Hp.dS e;have FR:n∈(ah T).map ρ:=by rw[<- dj];exact hk
 obtain⟨k,hk3,rfl⟩:=dN.1 FR;rw[jN hi k hk3]at e
 cases hg:T.get k with
 |none=>rw[hg]at e;cases e
 |some b=>rw[hg]at e;simp only[xJ,lK]at e;exact⟨k,b,hk3,rfl,hg,e.symm⟩
def JD {ρ:Nat->Nat}{ok:Nat->Prop}{b:co}(h:b.dM λk=>ok (ρ k)):(b.rn ρ).dM ok:=by
 have hd: ∀d:DC,(d.dM λk=>ok (ρ k))->(d.rn ρ).dM ok:=by intro d hd;cases d<;>exact hd
 cases b with
 |box t cs=>
  intro d xq;obtain⟨d0,h0,rfl⟩:=dN.1 xq;exact hd d0 (h d0 h0)
 |aA z l=>
  intro e he d xq;obtain⟨e0,h0,rfl⟩:=dN.1 he;obtain⟨d0,h1,rfl⟩:=dN.1 xq;exact hd d0 (h e0 h0 d0 h1)
 |_=>trivial
def DG {ρ:Nat->Nat}{ok:Nat->Prop}{x:DX}(h:dY (λk=>ok (ρ k)) x):dY ok (Gg ρ x):=by
 intro d xq;obtain⟨d0,h0,rfl⟩:=dN.1 xq;have:=h d0 h0;cases d0<;>exact this
def yw {ρ:Nat->Nat}{ok:Nat->Prop}{v:DV}(h:lF (λk=>ok (ρ k)) v):lF ok (KV ρ v):=by
 cases v with
 |val x=>exact DG h
 |aJ l=>
  intro x hx;obtain⟨x0,h0,rfl⟩:=dN.1 hx;exact DG (h x0 h0)
def DC.dJ {ok ok':Nat->Prop}(hm: ∀k,ok k->ok' k){d:DC}(h:d.dM ok):d.dM ok':=by cases d<;>first|trivial|exact hm _ h
def co.dJ {ok ok':Nat->Prop}(hm: ∀k,ok k->ok' k){b:co}(h:b.dM ok):b.dM ok':=by
 cases b with
 |box t cs=>exact λd hd=>DC.dJ hm (h d hd)
 |aA z l=>exact λe he d hd=>DC.dJ hm (h e he d hd)
 |_=>trivial
def rm {ok ok':Nat->Prop}(hm: ∀k,ok k->ok' k){v:DV}(h:lF ok v):lF ok' v:=by
 cases v with
 |val x=>exact λd hd=>DC.dJ hm (h d hd)
 |aJ l=>exact λx hx d hd=>DC.dJ hm (h x hx d hd)
section
variable {C:bQ}{f:FuncId}{fid nx root:Nat}{xs:List DX}{T T':Hp}{r:DV}{H:HF}
def DH (hT:KW T root)(hf:tag fid≠0\/root<2*(tag fid*4294967296)+1): ∀i∈ah T,∀j∈ah T,fresh (tag fid) root i=fresh (tag fid) root j->i=j:=
 λi hi j hj h=>HC (hT.lt i hi).1 (hT.lt j hj).1 (by
  rcases hf with hf|hf
  ·exact .inl (by rw[(hT.lt root hT.xG).2];exact λe=>hf e.symm)
  ·exact .inr hf) h
def wM (h:bt C f nx xs T [root] r T')(hT:KW T root)(fh:KW T' root)(iT:1<=nx)(hf:tag fid≠0)(hs: ∀id∈ah T,T.get id=H id)(B6: ∀x∈xs,dY (· ∈ah T) x)(hr:lF (· ∈ah T') r):
  bN C fid f xs H (KV (fresh (tag fid) root) r) (cC T (cN (fresh (tag fid) root) T')) (ah T):=by
 have hi:=DH (fid:=fid) fh (.inl hf)
 have hg:=h.out (m8.hp fh hi) hr λid hid=>by
  rw[lq]at hid;subst hid;exact⟨fh.xG,j8 _ _⟩
 have l7: ∀k∈ah T',fresh (tag fid) root k∈[root]\/tag (fresh (tag fid) root k)=tag fid:=λk hk=>by
  by_cases e:k=root
  ·subst e;rw[j8];exact .inl (by simp)
  ·exact .inr (qg e (fh.lt k hk).1)
 refine gv hg (λid hid=>by rw[(hT.lt id hid).2];omega) hs hT.dM B6 (λid hid=>?_) (λid hid=>?_) (λid b e=>?_) (yw (rm l7 hr))
 ·rw[lq]at hid;subst hid;refine⟨hT.root,λb' e=>?_⟩;obtain⟨t,cs,e0⟩:=fh.root;have:=jN hi id fh.xG;rw[j8,e0]at this;rw[this]at e;cases e;exact⟨t,_,rfl⟩
 ·have hid:id∈ah (cN (fresh (tag fid) root) T'):=hid;exact ajj
 ·obtain⟨o,b0,h1,rfl,h3,rfl⟩:=(m8.hp fh hi).heap id b e;exact JD (co.dJ l7 (fh.dM o b0 h3))
end
section
variable {m:List (Nat × Nat)}{ρ:Nat->Nat}{ok:Nat->Prop}
def Vl (h: ∀k,ok k->bO m (ρ k)=some k){d:DC}(hd:d.dM ok):m7 m (d.rn ρ)=some d:=by
 cases d<;>simp only[m7,DC.rn];all_goals(have hd:ok _:=hd;rw[h _ hd])
theorem wO (h: ∀k,ok k->bO m (ρ k)=some k): ∀ {l:List DC},(∀d∈l,d.dM ok)->eX m (l.map (DC.rn ρ))=some l
 | [],_=>rfl
 |d::l,hd=>by
  simp only[ju,eX];rw[Vl h (hd d i8),wO h λx hx=>hd x (i7 _ hx)]
theorem HD (h: ∀k,ok k->bO m (ρ k)=some k): ∀ {l:List (List DC)},(∀e∈l,∀d∈e,d.dM ok)->fI m (l.map λe=>e.map (DC.rn ρ))=some l
 | [],_=>rfl
 |e::l,hd=>by
  simp only[ju,fI];rw[wO h (hd e i8),HD h λx hx=>hd x (i7 _ hx)]
theorem pj (h: ∀k,ok k->bO m (ρ k)=some k){b:co}(hd:b.dM ok):fm m (b.rn ρ)=some b:=by
 cases b with
 |box t cs=>simp only[fm,co.rn];rw[wO h hd]
 |aA z l=>simp only[fm,co.rn];rw[HD h hd]
 |_=>rfl
end
theorem DC.Li (d:DC):d.rn (λk=>k)=d:=by cases d<;>rfl
theorem co.Li (b:co):b.rn (λk=>k)=b:=by
 have h:(DC.rn λk=>k)=λd=>d:=funext DC.Li
 cases b with
 |box t cs=>simp[co.rn,h]
 |aA z l=>simp[co.rn,h]
 |_=>rfl
theorem kT {m m':List (Nat × Nat)}{k:Nat}:bO (m++m') k=match bO m k with
  |some n=>some n
  |none=>bO m' k:=by
 induction m with
 |nil=>rfl
 |cons p m ih=>
  obtain⟨o,n⟩:=p;simp only[qK,bO];cases Nat.beq k o
  ·exact ih
  ·rfl
def DI {m:List (Nat × Nat)}{k:Nat}(h:k∉m.map Prod.fst):bO m k=none:=by
 cases e:bO m k with
 |none=>rfl
 |some n=>exact absurd (dN.2 ⟨_,Ab e,rfl⟩) h
def gA (ρ:Nat->Nat)(T:Hp)(R:Hp):List (Nat × Nat):=sc (ah R) (λk=>k)++(ah T).map λk=>(ρ k,k)
def DJ {ρ:Nat->Nat}{T R:Hp}(hi: ∀i∈ah T,∀j∈ah T,ρ i=ρ j->i=j)(hd: ∀k∈ah T,ρ k∉ah R): ∀k∈ah T,bO (gA ρ T R) (ρ k)=some k:=by
 intro k hk;unfold gA
 rw[kT,DI (by
  have:(sc (ah R) λk=>k).map Prod.fst=ah R:=by exact X3
  rw[this];exact hd k hk)]
 simp only
 have key: ∀l:List Nat,(∀i∈l,i∈ah T)->k∈l->bO (l.map λk=>(ρ k,k)) (ρ k)=some k:=by
  intro l
  induction l with
  |nil=>intro _ h;cases h
  |cons a l ih=>
   intro hl uD;simp only[ju,bO];by_cases e:ρ k=ρ a
   ·have:=hi k hk a (hl a i8) e;subst this;simp
   ·have e':Nat.beq (ρ k) (ρ a)=false:=by
     cases hb:Nat.beq (ρ k) (ρ a)
     ·rfl
     ·exact absurd (o8 hb) e
    rw[e'];refine ih (λi kA=>hl i (i7 _ kA)) ((cQ.1 uD).resolve_left λh=>e (by rw[h]))
 exact key _ (λi h=>h) hk
def DK {root fid nx n':Nat}{T T' R hp:Hp}{E E':dP}{ks:List Nat}(hT:KW T root)(fh:KW T' root)(hf:tag fid≠0)(hR:(ah R).Nodup)(hRk: ∀k∈ah R,k∉ah T'/\k∉ah T/\tag k≠tag fid/\tag k<n')
  (hRg: ∀id b,R.get id=some b->hp.get id=some b/\b.dM λk=>k∈ah R\/k=root)(hn:0<n')(hE:eZ (gA (fresh (tag fid) root) T' R) E.get ks=some E'):
  bs ⟨E,cC T (cN (fresh (tag fid) root) T')++hp,nx⟩ ⟨E',T'++R,n'⟩:=by
 have hi:=DH (fid:=fid) fh (.inl hf)
 have l7: ∀k∈ah T',fresh (tag fid) root k∉ah R:=λk hk hm=>by
  obtain⟨h1,_,h3,_⟩:=hRk _ hm;by_cases e:k=root
  ·subst e;rw[j8]at h1;exact h1 hk
  ·exact h3 (qg e (fh.lt k hk).1)
 have Uj:=DJ hi l7
 have qG:bO (gA (fresh (tag fid) root) T' R) root=some root:=by
  have:=Uj root fh.xG;rwa [j8]at this
 have jo: ∀k,(k∈ah R\/k=root)->bO (gA (fresh (tag fid) root) T' R) k=some k:=by
  rintro k (hk|rfl)
  ·unfold gA;rw[kT,uP hk]
  ·exact qG
 have fB:cW (gA (fresh (tag fid) root) T' R) (Hp.get (cC T (cN (fresh (tag fid) root) T')++hp)) (Hp.get (T'++R)):=by
  refine⟨?_,?_,λn b' e=>?_⟩
  ·have:(gA (fresh (tag fid) root) T' R).map Prod.fst=ah R++(ah T').map (fresh (tag fid) root):=by simp[gA,sc,FV]
   rw[this,IU];refine⟨hR,?_,λa ha b hb RR=>?_⟩
   ·have AM:=(m8.hp fh hi).ok.news;have:(sc (ah T') (fresh (tag fid) root)).map Prod.snd=(ah T').map (fresh (tag fid) root):=by exact X3
    rwa [this]at AM
   ·subst RR;obtain⟨k,hk,rfl⟩:=dN.1 hb;exact l7 k hk ha
  ·have:(gA (fresh (tag fid) root) T' R).map Prod.snd=ah R++ah T':=by simp[gA,sc,FV]
   rw[this,IU];exact⟨hR,fh.nd,λa ha b hb RR=>by subst RR;exact(hRk a ha).1 hb⟩
  ·rw[Hp.get_append,oB]at e;by_cases hn:n∈ah T'
   ·rw[if_pos hn]at e;refine⟨fresh (tag fid) root n,b'.rn (fresh (tag fid) root),?_,?_,pj Uj (fh.dM n b' e)⟩
    ·unfold gA;exact gC.2 (.inr (dN.2 ⟨n,hn,rfl⟩))
    ·rw[Hp.get_append,tD,if_pos (by show _∈ah _;rw[dj];exact dN.2 ⟨n,hn,rfl⟩),jN hi n hn,e];rfl
   ·rw[if_neg hn]at e;have hk:=Hp.dS e;obtain⟨h1,h2,h3,h4⟩:=hRk n hk;obtain⟨g1,g2⟩:=hRg n b' e;refine⟨n,b',?_,?_,?_⟩
    ·exact aiD
    ·rw[Hp.get_append,tD,if_neg,if_neg h2]
     ·exact g1
     ·intro hm;have hm:n∈ah (cN (fresh (tag fid) root) T'):=hm;rw[dj]at hm;obtain⟨k,qF,rfl⟩:=dN.1 hm;exact l7 k qF hk
    ·have:=pj (ρ:=λk=>k) jo g2;rwa [co.Li]at this
 rintro F nt a w ⟨N,⟨q1,q2,q0,β,q3,q4⟩,q5⟩;refine⟨yp _,⟨q1,q2,q0,pG _ β,λs d' e=>?_,fB.nq q4⟩,?_⟩
 ·exact abE
 ·rintro id ⟨o,ho⟩;unfold gA at ho;rcases gC.1 ho with ho|ho
  ·obtain⟨h1,h2⟩:=jU.1 ho;rw[h2];exact(hRk o h1).2.2.2
  ·obtain⟨k,hk,e⟩:=dN.1 ho;simp only[gt]at e;obtain⟨_,rfl⟩:=e;rw[(fh.lt _ hk).2];exact hn
end Go.Fw
namespace Go.Fw
open Go.RowKit (Below)
def B (l:List UInt8):ByteArray:=⟨l.toArray⟩
abbrev lS (l:List UInt8):Option DV:=some (lit (.string (B l)))
theorem jI (l:List UInt8):(B l).data.toList =l:=by simp[B]
theorem lR (l:List UInt8):(B l).size =l.length:=by rw[Lib.size_eq,jI]
def acC (s:ByteArray):B s.data.toList=s:=Lib.mk_data s
theorem ak2 (a b:List UInt8):B a++B b=B (a++b):=by
 rw[<- acC (B a++B b)];exact aP B (by simp[B])
def YP (l:List UInt8):(B l).toList =l:=by rw[Lib.toList_data,jI]
theorem ak3 (l:List UInt8)(i:Nat):(B l)[i]? =l[i]? :=by
 have:(B l)[i]? =(B l).data[i]? :=by
  simp only[getElem?_def];rfl
 rw[this];simp[B]
theorem YQ (l:List UInt8)(a b:Nat):(B l).extract a b=B ((l.take b).drop a):=by
 rw[Lib.extract_eq,jI];show(⟨_⟩:ByteArray)=⟨_⟩;congr 2;rw[List.drop_take]
section
variable {C:bQ}{fid:Nat}{o:Oper}{E:dP}{H:Hp}{t:bk}{k:dP->Hp->bk->Prop}{T:TypeId}{x y:Operand}{p:TypeId}{a b:List UInt8}
def JE {op:BinOp}(ho:o.op= .binOp op T x y p)(hx:C.ev E.get x=lS a)(hy:C.ev E.get y=lS b):fu C fid o (C.ev E.get) H.get=λK=>wI op (B a) (B b) λv=>K (lit v) [] []:=by
 funext K;unfold fu;rw[ho];simp only[hx,hy,LS];unfold qN;cases op<;>rfl
def aeN (ho:o.op= .binOp .add T x y p)(hx:C.ev E.get x=lS a)(hy:C.ev E.get y=lS b)(hb:a.length+b.length<=1000000000000)
  (h2:ep o.dst (lit (.string (B (a++b)))) E λE'=>k E' H (([],[])::t)):cS C fid o E H t k:=by
 refine rG (r:=lit (.string (B (a++b)))) (u:=[]) (R:=[]) (λK hK=>?_) h2;rw[JE ho hx hy];exact⟨by grind[lR],by grind[ak2]⟩
def ak4 (ho:o.op= .binOp .eql T x y p)(hx:C.ev E.get x=lS a)(hy:C.ev E.get y=lS b)
  (h2:ep o.dst (lit (.bool (decide (a=b)))) E λE'=>k E' H (([],[])::t)):cS C fid o E H t k:=by
 refine rG (r:=lit (.bool (decide (a=b)))) (u:=[]) (R:=[]) (λK hK=>?_) h2;rw[JE ho hx hy];show K (lit (.bool ((B a).toList ==(B b).toList))) [] [];exact ajA
def ak5 (ho:o.op= .binOp .neq T x y p)(hx:C.ev E.get x=lS a)(hy:C.ev E.get y=lS b)
  (h2:ep o.dst (lit (.bool (!decide (a=b)))) E λE'=>k E' H (([],[])::t)):cS C fid o E H t k:=by
 refine rG (r:=lit (.bool (!decide (a=b)))) (u:=[]) (R:=[]) (λK hK=>?_) h2;rw[JE ho hx hy];show K (lit (.bool !((B a).toList ==(B b).toList))) [] [];exact ajA
def aeO {c:Call}{i:TI}{tt:TypeId}{ts:List TypeId}(ho:o.op= .call c)(hc:c.callee= .builtin .len)(ha:c.argTypes.toList=tt::ts)(hx:(c.args.toList.map (C.ev E.get))= [lS a])(hi:C.ti tt=some i)(jd:i.bY= .str)
  (h2:ep o.dst (lit (.int .i64 (a.length:Nat))) E λE'=>k E' H (([],[])::t)):cS C fid o E H t k:=by
 refine rG (r:=lit (.int .i64 (a.length:Nat))) (u:=[]) (R:=[]) (λK hK=>?_) h2
 grind[fu,eV,lit,lR]
def aeP {i:TI}{zz:Int}{n:Nat}{k':IntKind} [nz:dK zz n](ho:o.op= .index T x y)(hx:C.ev E.get x=lS a)(hy:C.ev E.get y=some (lit (.int k' zz)))(hi:C.ti T=some i)(jd:i.bY= .str)(hb:0<=zz/\n<a.length)
  (h2:ep o.dst (lit (.int .u8 ((a.getD n 0).toNat :Nat))) E λE'=>k E' H (([],[])::t)):cS C fid o E H t k:=by
 refine rG (r:=lit (.int .u8 ((a.getD n 0).toNat :Nat))) (u:=[]) (R:=[]) (λK hK=>?_) h2;unfold fu;rw[ho];simp only[hx,hy];simp only[s8,hi,jd];refine⟨hb.1,a.getD n 0,?_,hK⟩;have e:zz.toNat=n:=by rw[nz.eq];simp
 grind[ak3]
def aeQ {i:TI}{zz:Int}{n:Nat}{k':IntKind} [nz:dK zz n](ho:o.op= .slice T x (some y) none none)(hx:C.ev E.get x=lS a)(hy:C.ev E.get y=some (lit (.int k' zz)))(hi:C.ti T=some i)(jd:i.bY= .str)(hb:0<=zz/\n<=a.length)
  (h2:ep o.dst (lit (.string (B (a.drop n)))) E λE'=>k E' H (([],[])::t)):cS C fid o E H t k:=by
 refine rG (r:=lit (.string (B (a.drop n)))) (u:=[]) (R:=[]) (λK hK=>?_) h2;have e:zz.toNat=n:=by rw[nz.eq];simp
 unfold fu;rw[ho];simp only[hx,xJ,hy,SI];simp only[gL,hi,jd,FX];refine⟨hb.1,⟨by grind[lR],dw _⟩,?_⟩
 grind[lR,YQ]
def aeR {i:TI}{zz:Int}{n:Nat}{k':IntKind} [nz:dK zz n](ho:o.op= .slice T x none (some y) none)(hx:C.ev E.get x=lS a)(hy:C.ev E.get y=some (lit (.int k' zz)))(hi:C.ti T=some i)(jd:i.bY= .str)(hb:0<=zz/\n<=a.length)
  (h2:ep o.dst (lit (.string (B (a.take n)))) E λE'=>k E' H (([],[])::t)):cS C fid o E H t k:=by
 refine rG (r:=lit (.string (B (a.take n)))) (u:=[]) (R:=[]) (λK hK=>?_) h2;have e:zz.toNat=n:=by rw[nz.eq];simp
 unfold fu;rw[ho];simp only[hx,xJ,hy,SI];simp only[gL,hi,jd,FX];refine⟨hb.1,⟨dC _,by grind[lR]⟩,?_⟩
 grind[YQ]
def aeS {i:TI}{zz yy:Int}{n m:Nat}{k' k'':IntKind}{z:Operand} [nz:dK zz n] [ny:dK yy m](ho:o.op= .slice T x (some y) (some z) none)(hx:C.ev E.get x=lS a)(hy:C.ev E.get y=some (lit (.int k' zz)))(hz:C.ev E.get z=some (lit (.int k'' yy)))(hi:C.ti T=some i)(jd:i.bY= .str)(hb:(0<=zz/\0<=yy)/\n<=m/\m<=a.length)
  (h2:ep o.dst (lit (.string (B ((a.take m).drop n)))) E λE'=>k E' H (([],[])::t)):cS C fid o E H t k:=by
 refine rG (r:=lit (.string (B ((a.take m).drop n)))) (u:=[]) (R:=[]) (λK hK=>?_) h2;have e:zz.toNat=n:=by rw[nz.eq];simp
 have e':yy.toNat=m:=by rw[ny.eq];simp
 unfold fu;rw[ho];simp only[hx,xJ,hy,hz];simp only[gL,hi,jd,FX];refine⟨hb.1.1,hb.1.2,⟨by omega,by grind[lR]⟩,?_⟩
 grind[YQ]
end
section
variable {C:bQ}{fid:Nat}{o:Oper}{E:dP}{H:Hp}{t:bk}{k:dP->Hp->bk->Prop}{T:TypeId}{x y:Operand}{p:TypeId}
def aeT {a b:Int}(ho:o.op= .binOp .sub T x y p)(hx:C.ev E.get x=some (lit (.int .u8 a)))(hy:C.ev E.get y=some (lit (.int .u8 b)))(hb:0<=a -b/\a -b<=255)
  (h2:ep o.dst (lit (.int .u8 (a -b))) E λE'=>k E' H (([],[])::t)):cS C fid o E H t k:=by
 refine rG (r:=lit (.int .u8 (a -b))) (u:=[]) (R:=[]) (λK hK=>?_) h2;have e:IntKind.u8.wrap (a -b)=a -b:=by grind[IntKind.wrap_u8]
 unfold fu;rw[ho];simp only[hx,hy,lit,LS];show K (lit (.int .u8 (IntKind.u8.wrap (a -b)))) [] []
 grind
def Th {i j:TI}{kd ks k':IntKind}{n:Int}{S:TypeId}(ho:o.op= .convert S T x)(hx:C.ev E.get x=some (lit (.int k' n)))(hi:C.ti S=some i)(hj:C.ti T=some j)(hs:i.bY= .int ks)(hd:j.bY= .int kd)(hb:kd.wrap n=n)
  (h2:ep o.dst (lit (.int kd n)) E λE'=>k E' H (([],[])::t)):cS C fid o E H t k:=by
 refine rG (r:=lit (.int kd n)) (u:=[]) (R:=[]) (λK hK=>?_) h2
 grind[fu,lit,xQ]
def cvI {n:Int}(h: -9223372036854775808<=n/\n<=9223372036854775807):IntKind.i64.wrap n=n:=IntWalk.i64_in n h
def cv8 {n:Int}(h:0<=n/\n<=255):IntKind.u8.wrap n=n:=by grind[IntKind.wrap_u8]
end
open Classical
section
variable {C:bQ}{F:gN}{β:Nat->Option Nat}{N:Nat->Prop}{H H':HF}{fid:Nat}{w w':World}{R:List Nat}
theorem DL (FE:F.pure)(hR:ac F β N H w){d:DC}{c:SC}(hf:Full H R d c):c.flat=true->∀ {v:Value},cd F β N H w v d->dq (dT F.Pc F.base w) eU v c:=by
 have eu:=yn (F:=F) (β:=β) (H:=H) (w:=w) FE;have IK: ∀ {b o:Nat} {v:Value},F.dz b->rd w b o=some v->dT F.Pc F.base w b o=some v:=λhb h=>by unfold dT;rw[if_pos (FE.base hb)];exact h
 induction hf with
 |st c=>intro oe v h;exact(dq.mono eu (Mem.le_refl _) h).flat oe
 |nil k=>intro _ v h;have h:v= .slice none 0 0:=h;subst h;exact .empty _ _ X5 X5
 |any d=>intro _ v h;exact .any h.one_cell
 | @row id m z c hr h=>
  intro oe v hv;obtain⟨hn,h1,h2⟩:=hv;obtain⟨_,⟨hz,Xk,iE⟩,gD⟩:=hR.rel id _ h
  rcases h2 _ _ _ h rfl with⟨a1,a2,rfl⟩|⟨b,cap,arr,T,a1,rfl,a3,a4⟩
  ·exact .empty _ _ Xk a2
  ·by_cases h0:c.len=0
   ·rw[h0];exact .empty _ _ Xk h0
   rcases gD with⟨q,_⟩|⟨b',jD,q1,q2,arr',T',e1,e2,e3,e4,e5,e6,e7⟩;omega
   ·rw[a1]at q1;cases q1;rw[a3]at e1;cases e1;have gc:cap=jD:=by exact XZ
    subst gc;refine .view b 0 cap z (λk=>arr.getD k undef) Xk K0 hz e5 iE (λk hk=>?_) λi e j x he hx=>(e7 i e j x he hx).mono eu (Mem.le_refl _);exact abF
 | @aA id z l es hr h hl he hc oe ih=>
  intro _ v hv;obtain⟨hn,h1,h2⟩:=hv;obtain⟨_,⟨hz,iE⟩,gD⟩:=hR.rel id _ h;have bB:(SC.view es).len =l.length:=hl
  rcases h2 _ _ _ h rfl with⟨a1,a2,rfl⟩|⟨b,cap,arr,T,a1,rfl,a3,a4⟩
  ·exact .empty _ _ rfl K0
  ·by_cases h0:l.length=0
   ·rw[h0];exact .empty _ _ rfl K0
   rcases gD with⟨q,_⟩|⟨b',jD,arr',T',q1,q2,e1,e2,e3,e4⟩;omega
   ·rw[a1]at q1;cases q1;rw[a3]at e1;cases e1;have gc:cap=jD:=by exact XZ
    subst gc;rw[<- bB]
    have key: ∀(i:Nat) (e':List SC),es[i]? =some e'->∃e,l[i]? =some e/\e'.length=e.length:=λi e' hi=>by
     have ak:=(kl.1 hi).1;have OZ:i<l.length:=by omega
     exact⟨l[i],by grind,he i l[i] e' br hi⟩
    refine .view b 0 cap z (λk=>arr.getD k undef) rfl K0 hz K0 (λi e hi=>?_) (λk hk=>?_) λi e j x hi hx=>?_
    ·obtain⟨e0,g1,g2⟩:=key i e hi
     grind
    ·exact abF
    ·obtain⟨e0,g1,g2⟩:=key i e hi;have hj:=(kl.1 hx).1;have hj':j<e0.length:=by omega
     have hd:e0[j]? =some e0[j]:=by grind
     exact ih i e0 e j e0[j] x g1 hi hd hx (oe i e j x hi hx) (e4 i e0 j e0[j] g1 hd)
 |dV=>intro oe;cases oe
 |box=>intro oe;cases oe
 |Xs=>intro oe;cases oe
 |aeo=>intro oe;cases oe
 |sv=>intro oe;cases oe
theorem Mx (FE:F.pure)(hR:ac F β N H w){x:DX}{y:SV}(hf:yu H R x y)(oe:om y.2=true){v:Value}(hv:aq F β N H w v x):eo (dT F.Pc F.base w) eU v y:=by
 obtain⟨g,ds⟩:=x;obtain⟨g',cs⟩:=y;obtain⟨e,hl,hc⟩:=hf;simp only at e hl hc oe;subst e;cases g'
 ·obtain⟨c,R0,hr⟩:=hv;simp only at R0;subst R0;obtain⟨c',rfl⟩:=wA.1 af8;exact⟨c',rfl,DL FE hR (hc 0 c c' rfl rfl) (lO oe 0 c' rfl) hr⟩
 ·obtain⟨arr,h1,h2,h3⟩:=hv;simp only at h2 h3;refine⟨arr,h1,by grind,λk c hk=>?_⟩;simp only at hk;have ak:=(kl.1 hk).1;have OZ:k<ds.length:=by omega
  have hd:ds[k]? =some ds[k]:=by grind
  grind[DL,lO]
def YR:List SV->mb
 | [y]=>.one y
 |l=>.aJ l
def HE (H:HF)(xs:List DX)(K:mb->Prop):Prop:=∃(ys:List SV) (R:List Nat),Mv H R xs ys/\ym ys=true/\K (YR ys)
def acD (C:bQ)(fn:Func)(S:St)(K:mb->Prop):Prop:=er C S.hp.get S.env.get fn.results.toList λxs=>HE S.hp.get xs K
theorem YS (FE:F.pure)(hR:ac F β N H w){xs:List DX}{vs:List Value}{K:mb->Prop}(hl:vs.length=xs.length)(hv: ∀k x,xs[k]? =some x->aq F β N H w (vs.getD k undef) x)
  (h:HE H xs K): ∃r,K r/\qL F.Pc F.base w (A9 vs) r:=by
 obtain⟨ys,R,⟨h1,h2⟩,h3,h4⟩:=h
 have hx: ∀k y,ys[k]? =some y->eo (dT F.Pc F.base w) eU (vs.getD k undef) y:=λk y hk=>by
  have ak:=(kl.1 hk).1;have OZ:k<xs.length:=by omega
  have hd:xs[k]? =some xs[k]:=by grind
  grind[Mx,Bb]
 refine⟨_,h4,?_⟩;have bB:vs.length=ys.length:=by omega
 match ys,vs,bB,hx with
 | [y],[v],_,hx=>exact hx 0 y rfl
 | [],[],_,_=>exact⟨#[],rfl,rfl,by simp⟩
 |x::y::l,v::v'::vs,hg,hX=>exact⟨(v::v'::vs).toArray,rfl,by omega,λk x hk=>by simpa [sw,jE]using hX k x hk⟩
def My {fn:Func}(hC:C.Ok){f:FuncId}{c:Code}{args:List SV}{r:mb}(hn:iG C.P f=true)(hf:C.P.funcs[f]? =some fn)(hb:fn.body=some c)(uJ:bM fn.ntmps c=true)(dG:args.length<=fn.ntmps)
  (h:m6 C c (entry args) (λS=>acD C fn S λr'=>r'=r) (λ_ _=>False) (λS=>acD C fn S λr'=>r'=r)):nN C.P C.gl f args r:=
 Dy hC hn hf hb uJ dG (λ_ hS=>⟨λH xs K=>HE H xs K,λFE _ hR hl hv h=>YS FE hR hl hv h,hS⟩) h
end
structure BQ (R:Hp):Prop where
 nd:(ah R).Nodup
 key: ∀k∈ah R,17<=k/\k<4294967296/\k%2=1
 row: ∀k b,R.get k=some b->∃m z c,b= .row m z c
def mW (R:Hp):List (Nat × Nat):=(ah R).map λk=>(k,k)
def JF (k:Nat):Bool:=Nat.blt k 17 || Nat.beq (k%2) 0 || Nat.ble 4294967296 k
def BQ.not {R:Hp}(h:BQ R){k:Nat}(hk:JF k=true):k∉ah R:=λhm=>by
 obtain⟨h1,h2,h3⟩:=h.key k hm;simp[JF,AR]at hk;omega
theorem BQ.tag {R:Hp}(h:BQ R){k:Nat}(hk:k∈ah R):tag k=0:=by
 obtain⟨h1,h2,h3⟩:=h.key k hk
 grind[JC]
def Ti {R:Hp}{o n:Nat}:(o,n)∈mW R↔o∈ah R/\n=o:=by grind[mW]
def acE {R:Hp}{k:Nat}(h:k∈ah R):bO (mW R) k=some k:=by
 have:mW R=sc (ah R) λk=>k:=rfl
 grind[uP]
def IM (m:List (Nat × Nat)):Bool:=eM (m.map Prod.fst)&&eM (m.map Prod.snd)&&m.all λp=>JF p.1&&JF p.2
def oD {m:List (Nat × Nat)}{R:Hp}(hT:BQ R)(hm:IM m=true){k:Nat}(hk:k∈ah R):bO (m++mW R) k=some k:=by
 rw[kT,DI,acE hk];intro h;obtain⟨p,hp,rfl⟩:=dN.1 h;unfold IM at hm;simp only[sC,wC]at hm;exact hT.not (hm.2 p hp).1 hk
def cW.tail {m:List (Nat × Nat)}{H:HF}{Y R:Hp}(hT:BQ R)(hm:IM m=true)(hY: ∀n b',Y.get n=some b'->∃o b,(o,n)∈m/\H o=some b/\fm (m++mW R) b=some b')
  (hYk: ∀n∈ah Y,JF n=true)(hR: ∀k∈ah R,H k=R.get k):cW (m++mW R) H (Hp.get (Y++R)):=by
 have OR:=hm;unfold IM at hm;simp only[sC,wC]at hm;obtain⟨⟨h1,h2⟩,h3⟩:=hm;refine⟨?_,?_,λn b' e=>?_⟩
 ·rw[wD,show(mW R).map Prod.fst=ah R by simp[mW,FV],IU];refine⟨bW h1,hT.nd,λa ha b hb RR=>?_⟩;subst RR;obtain⟨p,hp,rfl⟩:=dN.1 ha;exact hT.not (h3 p hp).1 hb
 ·rw[wD,show(mW R).map Prod.snd=ah R by simp[mW,FV],IU];refine⟨bW h2,hT.nd,λa ha b hb RR=>?_⟩;subst RR;obtain⟨p,hp,rfl⟩:=dN.1 ha;exact hT.not (h3 p hp).2 hb
 ·rw[Hp.get_append,oB]at e;by_cases hn:n∈ah Y
  grind
  ·rw[if_neg hn]at e;have hk:=Hp.dS e;refine⟨n,b',gC.2 (.inr (Ti.2 ⟨hk,rfl⟩)),by grind,?_⟩;obtain⟨m',z,c,rfl⟩:=hT.row n b' e;rfl
def cW.form {m:List (Nat × Nat)}{H:HF}{Y R:Hp}{z:Nat}{l l':List (List DC)}(hT:BQ R)(hm:IM ((9,9)::m)=true)(h9:H 9=some (.aA z l))(hl:fI ((9,9)::m++mW R) l=some l')
  (hY:jT ((9,9)::m++mW R) H m=some Y)(hYk:(ah Y).all JF=true)(hR: ∀k∈ah R,H k=R.get k):cW ((9,9)::m++mW R) H (Hp.get ((9,some (.aA z l'))::Y++R)):=by
 have:=cW.tail (Y:=(9,some (.aA z l'))::Y) (H:=H) hT hm (λn b' e=>?_) (λn hn=>?_) hR;omega
 ·rw[Hp.ar]at e;by_cases hn:n=9
  ·subst hn;rw[an]at e;cases e;refine⟨9,_,i8,h9,?_⟩;show(match fI ((9,9)::m++mW R) l with|some l'=>some (co.aA z l')|none=>none)=_;rw[hl]
  grind[aH,pg]
 ·rcases cQ.1 hn with rfl|hn
  ·rfl
  grind
def YT {m:List (Nat × Nat)}{l:List (List DC)}{i:Nat}{e e':List DC}(hi:i<l.length)(he:eX m e=some e')(h: ∀j x,j≠i->l[j]? =some x->eX m x=some x):fI m (l.set i e)=some (l.set i e'):=by
 induction l generalizing i with
 |nil=>grind
 |cons a l ih=>
  cases i with
  |zero=>
   have: ∀ {l:List (List DC)},(∀x∈l,eX m x=some x)->fI m l=some l:=by
    intro l
    induction l with
    |nil=>intro _;rfl
    |cons a l ih=>
     grind[fI]
   rw[Su,Su];unfold fI
   rw[he,this λx hx=>by
    obtain⟨j,hj,rfl⟩:=zN.1 hx
    exact h (j+1) _ K0 br]
  |succ i=>
   rw[XK,XK];unfold fI;rw[h 0 a K0 rfl,ih br λj x hj hx=>h (j+1) x K0 br]
def Ac {m:List (Nat × Nat)}: ∀ {l:List (List DC)},(∀x∈l,eX m x=some x)->fI m l=some l
 | [],_=>rfl
 |a::l,h=>by
  unfold fI;rw[h a i8,Ac λx hx=>h x (i7 _ hx)]
theorem Hp.kI {j:Nat}{b:Option co}{H:Hp}{k:Nat}(h:k≠j):Hp.get ((j,b)::H) k=Hp.get H k:=by rw[Hp.ar,aH _ _ _ h]
structure Mz (T:Hp):Prop where
 nd:(ah T).Nodup
 lt: ∀k∈ah T,0<k/\k<4294967296/\tag k=0
 dM: ∀k b,T.get k=some b->b.dM (· ∈ah T)
def m8.new {T:Hp}(hT:Mz T){ρ:Nat->Nat}(hi: ∀i∈ah T,∀j∈ah T,ρ i=ρ j->i=j):m8 (ah T) ρ T.get (cN ρ T).get :=by
 refine⟨hT.nd,hi,hT.dM,λn b' e=>?_⟩;have hk:=Hp.dS e;have FR:n∈(ah T).map ρ:=by grind[dj]
 obtain⟨k,hk3,rfl⟩:=dN.1 FR;rw[jN hi k hk3]at e
 cases hg:T.get k with
 |none=>grind
 |some b=>grind
section
variable {C:bQ}{f:FuncId}{fid nx:Nat}{xs:List DX}{T':Hp}{r:DV}{H:HF}
def Mz.inj (hT:Mz T')(n:Nat): ∀i∈ah T',∀j∈ah T',fresh n 0 i=fresh n 0 j->i=j:=
 λi hi j hj h=>HC (hT.lt i hi).2.1 (hT.lt j hj).2.1 (.inr K0) h
theorem Mz.tag (hT:Mz T'){n k:Nat}(hk:k∈ah T'):Fw.tag (fresh n 0 k)=n:=qg (by have:=(hT.lt k hk).1;omega) (hT.lt k hk).2.1
def mq (h:bt C f nx xs [] [] r T')(fh:Mz T')(B6: ∀x∈xs,dY (λ_=>False) x)(hr:lF (· ∈ah T') r):
  bN C fid f xs H (KV (fresh (Fw.tag fid) 0) r) (cC [] (cN (fresh (Fw.tag fid) 0) T')) []:=by
 have hi:=fh.inj (Fw.tag fid);have hg:=h.out (m8.new fh hi) hr λid hid=>by grind
 have l7: ∀k∈ah T',fresh (Fw.tag fid) 0 k∈([]:List Nat)\/Fw.tag (fresh (Fw.tag fid) 0 k)=Fw.tag fid:=λk hk=>.inr (fh.tag hk);refine gv hg (λid hid=>by grind) (λid hid=>by grind) (λid b e=>by grind[Hp.get]) (λx hx=>?_) (λid hid=>by grind) (λid hid=>?_) (λid b e=>?_) (yw (rm l7 hr))
 ·exact λd hd=>DC.dJ (λ_ h=>h.elim) (B6 x hx d hd)
 ·exact ajn
 ·exact afv
def acF {fid nx n':Nat}{T' R hp:Hp}{E E':dP}{ks:List Nat}(fh:Mz T')(hR:(ah R).Nodup)(hRk: ∀k∈ah R,k∉ah T'/\Fw.tag k≠Fw.tag fid/\Fw.tag k<n')
  (hRg: ∀id b,R.get id=some b->hp.get id=some b/\b.dM λk=>k∈ah R)(hn:0<n')(hE:eZ (gA (fresh (Fw.tag fid) 0) T' R) E.get ks=some E'):
  bs ⟨E,cC [] (cN (fresh (Fw.tag fid) 0) T')++hp,nx⟩ ⟨E',T'++R,n'⟩:=by
 have hi:=fh.inj (Fw.tag fid);have l7: ∀k∈ah T',fresh (Fw.tag fid) 0 k∉ah R:=λk hk hm=>(hRk _ hm).2.1 (fh.tag hk);have Uj:=DJ hi l7;have jo: ∀k,k∈ah R->bO (gA (fresh (Fw.tag fid) 0) T' R) k=some k:=by grind[gA,kT,uP]
 have fB:cW (gA (fresh (Fw.tag fid) 0) T' R) (Hp.get (cC [] (cN (fresh (Fw.tag fid) 0) T')++hp)) (Hp.get (T'++R)):=by
  refine⟨?_,?_,λn b' e=>?_⟩
  ·exact K60
  ·exact am2
  ·rw[Hp.get_append,oB]at e;by_cases hn:n∈ah T'
   ·exact K94
   ·rw[if_neg hn]at e;have hk:=Hp.dS e;obtain⟨h1,h3,h4⟩:=hRk n hk;obtain⟨g1,g2⟩:=hRg n b' e;refine⟨n,b',?_,?_,?_⟩
    ·exact aiD
    ·rw[Hp.get_append,tD,if_neg,if_neg (by simp)];omega
     ·exact am8
    ·exact anb
 rintro F nt a w ⟨N,⟨q1,q2,q0,β,q3,q4⟩,q5⟩;refine⟨yp _,⟨q1,q2,q0,pG _ β,λs d' e=>?_,fB.nq q4⟩,?_⟩
 ·exact abE
 ·rintro id ⟨o,ho⟩;unfold gA at ho;rcases gC.1 ho with ho|ho
  ·obtain⟨h1,h2⟩:=jU.1 ho
   grind
  ·obtain⟨k,hk,e⟩:=dN.1 ho;simp only[gt]at e;obtain⟨_,rfl⟩:=e;rw[(fh.lt _ hk).2.2];exact hn
end
section
variable {C:bQ}{fid:Nat}{o:Oper}{E:dP}{H:Hp}{t:bk}{k:dP->Hp->bk->Prop}{T:TypeId}{x y:Operand}{a:List UInt8}
def anm {f:FuncId}{first bI:Array Operand}{id:Nat}(ho:o.op= .makeFunc (.func f) first bI)(hf:first.toList= [])(hc:bI.toList.map (C.ev E.get)= [some (.val (false,[.ptr id 0]))])
  (h2:ep o.dst (bm (.sv f id)) E λE'=>k E' H (([],[])::t)):cS C fid o E H t k:=by
 refine rGX (P:=True) (r:=bm (.sv f id)) (u:=[]) (R:=[]) ?_ trivial h2
 grind[PH]
def JG {i:TI}{e:TypeId}{ie:TI}{es:List (List SC)}{zz:Int}{n:Nat}{k':IntKind} [nz:dK zz n](hu: ∀e∈es,e.length=ie.size)(ho:o.op= .slice T x none (some y) none)(hx:C.ev E.get x=some (.val (false,[.st (.view es)])))(hy:C.ev E.get y=some (.val (false,[.st (.lit (.int k' zz))])))
  (hi:C.ti T=some i)(hc:i.bY= .slice e)(he:C.ti e=some ie)(hb:n<=es.length)
  (h2:ep o.dst (bm (.st (.view (es.take n)))) E λE'=>k E' H (([],[])::t)):cS C fid o E H t k:=by
 refine rG (r:=bm (.st (.view (es.take n)))) (u:=[]) (R:=[]) (λK hK=>?_) h2;have e0:zz.toNat=n:=by rw[nz.eq];simp
 unfold fu;rw[ho];simp only[hx,Option.map];unfold gL;simp only[hi,hc,he,bS,bv,hy,SC.ao,FX,SC.len,SC.sub,xL];refine⟨by rw[nz.eq];omega,⟨by omega,by omega⟩,λe he=>hu e he,?_⟩
 grind
end
def nN.xC {P:Program}{gl:s6}{f:FuncId}{args:List SV}{z:Nat}{c:SC}(h:nN P gl f args (.own z c)):nN P gl f args (.one (false,[c])):=by
 rcases h with h|h
 ·refine .inl ⟨h.1,λmv w vs h1 h2 h3=>(h.2 mv w vs h1 h2 h3).mono λe w' he=>?_⟩;obtain⟨v,rfl,hb,hr⟩:=he;refine⟨v,rfl,hb,c,rfl,?_⟩
  rcases hr with⟨rfl,h0,hv,_⟩|⟨b,cap,rfl,hn,arr,T,e1,e2,e3,e4,e5,e6,e7⟩
  ·exact .empty _ _ hv h0
  ·by_cases h0:c.len=0
   ·rw[h0];exact .empty _ _ e4 h0
   ·refine .view b 0 cap z (λk=>arr.getD k undef) e4 K0 e3 e5 e6 (λk hk=>?_) λi e j x he hx=>(e7 i e j x he hx).mono (λb' o v h=>?_) (Mem.le_refl _)
    ·rw[jZ];unfold dT;rw[if_pos hn]
     grind[gd,Nat.lt_of_lt_of_le,Nat.mul_le_mul_right]
    grind[Mem.but]
 ·cases h
end Go.Fw
namespace Go.Fw
open Go.RowKit (Below)
section
variable {C:bQ}{f:FuncId}{nx nx0:Nat}{xs xs0:List DX}{Hs Hs0 mo Hs1:Hp}{fM roots0:List Nat}{r:DV}{ks ks':List Nat}{ρ σ:Nat->Nat}
def bt.both (h:bt C f nx (xs0.map (Gg ρ)) Hs fM r mo)(hR:m8 ks ρ Hs0.get Hs.get)(hall: ∀o b,Hs0.get o=some b->o∈ks/\Hs.get (ρ o)=some (b.rn ρ))(iT: ∀k∈ks,tag (ρ k)<nx)(B6: ∀x∈xs0,dY (· ∈ks) x)
  (hR2:m8 ks' σ mo.get Hs1.get)(hr:lF (· ∈ks') r)(qG: ∀id∈roots0,ρ id∈fM/\id∈ks/\ρ id∈ks'/\σ (ρ id)=id):bt C f nx0 xs0 Hs0 roots0 (KV σ r) Hs1:=by
 have fB:=hR.ok;have ahD:=hR2.ok;refine⟨h.1,λF β N w vs hG Cz jo hH hN nn hv=>?_⟩;have hH2:=fB.nq hH;have e: ∀ {k:Nat},k∈ks->pG (sc ks ρ) β (ρ k)=β k:=λhk=>fB.kH (jU.2 ⟨hk,rfl⟩);refine(h.2 F (pG (sc ks ρ) β) (yp (sc ks ρ)) w vs hG Cz (λb hb=>?_) hH2 (λid hid=>?_) br (λk x hk=>?_)).mono λe' w' he=>?_
 ·obtain⟨id,bz,q1,q2⟩:=jo b hb;obtain⟨q3,q4⟩:=hall id bz q1;exact⟨ρ id,_,q4,by grind⟩
 ·obtain⟨o,ho⟩:=hid;obtain⟨q1,q2⟩:=jU.1 ho
  grind
 ·exact aig
 ·obtain⟨v,cL,N',rfl,q1,q2,q3⟩:=he;refine⟨v,pG (sc ks' σ) cL,yp (sc ks' σ),rfl,ahD.nq q1,ahD.vQ q2 (HB hr),λid hid=>?_⟩;obtain⟨a1,a2,a3,a4⟩:=qG id hid;obtain⟨b,g1,g2⟩:=q3 (ρ id) a1;refine⟨b,by grind,?_⟩;have:=ahD.kH (β:=cL) (jU.2 ⟨a3,rfl⟩)
  grind
end
section
variable {C:bQ}{fid:Nat}{o:Oper}{E:dP}{H:Hp}{t:bk}{k:dP->Hp->bk->Prop}{c:Call}{a b:Int}
def aeU (ho:o.op= .call c)(hc:c.callee= .builtin .max)(hx:c.args.toList.map (C.ev E.get)= [some (.val (false,[.st (.lit (.int .i64 a))])),some (.val (false,[.st (.lit (.int .i64 b))]))])(h:b<=a)
  (h2:ep o.dst (lit (.int .i64 a)) E λE'=>k E' H (([],[])::t)):cS C fid o E H t k:=by
 refine rG (r:=lit (.int .i64 a)) (u:=[]) (R:=[]) (λK hK=>?_) h2;exact ai0
def ak6 (ho:o.op= .call c)(hc:c.callee= .builtin .max)(hx:c.args.toList.map (C.ev E.get)= [some (.val (false,[.st (.lit (.int .i64 a))])),some (.val (false,[.st (.lit (.int .i64 b))]))])(h:a<b)
  (h2:ep o.dst (lit (.int .i64 b)) E λE'=>k E' H (([],[])::t)):cS C fid o E H t k:=by
 refine rG (r:=lit (.int .i64 b)) (u:=[]) (R:=[]) (λK hK=>?_) h2;exact ai0
end
instance ago (n:Nat):dK (((n+1:Nat):Int) -1) n:=⟨by omega⟩
theorem JH (ρ:Nat->Nat)(x:SV):Gg ρ (dyn x)=dyn x:=by
 show((dyn x).1,(dyn x).2.map (DC.rn ρ))=dyn x;exact afW
theorem bA {ok:Nat->Prop}(x:SV):dY ok (dyn x):=afR
theorem P2 (ρ:Nat->Nat)(T:TypeId)(cs:List SC):co.rn ρ (.box T (cs.map .st))= .box T (cs.map .st):=by
 show co.box T ((cs.map DC.st).map (DC.rn ρ))=_;rw[zR];congr 1
theorem tE {ok:Nat->Prop}(T:TypeId)(cs:List SC):co.dM ok (.box T (cs.map .st)):=afR
theorem gE {id k:Nat}{b b':co}(h:Hp.get [(id,some b)] k=some b'):k=id/\b'=b:=by
 rw[Hp.ar]at h
 grind[an,aH,Hp.get]
theorem tH (id:Nat)(b:co):Hp.get [(id,some b)] id=some b:=by exact Pw
def HG {C:bQ}{f:FuncId}{T:TypeId}{cs xn:List SC}{ys:List SV}{r:DV}(hr: ∀ρ,KV ρ r=r)(hm: ∀ok,lF ok r)(h:bt C f 1 ((false,[.ptr 1 0])::ys.map dyn) [(1,some (.box T (cs.map .st)))] [1] r [(1,some (.box T (xn.map .st)))])
  {H:HF}{id fid:Nat}(hid:H id=some (.box T (cs.map .st))):bN C fid f ((false,[.ptr id 0])::ys.map dyn) H r (cC [(id,some (.box T (cs.map .st)))] [(id,some (.box T (xn.map .st)))]) [id]:=by
 have e1:((false,[DC.ptr id 0])::ys.map dyn).map (Gg λ_=>1)=(false,[.ptr 1 0])::ys.map dyn:=by
  rw[ju,zR];congr 1
  grind[List.map_congr_left,JH]
 have g:=bt.both (r:=r) (nx0:=tag id+1) (xs0:=(false,[.ptr id 0])::ys.map dyn) (Hs0:=[(id,some (.box T (cs.map .st)))]) (Hs1:=[(id,some (.box T (xn.map .st)))]) (roots0:=[id]) (ks:=[id]) (ks':=[1]) (ρ:=λ_=>1) (σ:=λ_=>id) (by rw[e1];exact h)
  ⟨by simp,λi hi j hj _=>by grind,λk b e=>by grind[gE,tE],λn b' e=>by
   grind[gE,tH,P2]⟩
  (λo b e=>by grind[gE,P2,tH]) (λk _=>by decide) (λx hx=>by
   rcases cQ.1 hx with rfl|hx
   ·intro d hd;rw[lq]at hd;subst hd;show id∈[id];simp
   ·obtain⟨z,_,rfl⟩:=dN.1 hx
    exact bA z)
  ⟨by simp,λi hi j hj _=>by grind,λk b e=>by grind[gE,tE],λn b' e=>by
   grind[gE,tH,P2]⟩
  (hm _) (λi hi=>by grind)
 rw[hr]at g;refine gv g (λi hi=>by grind) (λi hi=>by grind[tH]) (λi b e=>by grind[gE,tE]) (λx hx=>?_) (λi hi=>?_) (λi hi=>?_) (λi b e=>?_) (hm _)
 ·rcases cQ.1 hx with rfl|hx
  ·intro d hd;rw[lq]at hd;subst hd;show id∈_;simp
  ·obtain⟨z,_,rfl⟩:=dN.1 hx;exact bA z
 ·rw[lq]at hi;subst hi;exact⟨⟨_,_,tH _ _⟩,λb' e=>by grind[gE]⟩
 grind
 grind[gE,tE]
def kU {C:bQ}{f:FuncId}{T:TypeId}{cs xn:List SC}{ys:List SV}{y:SV}(h:bt C f 1 ((false,[.ptr 1 0])::ys.map dyn) [(1,some (.box T (cs.map .st)))] [1] (.val (dyn y)) [(1,some (.box T (xn.map .st)))])
  {H:HF}{id fid:Nat}(hid:H id=some (.box T (cs.map .st))):bN C fid f ((false,[.ptr id 0])::ys.map dyn) H (.val (dyn y)) (cC [(id,some (.box T (cs.map .st)))] [(id,some (.box T (xn.map .st)))]) [id]:=
 HG (λρ=>by show DV.val (Gg ρ (dyn y))=_;rw[JH]) (λ_=>show lF _ (.val (dyn y))from bA y) h hid
def aeV (C:bQ)(fn:Func)(T:TypeId)(xn:List SC)(r:DV)(S:St):Prop:=
 S.env.get 0=some (.val (false,[.ptr 1 0]))/\S.hp.get 1=some (.box T (xn.map .st))/\er C S.hp.get S.env.get fn.results.toList λys=>∃zs,kS [(1,1)] ys=some zs/\ph zs=r
def acG (C:bQ)(fn:Func)(T:TypeId)(xn:List SC)(y:SV)(S:St):Prop:=
 S.env.get 0=some (.val (false,[.ptr 1 0]))/\S.hp.get 1=some (.box T (xn.map .st))/\er C S.hp.get S.env.get fn.results.toList λys=>∃zs,kS [(1,1)] ys=some zs/\ph zs= .val (dyn y)
def YU {C:bQ}(hC:C.Ok){f:FuncId}{fn:Func}{c:Code}{T:TypeId}{cs xn:List SC}{ys:List SV}{r:DV}(hn:iG C.P f=true)(hf:C.P.funcs[f]? =some fn)(hb:fn.body=some c)(uJ:bM fn.ntmps c=true)(dG:ys.length+1<=fn.ntmps)(O4:aM [0] c=true)
  (h:m6 C c ⟨iz 0 ((false,[.ptr 1 0])::ys.map dyn),[(1,some (.box T (cs.map .st)))],1⟩ (aeV C fn T xn r) (λ_ _=>False) (aeV C fn T xn r)):
  bt C f 1 ((false,[.ptr 1 0])::ys.map dyn) [(1,some (.box T (cs.map .st)))] [1] r [(1,some (.box T (xn.map .st)))]:=by
 refine fw hC hn hf hb uJ br [(0,1)] (λp hp=>?_) O4 (λS hS=>?_) h
 grind
 ·obtain⟨h1,h2,h3⟩:=hS;refine⟨[(1,1)],⟨by simp,by simp,λn b' e=>?_⟩,λp hp=>?_,?_⟩
  ·obtain⟨rfl,rfl⟩:=gE e;refine⟨1,_,by simp,h2,?_⟩
   have: ∀l:List SC,eX [(1,1)] (l.map .st)=some (l.map .st):=by
    intro l
    induction l with
    |nil=>rfl
    |cons a l ih=>grind[eX,m7]
   grind[fm]
  grind
  omega
def ak7 {C:bQ}(hC:C.Ok){f:FuncId}{fn:Func}{c:Code}{T:TypeId}{cs xn:List SC}{ys:List SV}{y:SV}(hn:iG C.P f=true)(hf:C.P.funcs[f]? =some fn)(hb:fn.body=some c)(uJ:bM fn.ntmps c=true)(dG:ys.length+1<=fn.ntmps)(O4:aM [0] c=true)
  (h:m6 C c ⟨iz 0 ((false,[.ptr 1 0])::ys.map dyn),[(1,some (.box T (cs.map .st)))],1⟩ (acG C fn T xn y) (λ_ _=>False) (acG C fn T xn y)):
  bt C f 1 ((false,[.ptr 1 0])::ys.map dyn) [(1,some (.box T (cs.map .st)))] [1] (.val (dyn y)) [(1,some (.box T (xn.map .st)))]:=
 YU hC hn hf hb uJ dG O4 h
open Go.Shelf
variable {P:Program}{gl:s6}
def yx {mv mr:Mem}{vs:Array Value}{c:SC}(h:o4 mv mr vs [(false,[c])]): ∃v,vs= #[v]/\dq mv mr v c:=by
 obtain⟨h1,h2⟩:=h;obtain⟨c',e,hr⟩:=h2 0 _ rfl;simp at e;subst e;refine⟨vs.getD 0 undef,?_,hr⟩;have h1:vs.size=1:=h1;apply AS;omega;simp_all
def pH {enc:Int->Value}{w:World}{b:Nat}{arr:Array Value}{T:TypeId}(h:w.heap[b]? =some (.cells arr T))(d:Array Int):Sort.putRow enc w b 0 d=w.setRow b (Sort.putCells enc 0 d arr):=by
 have ak:b<w.heap.size:=(FT.1 h).1;have hv:w.heap[b]= .cells arr T:=(FT.1 h).2;unfold Sort.putRow Sort.mapBlock World.setRow;congr 1;apply AS
 ·simp
 ·intro i h1 h2;simp only[Sm];by_cases hi:b=i
  ·subst hi;simp only[if_true,hv,Sort.onCells]
  grind
def dh {E:dP}{Hh:Hp}{nx:Nat}(id:Nat){m:Bool}{z:Nat}{c:SC}(hb:Hh.get id=some (.row m z c)):bs ⟨E,Hh,nx⟩ ⟨E,(id,some (.row false z c))::Hh,nx⟩:=K44
def jz {E:dP}{Hh:Hp}{nx:Nat}(s z:Nat)(c:SC)(hz:0<z)(hv:c.ao=true)(h0:c.len=0)(hE:E.get s=some (bm .nil)):
  bs ⟨E,Hh,nx⟩ ⟨(s,some (bm (.own (2*nx))))::E,((2*nx),some (.row true z c))::Hh,nx+1⟩:=by
 rintro F nt a w ⟨N,⟨q1,q2,q0,β,q3,q4⟩,q5⟩;have hf: ¬N (2*nx):=λh=>by have:=q5 _ h;rw[jM]at this;grind
 have hu: ∀i e,c.elem i=some e->e.length=z:=λi e he=>by exact abV
 have t2:=Tr.new q4 (Below.refl _ w) hf none (by simp) (.row true z c);have hN:=ac.new q4 (Below.refl _ w) hf none (by simp) (.row true z c) ⟨⟨hz,hv,hu⟩,.inl ⟨by simp[cR],h0⟩⟩;rw[<- Hp.ar]at t2 hN;refine⟨Fw.bf N (2*nx),⟨q1,q2,q0,cR β (2*nx) none,?_,hN⟩,λid h=>?_⟩
 ·intro u dv hu;rw[dP.ar]at hu;simp only at hu;split at hu
  ·rename_i e;subst e;cases hu;have B8:a.tmps.getD u undef= .slice none 0 0:=(q3 u _ hE).am;refine cI ⟨.inr rfl,by rw[B8];rfl,λnL z' n' hb wx=>?_⟩;rw[Hp.ar,an]at hb;cases hb;cases wx;exact .inl ⟨by simp[cR],h0,B8⟩
  ·exact t2.env q4 q3 u dv hu
 ·exact akg
end Go.Fw
