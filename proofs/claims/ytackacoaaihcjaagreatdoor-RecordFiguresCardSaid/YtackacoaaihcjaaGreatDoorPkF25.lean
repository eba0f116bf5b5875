import Derived.Test.YtackacoaaihcjaaGreatDoorPkF17
import Derived.Test.YtackacoaaihcjaaGreatDoorPkF22
import Derived.Test.YtackacoaaihcjaaGreatDoorPkF24
set_option linter.all false
set_option maxRecDepth 100000
set_option maxHeartbeats 8000000
namespace Go.Proofs.Tryz
open Go.Fw Go.IntWalk Go.Plain
def k9 {H:HF}{R:List Nat}(x:SV):Bg H R (dyn x) x:=⟨rfl,by simp[dyn],λk d c h1 h2=>by
 simp only[dyn,gq]at h1;rw[h2]at h1;cases h1
 exact .st _⟩
section
variable {H:HF}{fid:Nat}{u:Un}{l:List (List DC)}{i a b c:Nat}
def QZ {t:aj}{V:Bool}(hV:bH u.res t=V)(hl:u.res.length<=1000000)(h9:H 9=some (.aG 17 l))(hi:l[i]? =some (cP u a b c))(ha:H a=some (.row true 1 (.view (ab u.lots))))(hb:H b=some (.row true 4 (.view (u.res.map kG))))(hc:H c=some (.row true 5 (.view (u.gas.map uV)))):
  bW cx fid 154 [(false,[.cE 9 17 i 0]),(false,[.st (T t)])] H (.val (dyn (Bo V))) [] [9,a,b,c]:=by
 subst hV;exact iJ (bK (kh (J3 (by simp) h9 hi ha hb hc)) (bK (kh (.st _)) jM)) (uh u t hl) rfl ⟨rfl,rfl,rfl⟩
def Q0 {t:Ts}{V:Bool}(hV:iV u.res t=V)(ht:t.bu.length<=1000)(hl:u.res.length<=1000000)(h9:H 9=some (.aG 17 l))(hi:l[i]? =some (cP u a b c))(ha:H a=some (.row true 1 (.view (ab u.lots))))(hb:H b=some (.row true 4 (.view (u.res.map kG))))(hc:H c=some (.row true 5 (.view (u.gas.map uV)))):
  bW cx fid 157 [(false,[.cE 9 17 i 0]),dyn (true,fq t)] H (.val (dyn (Bo V))) [] [9,a,b,c]:=by
 subst hV;exact iJ (bK (kh (J3 (by simp) h9 hi ha hb hc)) (bK (k9 _) jM)) (NP u t ht hl) rfl ⟨rfl,rfl,rfl⟩
def Wv {t:Ts}{r:aj}{y:Int × Int}{ty:TypeId}{p:Pl}{log:List En}{lg:Nat}{v e h x9 x11 x12:DC}(hs:ac 203 [WR p log,UR u,(true,fq t),SS r] (.aJ [I y.1,I y.2]))(h1:H 1=some (.box ty [.st (.view (p.ae.map na)),.st (.view (ab p.ap)),.st (.view (p.aa.map fq)),.st (.view (p.parts.map mh)),.st (J p.dY),.st (J p.eH),.own lg,v,e,x9,h,x11,x12]))
  (h2:H lg=some (.row true 3 (.view (log.map cY))))(h9:H 9=some (.aG 17 l))(hi:l[i]? =some (cP u a b c))(ha:H a=some (.row true 1 (.view (ab u.lots))))(hb:H b=some (.row true 4 (.view (u.res.map kG))))(hc:H c=some (.row true 5 (.view (u.gas.map uV)))):
  bW cx fid 203 [(false,[.ptr 1 0]),(false,[.cE 9 17 i 0]),dyn (true,fq t),(false,[.st (T r)])] H (.aJ [dyn (I y.1),dyn (I y.2)]) [] [1,lg,9,a,b,c]:=
 iJ (bK (kh (ZY (by simp) h1 h2)) (bK (kh (J3 (by simp) h9 hi ha hb hc)) (bK (k9 _) (bK (kh (.st _)) jM)))) hs ajr ⟨rfl,rfl,rfl⟩
end
def aat {b:Bool}(h:b=true)(e:Int):ac 54 [Bo b,I e] (.one (I 0)):=by subst h;exact ae2 e
def agR {b:Bool}(h:b=false)(e:Int):ac 54 [Bo b,I e] (.one (I e)):=by subst h;exact ae1 e
def EY {p:Pl}{y:aj}(h:y∈cL p.aa):gA p y=p.aa.getD (aZ (cL p.aa) y).toNat dk/\0<=aZ (cL p.aa) y/\gA p y∈p.aa:=by
 obtain⟨k,hk,e⟩:=k7 h;have uI:k<p.aa.length:=by grind[cL]
 have hd:gA p y=p.aa.getD (aZ (cL p.aa) y).toNat dk:=by unfold gA;grind
 grind
def aau (E:qp)(p:Pl)(log:List En)(s:bQ)(hl:s.units.length<=1000)(x y:aj)(n:List Int)(r:aj)(hp:p.aa.length<=1000)(AR: ∀t∈p.aa,t.bu.length<=1000)(hu: ∀u∈s.units,u.res.length<=1000)(ahA:log.length<=1000)
  (oW: ∀u∈s.units,∀t∈p.aa,iV u.res t=true->ac 203 [WR p log,UR u,(true,fq t),SS r] (.aJ [I (E.ev log u t r).1,I (E.ev log u t r).2])):
  bt cx 126 1 ((false,[.ptr 1 0])::[wS [x,y] n r].map dyn) (form p log s) [1] (.val (dyn (I (ba E p log s 12 [x,y] n r).2))) (form p log (ba E p log s 12 [x,y] n r).1):=by
 rw[show ba E p log s 12 [x,y] n r=TS E p log s 12 x [x,y] n r from rfl];obtain⟨volt,earth,opens,hall,lots,units⟩:=s;have ct:=EJ p y hp;by_cases hx:0<=gY ⟨volt,earth,opens,hall,lots,units⟩ x
 ·obtain⟨i,u,h1,h2,h3,h4,h5⟩:=j6 hx;have c0:=λfid H=>k8 (fid:=fid) (H:=H) h3 hl h1;have Li:=jv h3;have hr:u.res.length<=1000000:=by grind
  have oW:=λt ht=>oW u Li t ht;by_cases hy:y∈cL p.aa
  ·obtain⟨t1,t2,t3⟩:=EY hy;rw[fG hy]at ct;have oW:=oW _ t3;have AR:=AR _ t3
   have hq:aI E p log ⟨volt,earth,opens,hall,lots,units⟩ u 12 [x,y] n r=if hall=u.name/\u.failed=false then(if bH u.res (gA p y).name then(u,23)else if iV u.res (gA p y)=false then(u,14)else if decide ((gA p y).kind =0)=volt then(u,24)else
     if(E.ev log u (gA p y) r).2=0 then({u with res:=u.res++[⟨(gA p y).name,(E.ev log u (gA p y) r).1,log.length,false⟩],failed:=decide ((E.ev log u (gA p y) r).1=0)},0)else(u,(E.ev log u (gA p y) r).2))else(u,20):=by
    rw[t1];exact if_pos t2
   clear t1 t2 t3;generalize gA p y=t at*;obtain⟨V,hV⟩: ∃V,bH u.res t.name=V:=⟨_,rfl⟩;obtain⟨D,hD⟩: ∃D,iV u.res t=D:=⟨_,rfl⟩;have bA:(log.map cY).length =log.length:=by simp
   rw[hV,hD]at hq;rw[hD]at oW;have Xp:=λhs=> @Wv (u:=u) (t:=t) (r:=r) (y:=E.ev log u t r) (p:=p) (log:=log) (hs:=hs);generalize E.ev log u t r=z at*;obtain⟨z1,z2⟩:=z;dsimp only at Xp oW;have cv:=λH fid l i a b c=> @QZ H fid u l i a b c t.name V hV hr;have cr:=λH fid l i a b c=> @Q0 H fid u l i a b c t D hD AR hr;clear hV hD;obtain⟨nm,kd,nd,ru,lo,hi⟩:=t;obtain⟨name,win,ul,res,failed,rel,shaken,used,gas⟩:=u;dsimp only at hq;have Cb:res.length<=1000000:=hr;have Ur:(res.map kG).length =res.length:=by simp
   by_cases hh:hall=name
   ·subst hh;cases failed
    ·rw[if_pos ⟨rfl,rfl⟩]at hq;cases V
     ·rw[if_neg xH]at hq;cases D
      ·rw[aY hx h2 h4 (hq.trans (if_pos rfl))];exact UU
      ·rw[if_neg K9]at hq;have Xp:=λH fid l i a b c=> @Xp (oW rfl) H fid l i a b c;by_cases hk:kd=0<;>cases volt
       ·subst hk;rw[if_neg (by simp)]at hq;by_cases hz:z2=0
        ·subst hz;rw[aY hx h2 h4 (hq.trans (if_pos rfl))];refine gI f126 h3 hl rfl ?_;repeat' ((first|(refine kO 7 rfl ?_;first|refine ii (λ_ z=>⟨_,_,_,(c0 _ _ ⟨_,_,rfl,rfl⟩ rfl),z⟩) ?_|refine Rq (bZ _ _) ?_|refine rG (λ_ z=>⟨_,wF (E:=0) rfl,z⟩) ?_|refine ii (λ_ z=>⟨_,_,_,(cv _ _ _ _ _ _ _ rfl (jS FX) rfl rfl rfl),z⟩) ?_|refine ii (λ_ z=>⟨_,_,_,(cr _ _ _ _ _ _ _ rfl (jS FX) rfl rfl rfl),z⟩) ?_|refine ii (λ_ z=>⟨_,_,_,(Xp _ _ _ _ _ _ _ _ _ _ _ _ _ _ _ rfl rfl rfl (jS FX) rfl rfl rfl),z⟩) ?_)|refine tX 0 ?_|exact Zt|refine bR ?_ ?_<;>intro h)<;>(try conv=>whnf))
         all_goals first|exact Ze|(simp only[jf];exact Ei)|exact Ei
        ·rw[aY hx h2 h4 (hq.trans (if_neg hz)),if_neg hz];refine gI f126 h3 hl rfl ?_;repeat' ((first|(refine kO 7 rfl ?_;first|refine ii (λ_ z=>⟨_,_,_,(c0 _ _ ⟨_,_,rfl,rfl⟩ rfl),z⟩) ?_|refine Rq (bZ _ _) ?_|refine rG (λ_ z=>⟨_,wF (E:=0) rfl,z⟩) ?_|refine ii (λ_ z=>⟨_,_,_,(cv _ _ _ _ _ _ _ rfl (jS FX) rfl rfl rfl),z⟩) ?_|refine ii (λ_ z=>⟨_,_,_,(cr _ _ _ _ _ _ _ rfl (jS FX) rfl rfl rfl),z⟩) ?_|refine ii (λ_ z=>⟨_,_,_,(Xp _ _ _ _ _ _ _ _ _ _ _ _ _ _ _ rfl rfl rfl (jS FX) rfl rfl rfl),z⟩) ?_)|refine tX 0 ?_|exact Zt|refine bR ?_ ?_<;>intro h)<;>(try conv=>whnf))
         all_goals first|exact Ze|exact Ei
       ·subst hk;rw[if_pos (by simp)]at hq;rw[aY hx h2 h4 hq];exact UU
       ·have Xx:(!((kd==0)==false))=false:=by grind
        rw[if_pos bq]at hq;rw[aY hx h2 h4 hq];refine gI f126 h3 hl rfl ?_;repeat' ((first|(refine kO 7 rfl ?_;first|refine ii (λ_ z=>⟨_,_,_,(c0 _ _ ⟨_,_,rfl,rfl⟩ rfl),z⟩) ?_|refine rG (λ_ z=>⟨_,agR Xx _,z⟩) ?_|refine Rq (bZ _ _) ?_|refine rG (λ_ z=>⟨_,wF (E:=24) rfl,z⟩) ?_|refine ii (λ_ z=>⟨_,_,_,(cv _ _ _ _ _ _ _ rfl (jS FX) rfl rfl rfl),z⟩) ?_|refine ii (λ_ z=>⟨_,_,_,(cr _ _ _ _ _ _ _ rfl (jS FX) rfl rfl rfl),z⟩) ?_)|refine tX 0 ?_|exact Zt|refine bR ?_ ?_<;>intro h)<;>(try conv=>whnf))
        all_goals first|exact Ze|exact Ei
       ·have Xx:(!((kd==0)==true))=true:=by grind
        rw[if_neg bq]at hq;by_cases hz:z2=0
        ·subst hz;rw[aY hx h2 h4 (hq.trans (if_pos rfl))];refine gI f126 h3 hl rfl ?_;repeat' ((first|(refine kO 7 rfl ?_;first|refine ii (λ_ z=>⟨_,_,_,(c0 _ _ ⟨_,_,rfl,rfl⟩ rfl),z⟩) ?_|refine rG (λ_ z=>⟨_,aat Xx _,z⟩) ?_|refine Rq (bZ _ _) ?_|refine rG (λ_ z=>⟨_,wF (E:=0) rfl,z⟩) ?_|refine ii (λ_ z=>⟨_,_,_,(cv _ _ _ _ _ _ _ rfl (jS FX) rfl rfl rfl),z⟩) ?_|refine ii (λ_ z=>⟨_,_,_,(cr _ _ _ _ _ _ _ rfl (jS FX) rfl rfl rfl),z⟩) ?_|refine ii (λ_ z=>⟨_,_,_,(Xp _ _ _ _ _ _ _ _ _ _ _ _ _ _ _ rfl rfl rfl (jS FX) rfl rfl rfl),z⟩) ?_)|refine tX 0 ?_|exact Zt|refine bR ?_ ?_<;>intro h)<;>(try conv=>whnf))
         all_goals first|exact Ze|(simp only[jf];exact Ei)|exact Ei
        ·rw[aY hx h2 h4 (hq.trans (if_neg hz)),if_neg hz];refine gI f126 h3 hl rfl ?_;repeat' ((first|(refine kO 7 rfl ?_;first|refine ii (λ_ z=>⟨_,_,_,(c0 _ _ ⟨_,_,rfl,rfl⟩ rfl),z⟩) ?_|refine rG (λ_ z=>⟨_,aat Xx _,z⟩) ?_|refine Rq (bZ _ _) ?_|refine rG (λ_ z=>⟨_,wF (E:=0) rfl,z⟩) ?_|refine ii (λ_ z=>⟨_,_,_,(cv _ _ _ _ _ _ _ rfl (jS FX) rfl rfl rfl),z⟩) ?_|refine ii (λ_ z=>⟨_,_,_,(cr _ _ _ _ _ _ _ rfl (jS FX) rfl rfl rfl),z⟩) ?_|refine ii (λ_ z=>⟨_,_,_,(Xp _ _ _ _ _ _ _ _ _ _ _ _ _ _ _ rfl rfl rfl (jS FX) rfl rfl rfl),z⟩) ?_)|refine tX 0 ?_|exact Zt|refine bR ?_ ?_<;>intro h)<;>(try conv=>whnf))
         all_goals first|exact Ze|exact Ei
     ·rw[if_pos rfl]at hq;rw[aY hx h2 h4 hq];exact UU
    ·rw[aY hx h2 h4 (hq.trans (if_neg (by simp)))];exact UU
   ·rw[aY hx h2 h4 (hq.trans (if_neg bq))];exact UU
  ·rw[eU hy]at ct;have dy: ¬0<=aZ (cL p.aa) y:=by grind[eN]
   generalize gA p y=t at*;obtain⟨nm,kd,nd,ru,lo,hi⟩:=t;rw[aY hx h2 h4 (show aI E p log ⟨volt,earth,opens,hall,lots,units⟩ u 12 [x,y] n r=(u,6)from if_neg dy)];obtain⟨name,win,ul,res,failed,rel,shaken,used,gas⟩:=u;exact UU
 ·rw[oJ hx];generalize gA p y=t at*;obtain⟨nm,kd,nd,ru,lo,hi⟩:=t;generalize decide (y∈cL p.aa)=is at*;refine gF f126 hl ?_;exact K15
def aaE (p:Pl)(log:List En)(s:bQ)(hl:s.units.length<=1000)(y:SV):bt cx 114 1 ((false,[.ptr 1 0])::[y].map dyn) (form p log s) [1] (.val (dyn (I 0))) (form p log s):=by
 obtain⟨volt,earth,opens,hall,lots,units⟩:=s;refine gF f114 hl ?_;exact afA
structure PB (p:Pl):Prop where
 ae:p.ae.length<=1000
 ap:p.ap.length<=1000
 aa:p.aa.length<=1000
 parts:p.parts.length<=1000
 voids: ∀q∈p.parts,q.2.length<=1000
 bu: ∀t∈p.aa,t.bu.length<=1000
 eH:0<=p.eH/\p.eH<=1000000000000
 rules: ∀t∈p.aa,t.rules.length<=10000
 kind: ∀t∈p.aa,0<=t.kind/\t.kind<=3
 am4: ∀t∈p.aa,∀t'∈p.aa,t.name=t'.name->t=t'
 comp: ∀t∈p.aa,t.kind=2->∃n0 nd,t.bu=n0::nd/\∃t0∈p.aa,t0.name=n0/\t0.kind=1
def alO (tx:aj):Prop:=(ci (bC (ar 32 (bP 3 tx)))).2=0
def aaF (p:Pl)(log:List En)(r:Rs):Prop:=∃k:Nat,r.entry=(k:Nat)/\k<log.length/\(log.getD k gD).text.length <=400/\jJ ((ar 32 (log.getD k gD).text).getD 0 [])=12/\(∃a n q,dU (vb 12) (log.getD k gD).text =some (a,n,q))/\
 ∀t∈p.aa,t.name=r.test->t.kind=1->alO (log.getD k gD).text
structure UB (p:Pl) (log:List En) (u:Un):Prop where
 lots:u.lots.length<=log.length
 len:u.res.length<=log.length
 gas:u.gas.length<=10
 used:0<=u.used/\u.used<=1000000000000
 res: ∀r∈u.res,aaF p log r
structure SB (p:Pl) (log:List En) (s:bQ):Prop where
 units:s.units.length<=6
 lots:s.lots.length<=12
 opens:s.opens.length<=log.length
 unit: ∀u∈s.units,UB p log u
noncomputable def EE:qp:=⟨NG,Kp⟩
def fE:List FuncId:=[114,115,116,117,118,119,120,121,122,123,124,125,126,127,128,129,130,131,132]
def qJ: ∀ {u:List aj} {n:List Int},jl u=some n->n.length=u.length
 | [],n,h=>by cases h;rfl
 |s::r,n,h=>by
  unfold jl at h
  cases e:wN false 7 s with
  |none=>simp_all
  |some v=>
   cases e2:jl r with
   |none=>simp_all
   |some t=>
    rw[e,e2]at h;cases h;simp[qJ e2]
def pE {v:Vb}{tx:aj}{a:List aj}{n:List Int}{q:aj}(h:dU v tx=some (a,n,q))(hk:v.pZ<=v.words):a.length=v.words/\n.length=v.pZ/\(∀x∈a,x.length<=tx.length)/\q.length<=tx.length/\q=(if v.rest then bP (v.words+1) tx else [])/\v.words+1<=(ar 32 tx).length /\(v.rest=true->v.words+2<=(ar 32 tx).length)/\a=((ar 32 tx).take (v.words+1)).drop 1:=by
 unfold dU at h;dsimp only at h;split at h
 ·cases h
 rename_i hc;have h1:v.words+1<=(ar 32 tx).length :=by grind
 have h2:v.rest=true->v.words+2<=(ar 32 tx).length :=λhr=>by grind
 rw[my]at h;obtain⟨m,hm,e⟩:=h;simp only[gr]at e;obtain⟨rfl,rfl,rfl⟩:=e;have h3:=qJ hm;have h4:=(cd 32 tx).2;refine⟨by grind,by grind,λx hx=>h4 x (FU (PA hx)),?_,rfl,h1,h2,rfl⟩;split
 grind[lY]
 grind
def sP {α:Type}{l:List α}(h:l.length=1): ∃a,l= [a]:=xG.1 h
def AE {α:Type}{l:List α}(h:l.length=2): ∃a b,l= [a,b]:=by
 match l,h with
 | [a,b],_=>grind
def agU {α:Type}{l:List α}(h:l.length=3): ∃a b c,l= [a,b,c]:=by
 match l,h with
 | [a,b,c],_=>grind
def anG {α:Type}{l:List α}(h:l.length=5): ∃a b c d e,l= [a,b,c,d,e]:=by
 match l,h with
 | [a,b,c,d,e],_=>grind
def agV {α:Type}{l:List α}(h:l.length=6): ∃a b c d e f,l= [a,b,c,d,e,f]:=by
 match l,h with
 | [a,b,c,d,e,f],_=>grind
def In {l:List Rs}{t:aj}{r:Rs}(h:iN l t=some r):r∈l/\r.test=t/\r.void=false:=by
 unfold iN at h;have h1:=List.mem_of_find?_eq_some h;have h2:=List.find?_some h;unfold sJ at h2
 grind
def E4 {l:List Rs}{t:Ts}{n0:aj}{nd:List aj}(h:iV l t=true)(hn:t.bu=n0::nd): ∃r,iN l n0=some r:=by
 unfold iV at h;rw[hn,List.all_cons,sG]at h
 grind[bH]
def agW {p:Pl}{log:List En}{u:Un}{t:Ts}(hP:PB p)(hU:UB p log u)(ht:t∈p.aa)(hr:iV u.res t=true)(hk:t.kind=2):aas log u t:=by
 obtain⟨n0,nd,hn,_⟩:=hP.comp t ht hk;obtain⟨r,hl⟩:=E4 hr hn;obtain⟨k,h1,h2,h3,h4,⟨a,n,q,h5⟩,h6⟩:=hU.res r (In hl).1;obtain⟨rt,ra,re,rv⟩:=r;simp only at h1;subst h1;have h7:=(pE h5 K9).2.2.2.2.2.2.1 rfl;exact⟨n0,nd,rt,ra,k,rv,hn,hl,h2,h7,by omega⟩
def adu (p:Pl)(log:List En)(s:bQ)(hP:PB p)(hS:SB p log s)(Cc:log.length<60){k:Nat}(hk:k<19){tx:aj}(htx:tx.length<=400){a:List aj}{n:List Int}{q:aj}(h:dU (vb k) tx=some (a,n,q)):
  bt cx (fE.getD k 0) 1 ((false,[.ptr 1 0])::[wS a n q].map dyn) (form p log s) [1] (.val (dyn (I (ba EE p log s k a n q).2))) (form p log (ba EE p log s k a n q).1):=by
 have hl:s.units.length<=1000:=by exact UX
 have hlo:s.lots.length<=1000:=by have:=hS.lots;omega
 have hop:s.opens.length<=1000:=by have:=hS.opens;omega
 have hur: ∀u∈s.units,u.res.length<=1000:=λu hu=>by have:=(hS.unit u hu).len;omega
 have hul: ∀u∈s.units,u.lots.length<=1000:=λu hu=>by have:=(hS.unit u hu).lots;omega
 have hug: ∀u∈s.units,u.gas.length<=1000:=λu hu=>by have:=(hS.unit u hu).gas;omega
 have huu: ∀u∈s.units,0<=u.used/\u.used<=1000000000000000:=λu hu=>by have:=(hS.unit u hu).used;omega
 have AR: ∀i<p.aa.length,(p.aa.getD i dk).bu.length <=1000:=λi hi=>hP.bu _ bq;obtain rfl|rfl|rfl|rfl|rfl|rfl|rfl|rfl|rfl|rfl|rfl|rfl|rfl|rfl|rfl|rfl|rfl|rfl|rfl:k=0\/k=1\/k=2\/k=3\/k=4\/k=5\/k=6\/k=7\/k=8\/k=9\/k=10\/k=11\/k=12\/k=13\/k=14\/k=15\/k=16\/k=17\/k=18:=by omega
 all_goals obtain⟨ha,hn,hx,hq,-,-,-,-⟩:=pE h K9
 ·exact aaE p log s hl _
 ·obtain⟨x,rfl⟩:=sP ha;have:=hx x (by simp);exact Q6 EE p log s hl x n q K0 hlo
 ·obtain⟨x,rfl⟩:=sP ha;have:=hx x (by simp);exact Og EE p log s rfl UX x n q K0 K0
 ·obtain⟨x,y,rfl⟩:=AE ha;exact ac8 EE p log s hl x y n q hlo hul
 ·obtain⟨x,rfl⟩:=sP ha;exact aaC EE p log s hl x n q hP.ap hop
 ·obtain⟨x,rfl⟩:=sP ha;exact aaD EE p log s hl x n q hP.ap hop
 ·exact V0 EE p log s hl a n q
 ·exact ZW EE p log s hl a n q
 ·exact Nw EE p log s hl a n q
 ·have:=ac4 p log s hl a n q;cases hv:s.volt
  ·rw[hv]at this;rw[show ba EE p log s 9 a n q=(s,20)by grind[ba]];exact this
  ·rw[hv]at this;rw[show ba EE p log s 9 a n q=({s with volt:=false},0)by grind[ba]];exact this
 ·obtain⟨x,rfl⟩:=sP ha;exact V3 EE p log s hl x n q
 ·obtain⟨x,rfl⟩:=sP ha;exact V4 EE p log s hl x n q
 ·obtain⟨x,y,rfl⟩:=AE ha;exact aau EE p log s hl x y n q hP.aa hP.bu hur K0 λu hu t ht hr=>Kq p log u t q bq K0 (hP.rules t ht) (hP.kind t ht) λhk=>agW hP (hS.unit u hu) ht hr hk
 ·obtain⟨x,y,rfl⟩:=AE ha;exact Q1 EE p log s hl x y n q hP.aa hP.parts hP.voids AR hur
 ·obtain⟨x,rfl⟩:=sP ha;exact NA EE p log s hl x n q hP.aa hur
 ·obtain⟨x,y,rfl⟩:=AE ha;obtain⟨m,rfl⟩:=sP hn;exact WA EE p log s hl x y m q
 ·obtain⟨x,rfl⟩:=sP ha;exact Nx EE p log s hl x n q
 ·obtain⟨x,y,z,rfl⟩:=agU ha;obtain⟨d,t,rfl⟩:=AE hn;exact aaB EE p log s hl x y z d t q (by have:=hP.eH;omega) huu
 ·obtain⟨x,a1,a2,a3,a4,a5,rfl⟩:=agV ha;obtain⟨h1,h2,h3,h4,h5,rfl⟩:=anG hn;exact adt EE p log s hl x a1 a2 a3 a4 a5 h1 h2 h3 h4 h5 q hug
inductive BG:Hp->Hp->Prop
 |base (T:Hp):BG T T
 |step {k:Nat} {b:Option cB} {H T:Hp} (h:Nat.blt 0 (tag k)=true) (e:BG H T):BG ((k,b)::H) T
theorem BG.get {H T:Hp}{root:Nat}(h:BG H T)(hT:Ld T root): ∀k∈ah T,T.get k=H.get k:=by
 induction h with
 |base=>grind
 |step h e ih=>
  intro k hk;rw[Hp.kJ (λe=>by subst e;rw[AU]at h;have:=(hT.lt k hk).2;omega)]
  grind
def vk {f:FuncId}{fid:Nat}{y:SV}{p:Pl}{log si:List En}{s s':bQ}{z:Int}{H:Hp}(h:bt cx f 1 ((false,[.ptr 1 0])::[y].map dyn) (form p log s) [1] (.val (dyn (I z))) (form p si s'))(hl:s.units.length<=1000)(sw:s'.units.length<=1000)
  (hf:tag fid≠0)(hO:BG H (form p log s)):
  bW cx fid f [(false,[.ptr 1 0]),dyn y] H.get (.val (dyn (I z))) (cI (form p log s) (cS (fresh (tag fid) 1) (form p si s'))) (ah (form p log s)):=by
 have hT:=dq p log hl;have fj:=dq p si sw;have g:=wH (H:=H.get) h hT fj (dz _) hf (hO.get hT) (λx hx=>?_) (bz (I z))
 ·exact am8
 ·rcases dh.1 hx with rfl|hx
  ·exact afI
  grind[bz]
def zl {fid nx n' b:Nat}{T T' H:Hp}{E E':dT}{ks:List Nat}{cs:List SC}(hT:Ld T 1)(fj:Ld T' 1)(hf:tag fid≠0)(hb:tag b≠0)(hbf:tag b≠tag fid)(hbn:tag b<n')(hH:H.get b=some (.dZ cs))
  (hE:e8 (gz (fresh (tag fid) 1) T' [(b,some (.dZ cs))]) E.get ks=some E'):
  bs ⟨E,cI T (cS (fresh (tag fid) 1) T')++H,nx⟩ ⟨E',(b,some (.dZ cs))::T',n'⟩:=by
 have h1:b∉ah T:=λh=>hb (hT.lt b h).2;have h2:b∉ah T':=λh=>hb (fj.lt b h).2;refine(DJ (R:=[(b,some (.dZ cs))]) (n':=n') hT fj hf (by simp) (λk hk=>?_) (λid bl e=>?_) K0 hE).trans (Cq ?_)
 grind
 ·obtain⟨rfl,rfl⟩:=iA e;exact⟨hH,trivial⟩
 ·have:=qt (A:=T') (F':=[(b,some (.dZ cs))]) (B:=[]) (λn hn hm=>by
   grind)
  grind
section
variable (p:Pl)(log:List En)(s s':bQ)(et:Int)(ew tx:aj)
theorem Q7 (hl:s.units.length<=1000)(sw:s'.units.length<=1000)(hp:p.ae.length<=1000)(ht:tx.length<=100000)(Cc:log.length<60){role w k:Nat}{rest:Bool}{f:FuncId}(hf:iY ui (B ((ar 32 tx).getD 0 []))=some (NJ role w k rest f))(hX:sM p log et ew tx true=0)
  {ik:Nat}(IF:aZ p.ay ew=(ik:Nat))(zI:ik<p.ae.length)(hr: ¬(p.ae.getD ik ([],0)).2<role){a:List aj}{n:List Int}{r:aj}(qO:ac 69 [NJ role w k rest f,SS tx] (.aJ [wS a n r,Bo true]))
  {z:Int}(hz:z≠0)(hef:bt cx f 1 ((false,[.ptr 1 0])::[wS a n r].map dyn) (form p log s) [1] (.val (dyn (I z))) (form p log s')):
  bt cx 62 1 ((false,[.ptr 1 0])::[enX ⟨et,ew,tx⟩].map dyn) (form p log s) [1] (.val (dyn (I z))) (form p log s'):=by
 have hn:(log.map cY).length =log.length:=by simp
 have hpn:(p.ae.map na).length =p.ae.length:=by simp
 have he:=bg (f:=na) zI ([],0);have c1:=lZ p.ae et ew tx hp;have c2:=gh tx 32 K0;rw[QM]at c2;generalize (Lib.cut tx [32]).2.1=q1 at*;generalize (Lib.cut tx [32]).2.2=q2 at*;have c3:=kC tx K0;generalize (ar 32 tx).getD 0 []=wd at*;have CB:fs [if aZ p.ay ew>=0 then 0 else 6,if 0<=et/\et<=1000000000000 then 0 else 2,if et>=il log then 0 else 9,if((tx.length:Nat):Int)<=400 then 0 else 8,if aU tx then 0 else 3,if true=true then 0 else 7]=0:=hX;rw[IF]at CB;rw[show p.ae.map Prod.fst=p.ay from rfl,IF]at c1;generalize p.ae.getD ik ([],0)=pe at*;obtain⟨pn,pr⟩:=pe;dsimp only at hr;have ce:=λfid H hO hf=>vk (fid:=fid) (H:=H) hef hl sw hf hO;have hT:=dq p log hl;have fj:=dq p log sw;clear hef;obtain⟨volt,earth,opens,hall,lots,units⟩:=s;obtain⟨amm,ahx,ahq,amt,amn,ahy⟩:=s'
 rcases J7 log with⟨g1,g2⟩|⟨j,g1,g2,g3⟩
 ·rw[g2]at CB;refine gF f62 sw ?_;repeat' ((first|(refine kO 7 rfl ?_;first|refine Rh (jn _ _) ?_)|refine tX 0 ?_|exact Zt|refine bR ?_ ?_<;>intro h)<;>(try conv=>whnf))
  rw[hf];repeat' ((first|(refine kO 7 rfl ?_;first|refine Rq (iS _) ?_|refine rG (λ_ z=>⟨_,wF CB,z⟩) ?_)|refine tX 0 ?_|exact Zt|refine bR ?_ ?_<;>intro h)<;>(try conv=>whnf))
  repeat((first|(refine kO 7 rfl ?_;first|refine so (λ_ z=>⟨_,_,_,(ce _ _ K76 (fD rfl)),z⟩) ?_)|refine tX 2 ?_|exact Zt);(try conv=>whnf))
  refine aQ ?_;(refine aR ?_;conv=>whnf);(try(refine tX 2 ?_;try exact Zt));refine⟨_,zl (b:=2) (cs:=cY ⟨et,ew,tx⟩) (E':=[(0,pP 1),(3,pP 2),(16,vI z),(114,some (lit (.bool (z != 0))))]) (ks:=[0,3,16,114]) (n':=1000) hT fj (fD rfl) (fD rfl) (fD rfl) (fO rfl) rfl dl,?_⟩;exact K90
 ·rw[g3]at CB;have hN:dN (((log.map cY).length :Int) -1) j:=⟨by omega⟩;generalize log.getD j ⟨0,[],[]⟩=le at*;obtain⟨lt,lw,lx⟩:=le;refine gF f62 sw ?_;repeat' ((first|(refine kO 7 rfl ?_;first|refine Rh (jn _ _) ?_)|refine tX 0 ?_|exact Zt|refine bR ?_ ?_<;>intro h)<;>(try conv=>whnf))
  all_goals rw[hf]
  all_goals repeat' ((first|(refine kO 7 rfl ?_;first|refine Rq (iS _) ?_|refine rG (λ_ z=>⟨_,wF CB,z⟩) ?_)|refine tX 0 ?_|exact Zt|refine bR ?_ ?_<;>intro h)<;>(try conv=>whnf))
  all_goals try(exfalso;omega)
  repeat((first|(refine kO 7 rfl ?_;first|refine so (λ_ z=>⟨_,_,_,(ce _ _ K76 (fD rfl)),z⟩) ?_)|refine tX 2 ?_|exact Zt);(try conv=>whnf))
  refine aQ ?_;(refine aR ?_;conv=>whnf);(try(refine tX 2 ?_;try exact Zt));refine⟨_,zl (b:=2) (cs:=cY ⟨et,ew,tx⟩) (E':=[(0,pP 1),(3,pP 2),(16,vI z),(114,some (lit (.bool (z != 0))))]) (ks:=[0,3,16,114]) (n':=1000) hT fj (fD rfl) (fD rfl) (fD rfl) (fO rfl) rfl dl,?_⟩;exact K90
theorem WB (hl:s.units.length<=1000)(sw:s'.units.length<=1000)(hp:p.ae.length<=1000)(ht:tx.length<=100000)(Cc:log.length<60){role w k:Nat}{rest:Bool}{f:FuncId}(hf:iY ui (B ((ar 32 tx).getD 0 []))=some (NJ role w k rest f))(hX:sM p log et ew tx true=0)
  {ik:Nat}(IF:aZ p.ay ew=(ik:Nat))(zI:ik<p.ae.length)(hr: ¬(p.ae.getD ik ([],0)).2<role){a:List aj}{n:List Int}{r:aj}(qO:ac 69 [NJ role w k rest f,SS tx] (.aJ [wS a n r,Bo true]))
  (hef:bt cx f 1 ((false,[.ptr 1 0])::[wS a n r].map dyn) (form p log s) [1] (.val (dyn (I 0))) (form p log s')):
  bt cx 62 1 ((false,[.ptr 1 0])::[enX ⟨et,ew,tx⟩].map dyn) (form p log s) [1] (.val (dyn (I 0))) (form p (log++[⟨et,ew,tx⟩]) s'):=by
 have hn:(log.map cY).length =log.length:=by simp
 have hpn:(p.ae.map na).length =p.ae.length:=by simp
 have he:=bg (f:=na) zI ([],0);have c1:=lZ p.ae et ew tx hp;have c2:=gh tx 32 K0;rw[QM]at c2;generalize (Lib.cut tx [32]).2.1=q1 at*;generalize (Lib.cut tx [32]).2.2=q2 at*;have c3:=kC tx K0;generalize (ar 32 tx).getD 0 []=wd at*;have CB:fs [if aZ p.ay ew>=0 then 0 else 6,if 0<=et/\et<=1000000000000 then 0 else 2,if et>=il log then 0 else 9,if((tx.length:Nat):Int)<=400 then 0 else 8,if aU tx then 0 else 3,if true=true then 0 else 7]=0:=hX;rw[IF]at CB;rw[show p.ae.map Prod.fst=p.ay from rfl,IF]at c1;generalize p.ae.getD ik ([],0)=pe at*;obtain⟨pn,pr⟩:=pe;dsimp only at hr;have ce:=λfid H hO hf=>vk (fid:=fid) (H:=H) hef hl sw hf hO;have hT:=dq p log hl;have fj:=dq p log sw;clear hef;obtain⟨volt,earth,opens,hall,lots,units⟩:=s;obtain⟨amm,ahx,ahq,amt,amn,ahy⟩:=s'
 rcases J7 log with⟨g1,g2⟩|⟨j,g1,g2,g3⟩
 ·rw[g2]at CB;refine gF f62 sw ?_;repeat' ((first|(refine kO 7 rfl ?_;first|refine Rh (jn _ _) ?_)|refine tX 0 ?_|exact Zt|refine bR ?_ ?_<;>intro h)<;>(try conv=>whnf))
  rw[hf];repeat' ((first|(refine kO 7 rfl ?_;first|refine Rq (iS _) ?_|refine rG (λ_ z=>⟨_,wF CB,z⟩) ?_)|refine tX 0 ?_|exact Zt|refine bR ?_ ?_<;>intro h)<;>(try conv=>whnf))
  repeat((first|(refine kO 7 rfl ?_;first|refine so (λ_ z=>⟨_,_,_,(ce _ _ K76 (fD rfl)),z⟩) ?_)|refine tX 2 ?_|exact Zt);(try conv=>whnf))
  refine aQ ?_;(refine aR ?_;conv=>whnf);(try(refine tX 2 ?_;try exact Zt));refine⟨_,zl (b:=2) (cs:=cY ⟨et,ew,tx⟩) (E':=[(0,pP 1),(3,pP 2),(16,vI 0),(114,some (lit (.bool (0 != 0))))]) (ks:=[0,3,16,114]) (n':=1000) hT fj (fD rfl) (fD rfl) (fD rfl) (fO rfl) rfl dl,?_⟩;exact tL
 ·rw[g3]at CB;have hN:dN (((log.map cY).length :Int) -1) j:=⟨by omega⟩;generalize log.getD j ⟨0,[],[]⟩=le at*;obtain⟨lt,lw,lx⟩:=le;refine gF f62 sw ?_;repeat' ((first|(refine kO 7 rfl ?_;first|refine Rh (jn _ _) ?_)|refine tX 0 ?_|exact Zt|refine bR ?_ ?_<;>intro h)<;>(try conv=>whnf))
  all_goals rw[hf]
  all_goals repeat' ((first|(refine kO 7 rfl ?_;first|refine Rq (iS _) ?_|refine rG (λ_ z=>⟨_,wF CB,z⟩) ?_)|refine tX 0 ?_|exact Zt|refine bR ?_ ?_<;>intro h)<;>(try conv=>whnf))
  all_goals try(exfalso;omega)
  repeat((first|(refine kO 7 rfl ?_;first|refine so (λ_ z=>⟨_,_,_,(ce _ _ K76 (fD rfl)),z⟩) ?_)|refine tX 2 ?_|exact Zt);(try conv=>whnf))
  refine aQ ?_;(refine aR ?_;conv=>whnf);(try(refine tX 2 ?_;try exact Zt));refine⟨_,zl (b:=2) (cs:=cY ⟨et,ew,tx⟩) (E':=[(0,pP 1),(3,pP 2),(16,vI 0),(114,some (lit (.bool (0 != 0))))]) (ks:=[0,3,16,114]) (n':=1000) hT fj (fD rfl) (fD rfl) (fD rfl) (fO rfl) rfl dl,?_⟩;exact tL
end
def Io {c:Prop} [Decidable c]{n:Int}{l:List Int}(hn:n≠0):fs ((if c then 0 else n)::l)=if c then fs l else n:=by
 by_cases h:c
 ·rw[if_pos h,if_pos h];rfl
 ·rw[if_neg h,if_neg h];show(if n≠0 then n else fs l)=n;rw[if_pos hn]
def adv (p:Pl)(log:List En)(et:Int)(ew tx:aj)(kn:Bool):sM p log et ew tx kn=if aZ p.ay ew>=0 then(if 0<=et/\et<=1000000000000 then(if et>=il log then(if((tx.length:Nat):Int)<=400 then(if aU tx then(if kn=true then 0 else 7)else 3)else 8)else 9)else 2)else 6:=by
 unfold sM;rw[Io K9,Io K9,Io K9,Io K9,Io K9,Io K9];rfl
noncomputable def Oi (E:qp)(p:Pl)(log:List En)(s:bQ)(e:En):bQ × Int:=
 if(p.ae.getD (aZ p.ay e.lu).toNat ([],0)).2< (vb (jJ ((ar 32 e.text).getD 0 []))).role then(s,18)else
 match dU (vb (jJ ((ar 32 e.text).getD 0 []))) e.text with
 |none=>(s,7)
 |some (a,n,rest)=>ba E p log s (jJ ((ar 32 e.text).getD 0 [])) a n rest
def zm (E:qp)(p:Pl)(log:List En)(s:bQ)(et:Int)(ew tx:aj):
  (sM p log et ew tx (decide (jJ ((ar 32 tx).getD 0 [])<19))≠0/\pl E p log s ⟨et,ew,tx⟩=(s,sM p log et ew tx (decide (jJ ((ar 32 tx).getD 0 [])<19))))\/
  (sM p log et ew tx (decide (jJ ((ar 32 tx).getD 0 [])<19))=0/\0<=aZ p.ay ew/\tx.length<=400/\jJ ((ar 32 tx).getD 0 [])<19/\pl E p log s ⟨et,ew,tx⟩=Oi E p log s ⟨et,ew,tx⟩):=by
 rw[adv];unfold pl;dsimp only;by_cases h1:aZ p.ay ew>=0
 ·rw[if_pos h1,if_neg (show ¬aZ p.ay ew<0 by omega)];by_cases h2:0<=et/\et<=1000000000000
  ·rw[if_pos h2,if_neg (FW h2)];by_cases h3:et>=il log
   ·rw[if_pos h3,if_neg (show ¬et<il log by omega)];by_cases h4:((tx.length:Nat):Int)<=400
    ·rw[if_pos h4,if_neg (show ¬400<tx.length by omega)];by_cases h5:aU tx
     ·rw[if_pos h5,if_neg (FW h5)];by_cases h6:jJ ((ar 32 tx).getD 0 [])<19
      ·rw[if_pos (fG h6),if_neg (show ¬19<=jJ ((ar 32 tx).getD 0 [])by omega)];exact .inr ⟨rfl,h1,by omega,h6,rfl⟩
      ·rw[if_neg (by rw[eU h6];decide),if_pos (show 19<=jJ ((ar 32 tx).getD 0 [])by omega)];exact UW
     ·rw[if_neg h5,if_pos h5];exact UW
    ·rw[if_neg h4,if_pos (show 400<tx.length by omega)];exact UW
   ·rw[if_neg h3,if_pos (show et<il log by omega)];exact UW
  ·rw[if_neg h2,if_pos h2];exact UW
 ·rw[if_neg h1,if_pos (show aZ p.ay ew<0 by omega)];exact UW
def afd {k:Nat}(hk:k<19): ∃nm,∃role w m:Nat,∃rest,NK[k]? =some (nm,NJ role w m rest (fE.getD k 0))/\vb k=⟨(role:Nat),w,m,rest⟩/\w<=10/\m<=w/\(rest=true->m=0):=by
 obtain rfl|rfl|rfl|rfl|rfl|rfl|rfl|rfl|rfl|rfl|rfl|rfl|rfl|rfl|rfl|rfl|rfl|rfl|rfl:k=0\/k=1\/k=2\/k=3\/k=4\/k=5\/k=6\/k=7\/k=8\/k=9\/k=10\/k=11\/k=12\/k=13\/k=14\/k=15\/k=16\/k=17\/k=18:=by omega
 all_goals exact⟨_,_,_,_,_,rfl,rfl,by decide,by decide,by decide⟩
def E5 (E:qp)(p:Pl)(log:List En)(s:bQ)(k:Nat)(a:List aj)(n:List Int)(q:aj):(ba E p log s k a n q).1.units.length <=s.units.length+1:=by
 unfold ba;split<;>(repeat' split)<;>simp
noncomputable def jo (p:Pl)(log:List En)(s:bQ)(e:En):bQ × Int:=if 60<=log.length then(s,8)else pl EE p log s e
def aaG (log:List En)(e:En)(z:Int):List En:=if z=0 then log++[e]else log
def Q8 {l:List aj}{x:aj}(h:0<=aZ l x): ∃k:Nat,aZ l x=(k:Nat)/\k<l.length:=by
 by_cases hx:x∈l
 ·obtain⟨k,hk,e⟩:=k7 hx;exact⟨k,e,hk⟩
 ·rw[eN hx]at h;omega
def Q9 (p:Pl)(log:List En)(s:bQ)(hP:PB p)(hS:SB p log s)(e:En)(he:e.text.length<=100000):
  bt cx 62 1 ((false,[.ptr 1 0])::[enX e].map dyn) (form p log s) [1] (.val (dyn (I (jo p log s e).2))) (form p (aaG log e (jo p log s e).2) (jo p log s e).1):=by
 have hl:s.units.length<=1000:=by exact UX
 unfold jo;by_cases Cc:60<=log.length
 ·rw[if_pos Cc];exact NQ p log s hl e Cc
 ·rw[if_neg Cc];have Cc:log.length<60:=by omega
  obtain⟨et,ew,tx⟩:=e;dsimp only at he;have KX:=Wb ((ar 32 tx).getD 0 [])
  rcases zm EE p log s et ew tx with⟨h1,h2⟩|⟨h1,h2,h3,h4,h5⟩
  ·rw[h2];have hz:aaG log ⟨et,ew,tx⟩ (sM p log et ew tx (decide (jJ ((ar 32 tx).getD 0 [])<19)))=log:=if_neg h1;simp only;rw[hz];by_cases hk:jJ ((ar 32 tx).getD 0 [])<19
   ·obtain⟨nm,role,w,m,rest,g1,g2,_⟩:=afd hk;rw[g1]at KX;rw[fG hk]at h1 ⊢;exact Wj p log s et ew tx hl hP.ae he Cc KX h1
   ·rw[eU hk]at h1 ⊢;have hn:NK[jJ ((ar 32 tx).getD 0 [])]? =none:=List.getElem?_eq_none (by show 19<=_;omega);rw[hn]at KX;exact Wl p log s et ew tx hl hP.ae he Cc KX h1
  ·rw[h5];rw[fG h4]at h1;obtain⟨nm,role,w,m,rest,g1,g2,g3,g4,g5⟩:=afd h4;rw[g1]at KX;obtain⟨ik,IF,zI⟩:=Q8 h2;have zI:ik<p.ae.length:=by simpa [Pl.ay]using zI
   unfold Oi;dsimp only;rw[IF,p8,g2];dsimp only;by_cases hr:(p.ae.getD ik ([],0)).2< (role:Nat)
   ·rw[if_pos hr];exact NR p log s et ew tx hl hP.ae he Cc KX h1 IF zI hr
   ·rw[if_neg hr];obtain⟨a,n,q,ok,c1,c2⟩:=Ie role w m rest (fE.getD (jJ ((ar 32 tx).getD 0 [])) 0) tx he g3 g4 g5;cases ok
    ·rw[if_neg xH]at c2;rw[c2];exact NS p log s et ew tx hl hP.ae he Cc KX h1 IF zI hr c1
    ·rw[if_pos rfl]at c2;rw[c2];have hef:=adu p log s hP hS Cc h4 h3 (by rw[g2];exact c2)
     have sw:(ba EE p log s (jJ ((ar 32 tx).getD 0 [])) a n q).1.units.length <=1000:=by
      have:=E5 EE p log s (jJ ((ar 32 tx).getD 0 [])) a n q;have:=hS.units;omega
     show bt _ _ _ _ _ _ (.val (dyn (I (ba EE p log s (jJ ((ar 32 tx).getD 0 [])) a n q).2))) (form p (aaG log _ (ba EE p log s (jJ ((ar 32 tx).getD 0 [])) a n q).2) (ba EE p log s (jJ ((ar 32 tx).getD 0 [])) a n q).1);generalize ba EE p log s (jJ ((ar 32 tx).getD 0 [])) a n q=y at*;obtain⟨s',z⟩:=y;by_cases hz:z=0
     ·subst hz;exact WB p log s s' et ew tx hl sw hP.ae he Cc KX h1 IF zI hr c1 hef
     ·have e1:aaG log ⟨et,ew,tx⟩ z=log:=if_neg hz;simp only;rw[e1];exact Q7 p log s s' et ew tx hl sw hP.ae he Cc KX h1 IF zI hr c1 hz hef
def WC {p:Pl}{log:List En}{r:Rs}(e:En)(h:aaF p log r):aaF p (log++[e]) r:=by
 obtain⟨k,h1,h2,h3,h4,h5,h6⟩:=h;refine⟨k,h1,by simp;omega,?_⟩
 grind
def UB.app {p:Pl}{log:List En}{u:Un}(h:UB p log u)(e:En):UB p (log++[e]) u:=
 ⟨by have:=h.lots;simp;omega,by have:=h.len;simp;omega,h.gas,h.used,λr hr=>WC e (h.res r hr)⟩
def adw {log:List En}{u:Un}{t:Ts}{rest:aj}(hk:t.kind=1)(h:(Kp log u t rest).2=0):(ci (bC (ar 32 rest))).2=0:=by
 unfold Kp at h
 grind
def adx (d t:Int):0<=Zw d t:=by
 unfold Zw;split
 ·rename_i h;unfold Zv at h;split
  grind
  ·exact CO (Int.le_of_lt (Int.pow_pos K9)) h.2.1
 grind
def WD {p:Pl}{log:List En}{s:bQ}{u u':Un}(hP:PB p)(hU:UB p log u)(e:En){k:Nat}{a:List aj}{n:List Int}{q:aj}(ht:e.text.length<=400)(hv:jJ ((ar 32 e.text).getD 0 [])=k)(qO:dU (vb k) e.text=some (a,n,q))
  (h:aI EE p log s u k a n q=(u',0)):UB p (log++[e]) u':=by
 have hm:=hU.app e;unfold aI at h;split at h
 ·repeat' split at h
  all_goals(simp only[gr]at h;obtain⟨rfl,h⟩:=h)
  all_goals first|exact hm|exact⟨by have:=hU.lots;simp;omega,hm.len,hm.gas,hm.used,hm.res⟩
 ·grind
 ·grind
 ·by_cases hi:0<=aZ (cL p.aa) (a.getD 1 [])
  ·rw[if_pos hi]at h;dsimp only at h;obtain⟨j,hj,hjl⟩:=Q8 hi;rw[hj,p8]at h;have htm:p.aa.getD j dk∈p.aa:=by grind[cL]
   generalize p.aa.getD j dk=t at*;by_cases oW:(EE.ev log u t q).2=0
   ·rw[if_pos oW]at h;repeat' split at h
    all_goals(simp only[gr]at h;obtain⟨rfl,h⟩:=h)
    all_goals first|exact hm|skip
    refine⟨hm.lots,by have:=hU.len;simp;omega,hm.gas,hm.used,λr hr=>?_⟩;rcases gC.1 hr with hr|hr
    ·exact hm.res r hr
    ·rw[lz]at hr;subst hr;have hg:(log++[e]).getD log.length gD=e:=by grind
     refine⟨log.length,rfl,by simp,?_⟩;rw[hg];refine⟨ht,hv,⟨a,n,q,qO⟩,λt' Pp hn hk=>?_⟩;obtain rfl:=hP.am4 t' Pp t htm hn;obtain⟨_,_,_,_,hq,_⟩:=pE qO K9;have:q=bP 3 e.text:=hq;subst this;exact adw hk oW
   grind
  grind
 ·repeat' split at h
  all_goals(simp only[gr]at h;obtain⟨rfl,h⟩:=h)
  all_goals first|exact hm|skip
  refine⟨hm.lots,by have:=hU.len;simp;omega,hm.gas,hm.used,λr hr=>?_⟩;obtain⟨r0,hr0,rfl⟩:=dS.1 hr;exact hm.res r0 hr0
 ·exact K78
 ·exact K78
 ·exact K78
 ·have hl:=hP.eH;have hu:=hU.used;have amW:=adx (n.getD 0 0) (n.getD 1 0);generalize Zw (n.getD 0 0) (n.getD 1 0)=ag at*;repeat' split at h
  all_goals(simp only[gr]at h;obtain⟨rfl,h⟩:=h)
  all_goals first|exact hm|exact⟨hm.lots,hm.len,hm.gas,abY,hm.res⟩
 ·dsimp only at h;repeat' split at h
  all_goals(simp only[gr]at h;obtain⟨rfl,h⟩:=h)
  all_goals first|exact hm|exact⟨hm.lots,hm.len,wA,hm.used,hm.res⟩
 grind
def SB.app {p:Pl}{log:List En}{s:bQ}(h:SB p log s)(e:En):SB p (log++[e]) s:=⟨h.units,h.lots,by have:=h.opens;simp;omega,λu hu=>(h.unit u hu).app e⟩
theorem agX {p:Pl}{log:List En}{s:bQ}(hP:PB p)(hS:SB p log s)(e:En){k:Nat}{a:List aj}{n:List Int}{q:aj}(ht:e.text.length<=400)(hv:jJ ((ar 32 e.text).getD 0 [])=k)(qO:dU (vb k) e.text=some (a,n,q))
  {s':bQ}(h:ba EE p log s k a n q=(s',0)):SB p (log++[e]) s':=by
 have hm:=hS.app e;have ho:=hS.opens;unfold ba at h;split at h
 ·exact ajM
 ·repeat' split at h
  all_goals(simp only[gr]at h;obtain⟨rfl,h⟩:=h)
  all_goals first|exact hm|exact⟨hm.units,by simp;omega,hm.opens,hm.unit⟩
 ·repeat' split at h
  all_goals(simp only[gr]at h;obtain⟨rfl,h⟩:=h)
  all_goals first|exact hm|skip
  refine⟨by simp;omega,hm.lots,hm.opens,λu hu=>?_⟩;rcases gC.1 hu with hu|hu
  ·exact hm.unit u hu
  ·rw[lz]at hu;subst hu;exact⟨dM _,dM _,dM _,⟨by show(0:Int)<=0;decide,by show(0:Int)<=1000000000000;decide⟩,λr hr=>by cases hr⟩
 ·repeat' split at h
  all_goals(simp only[gr]at h;obtain⟨rfl,h⟩:=h)
  all_goals first|exact hm|exact⟨hm.units,hm.lots,by simp;omega,hm.unit⟩
 ·repeat' split at h
  all_goals(simp only[gr]at h;obtain⟨rfl,h⟩:=h)
  all_goals first|exact hm|exact⟨hm.units,hm.lots,by have:=List.length_erase_le (a:=a.getD 0 []) (l:=s.opens);show(s.opens.erase (a.getD 0 [])).length <=(log++[e]).length;rw[xI];simp only[Sm];omega,hm.unit⟩
 ·exact K49
 ·exact K49
 ·exact K49
 ·exact K49
 ·split at h
  ·rename_i hx;obtain⟨i,u,g1,g2,g3,g4,g5⟩:=j6 hx;dsimp only at h;rw[g2,g4]at h
   cases hr:aI EE p log s u k a n q with
   |mk u' z=>
    rw[hr]at h;simp only[gr]at h;obtain⟨rfl,rfl⟩:=h;have hU:=WD hP (hS.unit u (jv g3)) e ht hv qO hr;refine⟨by simp;exact hm.units,hm.lots,hm.opens,λw hw=>?_⟩;rcases Sh hw with hw|rfl
    ·exact hm.unit w hw
    ·exact hU
  ·exact ajM
def Ra {p:Pl}{log:List En}{s s':bQ}(hP:PB p)(hS:SB p log s)(e:En)(h:jo p log s e=(s',0)):SB p (log++[e]) s'/\log.length<60:=by
 unfold jo at h;by_cases Cc:60<=log.length
 grind
 ·rw[if_neg Cc]at h;obtain⟨et,ew,tx⟩:=e
  rcases zm EE p log s et ew tx with⟨h1,h2⟩|⟨h1,h2,h3,h4,h5⟩
  grind
  grind[Oi,agX]
def E6 (p:Pl):SB p [] Go.Plain.gm:=⟨by decide,by decide,by decide,λu hu=>by cases hu⟩
def Ir {fid nx n':Nat}{T T' H:Hp}{E E':dT}{ks:List Nat}(hT:Ld T 1)(fj:Ld T' 1)(hf:tag fid≠0)(hn:Nat.blt 0 n'=true)(hE:e8 (gz (fresh (tag fid) 1) T' []) E.get ks=some E'):
  bs ⟨E,cI T (cS (fresh (tag fid) 1) T')++H,nx⟩ ⟨E',T',n'⟩:=by
 have h:=DJ (R:=[]) (hp:=H) (nx:=nx) (n':=n') hT fj hf (by simp) (λk hk=>by cases hk) (λid b e=>by simp[Hp.get]at e) (by rwa [AU]at hn) hE;rwa [zQ]at h
def WE {E E':dT}{H:Hp}{nx n' un:Nat}{p:Pl}{log:List En}{s:bQ}{m:List (Nat × Nat)}{ks:List Nat}(hl:s.units.length<=1000)(hm:Go.Fw.IQ ((un,9)::m)=true)(h9:H.get un=some (.aG 17 (aA 0 s.units)))
  (hY:jW ((un,9)::m++mT (br 0 s.units)) H.get m=some (hd p log s))(hE:im H (br 0 s.units))(hn:(m.all λq=>Nat.blt (tag q.2) n')=true)(h0:Nat.blt 0 n'=true)
  (ahr:e8 ((un,9)::m++mT (br 0 s.units)) E.get ks=some E'):bs ⟨E,H,nx⟩ ⟨E',form p log s,n'⟩:=by
 have hT:=gZ hl;have iF:=(H6 (us:=s.units) hm).resolve_right K0;have fC:=cW.aet (Y:=hd p log s) hT hm h9 iF hY rfl (hE.get hT);refine Cs fC (λq hq=>?_) ahr;have h0:0<n':=by rw[AU]at h0;exact h0
 rcases gC.1 hq with h|h
 ·rcases dh.1 h with rfl|h
  ·show Fw.tag 9<n';rw[show Fw.tag 9=0 from rfl];exact h0
  ·exact anj
 ·exact ah3
abbrev nwC (p:Pl)(a b c d:DC):List DC:=[.st (.view (p.ae.map na)),.st (.view (ab p.ap)),.st (.view (p.aa.map fq)),.st (.view (p.parts.map mh)),.st (J p.dY),.st (J p.eH),a,.st (K false),.st (K true),b,.st (T []),c,d]
abbrev Oj (p:Pl)(a b c d:DC):cB:=.box 126 (nwC p a b c d)
def alQ (fn:Func)(p:Pl)(fid:Nat)(S:St):Prop:=∃id,S.hp.get id=some (Oj p .nil .nil .nil .nil)/\eA cx S.hp.get S.env.get fn.results.toList λys=>∃zs,kV [(id,fid)] ys=some zs/\pg zs=Fw.bm (.ptr fid 0)
def anH {f:FuncId}{c:Code}{fid:Nat}{p:Pl}(fn:Func)(h:m6 cx c ⟨iz 0 [dyn (true,bU p)],[],1⟩ (alQ fn p fid) (λ_ _=>False) (alQ fn p fid))
  (h1:iH cx.P f=true:=by kernel_rfl)(h2:cx.P.funcs[f]? =some fn:=by kernel_rfl)(h3:fn.body=some c:=by rfl)(h4:bM fn.ntmps c=true:=by kernel_rfl)(h5: [dyn (true,bU p)].length <=fn.ntmps:=by exact fO rfl)(h6:aM [] c=true:=by kernel_rfl):
  bt cx f 1 [dyn (true,bU p)] [] [] (Fw.bm (.ptr fid 0)) [(fid,some (Oj p .nil .nil .nil .nil))]:=
 fA lH h1 h2 h3 h4 h5 [] (λ_ h=>by cases h) h6 (λS hS=>by
  obtain⟨id,g1,g2⟩:=hS;refine⟨[(id,fid)],⟨by simp,by simp,λn b' e=>?_⟩,(λ_ h=>by cases h),g2⟩;obtain⟨rfl,rfl⟩:=iA e
  exact⟨id,_,by simp,g1,rfl⟩) h
def adH (p:Pl)(fid:Nat):bt cx 91 1 [dyn (true,bU p)] [] [] (Fw.bm (.ptr fid 0)) [(fid,some (Oj p .nil .nil .nil .nil))]:=by
 refine anH f91 ?_
 (try(refine tX 0 ?_;try exact Zt))
 exact⟨12,rfl,_,rfl,rfl⟩
def aaM {ok:Nat->Prop}(p:Pl):cB.dQ ok (Oj p .nil .nil .nil .nil):=by
 intro d hd;simp only[nwC,dh,mV,mY]at hd;rcases hd with rfl|rfl|rfl|rfl|rfl|rfl|rfl|rfl|rfl|rfl|rfl|rfl|rfl<;>trivial
def mq (H:HF)(fid:Nat)(p:Pl):bW cx fid 91 [dyn (true,bU p)] H (Fw.bm (.ptr fid 0)) [(fid,some (Oj p .nil .nil .nil .nil))] []:=
 gu (adH p fid) (λid hid=>by cases hid) (λid hid=>by cases hid) (λid b e=>by simp[Hp.get]at e) (λx hx=>by
   have:x=dyn (true,bU p):=by simpa using hx
   subst this
   exact bz _) (λid hid=>by cases hid)
  (λid hid=>.inr ajD) (λid b e=>by obtain⟨rfl,rfl⟩:=iA e;exact aaM p) (by
   intro d hd;have:d= .ptr fid 0:=by simpa [Fw.bm]using hd
   subst this
   exact .inr rfl)
def aaN {E:dT}{Hh:Hp}{nx:Nat}(id:Nat){p:Pl}(hid:2*(nx+1+1+1)≠id)(hB:Hh.get id=some (Oj p .nil .nil .nil .nil)):
  ∃B3 B2 B1 R4,bs ⟨E,Hh,nx⟩ ⟨E,(2*(nx+1+1+1),some (.aG 17 []))::(id,some (Oj p (.own (2*nx)) (.own (2*(nx+1))) (.own (2*(nx+1+1))) (.own (2*(nx+1+1+1)))))::(2*(nx+1+1+1),some R4)::(id,some B3)::(2*(nx+1+1),some (.row true 1 (.view [])))::(id,some B2)::(2*(nx+1),some (.row true 1 (.view [])))::(id,some B1)::(2*nx,some (.row true 3 (.view [])))::Hh,nx+1+1+1+1⟩:=by
 have s1:=iK (E:=E) (nx:=nx) id 6 3 (.view []) K9 rfl rfl hB rfl;have s2:=iK (E:=E) (nx:=nx+1) (Hh:=(id,some (Oj p (.own (2*nx)) .nil .nil .nil))::(2*nx,some (.row true 3 (.view [])))::Hh) id 9 1 (.view []) K9 rfl rfl PE rfl;have s3:=iK (E:=E) (nx:=nx+1+1) (Hh:=(id,some (Oj p (.own (2*nx)) (.own (2*(nx+1))) .nil .nil))::(2*(nx+1),some (.row true 1 (.view [])))::(id,some (Oj p (.own (2*nx)) .nil .nil .nil))::(2*nx,some (.row true 3 (.view [])))::Hh) id 11 1 (.view []) K9 rfl rfl PE rfl;have s4:=iK (E:=E) (nx:=nx+1+1+1) (Hh:=(id,some (Oj p (.own (2*nx)) (.own (2*(nx+1))) (.own (2*(nx+1+1))) .nil))::(2*(nx+1+1),some (.row true 1 (.view [])))::(id,some (Oj p (.own (2*nx)) (.own (2*(nx+1))) .nil .nil))::(2*(nx+1),some (.row true 1 (.view [])))::(id,some (Oj p (.own (2*nx)) .nil .nil .nil))::(2*nx,some (.row true 3 (.view [])))::Hh) id 12 17 (.view []) K9 rfl rfl PE rfl;have s5:=NN (E:=E) (nx:=nx+1+1+1+1) (Hh:=(id,some (Oj p (.own (2*nx)) (.own (2*(nx+1))) (.own (2*(nx+1+1))) (.own (2*(nx+1+1+1)))))::(2*(nx+1+1+1),some (.row true 17 (.view [])))::(id,some (Oj p (.own (2*nx)) (.own (2*(nx+1))) (.own (2*(nx+1+1))) .nil))::(2*(nx+1+1),some (.row true 1 (.view [])))::(id,some (Oj p (.own (2*nx)) (.own (2*(nx+1))) .nil .nil))::(2*(nx+1),some (.row true 1 (.view [])))::(id,some (Oj p (.own (2*nx)) .nil .nil .nil))::(2*nx,some (.row true 3 (.view [])))::Hh) (2*(nx+1+1+1)) (z:=17) (V:=[]) (by rw[Hp.kJ hid,Hp.au,am]);exact⟨_,_,_,_,(((s1.trans s2).trans s3).trans s4).trans s5⟩
noncomputable def mQ (p:Pl):List En->bQ->List En->bQ × Nat × Int
 |_,s,[]=>(s,0,0)
 |log,s,e::r=>if(jo p log s e).2=0 then mQ p (log++[e]) (jo p log s e).1 r else(s,log.length,(jo p log s e).2)
noncomputable def dH (p:Pl)(l:List En):bQ × Nat × Int:=if(p.err jO).2≠0 then(Go.Plain.gm,0,(p.err jO).2)else if 60<l.length then(Go.Plain.gm,0,8)else mQ p [] Go.Plain.gm l
def Is {p:Pl}{s:bQ}{l:List En}{i:Nat}(h:i<l.length):mQ p (l.take i) s (l.drop i)=if(jo p (l.take i) s (l.getD i gD)).2=0 then mQ p (l.take (i+1)) (jo p (l.take i) s (l.getD i gD)).1 (l.drop (i+1))else(s,i,(jo p (l.take i) s (l.getD i gD)).2):=by
 have hd:l.drop i=l.getD i gD::l.drop (i+1):=by simp_all
 have ht:l.take (i+1)=l.take i++[l.getD i gD]:=by grind
 have bA:(l.take i).length =i:=by grind
 rw[hd,ht];show(if _ then _ else(s,(l.take i).length,_))=_
 grind
def Rd {p:Pl}{log:List En}{s:bQ}(hS:SB p log s)(e:En):(jo p log s e).1.units.length <=1000:=by
 have hu:=hS.units;unfold jo;split
 grind
 ·obtain⟨et,ew,tx⟩:=e
  rcases zm EE p log s et ew tx with⟨h1,h2⟩|⟨h1,h2,h3,h4,h5⟩
  grind
  ·rw[h5];unfold Oi;dsimp only;split
   grind
   ·split
    ·show s.units.length<=1000;omega
    ·rename_i a n q _;have:=E5 EE p log s (jJ ((ar 32 tx).getD 0 [])) a n q;omega
def E8 {T:Hp}(hT:Ld T 1):cW (sn (ah T) λk=>k) T.get T.get:=by
 have h:=(m8.hp hT (ρ:=λk=>k) (λ_ _ _ _ e=>e)).ok
 have e:(cS (λk=>k) T).get =T.get:=by
  funext k;by_cases hk:k∈ah T
  ·rw[jR (ρ:=λk=>k) (λ_ _ _ _ e=>e) k hk]
   cases hb:T.get k with
   |none=>rfl
   |some b=>simp[cB.Lm]
  ·rw[Hp.get_none (by show k∉ah _;grind[dn]),Hp.get_none hk]
 grind
def aaO {E E':dT}{nx n':Nat}{p:Pl}{log:List En}{s:bQ}{ks:List Nat}(hl:s.units.length<=1000)(h0:Nat.blt 0 n'=true)(hE:e8 (sn (ah (form p log s)) λk=>k) E.get ks=some E'):bs ⟨E,form p log s,nx⟩ ⟨E',form p log s,n'⟩:=by
 have hT:=dq p log hl;refine Cs (E8 hT) (λq hq=>?_) hE;obtain⟨o,n⟩:=q;obtain⟨h1,h2⟩:=jX.1 hq;show Fw.tag n<n';rw[h2];show Fw.tag o<n';rw[(hT.lt o h1).2];simp_all
def Re (y:bQ × Nat × Int):DV:=if y.2.2=0 then .aJ [(false,[.ptr 1 0]),dyn (I (0:Nat)),dyn (I 0)]else .aJ [(false,[.st (.lit (.pointer none))]),dyn (I y.2.1),dyn (I y.2.2)]
def Kt (p:Pl)(l:List En)(y:bQ × Nat × Int):Hp:=if y.2.2=0 then form p l y.1 else []
def Ku (p:Pl)(l:List En)(hs:io p)(hP:(p.err jO).2=0->PB p)(hl:l.length<=1000)(ht: ∀e∈l,e.text.length<=100000):
  bt cx 51 1 [dyn (true,bU p),(false,[.st (.view (l.map cY))])] [] [] (Re (dH p l)) (Kt p l (dH p l)):=by
 have hn:(l.map cY).length =l.length:=by simp
 have c1:=E7 hs;unfold dH;generalize p.err jO=pe at*;obtain⟨pi,pz⟩:=pe;have c1:ac 90 [(true,bU p)] (.aJ [I pi,I pz]):=c1;dsimp only at hP;by_cases h1:pz=0
 ·subst h1;rw[if_neg (by simp)];have hP:=hP rfl;by_cases h2:60<l.length
  ·rw[if_pos h2];show bt _ _ _ _ _ _ (.aJ [(false,[.st (.lit (.pointer none))]),dyn (I (0:Nat)),dyn (I 8)]) [];refine gR f51 ?_;exact tL
  ·rw[if_neg h2];refine gR f51 ?_;repeat' ((first|(refine kO 7 rfl ?_;first|refine ii (λ_ z=>⟨_,_,_,(mq _ _ p),z⟩) ?_)|refine tX 0 ?_|exact Zt|refine bR ?_ ?_<;>intro h)<;>(try conv=>whnf))
   all_goals try(exfalso;omega)
   refine af (ι:=Nat × bQ) (λq=>q.1<=l.length/\SB p (l.take q.1) q.2/\mQ p (l.take q.1) q.2 (l.drop q.1)=mQ p [] Go.Plain.gm l) (λq=>l.length -q.1)
    (λq=>⟨[(9,pP 1),(26,some (.val (false,[.st (.view (l.map cY))]))),(27,vI l.length),(28,vI q.1)],form p (l.take q.1) q.2,1000⟩) (0,Go.Plain.gm)
    (by
     refine Exists.elim (aaN 36 (p:=p) ?hid ?hB) λB3 h=>h.elim λB2 h=>h.elim λB1 h=>h.elim λR4 h=>bs.trans h (WE (ks:=[9,26,27,28]) (un:=52) (m:=[(36,1),(46,3),(48,5),(50,7)]) (s:=Go.Plain.gm) (log:=l.take 0) (dM _) dl rfl dl K47 dl dl PD);case hB=>rfl
     case hid=>decide) ⟨dM _,E6 p,rfl⟩ ?_
   rintro⟨i,s⟩ ⟨hi,hS,hR⟩;dsimp only at hi hS hR ⊢;by_cases ak:i<l.length
   ·have he:=bg (f:=cY) ak gD;have eG:=Is (p:=p) (s:=s) ak;rw[hR]at eG;have hem:l.getD i gD∈l:=by grind
    have ha:=Q9 p (l.take i) s hP hS (l.getD i gD) (ht _ hem);have hSB:=λs' h=>Ra (s':=s') hP hS (l.getD i gD) h;have zB:l.take i++[l.getD i gD]=l.take (i+1):=by simp_all
    rw[zB]at hSB;have hu:s.units.length<=1000:=by exact UX
    have hac:(jo p (l.take i) s (l.getD i gD)).1.units.length <=1000:=Rd hS _;unfold aaG at ha;rw[zB]at ha;generalize l.getD i gD=e at*;generalize jo p (l.take i) s e=y at*;obtain⟨s',z⟩:=y;obtain⟨et,ew,tx⟩:=e;dsimp only at ha eG hac;have hT:=dq p (l.take i) hu;by_cases hz:z=0
    ·subst hz;rw[if_pos rfl]at ha eG;have fj:=dq p (l.take (i+1)) hac;have hS':=(hSB s' rfl).1;have ce:=λfid H hO hf=>vk (fid:=fid) (H:=H) ha hu hac hf hO;clear ha hSB;repeat' ((first|refine tX 0 ?_|exact Zt|refine bR ?_ ?_<;>intro h)<;>(try conv=>whnf))
     all_goals try(exfalso;omega)
     repeat((first|(refine kO 7 rfl ?_;first|refine so (λ_ z=>⟨_,_,_,(ce _ _ K76 (fD rfl)),z⟩) ?_)|refine tX 2 ?_|exact Zt);(try conv=>whnf))
     refine aQ ?_;(refine aR ?_;conv=>whnf);(try(refine tX 2 ?_;try exact Zt));refine⟨_,Ir (E':=[(9,pP 1),(10,vI i),(12,vI 0),(26,some (.val (false,[.st (.view (l.map cY))]))),(27,vI l.length),(28,vI i),(37,some (lit (.bool (0 != 0))))]) (ks:=[9,10,12,26,27,28,37]) (n':=1000) hT fj (fD rfl) rfl dl,?_⟩;repeat' ((first|refine tX 0 ?_|exact Zt|refine bR ?_ ?_<;>intro h)<;>(try conv=>whnf))
     all_goals try(exfalso;omega)
     exact⟨(i+1,s'),⟨ak,hS',eG.symm⟩,by grind,aaO (ks:=[9,26,27,28]) hac rfl dl⟩
    ·rw[if_neg hz]at ha eG;have fj:=dq p (l.take i) hac;have ce:=λfid H hO hf=>vk (fid:=fid) (H:=H) ha hu hac hf hO;clear ha hSB;rw[eG,show Re (s,i,z)= .aJ [(false,[.st (.lit (.pointer none))]),dyn (I (i:Nat)),dyn (I z)]from if_neg hz,show Kt p l (s,i,z)= []from if_neg hz];repeat' ((first|refine tX 0 ?_|exact Zt|refine bR ?_ ?_<;>intro h)<;>(try conv=>whnf))
     all_goals try(exfalso;omega)
     repeat((first|(refine kO 7 rfl ?_;first|refine so (λ_ z=>⟨_,_,_,(ce _ _ K76 (fD rfl)),z⟩) ?_)|refine tX 2 ?_|exact Zt);(try conv=>whnf))
     refine aQ ?_;(refine aR ?_;conv=>whnf);(try(refine tX 2 ?_;try exact Zt));refine⟨_,Ir (E':=[(9,pP 1),(10,vI i),(12,vI z),(26,some (.val (false,[.st (.view (l.map cY))]))),(27,vI l.length),(28,vI i),(37,some (lit (.bool (z != 0))))]) (ks:=[9,10,12,26,27,28,37]) (n':=1000) hT fj (fD rfl) rfl dl,?_⟩;exact tL
   ·obtain rfl:i=l.length:=by omega
    rw[LI]at hR;have hR:(s,0,0)=mQ p [] Go.Plain.gm l:=hR;rw[<- hR,show Re (s,0,0)= .aJ [(false,[.ptr 1 0]),dyn (I (0:Nat)),dyn (I 0)]from rfl,show Kt p l (s,0,0)=form p l s from rfl,mW];have hT:=dq p l (s:=s) UX;repeat' ((first|refine tX 0 ?_|exact Zt|refine bR ?_ ?_<;>intro h)<;>(try conv=>whnf))
    all_goals first|exact Zo|exact⟨_,E8 hT,_,rfl,rfl⟩
 ·rw[if_pos h1];have e1:Re (Go.Plain.gm,0,pz)= .aJ [(false,[.st (.lit (.pointer none))]),dyn (I (0:Nat)),dyn (I pz)]:=if_neg h1;have e2:Kt p l (Go.Plain.gm,0,pz)= []:=if_neg h1;rw[e1,e2];refine gR f51 ?_;exact tL
def Ua {p:Pl}(hP:PB p): ∀ {r log:List En} {s:bQ},SB p log s->(mQ p log s r).2.2=0->SB p (log++r) (mQ p log s r).1
 | [],log,s,hS,_=>by rw[zQ];exact hS
 |e::r,log,s,hS,h=>by
  unfold mQ at h ⊢;by_cases hz:(jo p log s e).2=0
  ·rw[if_pos hz]at h ⊢;have:=(Ra (s':=(jo p log s e).1) hP hS e (by rw[<- hz])).1;have g:=Ua hP this h;rwa [G0]at g
  ·rw[if_neg hz]at h;exact absurd h hz
def Ub {p:Pl}{l:List En}(hP:(p.err jO).2=0->PB p)(h:(dH p l).2.2=0):SB p l (dH p l).1/\(p.err jO).2=0:=by
 unfold dH at h ⊢;by_cases h1:(p.err jO).2=0
 ·rw[if_neg (FW h1)]at h ⊢;by_cases h2:60<l.length
  ·rw[if_pos h2]at h;exact absurd h K9
  ·rw[if_neg h2]at h ⊢;exact⟨Ua (hP h1) (E6 p) h,h1⟩
 ·rw[if_pos h1]at h;exact absurd h h1
def E9 {p:Pl}{l:List En}{s:bQ}(h:s.units.length<=1000):MH (form p l s):=by
 have hT:=dq p l h;refine⟨hT.nd,λk hk=>⟨?_,hT.lt k hk⟩,hT.dQ⟩;rw[qw]at hk;simp only[dh]at hk;rcases hk with rfl|rfl|rfl|rfl|rfl|h'
 ·decide
 ·decide
 ·decide
 ·decide
 ·decide
 ·obtain⟨j,q1,q2,q3⟩:=gg h';omega
def adI {p:Pl}{l:List En}(hP:(p.err jO).2=0->PB p):MH (Kt p l (dH p l)):=by
 unfold Kt;by_cases h:(dH p l).2.2=0
 ·rw[if_pos h];exact E9 ajZ
 ·rw[if_neg h];exact⟨by simp,(λk hk=>by cases hk),(λk b e=>by simp[Hp.get]at e)⟩
def Ol (H:HF)(fid:Nat){p:Pl}{l:List En}(hs:io p)(hP:(p.err jO).2=0->PB p)(hl:l.length<=1000)(ht: ∀e∈l,e.text.length<=100000):
  bW cx fid 51 [dyn (true,bU p),(false,[.st (.view (l.map cY))])] H (Lc (fresh (tag fid) 0) (Re (dH p l))) (cI [] (cS (fresh (tag fid) 0) (Kt p l (dH p l)))) []:=by
 refine Go.Fw.mq (Ku p l hs hP hl ht) (adI hP) (λx hx=>?_) ?_
 ·rcases dh.1 hx with rfl|hx
  ·exact bz _
  ·have:x=(false,[.st (.view (l.map cY))]):=by simpa using hx
   subst this;exact ajf
 ·unfold Re Kt;by_cases h:(dH p l).2.2=0
  ·rw[if_pos h,if_pos h];intro x hx;simp only[dh,mV,mY]at hx;rcases hx with rfl|rfl|rfl
   ·intro d hd;have:d= .ptr 1 0:=by simpa using hd
    subst this;exact(dq p l ajZ).xE
   ·exact bz _
   ·exact bz _
  ·rw[if_neg h,if_neg h];intro x hx;simp only[dh,mV,mY]at hx;rcases hx with rfl|rfl|rfl
   ·exact K62
   ·exact bz _
   ·exact bz _
def Om {p:Pl}: ∀ {r log:List En} {s:bQ},(mQ p log s r).2.2=0->(mQ p log s r).2.1=0
 | [],_,_,_=>rfl
 |e::r,log,s,h=>by
  unfold mQ at h ⊢;by_cases hz:(jo p log s e).2=0
  ·rw[if_pos hz]at h ⊢;exact Om h
  ·rw[if_neg hz]at h;exact absurd h hz
def aaP {p:Pl}{l:List En}(h:(dH p l).2.2=0):(dH p l).2.1=0:=by
 unfold dH at h ⊢;split
 ·rfl
 ·rename_i h1;rw[if_neg h1]at h;split
  ·rfl
  ·rename_i h2;rw[if_neg h2]at h;exact Om h
noncomputable def Kv (p:Pl)(l:List En):bQ:=(dH p l).1
def Fa {p:Pl}: ∀ {a log:List En} {s:bQ} (b:List En),(mQ p log s (a++b))=if(mQ p log s a).2.2=0 then mQ p (log++a) (mQ p log s a).1 b else mQ p log s a
 | [],log,s,b=>by rw[LO,zQ];exact(if_pos rfl).symm
 |e::a,log,s,b=>by
  rw[qR];have e1: ∀r,mQ p log s (e::r)=if(jo p log s e).2=0 then mQ p (log++[e]) (jo p log s e).1 r else(s,log.length,(jo p log s e).2):=λ_=>rfl
  rw[e1,e1];by_cases hz:(jo p log s e).2=0
  ·rw[if_pos hz,if_pos hz,Fa b,G0];rfl
  ·rw[if_neg hz,if_neg hz,if_neg hz]
def wZ {p:Pl}{l:List En}(h:(dH p l).2.2=0):dH p l=(Kv p l,0,0)/\(p.err jO).2=0/\l.length<=60/\mQ p [] Go.Plain.gm l=dH p l:=by
 have hi:=aaP h;refine⟨Prod.ext rfl (Prod.ext hi h),?_⟩;unfold dH at h ⊢;by_cases h1:(p.err jO).2=0
 ·rw[if_neg (FW h1)]at h ⊢;by_cases h2:60<l.length
  ·rw[if_pos h2]at h;exact absurd h K9
  ·rw[if_neg h2];exact⟨h1,by omega,rfl⟩
 ·rw[if_pos h1]at h;exact absurd h h1
def Fb {p:Pl}{l:List En}(h:(dH p l).2.2=0)(i:Nat):(dH p (l.take i)).2.2=0:=by
 obtain⟨_,h1,h2,h3⟩:=wZ h;have hl:(l.take i).length <=60:=by rw[LL];omega
 unfold dH;rw[if_neg (FW h1),if_neg K0];rw[<- h3]at h;rw[<- LA i l,Fa]at h;by_cases hz:(mQ p [] Go.Plain.gm (l.take i)).2.2=0
 ·exact hz
 ·rw[if_neg hz]at h;exact absurd h hz
def aaQ {p:Pl}{l:List En}(h:(dH p l).2.2=0)(e:En):dH p (l++[e])=if(jo p l (Kv p l) e).2=0 then((jo p l (Kv p l) e).1,0,0)else if 60<=l.length then(Go.Plain.gm,0,8)else(Kv p l,l.length,(jo p l (Kv p l) e).2):=by
 obtain⟨h0,h1,h2,h3⟩:=wZ h;by_cases h6:60<=l.length
 ·have ha:jo p l (Kv p l) e=(Kv p l,8):=if_pos h6;rw[ha,if_neg (show ¬(8:Int)=0 by decide),if_pos h6];unfold dH;rw[if_neg (FW h1),if_pos ajt]
 ·rw[if_neg h6];unfold dH;rw[if_neg (FW h1),if_neg ajt,Fa,h3,h0,if_pos rfl,LO];unfold mQ;by_cases hz:(jo p l (Kv p l) e).2=0
  ·rw[if_pos hz,if_pos hz];rfl
  ·rw[if_neg hz,if_neg hz]
def aaR {p:Pl}{l:List En}(h:(dH p l).2.2=0){i:Nat}(hi:i<l.length):(jo p (l.take i) (Kv p (l.take i)) (l.getD i gD)).2=0/\Kv p (l.take (i+1))=(jo p (l.take i) (Kv p (l.take i)) (l.getD i gD)).1:=by
 have ht:l.take (i+1)=l.take i++[l.getD i gD]:=by rw[CK,oX hi];simp[jP,hi]
 have h1:=Fb h (i+1);have h2:=aaQ (Fb h i) (l.getD i gD);rw[<- ht]at h2
 have hz:(jo p (l.take i) (Kv p (l.take i)) (l.getD i gD)).2=0:=by
  apply XO;intro hn;rw[if_neg hn]at h2;rw[h2]at h1;split at h1
  ·exact absurd h1 K9
  ·exact hn h1
 rw[if_pos hz]at h2;exact⟨hz,by rw[show Kv p (l.take (i+1))=(dH p (l.take (i+1))).1 from rfl,h2]⟩
def mR (p:Pl)(n:aj)(hl:p.ae.length<=1000):ac 108 [(true,bU p),SS n] (.one (I (if n∈p.ay then(p.ae.getD (aZ p.ay n).toNat ([],0)).2 else -1))):=by
 have hn:(p.ae.map na).length =p.ae.length:=by simp
 have AP:p.ay.length=p.ae.length:=by simp[Pl.ay]
 refine sF f108 ?_
 (try(refine tX 0 ?_;try exact Zt))
 refine af (ι:=Nat) (λi=>i<=p.ae.length/\n∉p.ay.take i) (λi=>p.ae.length -i) (λi=>⟨[(1,lS n),(2,pP 0),(5,vI i)],[(0,some (.box 27 ((bU p).map .st)))],1⟩) 0 Zc ⟨dM _,by simp⟩ ?_;rintro i ⟨hi,dy⟩;by_cases ak:i<p.ae.length
 ·have he:=bg (f:=na) ak ([],0);have hg:p.ay.getD i []=(p.ae.getD i ([],0)).1:=by rw[getD_at ak,getD_at K0];simp[Pl.ay]
  have nM:=λe=>mK (l:=p.ay) (x:=n) (i:=i) K0 e dy;have FP:=iM (l:=p.ay) (i:=i) (x:=n) K0;rw[hg]at nM FP;generalize hpe:p.ae.getD i ([],0)=pe at*;obtain⟨pn,pr⟩:=pe;dsimp only at nM FP;by_cases hx:pn=n
  ·have hm:n∈p.ay:=FU (FP.2 (.inr hx.symm));rw[if_pos hm,nM hx,p8,hpe];exact K87
  ·exact K50
 ·obtain rfl:i=p.ae.length:=by omega
  rw[o0 K0]at dy;rw[if_neg dy];exact tA
abbrev Rg (q:aj × Vb):List SC:=[T q.1,J q.2.role,J q.2.words,K q.2.rest]
def lf:ac 45 [] (.own 4 (.view (kf.map Rg))):=by
 refine sF f45 ?_;exact K1
def agY {s:aj}{n:Int}(h:wN false 7 s=some n):fP 7 s=some n/\0<=n/\(s.getD 0 0).toNat ≠45/\0<s.length:=by
 obtain⟨h1,h2⟩:=iB h;have h3:0<=n:=h2.resolve_left K9;exact⟨h1,h3,λe=>((qo h1).1 e) h3,yC h1⟩
def agZ {s:aj}(h:wN false 7 s=none):fP 7 s=none\/∃n,fP 7 s=some n/\n<0:=by
 cases e:fP 7 s with
 |none=>exact .inl rfl
 |some n=>
  refine .inr ⟨n,rfl,?_⟩;rw[Qd e]at h;by_cases h1:(s.getD 0 0).toNat =45
  ·have:=(qo e).1 h1;omega
  ·rw[if_neg h1]at h;cases h
def afg (o:Option (List Int)):List SV:=match o with
 |some n=>[(false,[.ints n]),Bo true]
 |none=>[(false,[.ints []]),Bo false]
def lh (l:List aj)(f:Nat)(hf:f<=l.length)(hl:l.length<=1000)(hx: ∀x∈l,x.length<=100000):ac 196 [V1 l,I f] (.aJ (afg (jl (l.drop f)))):=by
 have hn:(ab l).length =l.length:=by simp
 have hu:(l.drop f).length =l.length -f:=by simp
 have eB:=EC (l.drop f);rw[EI];refine sF f196 ?_
 (try(refine tX 0 ?_;try exact Zt))
 refine af (ι:=Nat) (λi=>i<=(dP (l.drop f)).length) (λi=>l.length -i) (λi=>⟨[(0,some (.val (false,[.st (.view (ab l))]))),(6,pO 0),(7,vI ((f+i:Nat):Int))],[(0,some (.row true 1 (.ints ((dP (l.drop f)).take i))))],1⟩) 0 (bs.trans (jB 6 1 (.ints []) K9 rfl rfl rfl) Zc) (dM _) ?_;intro i hi;by_cases ak:f+i<l.length
 ·have he:=sA ak;have hd:(l.drop f).getD i []=l.getD (f+i) []:=by simp[jP]
  have hxl:(l.getD (f+i) []).length <=100000:=hx _ (yZ ak);have c1:=iC (l.getD (f+i) []) 7 K9 K0;by_cases hp:i< (dP (l.drop f)).length
  ·have uE:=ED hp;rw[hd]at uE;obtain⟨g1,g2,g3,g4⟩:=agY uE;have zB:(dP (l.drop f)).take (i+1)=(dP (l.drop f)).take i++[(dP (l.drop f)).getD i 0]:=by rw[CK,oX hp,jP,oX hp];rfl
   have htl:((dP (l.drop f)).take i).length =i:=by simp;omega
   rw[g1]at c1;generalize (dP (l.drop f)).getD i 0=v at*;generalize (dP (l.drop f)).take i=w at*;generalize l.getD (f+i) []=y at*;have c2:ac 148 [SS y,I (7:Nat)] (.aJ [I v,Bo true]):=c1;exact ahY
  ·have hi2:(dP (l.drop f)).length =i:=by omega
   have eG:=wU (u:=l.drop f) K0;rw[hi2,hd]at eG;rw[if_neg K0];generalize l.getD (f+i) []=y at*;rcases agZ eG with g|⟨n,g,g2⟩
   ·rw[g]at c1;have c2:ac 148 [SS y,I (7:Nat)] (.aJ [I 0,Bo false]):=c1;exact tA
   ·rw[g]at c1;have c2:ac 148 [SS y,I (7:Nat)] (.aJ [I n,Bo true]):=c1;exact tA
 ·have IF:(dP (l.drop f)).length =l.length -f:=by omega
  have:i=l.length -f:=by omega
  rw[o0 K0,if_pos K0];exact tA
def OP {a b:Int × Int}:(oV a b).2=0↔a.2=0/\b.2=0:=by
 unfold oV;by_cases h:a.2=0
 ·rw[if_neg (FW h)];exact⟨λe=>⟨h,e⟩,λe=>e.2⟩
 ·rw[if_pos h];exact⟨λe=>absurd e h,λe=>absurd e.1 h⟩
def Uk {c:Prop} [Decidable c]{k:Int}(h:(if c then(0:Int)else k)=0)(hk:k≠0):c:=by
 by_cases e:c
 ·exact e
 ·rw[if_neg e]at h;exact absurd h hk
def ag5 {α:Type}{l:List α}{i:Nat}{d:α}(h:i<l.length):l.getD i d∈l:=by rw[jP,oX h];exact pH _
def sf {α:Type}{l:List α}{x d:α}(h:x∈l): ∃i,i<l.length/\l.getD i d=x:=by
 obtain⟨i,hi,e⟩:=CI.1 h;exact⟨i,hi,by rw[jP,oX hi];exact e⟩
section
variable {p:Pl}
def OQ (h:(p.err jO).2=0):(∀i<p.ae.length,p.du i=0)/\(∀i<p.aa.length,p.gK jO i=0)/\0<=p.eH/\p.eH<=1000000000000:=by
 unfold Pl.err at h;obtain⟨_,h⟩:=OP.1 h;obtain⟨h2,h⟩:=OP.1 h;obtain⟨_,h⟩:=OP.1 h;obtain⟨_,h⟩:=OP.1 h;obtain⟨_,h⟩:=OP.1 h;obtain⟨h6,h⟩:=OP.1 h;obtain⟨_,h⟩:=OP.1 h;obtain⟨_,h9⟩:=OP.1 h;exact⟨oF h2,oF h6,(Uk h9 K9).2⟩
def adX (h:(p.err jO).2=0): ∀q∈p.ae,0<=q.2:=λq hq=>by
 obtain⟨i,hi,e⟩:=sf (d:=([],0)) hq;have:=(OQ h).1 i hi;unfold Pl.du at this;have:=Uk (vU.1 this).2 K9;rw[<- e];exact this.1
def Ul {l:List aj}(h: ∀i<l.length,gW l i=0){i j:Nat}(Lh:i<j)(hj:j<l.length):l.getD i []≠l.getD j []:=λe=>by
 have h1:=(vU.1 (h j hj)).2;have hi:i<l.length:=by omega
 have hm:l.getD j []∈l.take j:=by
  rw[<- e];refine CI.2 ⟨i,by rw[LL];omega,?_⟩;rw[List.getElem_take];simp[jP,hi]
 rw[if_pos hm]at h1;exact absurd h1 K9
theorem OR (hs:io p)(h:(p.err jO).2=0):PB p:=by
 obtain⟨_,ht,hl⟩:=OQ h;have hT: ∀i<p.aa.length,gW (cL p.aa) i=0/\VC jO p.aa i=0:=λi hi=>vU.1 (ht i hi);have bA:(cL p.aa).length =p.aa.length:=by simp[cL]
 refine⟨hs.pe,hs.ga,hs.te,hs.pa,λq hq=>?_,λt Pp=>?_,hl,λt Pp=>?_,λt Pp=>?_,λt Pp t' ht2 e=>?_,λt Pp hk=>?_⟩
 ·obtain⟨i,hi,e⟩:=sf (d:=([],[])) hq;rw[<- e];exact hs.qv i hi
 ·obtain⟨i,hi,e⟩:=sf (d:=dk) Pp;rw[<- e];exact hs.td i hi
 ·obtain⟨i,hi,e⟩:=sf (d:=dk) Pp;rw[<- e];exact hs.tr i hi
 ·obtain⟨i,hi,e⟩:=sf (d:=dk) Pp;have:=Uk (vU.1 (hT i hi).2).1 K9;rw[<- e];exact this
 ·obtain⟨i,hi,e1⟩:=sf (d:=dk) Pp;obtain⟨j,hj,e2⟩:=sf (d:=dk) ht2;have g1:=rH hi;have g2:=rH hj;rw[e1]at g1;rw[e2]at g2;rcases SO i j with Lh|rfl|Lh
  ·exact absurd (by rw[g1,g2,e]) (Ul (λk hk=>(hT k K0).1) Lh K0)
  ·rw[<- e1,<- e2]
  ·exact absurd (by rw[g1,g2,e]) (Ul (λk hk=>(hT k K0).1) Lh K0)
 ·obtain⟨i,hi,e1⟩:=sf (d:=dk) Pp;have vJ:=(hT i hi).2;unfold VC at vJ;dsimp only at vJ;rw[e1]at vJ;obtain⟨_,h2⟩:=vU.1 vJ;obtain⟨ha,h3⟩:=vU.1 h2;obtain⟨hc,_⟩:=vU.1 h3;unfold Qi at hc;rw[if_pos hk]at hc
  cases hn:t.bu with
  |nil=>rw[hn,if_pos (by rfl)]at hc;exact absurd hc K9
  |cons n0 nd=>
   rw[hn]at hc ha;rw[if_neg (by simp)]at hc;have hc:=Uk hc K9
   have hm:n0∈(cL p.aa).take i:=by
    have:=oF (f:=D2 (n0::nd) ((cL p.aa).take i)) ha 0 (by simp);unfold D2 at this;by_cases g:(n0::nd).getD 0 []∈(cL p.aa).take i
    ·exact g
    ·rw[if_neg g]at this;exact absurd this K9
   obtain⟨k,pF,ek⟩:=k7 (FU hm);have ek':aZ (cL p.aa) ((n0::nd).getD 0 [])=(k:Int):=ek;rw[ek',p8]at hc;refine⟨n0,nd,rfl,p.aa.getD k dk,ag5 (by rw[<- bA];exact pF),?_,hc⟩;rw[<- rH (by rw[<- bA];exact pF)]
   have hko:k=(cL p.aa).idxOf n0:=by
    unfold aZ at ek;rw[if_pos (FU hm)]at ek;omega
   subst hko;rw[getD_at pF];exact SI pF
end
end Go.Proofs.Tryz
