import Derived.Test.YtackacoaaihcjaaGreatDoorPkT17
import Derived.Test.YtackacoaaihcjaaGreatDoorPkT22
import Derived.Test.YtackacoaaihcjaaGreatDoorPkT24
set_option linter.all false
set_option maxRecDepth 100000
set_option maxHeartbeats 8000000
namespace Go.Proofs.Tryz
open Go.Fw Go.IntWalk Go.Plain
def jl {H:HF}{R:List Nat}(x:SV):yu H R (dyn x) x:=⟨rfl,by simp[dyn],λk d c h1 h2=>by
 simp only[dyn,gr]at h1;rw[h2]at h1;cases h1
 exact .st _⟩
section
variable {H:HF}{fid:Nat}{u:Un}{l:List (List DC)}{i a b c:Nat}
def QT {t:aj}{V:Bool}(hV:bH u.res t=V)(hl:u.res.length<=1000000)(h9:H 9=some (.aA 17 l))(hi:l[i]? =some (cP u a b c))(ha:H a=some (.row true 1 (.view (ab u.lots))))(hb:H b=some (.row true 4 (.view (u.res.map kE))))(hc:H c=some (.row true 5 (.view (u.gas.map uV)))):
  bN cx fid 154 [(false,[.cF 9 17 i 0]),(false,[.st (T t)])] H (.val (dyn (Bo V))) [] [9,a,b,c]:=by
 subst hV;exact iI (bx (kc (J1 (by simp) h9 hi ha hb hc)) (bx (kc (.st _)) iW)) (ug u t hl) rfl ⟨rfl,rfl,rfl⟩
def QU {t:Ts}{V:Bool}(hV:iU u.res t=V)(ht:t.bu.length<=1000)(hl:u.res.length<=1000000)(h9:H 9=some (.aA 17 l))(hi:l[i]? =some (cP u a b c))(ha:H a=some (.row true 1 (.view (ab u.lots))))(hb:H b=some (.row true 4 (.view (u.res.map kE))))(hc:H c=some (.row true 5 (.view (u.gas.map uV)))):
  bN cx fid 157 [(false,[.cF 9 17 i 0]),dyn (true,fC t)] H (.val (dyn (Bo V))) [] [9,a,b,c]:=by
 subst hV;exact iI (bx (kc (J1 (by simp) h9 hi ha hb hc)) (bx (jl _) iW)) (NG u t ht hl) rfl ⟨rfl,rfl,rfl⟩
def Wi {t:Ts}{r:aj}{y:Int × Int}{ty:TypeId}{p:Pl}{log:List En}{lg:Nat}{v e h x9 x11 x12:DC}(hs:ad 203 [WR p log,UR u,(true,fC t),SS r] (.aJ [I y.1,I y.2]))(h1:H 1=some (.box ty [.st (.view (p.ae.map m9)),.st (.view (ab p.ap)),.st (.view (p.aa.map fC)),.st (.view (p.parts.map mi)),.st (J p.dW),.st (J p.eH),.own lg,v,e,x9,h,x11,x12]))
  (h2:H lg=some (.row true 3 (.view (log.map df))))(h9:H 9=some (.aA 17 l))(hi:l[i]? =some (cP u a b c))(ha:H a=some (.row true 1 (.view (ab u.lots))))(hb:H b=some (.row true 4 (.view (u.res.map kE))))(hc:H c=some (.row true 5 (.view (u.gas.map uV)))):
  bN cx fid 203 [(false,[.ptr 1 0]),(false,[.cF 9 17 i 0]),dyn (true,fC t),(false,[.st (T r)])] H (.aJ [dyn (I y.1),dyn (I y.2)]) [] [1,lg,9,a,b,c]:=
 iI (bx (kc (ZK (by simp) h1 h2)) (bx (kc (J1 (by simp) h9 hi ha hb hc)) (bx (jl _) (bx (kc (.st _)) iW)))) hs ajq ⟨rfl,rfl,rfl⟩
end
def aah {b:Bool}(h:b=true)(e:Int):ad 54 [Bo b,I e] (.one (I 0)):=by subst h;exact aeZ e
def agN {b:Bool}(h:b=false)(e:Int):ad 54 [Bo b,I e] (.one (I e)):=by subst h;exact aeY e
def aai {p:Pl}{y:aj}(h:y∈cO p.aa):kz p y=p.aa.getD (aZ (cO p.aa) y).toNat dt/\0<=aZ (cO p.aa) y/\kz p y∈p.aa:=by
 obtain⟨k,hk,e⟩:=k6 h;have uD:k<p.aa.length:=by grind[cO]
 have hd:kz p y=p.aa.getD (aZ (cO p.aa) y).toNat dt:=by unfold kz;grind
 grind
def aaj (E:qH)(p:Pl)(log:List En)(s:bK)(hl:s.units.length<=1000)(x y:aj)(n:List Int)(r:aj)(hp:p.aa.length<=1000)(AM: ∀t∈p.aa,t.bu.length<=1000)(hu: ∀u∈s.units,u.res.length<=1000)(aht:log.length<=1000)
  (oX: ∀u∈s.units,∀t∈p.aa,iU u.res t=true->ad 203 [WR p log,UR u,(true,fC t),SS r] (.aJ [I (E.ev log u t r).1,I (E.ev log u t r).2])):
  bt cx 126 1 ((false,[.ptr 1 0])::[wX [x,y] n r].map dyn) (form p log s) [1] (.val (dyn (I (ba E p log s 12 [x,y] n r).2))) (form p log (ba E p log s 12 [x,y] n r).1):=by
 rw[show ba E p log s 12 [x,y] n r=TG E p log s 12 x [x,y] n r from rfl];obtain⟨volt,earth,opens,hall,lots,units⟩:=s;have ct:=QF p y hp;by_cases hx:0<=gY ⟨volt,earth,opens,hall,lots,units⟩ x
 ·obtain⟨i,u,h1,h2,h3,h4,h5⟩:=jX hx;have c0:=λfid H=>k7 (fid:=fid) (H:=H) h3 hl h1;have La:=jt h3;have hr:u.res.length<=1000000:=by grind
  have oX:=λt ht=>oX u La t ht;by_cases hy:y∈cO p.aa
  ·obtain⟨t1,t2,t3⟩:=aai hy;rw[fH hy]at ct;have oX:=oX _ t3;have AM:=AM _ t3
   have hq:aI E p log ⟨volt,earth,opens,hall,lots,units⟩ u 12 [x,y] n r=if hall=u.name/\u.failed=false then(if bH u.res (kz p y).name then(u,23)else if iU u.res (kz p y)=false then(u,14)else if decide ((kz p y).kind =0)=volt then(u,24)else
     if(E.ev log u (kz p y) r).2=0 then({u with res:=u.res++[⟨(kz p y).name,(E.ev log u (kz p y) r).1,log.length,false⟩],failed:=decide ((E.ev log u (kz p y) r).1=0)},0)else(u,(E.ev log u (kz p y) r).2))else(u,20):=by
    rw[t1];exact if_pos t2
   clear t1 t2 t3;generalize kz p y=t at*;obtain⟨V,hV⟩: ∃V,bH u.res t.name=V:=⟨_,rfl⟩;obtain⟨D,hD⟩: ∃D,iU u.res t=D:=⟨_,rfl⟩;have bB:(log.map df).length =log.length:=by simp
   rw[hV,hD]at hq;rw[hD]at oX;have W7:=λhs=> @Wi (u:=u) (t:=t) (r:=r) (y:=E.ev log u t r) (p:=p) (log:=log) (hs:=hs);generalize E.ev log u t r=z at*;obtain⟨z1,z2⟩:=z;dsimp only at W7 oX;have cv:=λH fid l i a b c=> @QT H fid u l i a b c t.name V hV hr;have cr:=λH fid l i a b c=> @QU H fid u l i a b c t D hD AM hr;clear hV hD;obtain⟨nm,kd,nd,ru,lo,hi⟩:=t;obtain⟨name,win,ul,res,failed,rel,shaken,used,gas⟩:=u;dsimp only at hq;have B9:res.length<=1000000:=hr;have Xj:(res.map kE).length =res.length:=by simp
   by_cases hh:hall=name
   ·subst hh;cases failed
    ·rw[if_pos ⟨rfl,rfl⟩]at hq;cases V
     ·rw[if_neg xH]at hq;cases D
      ·rw[aY hx h2 h4 (hq.trans (if_pos rfl))];exact UH
      ·rw[if_neg K9]at hq;have W7:=λH fid l i a b c=> @W7 (oX rfl) H fid l i a b c;by_cases hk:kd=0<;>cases volt
       ·subst hk;rw[if_neg (by simp)]at hq;by_cases hz:z2=0
        ·subst hz;rw[aY hx h2 h4 (hq.trans (if_pos rfl))];refine gI f126 h3 hl rfl ?_;repeat' ((first|(refine kO 7 rfl ?_;first|refine ij (λ_ z=>⟨_,_,_,(c0 _ _ ⟨_,_,rfl,rfl⟩ rfl),z⟩) ?_|refine Rq (bX _ _) ?_|refine rG (λ_ z=>⟨_,wF (E:=0) rfl,z⟩) ?_|refine ij (λ_ z=>⟨_,_,_,(cv _ _ _ _ _ _ _ rfl (jO FW) rfl rfl rfl),z⟩) ?_|refine ij (λ_ z=>⟨_,_,_,(cr _ _ _ _ _ _ _ rfl (jO FW) rfl rfl rfl),z⟩) ?_|refine ij (λ_ z=>⟨_,_,_,(W7 _ _ _ _ _ _ _ _ _ _ _ _ _ _ _ rfl rfl rfl (jO FW) rfl rfl rfl),z⟩) ?_)|refine tX 0 ?_|exact Zt|refine bR ?_ ?_<;>intro h)<;>(try conv=>whnf))
         all_goals first|exact Ze|(simp only[ja];exact Ei)|exact Ei
        ·rw[aY hx h2 h4 (hq.trans (if_neg hz)),if_neg hz];refine gI f126 h3 hl rfl ?_;repeat' ((first|(refine kO 7 rfl ?_;first|refine ij (λ_ z=>⟨_,_,_,(c0 _ _ ⟨_,_,rfl,rfl⟩ rfl),z⟩) ?_|refine Rq (bX _ _) ?_|refine rG (λ_ z=>⟨_,wF (E:=0) rfl,z⟩) ?_|refine ij (λ_ z=>⟨_,_,_,(cv _ _ _ _ _ _ _ rfl (jO FW) rfl rfl rfl),z⟩) ?_|refine ij (λ_ z=>⟨_,_,_,(cr _ _ _ _ _ _ _ rfl (jO FW) rfl rfl rfl),z⟩) ?_|refine ij (λ_ z=>⟨_,_,_,(W7 _ _ _ _ _ _ _ _ _ _ _ _ _ _ _ rfl rfl rfl (jO FW) rfl rfl rfl),z⟩) ?_)|refine tX 0 ?_|exact Zt|refine bR ?_ ?_<;>intro h)<;>(try conv=>whnf))
         all_goals first|exact Ze|exact Ei
       ·subst hk;rw[if_pos (by simp)]at hq;rw[aY hx h2 h4 hq];exact UH
       ·have Xi:(!((kd==0)==false))=false:=by grind
        rw[if_pos br]at hq;rw[aY hx h2 h4 hq];refine gI f126 h3 hl rfl ?_;repeat' ((first|(refine kO 7 rfl ?_;first|refine ij (λ_ z=>⟨_,_,_,(c0 _ _ ⟨_,_,rfl,rfl⟩ rfl),z⟩) ?_|refine rG (λ_ z=>⟨_,agN Xi _,z⟩) ?_|refine Rq (bX _ _) ?_|refine rG (λ_ z=>⟨_,wF (E:=24) rfl,z⟩) ?_|refine ij (λ_ z=>⟨_,_,_,(cv _ _ _ _ _ _ _ rfl (jO FW) rfl rfl rfl),z⟩) ?_|refine ij (λ_ z=>⟨_,_,_,(cr _ _ _ _ _ _ _ rfl (jO FW) rfl rfl rfl),z⟩) ?_)|refine tX 0 ?_|exact Zt|refine bR ?_ ?_<;>intro h)<;>(try conv=>whnf))
        all_goals first|exact Ze|exact Ei
       ·have Xi:(!((kd==0)==true))=true:=by grind
        rw[if_neg br]at hq;by_cases hz:z2=0
        ·subst hz;rw[aY hx h2 h4 (hq.trans (if_pos rfl))];refine gI f126 h3 hl rfl ?_;repeat' ((first|(refine kO 7 rfl ?_;first|refine ij (λ_ z=>⟨_,_,_,(c0 _ _ ⟨_,_,rfl,rfl⟩ rfl),z⟩) ?_|refine rG (λ_ z=>⟨_,aah Xi _,z⟩) ?_|refine Rq (bX _ _) ?_|refine rG (λ_ z=>⟨_,wF (E:=0) rfl,z⟩) ?_|refine ij (λ_ z=>⟨_,_,_,(cv _ _ _ _ _ _ _ rfl (jO FW) rfl rfl rfl),z⟩) ?_|refine ij (λ_ z=>⟨_,_,_,(cr _ _ _ _ _ _ _ rfl (jO FW) rfl rfl rfl),z⟩) ?_|refine ij (λ_ z=>⟨_,_,_,(W7 _ _ _ _ _ _ _ _ _ _ _ _ _ _ _ rfl rfl rfl (jO FW) rfl rfl rfl),z⟩) ?_)|refine tX 0 ?_|exact Zt|refine bR ?_ ?_<;>intro h)<;>(try conv=>whnf))
         all_goals first|exact Ze|(simp only[ja];exact Ei)|exact Ei
        ·rw[aY hx h2 h4 (hq.trans (if_neg hz)),if_neg hz];refine gI f126 h3 hl rfl ?_;repeat' ((first|(refine kO 7 rfl ?_;first|refine ij (λ_ z=>⟨_,_,_,(c0 _ _ ⟨_,_,rfl,rfl⟩ rfl),z⟩) ?_|refine rG (λ_ z=>⟨_,aah Xi _,z⟩) ?_|refine Rq (bX _ _) ?_|refine rG (λ_ z=>⟨_,wF (E:=0) rfl,z⟩) ?_|refine ij (λ_ z=>⟨_,_,_,(cv _ _ _ _ _ _ _ rfl (jO FW) rfl rfl rfl),z⟩) ?_|refine ij (λ_ z=>⟨_,_,_,(cr _ _ _ _ _ _ _ rfl (jO FW) rfl rfl rfl),z⟩) ?_|refine ij (λ_ z=>⟨_,_,_,(W7 _ _ _ _ _ _ _ _ _ _ _ _ _ _ _ rfl rfl rfl (jO FW) rfl rfl rfl),z⟩) ?_)|refine tX 0 ?_|exact Zt|refine bR ?_ ?_<;>intro h)<;>(try conv=>whnf))
         all_goals first|exact Ze|exact Ei
     ·rw[if_pos rfl]at hq;rw[aY hx h2 h4 hq];exact UH
    ·rw[aY hx h2 h4 (hq.trans (if_neg (by simp)))];exact UH
   ·rw[aY hx h2 h4 (hq.trans (if_neg br))];exact UH
  ·rw[eT hy]at ct;have dx: ¬0<=aZ (cO p.aa) y:=by grind[fp]
   generalize kz p y=t at*;obtain⟨nm,kd,nd,ru,lo,hi⟩:=t;rw[aY hx h2 h4 (show aI E p log ⟨volt,earth,opens,hall,lots,units⟩ u 12 [x,y] n r=(u,6)from if_neg dx)];obtain⟨name,win,ul,res,failed,rel,shaken,used,gas⟩:=u;exact UH
 ·rw[oL hx];generalize kz p y=t at*;obtain⟨nm,kd,nd,ru,lo,hi⟩:=t;generalize decide (y∈cO p.aa)=is at*;refine gF f126 hl ?_;exact K15
def aat (p:Pl)(log:List En)(s:bK)(hl:s.units.length<=1000)(y:SV):bt cx 114 1 ((false,[.ptr 1 0])::[y].map dyn) (form p log s) [1] (.val (dyn (I 0))) (form p log s):=by
 obtain⟨volt,earth,opens,hall,lots,units⟩:=s;refine gF f114 hl ?_;exact afx
structure PB (p:Pl):Prop where
 ae:p.ae.length<=1000
 ap:p.ap.length<=1000
 aa:p.aa.length<=1000
 parts:p.parts.length<=1000
 voids: ∀q∈p.parts,q.2.length<=1000
 bu: ∀t∈p.aa,t.bu.length<=1000
 eH:0<=p.eH/\p.eH<=1000000000000
 rules: ∀t∈p.aa,t.rules.length<=10000
 kind: ∀t∈p.aa,0<=t.kind/\t.kind<=3
 am1: ∀t∈p.aa,∀t'∈p.aa,t.name=t'.name->t=t'
 comp: ∀t∈p.aa,t.kind=2->∃n0 nd,t.bu=n0::nd/\∃t0∈p.aa,t0.name=n0/\t0.kind=1
def alN (tx:aj):Prop:=(dQ (cD (av 32 (bP 3 tx)))).2=0
def aau (p:Pl)(log:List En)(r:Rs):Prop:=∃k:Nat,r.entry=(k:Nat)/\k<log.length/\(log.getD k fZ).text.length <=400/\jH ((av 32 (log.getD k fZ).text).getD 0 [])=12/\(∃a n q,eD (vb 12) (log.getD k fZ).text =some (a,n,q))/\
 ∀t∈p.aa,t.name=r.test->t.kind=1->alN (log.getD k fZ).text
structure UB (p:Pl) (log:List En) (u:Un):Prop where
 lots:u.lots.length<=log.length
 len:u.res.length<=log.length
 gas:u.gas.length<=10
 used:0<=u.used/\u.used<=1000000000000
 res: ∀r∈u.res,aau p log r
structure SB (p:Pl) (log:List En) (s:bK):Prop where
 units:s.units.length<=6
 lots:s.lots.length<=12
 opens:s.opens.length<=log.length
 unit: ∀u∈s.units,UB p log u
noncomputable def EE:qH:=⟨H7,Kn⟩
def fE:List FuncId:=[114,115,116,117,118,119,120,121,122,123,124,125,126,127,128,129,130,131,132]
def qC: ∀ {u:List aj} {n:List Int},jk u=some n->n.length=u.length
 | [],n,h=>by cases h;rfl
 |s::r,n,h=>by
  unfold jk at h
  cases e:wN false 7 s with
  |none=>simp_all
  |some v=>
   cases e2:jk r with
   |none=>simp_all
   |some t=>
    rw[e,e2]at h;cases h;simp[qC e2]
def ut {v:Vb}{tx:aj}{a:List aj}{n:List Int}{q:aj}(h:eD v tx=some (a,n,q))(hk:v.pW<=v.words):a.length=v.words/\n.length=v.pW/\(∀x∈a,x.length<=tx.length)/\q.length<=tx.length/\q=(if v.rest then bP (v.words+1) tx else [])/\v.words+1<=(av 32 tx).length /\(v.rest=true->v.words+2<=(av 32 tx).length)/\a=((av 32 tx).take (v.words+1)).drop 1:=by
 unfold eD at h;dsimp only at h;split at h
 ·cases h
 rename_i hc;have h1:v.words+1<=(av 32 tx).length :=by grind
 have h2:v.rest=true->v.words+2<=(av 32 tx).length :=λhr=>by grind
 rw[my]at h;obtain⟨m,hm,e⟩:=h;simp only[gt]at e;obtain⟨rfl,rfl,rfl⟩:=e;have h3:=qC hm;have h4:=(bZ 32 tx).2;refine⟨by grind,by grind,λx hx=>h4 x (FU (Ps hx)),?_,rfl,h1,h2,rfl⟩;split
 grind[lZ]
 grind
def sO {α:Type}{l:List α}(h:l.length=1): ∃a,l= [a]:=wA.1 h
def E2 {α:Type}{l:List α}(h:l.length=2): ∃a b,l= [a,b]:=by
 match l,h with
 | [a,b],_=>grind
def agQ {α:Type}{l:List α}(h:l.length=3): ∃a b c,l= [a,b,c]:=by
 match l,h with
 | [a,b,c],_=>grind
def anB {α:Type}{l:List α}(h:l.length=5): ∃a b c d e,l= [a,b,c,d,e]:=by
 match l,h with
 | [a,b,c,d,e],_=>grind
def agR {α:Type}{l:List α}(h:l.length=6): ∃a b c d e f,l= [a,b,c,d,e,f]:=by
 match l,h with
 | [a,b,c,d,e,f],_=>grind
def Il {l:List Rs}{t:aj}{r:Rs}(h:iM l t=some r):r∈l/\r.test=t/\r.void=false:=by
 unfold iM at h;have h1:=List.mem_of_find?_eq_some h;have h2:=List.find?_some h;unfold sG at h2
 grind
def E3 {l:List Rs}{t:Ts}{n0:aj}{nd:List aj}(h:iU l t=true)(hn:t.bu=n0::nd): ∃r,iM l n0=some r:=by
 unfold iU at h;rw[hn,List.all_cons,sC]at h
 grind[bH]
def agS {p:Pl}{log:List En}{u:Un}{t:Ts}(hP:PB p)(hU:UB p log u)(ht:t∈p.aa)(hr:iU u.res t=true)(hk:t.kind=2):aag log u t:=by
 obtain⟨n0,nd,hn,_⟩:=hP.comp t ht hk;obtain⟨r,hl⟩:=E3 hr hn;obtain⟨k,h1,h2,h3,h4,⟨a,n,q,h5⟩,h6⟩:=hU.res r (Il hl).1;obtain⟨rt,ra,re,rv⟩:=r;simp only at h1;subst h1;have h7:=(ut h5 K9).2.2.2.2.2.2.1 rfl;exact⟨n0,nd,rt,ra,k,rv,hn,hl,h2,h7,by omega⟩
def ado (p:Pl)(log:List En)(s:bK)(hP:PB p)(hS:SB p log s)(CD:log.length<60){k:Nat}(hk:k<19){tx:aj}(htx:tx.length<=400){a:List aj}{n:List Int}{q:aj}(h:eD (vb k) tx=some (a,n,q)):
  bt cx (fE.getD k 0) 1 ((false,[.ptr 1 0])::[wX a n q].map dyn) (form p log s) [1] (.val (dyn (I (ba EE p log s k a n q).2))) (form p log (ba EE p log s k a n q).1):=by
 have hl:s.units.length<=1000:=by exact UJ
 have hlo:s.lots.length<=1000:=by have:=hS.lots;omega
 have hop:s.opens.length<=1000:=by have:=hS.opens;omega
 have hur: ∀u∈s.units,u.res.length<=1000:=λu hu=>by have:=(hS.unit u hu).len;omega
 have hul: ∀u∈s.units,u.lots.length<=1000:=λu hu=>by have:=(hS.unit u hu).lots;omega
 have hug: ∀u∈s.units,u.gas.length<=1000:=λu hu=>by have:=(hS.unit u hu).gas;omega
 have huu: ∀u∈s.units,0<=u.used/\u.used<=1000000000000000:=λu hu=>by have:=(hS.unit u hu).used;omega
 have AM: ∀i<p.aa.length,(p.aa.getD i dt).bu.length <=1000:=λi hi=>hP.bu _ br;obtain rfl|rfl|rfl|rfl|rfl|rfl|rfl|rfl|rfl|rfl|rfl|rfl|rfl|rfl|rfl|rfl|rfl|rfl|rfl:k=0\/k=1\/k=2\/k=3\/k=4\/k=5\/k=6\/k=7\/k=8\/k=9\/k=10\/k=11\/k=12\/k=13\/k=14\/k=15\/k=16\/k=17\/k=18:=by omega
 all_goals obtain⟨ha,hn,hx,hq,-,-,-,-⟩:=ut h K9
 ·exact aat p log s hl _
 ·obtain⟨x,rfl⟩:=sO ha;have:=hx x (by simp);exact Q0 EE p log s hl x n q K0 hlo
 ·obtain⟨x,rfl⟩:=sO ha;have:=hx x (by simp);exact N7 EE p log s rfl UJ x n q K0 K0
 ·obtain⟨x,y,rfl⟩:=E2 ha;exact ac2 EE p log s hl x y n q hlo hul
 ·obtain⟨x,rfl⟩:=sO ha;exact aar EE p log s hl x n q hP.ap hop
 ·obtain⟨x,rfl⟩:=sO ha;exact aas EE p log s hl x n q hP.ap hop
 ·exact VM EE p log s hl a n q
 ·exact ZI EE p log s hl a n q
 ·exact Np EE p log s hl a n q
 ·have:=acY p log s hl a n q;cases hv:s.volt
  ·rw[hv]at this;rw[show ba EE p log s 9 a n q=(s,20)by grind[ba]];exact this
  ·rw[hv]at this;rw[show ba EE p log s 9 a n q=({s with volt:=false},0)by grind[ba]];exact this
 ·obtain⟨x,rfl⟩:=sO ha;exact VO EE p log s hl x n q
 ·obtain⟨x,rfl⟩:=sO ha;exact VP EE p log s hl x n q
 ·obtain⟨x,y,rfl⟩:=E2 ha;exact aaj EE p log s hl x y n q hP.aa hP.bu hur K0 λu hu t ht hr=>Ko p log u t q br K0 (hP.rules t ht) (hP.kind t ht) λhk=>agS hP (hS.unit u hu) ht hr hk
 ·obtain⟨x,y,rfl⟩:=E2 ha;exact QV EE p log s hl x y n q hP.aa hP.parts hP.voids AM hur
 ·obtain⟨x,rfl⟩:=sO ha;exact Nt EE p log s hl x n q hP.aa hur
 ·obtain⟨x,y,rfl⟩:=E2 ha;obtain⟨m,rfl⟩:=sO hn;exact Wo EE p log s hl x y m q
 ·obtain⟨x,rfl⟩:=sO ha;exact Nq EE p log s hl x n q
 ·obtain⟨x,y,z,rfl⟩:=agQ ha;obtain⟨d,t,rfl⟩:=E2 hn;exact aaq EE p log s hl x y z d t q (by have:=hP.eH;omega) huu
 ·obtain⟨x,a1,a2,a3,a4,a5,rfl⟩:=agR ha;obtain⟨h1,h2,h3,h4,h5,rfl⟩:=anB hn;exact adn EE p log s hl x a1 a2 a3 a4 a5 h1 h2 h3 h4 h5 q hug
inductive BC:Hp->Hp->Prop
 |base (T:Hp):BC T T
 |step {k:Nat} {b:Option co} {H T:Hp} (h:Nat.blt 0 (tag k)=true) (e:BC H T):BC ((k,b)::H) T
theorem BC.get {H T:Hp}{root:Nat}(h:BC H T)(hT:KW T root): ∀k∈ah T,T.get k=H.get k:=by
 induction h with
 |base=>grind
 |step h e ih=>
  intro k hk;rw[Hp.kI (λe=>by subst e;rw[AR]at h;have:=(hT.lt k hk).2;omega)]
  grind
def vl {f:FuncId}{fid:Nat}{y:SV}{p:Pl}{log rZ:List En}{s s':bK}{z:Int}{H:Hp}(h:bt cx f 1 ((false,[.ptr 1 0])::[y].map dyn) (form p log s) [1] (.val (dyn (I z))) (form p rZ s'))(hl:s.units.length<=1000)(sr:s'.units.length<=1000)
  (hf:tag fid≠0)(hO:BC H (form p log s)):
  bN cx fid f [(false,[.ptr 1 0]),dyn y] H.get (.val (dyn (I z))) (cC (form p log s) (cN (fresh (tag fid) 1) (form p rZ s'))) (ah (form p log s)):=by
 have hT:=dl p log hl;have fh:=dl p rZ sr;have g:=wM (H:=H.get) h hT fh (dw _) hf (hO.get hT) (λx hx=>?_) (bA (I z))
 ·exact am5
 ·rcases cQ.1 hx with rfl|hx
  ·exact afF
  grind[bA]
def zh {fid nx n' b:Nat}{T T' H:Hp}{E E':dP}{ks:List Nat}{cs:List SC}(hT:KW T 1)(fh:KW T' 1)(hf:tag fid≠0)(hb:tag b≠0)(hbf:tag b≠tag fid)(hbn:tag b<n')(hH:H.get b=some (.dV cs))
  (hE:eZ (gA (fresh (tag fid) 1) T' [(b,some (.dV cs))]) E.get ks=some E'):
  bs ⟨E,cC T (cN (fresh (tag fid) 1) T')++H,nx⟩ ⟨E',(b,some (.dV cs))::T',n'⟩:=by
 have h1:b∉ah T:=λh=>hb (hT.lt b h).2;have h2:b∉ah T':=λh=>hb (fh.lt b h).2;refine(DK (R:=[(b,some (.dV cs))]) (n':=n') hT fh hf (by simp) (λk hk=>?_) (λid bl e=>?_) K0 hE).trans (Cm ?_)
 grind
 ·obtain⟨rfl,rfl⟩:=gE e;exact⟨hH,trivial⟩
 ·have:=ql (A:=T') (F':=[(b,some (.dV cs))]) (B:=[]) (λn hn hm=>by
   grind)
  grind
section
variable (p:Pl)(log:List En)(s s':bK)(et:Int)(ew tx:aj)
theorem Q1 (hl:s.units.length<=1000)(sr:s'.units.length<=1000)(hp:p.ae.length<=1000)(ht:tx.length<=100000)(CD:log.length<60){role w k:Nat}{rest:Bool}{f:FuncId}(hf:iY uh (B ((av 32 tx).getD 0 []))=some (NA role w k rest f))(hX:sK p log et ew tx true=0)
  {ik:Nat}(IH:aZ p.ay ew=(ik:Nat))(zy:ik<p.ae.length)(hr: ¬(p.ae.getD ik ([],0)).2<role){a:List aj}{n:List Int}{r:aj}(zB:ad 69 [NA role w k rest f,SS tx] (.aJ [wX a n r,Bo true]))
  {z:Int}(hz:z≠0)(hef:bt cx f 1 ((false,[.ptr 1 0])::[wX a n r].map dyn) (form p log s) [1] (.val (dyn (I z))) (form p log s')):
  bt cx 62 1 ((false,[.ptr 1 0])::[enX ⟨et,ew,tx⟩].map dyn) (form p log s) [1] (.val (dyn (I z))) (form p log s'):=by
 have hn:(log.map df).length =log.length:=by simp
 have hpn:(p.ae.map m9).length =p.ae.length:=by simp
 have he:=bg (f:=m9) zy ([],0);have c1:=l5 p.ae et ew tx hp;have c2:=gZ tx 32 K0;rw[V5]at c2;generalize (Lib.cut tx [32]).2.1=q1 at*;generalize (Lib.cut tx [32]).2.2=q2 at*;have c3:=ky tx K0;generalize (av 32 tx).getD 0 []=wd at*;have CC:fs [if aZ p.ay ew>=0 then 0 else 6,if 0<=et/\et<=1000000000000 then 0 else 2,if et>=im log then 0 else 9,if((tx.length:Nat):Int)<=400 then 0 else 8,if aU tx then 0 else 3,if true=true then 0 else 7]=0:=hX;rw[IH]at CC;rw[show p.ae.map Prod.fst=p.ay from rfl,IH]at c1;generalize p.ae.getD ik ([],0)=pe at*;obtain⟨pn,pr⟩:=pe;dsimp only at hr;have ce:=λfid H hO hf=>vl (fid:=fid) (H:=H) hef hl sr hf hO;have hT:=dl p log hl;have fh:=dl p log sr;clear hef;obtain⟨volt,earth,opens,hall,lots,units⟩:=s;obtain⟨amh,ahE,ahs,amM,amR,ahh⟩:=s'
 rcases J5 log with⟨g1,g2⟩|⟨j,g1,g2,g3⟩
 ·rw[g2]at CC;refine gF f62 sr ?_;repeat' ((first|(refine kO 7 rfl ?_;first|refine Rh (ke _ _) ?_)|refine tX 0 ?_|exact Zt|refine bR ?_ ?_<;>intro h)<;>(try conv=>whnf))
  rw[hf];repeat' ((first|(refine kO 7 rfl ?_;first|refine Rq (iR _) ?_|refine rG (λ_ z=>⟨_,wF CC,z⟩) ?_)|refine tX 0 ?_|exact Zt|refine bR ?_ ?_<;>intro h)<;>(try conv=>whnf))
  repeat((first|(refine kO 7 rfl ?_;first|refine se (λ_ z=>⟨_,_,_,(ce _ _ K76 (fG rfl)),z⟩) ?_)|refine tX 2 ?_|exact Zt);(try conv=>whnf))
  refine aQ ?_;(refine aR ?_;conv=>whnf);(try(refine tX 2 ?_;try exact Zt));refine⟨_,zh (b:=2) (cs:=df ⟨et,ew,tx⟩) (E':=[(0,pP 1),(3,pP 2),(16,vI z),(114,some (lit (.bool (z != 0))))]) (ks:=[0,3,16,114]) (n':=1000) hT fh (fG rfl) (fG rfl) (fG rfl) (fP rfl) rfl dp,?_⟩;exact K90
 ·rw[g3]at CC;have hN:dK (((log.map df).length :Int) -1) j:=⟨by omega⟩;generalize log.getD j ⟨0,[],[]⟩=le at*;obtain⟨lt,lw,lx⟩:=le;refine gF f62 sr ?_;repeat' ((first|(refine kO 7 rfl ?_;first|refine Rh (ke _ _) ?_)|refine tX 0 ?_|exact Zt|refine bR ?_ ?_<;>intro h)<;>(try conv=>whnf))
  all_goals rw[hf]
  all_goals repeat' ((first|(refine kO 7 rfl ?_;first|refine Rq (iR _) ?_|refine rG (λ_ z=>⟨_,wF CC,z⟩) ?_)|refine tX 0 ?_|exact Zt|refine bR ?_ ?_<;>intro h)<;>(try conv=>whnf))
  all_goals try(exfalso;omega)
  repeat((first|(refine kO 7 rfl ?_;first|refine se (λ_ z=>⟨_,_,_,(ce _ _ K76 (fG rfl)),z⟩) ?_)|refine tX 2 ?_|exact Zt);(try conv=>whnf))
  refine aQ ?_;(refine aR ?_;conv=>whnf);(try(refine tX 2 ?_;try exact Zt));refine⟨_,zh (b:=2) (cs:=df ⟨et,ew,tx⟩) (E':=[(0,pP 1),(3,pP 2),(16,vI z),(114,some (lit (.bool (z != 0))))]) (ks:=[0,3,16,114]) (n':=1000) hT fh (fG rfl) (fG rfl) (fG rfl) (fP rfl) rfl dp,?_⟩;exact K90
theorem Wp (hl:s.units.length<=1000)(sr:s'.units.length<=1000)(hp:p.ae.length<=1000)(ht:tx.length<=100000)(CD:log.length<60){role w k:Nat}{rest:Bool}{f:FuncId}(hf:iY uh (B ((av 32 tx).getD 0 []))=some (NA role w k rest f))(hX:sK p log et ew tx true=0)
  {ik:Nat}(IH:aZ p.ay ew=(ik:Nat))(zy:ik<p.ae.length)(hr: ¬(p.ae.getD ik ([],0)).2<role){a:List aj}{n:List Int}{r:aj}(zB:ad 69 [NA role w k rest f,SS tx] (.aJ [wX a n r,Bo true]))
  (hef:bt cx f 1 ((false,[.ptr 1 0])::[wX a n r].map dyn) (form p log s) [1] (.val (dyn (I 0))) (form p log s')):
  bt cx 62 1 ((false,[.ptr 1 0])::[enX ⟨et,ew,tx⟩].map dyn) (form p log s) [1] (.val (dyn (I 0))) (form p (log++[⟨et,ew,tx⟩]) s'):=by
 have hn:(log.map df).length =log.length:=by simp
 have hpn:(p.ae.map m9).length =p.ae.length:=by simp
 have he:=bg (f:=m9) zy ([],0);have c1:=l5 p.ae et ew tx hp;have c2:=gZ tx 32 K0;rw[V5]at c2;generalize (Lib.cut tx [32]).2.1=q1 at*;generalize (Lib.cut tx [32]).2.2=q2 at*;have c3:=ky tx K0;generalize (av 32 tx).getD 0 []=wd at*;have CC:fs [if aZ p.ay ew>=0 then 0 else 6,if 0<=et/\et<=1000000000000 then 0 else 2,if et>=im log then 0 else 9,if((tx.length:Nat):Int)<=400 then 0 else 8,if aU tx then 0 else 3,if true=true then 0 else 7]=0:=hX;rw[IH]at CC;rw[show p.ae.map Prod.fst=p.ay from rfl,IH]at c1;generalize p.ae.getD ik ([],0)=pe at*;obtain⟨pn,pr⟩:=pe;dsimp only at hr;have ce:=λfid H hO hf=>vl (fid:=fid) (H:=H) hef hl sr hf hO;have hT:=dl p log hl;have fh:=dl p log sr;clear hef;obtain⟨volt,earth,opens,hall,lots,units⟩:=s;obtain⟨amh,ahE,ahs,amM,amR,ahh⟩:=s'
 rcases J5 log with⟨g1,g2⟩|⟨j,g1,g2,g3⟩
 ·rw[g2]at CC;refine gF f62 sr ?_;repeat' ((first|(refine kO 7 rfl ?_;first|refine Rh (ke _ _) ?_)|refine tX 0 ?_|exact Zt|refine bR ?_ ?_<;>intro h)<;>(try conv=>whnf))
  rw[hf];repeat' ((first|(refine kO 7 rfl ?_;first|refine Rq (iR _) ?_|refine rG (λ_ z=>⟨_,wF CC,z⟩) ?_)|refine tX 0 ?_|exact Zt|refine bR ?_ ?_<;>intro h)<;>(try conv=>whnf))
  repeat((first|(refine kO 7 rfl ?_;first|refine se (λ_ z=>⟨_,_,_,(ce _ _ K76 (fG rfl)),z⟩) ?_)|refine tX 2 ?_|exact Zt);(try conv=>whnf))
  refine aQ ?_;(refine aR ?_;conv=>whnf);(try(refine tX 2 ?_;try exact Zt));refine⟨_,zh (b:=2) (cs:=df ⟨et,ew,tx⟩) (E':=[(0,pP 1),(3,pP 2),(16,vI 0),(114,some (lit (.bool (0 != 0))))]) (ks:=[0,3,16,114]) (n':=1000) hT fh (fG rfl) (fG rfl) (fG rfl) (fP rfl) rfl dp,?_⟩;exact tL
 ·rw[g3]at CC;have hN:dK (((log.map df).length :Int) -1) j:=⟨by omega⟩;generalize log.getD j ⟨0,[],[]⟩=le at*;obtain⟨lt,lw,lx⟩:=le;refine gF f62 sr ?_;repeat' ((first|(refine kO 7 rfl ?_;first|refine Rh (ke _ _) ?_)|refine tX 0 ?_|exact Zt|refine bR ?_ ?_<;>intro h)<;>(try conv=>whnf))
  all_goals rw[hf]
  all_goals repeat' ((first|(refine kO 7 rfl ?_;first|refine Rq (iR _) ?_|refine rG (λ_ z=>⟨_,wF CC,z⟩) ?_)|refine tX 0 ?_|exact Zt|refine bR ?_ ?_<;>intro h)<;>(try conv=>whnf))
  all_goals try(exfalso;omega)
  repeat((first|(refine kO 7 rfl ?_;first|refine se (λ_ z=>⟨_,_,_,(ce _ _ K76 (fG rfl)),z⟩) ?_)|refine tX 2 ?_|exact Zt);(try conv=>whnf))
  refine aQ ?_;(refine aR ?_;conv=>whnf);(try(refine tX 2 ?_;try exact Zt));refine⟨_,zh (b:=2) (cs:=df ⟨et,ew,tx⟩) (E':=[(0,pP 1),(3,pP 2),(16,vI 0),(114,some (lit (.bool (0 != 0))))]) (ks:=[0,3,16,114]) (n':=1000) hT fh (fG rfl) (fG rfl) (fG rfl) (fP rfl) rfl dp,?_⟩;exact tL
end
def Im {c:Prop} [Decidable c]{n:Int}{l:List Int}(hn:n≠0):fs ((if c then 0 else n)::l)=if c then fs l else n:=by
 by_cases h:c
 ·rw[if_pos h,if_pos h];rfl
 ·rw[if_neg h,if_neg h];show(if n≠0 then n else fs l)=n;rw[if_pos hn]
def adp (p:Pl)(log:List En)(et:Int)(ew tx:aj)(kn:Bool):sK p log et ew tx kn=if aZ p.ay ew>=0 then(if 0<=et/\et<=1000000000000 then(if et>=im log then(if((tx.length:Nat):Int)<=400 then(if aU tx then(if kn=true then 0 else 7)else 3)else 8)else 9)else 2)else 6:=by
 unfold sK;rw[Im K9,Im K9,Im K9,Im K9,Im K9,Im K9];rfl
noncomputable def N9 (E:qH)(p:Pl)(log:List En)(s:bK)(e:En):bK × Int:=
 if(p.ae.getD (aZ p.ay e.lk).toNat ([],0)).2< (vb (jH ((av 32 e.text).getD 0 []))).role then(s,18)else
 match eD (vb (jH ((av 32 e.text).getD 0 []))) e.text with
 |none=>(s,7)
 |some (a,n,rest)=>ba E p log s (jH ((av 32 e.text).getD 0 [])) a n rest
def zi (E:qH)(p:Pl)(log:List En)(s:bK)(et:Int)(ew tx:aj):
  (sK p log et ew tx (decide (jH ((av 32 tx).getD 0 [])<19))≠0/\pm E p log s ⟨et,ew,tx⟩=(s,sK p log et ew tx (decide (jH ((av 32 tx).getD 0 [])<19))))\/
  (sK p log et ew tx (decide (jH ((av 32 tx).getD 0 [])<19))=0/\0<=aZ p.ay ew/\tx.length<=400/\jH ((av 32 tx).getD 0 [])<19/\pm E p log s ⟨et,ew,tx⟩=N9 E p log s ⟨et,ew,tx⟩):=by
 rw[adp];unfold pm;dsimp only;by_cases h1:aZ p.ay ew>=0
 ·rw[if_pos h1,if_neg (show ¬aZ p.ay ew<0 by omega)];by_cases h2:0<=et/\et<=1000000000000
  ·rw[if_pos h2,if_neg (CN h2)];by_cases h3:et>=im log
   ·rw[if_pos h3,if_neg (show ¬et<im log by omega)];by_cases h4:((tx.length:Nat):Int)<=400
    ·rw[if_pos h4,if_neg (show ¬400<tx.length by omega)];by_cases h5:aU tx
     ·rw[if_pos h5,if_neg (CN h5)];by_cases h6:jH ((av 32 tx).getD 0 [])<19
      ·rw[if_pos (fH h6),if_neg (show ¬19<=jH ((av 32 tx).getD 0 [])by omega)];exact .inr ⟨rfl,h1,by omega,h6,rfl⟩
      ·rw[if_neg (by rw[eT h6];decide),if_pos (show 19<=jH ((av 32 tx).getD 0 [])by omega)];exact UI
     ·rw[if_neg h5,if_pos h5];exact UI
    ·rw[if_neg h4,if_pos (show 400<tx.length by omega)];exact UI
   ·rw[if_neg h3,if_pos (show et<im log by omega)];exact UI
  ·rw[if_neg h2,if_pos h2];exact UI
 ·rw[if_neg h1,if_pos (show aZ p.ay ew<0 by omega)];exact UI
def afa {k:Nat}(hk:k<19): ∃nm,∃role w m:Nat,∃rest,NB[k]? =some (nm,NA role w m rest (fE.getD k 0))/\vb k=⟨(role:Nat),w,m,rest⟩/\w<=10/\m<=w/\(rest=true->m=0):=by
 obtain rfl|rfl|rfl|rfl|rfl|rfl|rfl|rfl|rfl|rfl|rfl|rfl|rfl|rfl|rfl|rfl|rfl|rfl|rfl:k=0\/k=1\/k=2\/k=3\/k=4\/k=5\/k=6\/k=7\/k=8\/k=9\/k=10\/k=11\/k=12\/k=13\/k=14\/k=15\/k=16\/k=17\/k=18:=by omega
 all_goals exact⟨_,_,_,_,_,rfl,rfl,by decide,by decide,by decide⟩
def E4 (E:qH)(p:Pl)(log:List En)(s:bK)(k:Nat)(a:List aj)(n:List Int)(q:aj):(ba E p log s k a n q).1.units.length <=s.units.length+1:=by
 unfold ba;split<;>(repeat' split)<;>simp
noncomputable def jm (p:Pl)(log:List En)(s:bK)(e:En):bK × Int:=if 60<=log.length then(s,8)else pm EE p log s e
def aav (log:List En)(e:En)(z:Int):List En:=if z=0 then log++[e]else log
def aaw {l:List aj}{x:aj}(h:0<=aZ l x): ∃k:Nat,aZ l x=(k:Nat)/\k<l.length:=by
 by_cases hx:x∈l
 ·obtain⟨k,hk,e⟩:=k6 hx;exact⟨k,e,hk⟩
 ·rw[fp hx]at h;omega
def Q2 (p:Pl)(log:List En)(s:bK)(hP:PB p)(hS:SB p log s)(e:En)(he:e.text.length<=100000):
  bt cx 62 1 ((false,[.ptr 1 0])::[enX e].map dyn) (form p log s) [1] (.val (dyn (I (jm p log s e).2))) (form p (aav log e (jm p log s e).2) (jm p log s e).1):=by
 have hl:s.units.length<=1000:=by exact UJ
 unfold jm;by_cases CD:60<=log.length
 ·rw[if_pos CD];exact NH p log s hl e CD
 ·rw[if_neg CD];have CD:log.length<60:=by omega
  obtain⟨et,ew,tx⟩:=e;dsimp only at he;have KS:=VV ((av 32 tx).getD 0 [])
  rcases zi EE p log s et ew tx with⟨h1,h2⟩|⟨h1,h2,h3,h4,h5⟩
  ·rw[h2];have hz:aav log ⟨et,ew,tx⟩ (sK p log et ew tx (decide (jH ((av 32 tx).getD 0 [])<19)))=log:=if_neg h1;simp only;rw[hz];by_cases hk:jH ((av 32 tx).getD 0 [])<19
   ·obtain⟨nm,role,w,m,rest,g1,g2,_⟩:=afa hk;rw[g1]at KS;rw[fH hk]at h1 ⊢;exact V6 p log s et ew tx hl hP.ae he CD KS h1
   ·rw[eT hk]at h1 ⊢;have hn:NB[jH ((av 32 tx).getD 0 [])]? =none:=List.getElem?_eq_none (by show 19<=_;omega);rw[hn]at KS;exact V7 p log s et ew tx hl hP.ae he CD KS h1
  ·rw[h5];rw[fH h4]at h1;obtain⟨nm,role,w,m,rest,g1,g2,g3,g4,g5⟩:=afa h4;rw[g1]at KS;obtain⟨ik,IH,zy⟩:=aaw h2;have zy:ik<p.ae.length:=by simpa [Pl.ay]using zy
   unfold N9;dsimp only;rw[IH,sB,g2];dsimp only;by_cases hr:(p.ae.getD ik ([],0)).2< (role:Nat)
   ·rw[if_pos hr];exact NI p log s et ew tx hl hP.ae he CD KS h1 IH zy hr
   ·rw[if_neg hr];obtain⟨a,n,q,ok,c1,c2⟩:=V4 role w m rest (fE.getD (jH ((av 32 tx).getD 0 [])) 0) tx he g3 g4 g5;cases ok
    ·rw[if_neg xH]at c2;rw[c2];exact NJ p log s et ew tx hl hP.ae he CD KS h1 IH zy hr c1
    ·rw[if_pos rfl]at c2;rw[c2];have hef:=ado p log s hP hS CD h4 h3 (by rw[g2];exact c2)
     have sr:(ba EE p log s (jH ((av 32 tx).getD 0 [])) a n q).1.units.length <=1000:=by
      have:=E4 EE p log s (jH ((av 32 tx).getD 0 [])) a n q;have:=hS.units;omega
     show bt _ _ _ _ _ _ (.val (dyn (I (ba EE p log s (jH ((av 32 tx).getD 0 [])) a n q).2))) (form p (aav log _ (ba EE p log s (jH ((av 32 tx).getD 0 [])) a n q).2) (ba EE p log s (jH ((av 32 tx).getD 0 [])) a n q).1);generalize ba EE p log s (jH ((av 32 tx).getD 0 [])) a n q=y at*;obtain⟨s',z⟩:=y;by_cases hz:z=0
     ·subst hz;exact Wp p log s s' et ew tx hl sr hP.ae he CD KS h1 IH zy hr c1 hef
     ·have e1:aav log ⟨et,ew,tx⟩ z=log:=if_neg hz;simp only;rw[e1];exact Q1 p log s s' et ew tx hl sr hP.ae he CD KS h1 IH zy hr c1 hz hef
def Wq {p:Pl}{log:List En}{r:Rs}(e:En)(h:aau p log r):aau p (log++[e]) r:=by
 obtain⟨k,h1,h2,h3,h4,h5,h6⟩:=h;refine⟨k,h1,by simp;omega,?_⟩
 grind
def UB.app {p:Pl}{log:List En}{u:Un}(h:UB p log u)(e:En):UB p (log++[e]) u:=
 ⟨by have:=h.lots;simp;omega,by have:=h.len;simp;omega,h.gas,h.used,λr hr=>Wq e (h.res r hr)⟩
def adq {log:List En}{u:Un}{t:Ts}{rest:aj}(hk:t.kind=1)(h:(Kn log u t rest).2=0):(dQ (cD (av 32 rest))).2=0:=by
 unfold Kn at h
 grind
def adr (d t:Int):0<=Y8 d t:=by
 unfold Y8;split
 ·rename_i h;unfold Y7 at h;split
  grind
  ·exact CM (Int.le_of_lt (Int.pow_pos K9)) h.2.1
 grind
def Wr {p:Pl}{log:List En}{s:bK}{u u':Un}(hP:PB p)(hU:UB p log u)(e:En){k:Nat}{a:List aj}{n:List Int}{q:aj}(ht:e.text.length<=400)(hv:jH ((av 32 e.text).getD 0 [])=k)(zB:eD (vb k) e.text=some (a,n,q))
  (h:aI EE p log s u k a n q=(u',0)):UB p (log++[e]) u':=by
 have hm:=hU.app e;unfold aI at h;split at h
 ·repeat' split at h
  all_goals(simp only[gt]at h;obtain⟨rfl,h⟩:=h)
  all_goals first|exact hm|exact⟨by have:=hU.lots;simp;omega,hm.len,hm.gas,hm.used,hm.res⟩
 ·grind
 ·grind
 ·by_cases hi:0<=aZ (cO p.aa) (a.getD 1 [])
  ·rw[if_pos hi]at h;dsimp only at h;obtain⟨j,hj,hjl⟩:=aaw hi;rw[hj,sB]at h;have htm:p.aa.getD j dt∈p.aa:=by grind[cO]
   generalize p.aa.getD j dt=t at*;by_cases oX:(EE.ev log u t q).2=0
   ·rw[if_pos oX]at h;repeat' split at h
    all_goals(simp only[gt]at h;obtain⟨rfl,h⟩:=h)
    all_goals first|exact hm|skip
    refine⟨hm.lots,by have:=hU.len;simp;omega,hm.gas,hm.used,λr hr=>?_⟩;rcases gC.1 hr with hr|hr
    ·exact hm.res r hr
    ·rw[lq]at hr;subst hr;have hg:(log++[e]).getD log.length fZ=e:=by grind
     refine⟨log.length,rfl,by simp,?_⟩;rw[hg];refine⟨ht,hv,⟨a,n,q,zB⟩,λt' Ph hn hk=>?_⟩;obtain rfl:=hP.am1 t' Ph t htm hn;obtain⟨_,_,_,_,hq,_⟩:=ut zB K9;have:q=bP 3 e.text:=hq;subst this;exact adq hk oX
   grind
  grind
 ·repeat' split at h
  all_goals(simp only[gt]at h;obtain⟨rfl,h⟩:=h)
  all_goals first|exact hm|skip
  refine⟨hm.lots,by have:=hU.len;simp;omega,hm.gas,hm.used,λr hr=>?_⟩;obtain⟨r0,hr0,rfl⟩:=dN.1 hr;exact hm.res r0 hr0
 ·exact K78
 ·exact K78
 ·exact K78
 ·have hl:=hP.eH;have hu:=hU.used;have amP:=adr (n.getD 0 0) (n.getD 1 0);generalize Y8 (n.getD 0 0) (n.getD 1 0)=ag at*;repeat' split at h
  all_goals(simp only[gt]at h;obtain⟨rfl,h⟩:=h)
  all_goals first|exact hm|exact⟨hm.lots,hm.len,hm.gas,abS,hm.res⟩
 ·dsimp only at h;repeat' split at h
  all_goals(simp only[gt]at h;obtain⟨rfl,h⟩:=h)
  all_goals first|exact hm|exact⟨hm.lots,hm.len,wG,hm.used,hm.res⟩
 grind
def SB.app {p:Pl}{log:List En}{s:bK}(h:SB p log s)(e:En):SB p (log++[e]) s:=⟨h.units,h.lots,by have:=h.opens;simp;omega,λu hu=>(h.unit u hu).app e⟩
theorem agT {p:Pl}{log:List En}{s:bK}(hP:PB p)(hS:SB p log s)(e:En){k:Nat}{a:List aj}{n:List Int}{q:aj}(ht:e.text.length<=400)(hv:jH ((av 32 e.text).getD 0 [])=k)(zB:eD (vb k) e.text=some (a,n,q))
  {s':bK}(h:ba EE p log s k a n q=(s',0)):SB p (log++[e]) s':=by
 have hm:=hS.app e;have ho:=hS.opens;unfold ba at h;split at h
 ·exact ajM
 ·repeat' split at h
  all_goals(simp only[gt]at h;obtain⟨rfl,h⟩:=h)
  all_goals first|exact hm|exact⟨hm.units,by simp;omega,hm.opens,hm.unit⟩
 ·repeat' split at h
  all_goals(simp only[gt]at h;obtain⟨rfl,h⟩:=h)
  all_goals first|exact hm|skip
  refine⟨by simp;omega,hm.lots,hm.opens,λu hu=>?_⟩;rcases gC.1 hu with hu|hu
  ·exact hm.unit u hu
  ·rw[lq]at hu;subst hu;exact⟨dC _,dC _,dC _,⟨by show(0:Int)<=0;decide,by show(0:Int)<=1000000000000;decide⟩,λr hr=>by cases hr⟩
 ·repeat' split at h
  all_goals(simp only[gt]at h;obtain⟨rfl,h⟩:=h)
  all_goals first|exact hm|exact⟨hm.units,hm.lots,by simp;omega,hm.unit⟩
 ·repeat' split at h
  all_goals(simp only[gt]at h;obtain⟨rfl,h⟩:=h)
  all_goals first|exact hm|exact⟨hm.units,hm.lots,by have:=List.length_erase_le (a:=a.getD 0 []) (l:=s.opens);show(s.opens.erase (a.getD 0 [])).length <=(log++[e]).length;rw[xI];simp only[Sd];omega,hm.unit⟩
 ·exact K49
 ·exact K49
 ·exact K49
 ·exact K49
 ·split at h
  ·rename_i hx;obtain⟨i,u,g1,g2,g3,g4,g5⟩:=jX hx;dsimp only at h;rw[g2,g4]at h
   cases hr:aI EE p log s u k a n q with
   |mk u' z=>
    rw[hr]at h;simp only[gt]at h;obtain⟨rfl,rfl⟩:=h;have hU:=Wr hP (hS.unit u (jt g3)) e ht hv zB hr;refine⟨by simp;exact hm.units,hm.lots,hm.opens,λw hw=>?_⟩;rcases R8 hw with hw|rfl
    ·exact hm.unit w hw
    ·exact hU
  ·exact ajM
def Q3 {p:Pl}{log:List En}{s s':bK}(hP:PB p)(hS:SB p log s)(e:En)(h:jm p log s e=(s',0)):SB p (log++[e]) s'/\log.length<60:=by
 unfold jm at h;by_cases CD:60<=log.length
 grind
 ·rw[if_neg CD]at h;obtain⟨et,ew,tx⟩:=e
  rcases zi EE p log s et ew tx with⟨h1,h2⟩|⟨h1,h2,h3,h4,h5⟩
  grind
  grind[N9,agT]
def E5 (p:Pl):SB p [] Go.Plain.fD:=⟨by decide,by decide,by decide,λu hu=>by cases hu⟩
def Ip {fid nx n':Nat}{T T' H:Hp}{E E':dP}{ks:List Nat}(hT:KW T 1)(fh:KW T' 1)(hf:tag fid≠0)(hn:Nat.blt 0 n'=true)(hE:eZ (gA (fresh (tag fid) 1) T' []) E.get ks=some E'):
  bs ⟨E,cC T (cN (fresh (tag fid) 1) T')++H,nx⟩ ⟨E',T',n'⟩:=by
 have h:=DK (R:=[]) (hp:=H) (nx:=nx) (n':=n') hT fh hf (by simp) (λk hk=>by cases hk) (λid b e=>by simp[Hp.get]at e) (by rwa [AR]at hn) hE;rwa [zP]at h
def Ws {E E':dP}{H:Hp}{nx n' un:Nat}{p:Pl}{log:List En}{s:bK}{m:List (Nat × Nat)}{ks:List Nat}(hl:s.units.length<=1000)(hm:Go.Fw.IM ((un,9)::m)=true)(h9:H.get un=some (.aA 17 (az 0 s.units)))
  (hY:jT ((un,9)::m++mW (bq 0 s.units)) H.get m=some (hd p log s))(hE:ib H (bq 0 s.units))(hn:(m.all λq=>Nat.blt (tag q.2) n')=true)(h0:Nat.blt 0 n'=true)
  (ahA:eZ ((un,9)::m++mW (bq 0 s.units)) E.get ks=some E'):bs ⟨E,H,nx⟩ ⟨E',form p log s,n'⟩:=by
 have hT:=fX hl;have iE:=(H4 (us:=s.units) hm).resolve_right K0;have fB:=cW.aen (Y:=hd p log s) hT hm h9 iE hY rfl (hE.get hT);refine Co fB (λq hq=>?_) ahA;have h0:0<n':=by rw[AR]at h0;exact h0
 rcases gC.1 hq with h|h
 ·rcases cQ.1 h with rfl|h
  ·show Fw.tag 9<n';rw[show Fw.tag 9=0 from rfl];exact h0
  ·exact ane
 ·exact ah1
abbrev nwC (p:Pl)(a b c d:DC):List DC:=[.st (.view (p.ae.map m9)),.st (.view (ab p.ap)),.st (.view (p.aa.map fC)),.st (.view (p.parts.map mi)),.st (J p.dW),.st (J p.eH),a,.st (K false),.st (K true),b,.st (T []),c,d]
abbrev Oa (p:Pl)(a b c d:DC):co:=.box 126 (nwC p a b c d)
def alP (fn:Func)(p:Pl)(fid:Nat)(S:St):Prop:=∃id,S.hp.get id=some (Oa p .nil .nil .nil .nil)/\er cx S.hp.get S.env.get fn.results.toList λys=>∃zs,kS [(id,fid)] ys=some zs/\ph zs=Fw.bm (.ptr fid 0)
def anC {f:FuncId}{c:Code}{fid:Nat}{p:Pl}(fn:Func)(h:m6 cx c ⟨iz 0 [dyn (true,bU p)],[],1⟩ (alP fn p fid) (λ_ _=>False) (alP fn p fid))
  (h1:iG cx.P f=true:=by kernel_rfl)(h2:cx.P.funcs[f]? =some fn:=by kernel_rfl)(h3:fn.body=some c:=by rfl)(h4:bM fn.ntmps c=true:=by kernel_rfl)(h5: [dyn (true,bU p)].length <=fn.ntmps:=by exact fP rfl)(h6:aM [] c=true:=by kernel_rfl):
  bt cx f 1 [dyn (true,bU p)] [] [] (Fw.bm (.ptr fid 0)) [(fid,some (Oa p .nil .nil .nil .nil))]:=
 fw lG h1 h2 h3 h4 h5 [] (λ_ h=>by cases h) h6 (λS hS=>by
  obtain⟨id,g1,g2⟩:=hS;refine⟨[(id,fid)],⟨by simp,by simp,λn b' e=>?_⟩,(λ_ h=>by cases h),g2⟩;obtain⟨rfl,rfl⟩:=gE e
  exact⟨id,_,by simp,g1,rfl⟩) h
def adB (p:Pl)(fid:Nat):bt cx 91 1 [dyn (true,bU p)] [] [] (Fw.bm (.ptr fid 0)) [(fid,some (Oa p .nil .nil .nil .nil))]:=by
 refine anC f91 ?_
 (try(refine tX 0 ?_;try exact Zt))
 exact⟨12,rfl,_,rfl,rfl⟩
def aaC {ok:Nat->Prop}(p:Pl):co.dM ok (Oa p .nil .nil .nil .nil):=by
 intro d hd;simp only[nwC,cQ,mA,mB]at hd;rcases hd with rfl|rfl|rfl|rfl|rfl|rfl|rfl|rfl|rfl|rfl|rfl|rfl|rfl<;>trivial
def mq (H:HF)(fid:Nat)(p:Pl):bN cx fid 91 [dyn (true,bU p)] H (Fw.bm (.ptr fid 0)) [(fid,some (Oa p .nil .nil .nil .nil))] []:=
 gv (adB p fid) (λid hid=>by cases hid) (λid hid=>by cases hid) (λid b e=>by simp[Hp.get]at e) (λx hx=>by
   have:x=dyn (true,bU p):=by simpa using hx
   subst this
   exact bA _) (λid hid=>by cases hid)
  (λid hid=>.inr ajD) (λid b e=>by obtain⟨rfl,rfl⟩:=gE e;exact aaC p) (by
   intro d hd;have:d= .ptr fid 0:=by simpa [Fw.bm]using hd
   subst this
   exact .inr rfl)
def aaD {E:dP}{Hh:Hp}{nx:Nat}(id:Nat){p:Pl}(hid:2*(nx+1+1+1)≠id)(hB:Hh.get id=some (Oa p .nil .nil .nil .nil)):
  ∃B3 B2 B1 R4,bs ⟨E,Hh,nx⟩ ⟨E,(2*(nx+1+1+1),some (.aA 17 []))::(id,some (Oa p (.own (2*nx)) (.own (2*(nx+1))) (.own (2*(nx+1+1))) (.own (2*(nx+1+1+1)))))::(2*(nx+1+1+1),some R4)::(id,some B3)::(2*(nx+1+1),some (.row true 1 (.view [])))::(id,some B2)::(2*(nx+1),some (.row true 1 (.view [])))::(id,some B1)::(2*nx,some (.row true 3 (.view [])))::Hh,nx+1+1+1+1⟩:=by
 have s1:=iJ (E:=E) (nx:=nx) id 6 3 (.view []) K9 rfl rfl hB rfl;have s2:=iJ (E:=E) (nx:=nx+1) (Hh:=(id,some (Oa p (.own (2*nx)) .nil .nil .nil))::(2*nx,some (.row true 3 (.view [])))::Hh) id 9 1 (.view []) K9 rfl rfl Pw rfl;have s3:=iJ (E:=E) (nx:=nx+1+1) (Hh:=(id,some (Oa p (.own (2*nx)) (.own (2*(nx+1))) .nil .nil))::(2*(nx+1),some (.row true 1 (.view [])))::(id,some (Oa p (.own (2*nx)) .nil .nil .nil))::(2*nx,some (.row true 3 (.view [])))::Hh) id 11 1 (.view []) K9 rfl rfl Pw rfl;have s4:=iJ (E:=E) (nx:=nx+1+1+1) (Hh:=(id,some (Oa p (.own (2*nx)) (.own (2*(nx+1))) (.own (2*(nx+1+1))) .nil))::(2*(nx+1+1),some (.row true 1 (.view [])))::(id,some (Oa p (.own (2*nx)) (.own (2*(nx+1))) .nil .nil))::(2*(nx+1),some (.row true 1 (.view [])))::(id,some (Oa p (.own (2*nx)) .nil .nil .nil))::(2*nx,some (.row true 3 (.view [])))::Hh) id 12 17 (.view []) K9 rfl rfl Pw rfl;have s5:=NE (E:=E) (nx:=nx+1+1+1+1) (Hh:=(id,some (Oa p (.own (2*nx)) (.own (2*(nx+1))) (.own (2*(nx+1+1))) (.own (2*(nx+1+1+1)))))::(2*(nx+1+1+1),some (.row true 17 (.view [])))::(id,some (Oa p (.own (2*nx)) (.own (2*(nx+1))) (.own (2*(nx+1+1))) .nil))::(2*(nx+1+1),some (.row true 1 (.view [])))::(id,some (Oa p (.own (2*nx)) (.own (2*(nx+1))) .nil .nil))::(2*(nx+1),some (.row true 1 (.view [])))::(id,some (Oa p (.own (2*nx)) .nil .nil .nil))::(2*nx,some (.row true 3 (.view [])))::Hh) (2*(nx+1+1+1)) (z:=17) (V:=[]) (by rw[Hp.kI hid,Hp.ar,an]);exact⟨_,_,_,_,(((s1.trans s2).trans s3).trans s4).trans s5⟩
noncomputable def mT (p:Pl):List En->bK->List En->bK × Nat × Int
 |_,s,[]=>(s,0,0)
 |log,s,e::r=>if(jm p log s e).2=0 then mT p (log++[e]) (jm p log s e).1 r else(s,log.length,(jm p log s e).2)
noncomputable def ee (p:Pl)(l:List En):bK × Nat × Int:=if(p.err jK).2≠0 then(Go.Plain.fD,0,(p.err jK).2)else if 60<l.length then(Go.Plain.fD,0,8)else mT p [] Go.Plain.fD l
def Iq {p:Pl}{s:bK}{l:List En}{i:Nat}(h:i<l.length):mT p (l.take i) s (l.drop i)=if(jm p (l.take i) s (l.getD i fZ)).2=0 then mT p (l.take (i+1)) (jm p (l.take i) s (l.getD i fZ)).1 (l.drop (i+1))else(s,i,(jm p (l.take i) s (l.getD i fZ)).2):=by
 have hd:l.drop i=l.getD i fZ::l.drop (i+1):=by simp_all
 have ht:l.take (i+1)=l.take i++[l.getD i fZ]:=by grind
 have bB:(l.take i).length =i:=by grind
 rw[hd,ht];show(if _ then _ else(s,(l.take i).length,_))=_
 grind
def Q5 {p:Pl}{log:List En}{s:bK}(hS:SB p log s)(e:En):(jm p log s e).1.units.length <=1000:=by
 have hu:=hS.units;unfold jm;split
 grind
 ·obtain⟨et,ew,tx⟩:=e
  rcases zi EE p log s et ew tx with⟨h1,h2⟩|⟨h1,h2,h3,h4,h5⟩
  grind
  ·rw[h5];unfold N9;dsimp only;split
   grind
   ·split
    ·show s.units.length<=1000;omega
    ·rename_i a n q _;have:=E4 EE p log s (jH ((av 32 tx).getD 0 [])) a n q;omega
def E7 {T:Hp}(hT:KW T 1):cW (sc (ah T) λk=>k) T.get T.get:=by
 have h:=(m8.hp hT (ρ:=λk=>k) (λ_ _ _ _ e=>e)).ok
 have e:(cN (λk=>k) T).get =T.get:=by
  funext k;by_cases hk:k∈ah T
  ·rw[jN (ρ:=λk=>k) (λ_ _ _ _ e=>e) k hk]
   cases hb:T.get k with
   |none=>rfl
   |some b=>simp[co.Li]
  ·rw[Hp.get_none (by show k∉ah _;grind[dj]),Hp.get_none hk]
 grind
def aaE {E E':dP}{nx n':Nat}{p:Pl}{log:List En}{s:bK}{ks:List Nat}(hl:s.units.length<=1000)(h0:Nat.blt 0 n'=true)(hE:eZ (sc (ah (form p log s)) λk=>k) E.get ks=some E'):bs ⟨E,form p log s,nx⟩ ⟨E',form p log s,n'⟩:=by
 have hT:=dl p log hl;refine Co (E7 hT) (λq hq=>?_) hE;obtain⟨o,n⟩:=q;obtain⟨h1,h2⟩:=jU.1 hq;show Fw.tag n<n';rw[h2];show Fw.tag o<n';rw[(hT.lt o h1).2];simp_all
def Q6 (y:bK × Nat × Int):DV:=if y.2.2=0 then .aJ [(false,[.ptr 1 0]),dyn (I (0:Nat)),dyn (I 0)]else .aJ [(false,[.st (.lit (.pointer none))]),dyn (I y.2.1),dyn (I y.2.2)]
def Kr (p:Pl)(l:List En)(y:bK × Nat × Int):Hp:=if y.2.2=0 then form p l y.1 else []
def Ks (p:Pl)(l:List En)(hs:io p)(hP:(p.err jK).2=0->PB p)(hl:l.length<=1000)(ht: ∀e∈l,e.text.length<=100000):
  bt cx 51 1 [dyn (true,bU p),(false,[.st (.view (l.map df))])] [] [] (Q6 (ee p l)) (Kr p l (ee p l)):=by
 have hn:(l.map df).length =l.length:=by simp
 have c1:=E6 hs;unfold ee;generalize p.err jK=pe at*;obtain⟨pi,pz⟩:=pe;have c1:ad 90 [(true,bU p)] (.aJ [I pi,I pz]):=c1;dsimp only at hP;by_cases h1:pz=0
 ·subst h1;rw[if_neg (by simp)];have hP:=hP rfl;by_cases h2:60<l.length
  ·rw[if_pos h2];show bt _ _ _ _ _ _ (.aJ [(false,[.st (.lit (.pointer none))]),dyn (I (0:Nat)),dyn (I 8)]) [];refine gR f51 ?_;exact tL
  ·rw[if_neg h2];refine gR f51 ?_;repeat' ((first|(refine kO 7 rfl ?_;first|refine ij (λ_ z=>⟨_,_,_,(mq _ _ p),z⟩) ?_)|refine tX 0 ?_|exact Zt|refine bR ?_ ?_<;>intro h)<;>(try conv=>whnf))
   all_goals try(exfalso;omega)
   refine af (ι:=Nat × bK) (λq=>q.1<=l.length/\SB p (l.take q.1) q.2/\mT p (l.take q.1) q.2 (l.drop q.1)=mT p [] Go.Plain.fD l) (λq=>l.length -q.1)
    (λq=>⟨[(9,pP 1),(26,some (.val (false,[.st (.view (l.map df))]))),(27,vI l.length),(28,vI q.1)],form p (l.take q.1) q.2,1000⟩) (0,Go.Plain.fD)
    (by
     refine Exists.elim (aaD 36 (p:=p) ?hid ?hB) λB3 h=>h.elim λB2 h=>h.elim λB1 h=>h.elim λR4 h=>bs.trans h (Ws (ks:=[9,26,27,28]) (un:=52) (m:=[(36,1),(46,3),(48,5),(50,7)]) (s:=Go.Plain.fD) (log:=l.take 0) (dC _) dp rfl dp K47 dp dp Pv);case hB=>rfl
     case hid=>decide) ⟨dC _,E5 p,rfl⟩ ?_
   rintro⟨i,s⟩ ⟨hi,hS,hR⟩;dsimp only at hi hS hR ⊢;by_cases ak:i<l.length
   ·have he:=bg (f:=df) ak fZ;have eG:=Iq (p:=p) (s:=s) ak;rw[hR]at eG;have hem:l.getD i fZ∈l:=by grind
    have ha:=Q2 p (l.take i) s hP hS (l.getD i fZ) (ht _ hem);have Ld:=λs' h=>Q3 (s':=s') hP hS (l.getD i fZ) h;have zx:l.take i++[l.getD i fZ]=l.take (i+1):=by simp_all
    rw[zx]at Ld;have hu:s.units.length<=1000:=by exact UJ
    have hac:(jm p (l.take i) s (l.getD i fZ)).1.units.length <=1000:=Q5 hS _;unfold aav at ha;rw[zx]at ha;generalize l.getD i fZ=e at*;generalize jm p (l.take i) s e=y at*;obtain⟨s',z⟩:=y;obtain⟨et,ew,tx⟩:=e;dsimp only at ha eG hac;have hT:=dl p (l.take i) hu;by_cases hz:z=0
    ·subst hz;rw[if_pos rfl]at ha eG;have fh:=dl p (l.take (i+1)) hac;have hS':=(Ld s' rfl).1;have ce:=λfid H hO hf=>vl (fid:=fid) (H:=H) ha hu hac hf hO;clear ha Ld;repeat' ((first|refine tX 0 ?_|exact Zt|refine bR ?_ ?_<;>intro h)<;>(try conv=>whnf))
     all_goals try(exfalso;omega)
     repeat((first|(refine kO 7 rfl ?_;first|refine se (λ_ z=>⟨_,_,_,(ce _ _ K76 (fG rfl)),z⟩) ?_)|refine tX 2 ?_|exact Zt);(try conv=>whnf))
     refine aQ ?_;(refine aR ?_;conv=>whnf);(try(refine tX 2 ?_;try exact Zt));refine⟨_,Ip (E':=[(9,pP 1),(10,vI i),(12,vI 0),(26,some (.val (false,[.st (.view (l.map df))]))),(27,vI l.length),(28,vI i),(37,some (lit (.bool (0 != 0))))]) (ks:=[9,10,12,26,27,28,37]) (n':=1000) hT fh (fG rfl) rfl dp,?_⟩;repeat' ((first|refine tX 0 ?_|exact Zt|refine bR ?_ ?_<;>intro h)<;>(try conv=>whnf))
     all_goals try(exfalso;omega)
     exact⟨(i+1,s'),⟨ak,hS',eG.symm⟩,by grind,aaE (ks:=[9,26,27,28]) hac rfl dp⟩
    ·rw[if_neg hz]at ha eG;have fh:=dl p (l.take i) hac;have ce:=λfid H hO hf=>vl (fid:=fid) (H:=H) ha hu hac hf hO;clear ha Ld;rw[eG,show Q6 (s,i,z)= .aJ [(false,[.st (.lit (.pointer none))]),dyn (I (i:Nat)),dyn (I z)]from if_neg hz,show Kr p l (s,i,z)= []from if_neg hz];repeat' ((first|refine tX 0 ?_|exact Zt|refine bR ?_ ?_<;>intro h)<;>(try conv=>whnf))
     all_goals try(exfalso;omega)
     repeat((first|(refine kO 7 rfl ?_;first|refine se (λ_ z=>⟨_,_,_,(ce _ _ K76 (fG rfl)),z⟩) ?_)|refine tX 2 ?_|exact Zt);(try conv=>whnf))
     refine aQ ?_;(refine aR ?_;conv=>whnf);(try(refine tX 2 ?_;try exact Zt));refine⟨_,Ip (E':=[(9,pP 1),(10,vI i),(12,vI z),(26,some (.val (false,[.st (.view (l.map df))]))),(27,vI l.length),(28,vI i),(37,some (lit (.bool (z != 0))))]) (ks:=[9,10,12,26,27,28,37]) (n':=1000) hT fh (fG rfl) rfl dp,?_⟩;exact tL
   ·obtain rfl:i=l.length:=by omega
    rw[LA]at hR;have hR:(s,0,0)=mT p [] Go.Plain.fD l:=hR;rw[<- hR,show Q6 (s,0,0)= .aJ [(false,[.ptr 1 0]),dyn (I (0:Nat)),dyn (I 0)]from rfl,show Kr p l (s,0,0)=form p l s from rfl,lu];have hT:=dl p l (s:=s) UJ;repeat' ((first|refine tX 0 ?_|exact Zt|refine bR ?_ ?_<;>intro h)<;>(try conv=>whnf))
    all_goals first|exact Zo|exact⟨_,E7 hT,_,rfl,rfl⟩
 ·rw[if_pos h1];have e1:Q6 (Go.Plain.fD,0,pz)= .aJ [(false,[.st (.lit (.pointer none))]),dyn (I (0:Nat)),dyn (I pz)]:=if_neg h1;have e2:Kr p l (Go.Plain.fD,0,pz)= []:=if_neg h1;rw[e1,e2];refine gR f51 ?_;exact tL
def TX {p:Pl}(hP:PB p): ∀ {r log:List En} {s:bK},SB p log s->(mT p log s r).2.2=0->SB p (log++r) (mT p log s r).1
 | [],log,s,hS,_=>by rw[zP];exact hS
 |e::r,log,s,hS,h=>by
  unfold mT at h ⊢;by_cases hz:(jm p log s e).2=0
  ·rw[if_pos hz]at h ⊢;have:=(Q3 (s':=(jm p log s e).1) hP hS e (by rw[<- hz])).1;have g:=TX hP this h;rwa [GY]at g
  ·rw[if_neg hz]at h;exact absurd h hz
def Cu {p:Pl}{l:List En}(hP:(p.err jK).2=0->PB p)(h:(ee p l).2.2=0):SB p l (ee p l).1/\(p.err jK).2=0:=by
 unfold ee at h ⊢;by_cases h1:(p.err jK).2=0
 ·rw[if_neg (CN h1)]at h ⊢;by_cases h2:60<l.length
  ·rw[if_pos h2]at h;exact absurd h K9
  ·rw[if_neg h2]at h ⊢;exact⟨TX (hP h1) (E5 p) h,h1⟩
 ·rw[if_pos h1]at h;exact absurd h h1
def E8 {p:Pl}{l:List En}{s:bK}(h:s.units.length<=1000):Mz (form p l s):=by
 have hT:=dl p l h;refine⟨hT.nd,λk hk=>⟨?_,hT.lt k hk⟩,hT.dM⟩;rw[qp]at hk;simp only[cQ]at hk;rcases hk with rfl|rfl|rfl|rfl|rfl|h'
 ·decide
 ·decide
 ·decide
 ·decide
 ·decide
 ·obtain⟨j,q1,q2,q3⟩:=gj h';omega
def adC {p:Pl}{l:List En}(hP:(p.err jK).2=0->PB p):Mz (Kr p l (ee p l)):=by
 unfold Kr;by_cases h:(ee p l).2.2=0
 ·rw[if_pos h];exact E8 ajZ
 ·rw[if_neg h];exact⟨by simp,(λk hk=>by cases hk),(λk b e=>by simp[Hp.get]at e)⟩
def Ob (H:HF)(fid:Nat){p:Pl}{l:List En}(hs:io p)(hP:(p.err jK).2=0->PB p)(hl:l.length<=1000)(ht: ∀e∈l,e.text.length<=100000):
  bN cx fid 51 [dyn (true,bU p),(false,[.st (.view (l.map df))])] H (KV (fresh (tag fid) 0) (Q6 (ee p l))) (cC [] (cN (fresh (tag fid) 0) (Kr p l (ee p l)))) []:=by
 refine Go.Fw.mq (Ks p l hs hP hl ht) (adC hP) (λx hx=>?_) ?_
 ·rcases cQ.1 hx with rfl|hx
  ·exact bA _
  ·have:x=(false,[.st (.view (l.map df))]):=by simpa using hx
   subst this;exact aje
 ·unfold Q6 Kr;by_cases h:(ee p l).2.2=0
  ·rw[if_pos h,if_pos h];intro x hx;simp only[cQ,mA,mB]at hx;rcases hx with rfl|rfl|rfl
   ·intro d hd;have:d= .ptr 1 0:=by simpa using hd
    subst this;exact(dl p l ajZ).xG
   ·exact bA _
   ·exact bA _
  ·rw[if_neg h,if_neg h];intro x hx;simp only[cQ,mA,mB]at hx;rcases hx with rfl|rfl|rfl
   ·exact K62
   ·exact bA _
   ·exact bA _
def Oc {p:Pl}: ∀ {r log:List En} {s:bK},(mT p log s r).2.2=0->(mT p log s r).2.1=0
 | [],_,_,_=>rfl
 |e::r,log,s,h=>by
  unfold mT at h ⊢;by_cases hz:(jm p log s e).2=0
  ·rw[if_pos hz]at h ⊢;exact Oc h
  ·rw[if_neg hz]at h;exact absurd h hz
def aaF {p:Pl}{l:List En}(h:(ee p l).2.2=0):(ee p l).2.1=0:=by
 unfold ee at h ⊢;split
 ·rfl
 ·rename_i h1;rw[if_neg h1]at h;split
  ·rfl
  ·rename_i h2;rw[if_neg h2]at h;exact Oc h
noncomputable def BD (p:Pl)(l:List En):bK:=(ee p l).1
def E9 {p:Pl}: ∀ {a log:List En} {s:bK} (b:List En),(mT p log s (a++b))=if(mT p log s a).2.2=0 then mT p (log++a) (mT p log s a).1 b else mT p log s a
 | [],log,s,b=>by rw[LG,zP];exact(if_pos rfl).symm
 |e::a,log,s,b=>by
  rw[qK];have e1: ∀r,mT p log s (e::r)=if(jm p log s e).2=0 then mT p (log++[e]) (jm p log s e).1 r else(s,log.length,(jm p log s e).2):=λ_=>rfl
  rw[e1,e1];by_cases hz:(jm p log s e).2=0
  ·rw[if_pos hz,if_pos hz,E9 b,GY];rfl
  ·rw[if_neg hz,if_neg hz,if_neg hz]
def w9 {p:Pl}{l:List En}(h:(ee p l).2.2=0):ee p l=(BD p l,0,0)/\(p.err jK).2=0/\l.length<=60/\mT p [] Go.Plain.fD l=ee p l:=by
 have hi:=aaF h;refine⟨Prod.ext rfl (Prod.ext hi h),?_⟩;unfold ee at h ⊢;by_cases h1:(p.err jK).2=0
 ·rw[if_neg (CN h1)]at h ⊢;by_cases h2:60<l.length
  ·rw[if_pos h2]at h;exact absurd h K9
  ·rw[if_neg h2];exact⟨h1,by omega,rfl⟩
 ·rw[if_pos h1]at h;exact absurd h h1
def Fa {p:Pl}{l:List En}(h:(ee p l).2.2=0)(i:Nat):(ee p (l.take i)).2.2=0:=by
 obtain⟨_,h1,h2,h3⟩:=w9 h;have hl:(l.take i).length <=60:=by rw[LC];omega
 unfold ee;rw[if_neg (CN h1),if_neg K0];rw[<- h3]at h;rw[<- Lu i l,E9]at h;by_cases hz:(mT p [] Go.Plain.fD (l.take i)).2.2=0
 ·exact hz
 ·rw[if_neg hz]at h;exact absurd h hz
def aaG {p:Pl}{l:List En}(h:(ee p l).2.2=0)(e:En):ee p (l++[e])=if(jm p l (BD p l) e).2=0 then((jm p l (BD p l) e).1,0,0)else if 60<=l.length then(Go.Plain.fD,0,8)else(BD p l,l.length,(jm p l (BD p l) e).2):=by
 obtain⟨h0,h1,h2,h3⟩:=w9 h;by_cases h6:60<=l.length
 ·have ha:jm p l (BD p l) e=(BD p l,8):=if_pos h6;rw[ha,if_neg (show ¬(8:Int)=0 by decide),if_pos h6];unfold ee;rw[if_neg (CN h1),if_pos ajt]
 ·rw[if_neg h6];unfold ee;rw[if_neg (CN h1),if_neg ajt,E9,h3,h0,if_pos rfl,LG];unfold mT;by_cases hz:(jm p l (BD p l) e).2=0
  ·rw[if_pos hz,if_pos hz];rfl
  ·rw[if_neg hz,if_neg hz]
def aaH {p:Pl}{l:List En}(h:(ee p l).2.2=0){i:Nat}(hi:i<l.length):(jm p (l.take i) (BD p (l.take i)) (l.getD i fZ)).2=0/\BD p (l.take (i+1))=(jm p (l.take i) (BD p (l.take i)) (l.getD i fZ)).1:=by
 have ht:l.take (i+1)=l.take i++[l.getD i fZ]:=by rw[BH,nM hi];simp[jE,hi]
 have h1:=Fa h (i+1);have h2:=aaG (Fa h i) (l.getD i fZ);rw[<- ht]at h2
 have hz:(jm p (l.take i) (BD p (l.take i)) (l.getD i fZ)).2=0:=by
  apply aex;intro hn;rw[if_neg hn]at h2;rw[h2]at h1;split at h1
  ·exact absurd h1 K9
  ·exact hn h1
 rw[if_pos hz]at h2;exact⟨hz,by rw[show BD p (l.take (i+1))=(ee p (l.take (i+1))).1 from rfl,h2]⟩
def mU (p:Pl)(n:aj)(hl:p.ae.length<=1000):ad 108 [(true,bU p),SS n] (.one (I (if n∈p.ay then(p.ae.getD (aZ p.ay n).toNat ([],0)).2 else -1))):=by
 have hn:(p.ae.map m9).length =p.ae.length:=by simp
 have zI:p.ay.length=p.ae.length:=by simp[Pl.ay]
 refine sF f108 ?_
 (try(refine tX 0 ?_;try exact Zt))
 refine af (ι:=Nat) (λi=>i<=p.ae.length/\n∉p.ay.take i) (λi=>p.ae.length -i) (λi=>⟨[(1,lS n),(2,pP 0),(5,vI i)],[(0,some (.box 27 ((bU p).map .st)))],1⟩) 0 Zc ⟨dC _,by simp⟩ ?_;rintro i ⟨hi,dx⟩;by_cases ak:i<p.ae.length
 ·have he:=bg (f:=m9) ak ([],0);have hg:p.ay.getD i []=(p.ae.getD i ([],0)).1:=by rw[getD_at ak,getD_at K0];simp[Pl.ay]
  have nK:=λe=>mM (l:=p.ay) (x:=n) (i:=i) K0 e dx;have FF:=iL (l:=p.ay) (i:=i) (x:=n) K0;rw[hg]at nK FF;generalize hpe:p.ae.getD i ([],0)=pe at*;obtain⟨pn,pr⟩:=pe;dsimp only at nK FF;by_cases hx:pn=n
  ·have hm:n∈p.ay:=FU (FF.2 (.inr hx.symm));rw[if_pos hm,nK hx,sB,hpe];exact K87
  ·exact K50
 ·obtain rfl:i=p.ae.length:=by omega
  rw[o0 K0]at dx;rw[if_neg dx];exact tA
abbrev Q7 (q:aj × Vb):List SC:=[T q.1,J q.2.role,J q.2.words,K q.2.rest]
def k9:ad 45 [] (.own 4 (.view (kv.map Q7))):=by
 refine sF f45 ?_;exact K1
def agU {s:aj}{n:Int}(h:wN false 7 s=some n):fQ 7 s=some n/\0<=n/\(s.getD 0 0).toNat ≠45/\0<s.length:=by
 obtain⟨h1,h2⟩:=iA h;have h3:0<=n:=h2.resolve_left K9;exact⟨h1,h3,λe=>((qi h1).1 e) h3,yC h1⟩
def agV {s:aj}(h:wN false 7 s=none):fQ 7 s=none\/∃n,fQ 7 s=some n/\n<0:=by
 cases e:fQ 7 s with
 |none=>exact .inl rfl
 |some n=>
  refine .inr ⟨n,rfl,?_⟩;rw[P6 e]at h;by_cases h1:(s.getD 0 0).toNat =45
  ·have:=(qi e).1 h1;omega
  ·rw[if_neg h1]at h;cases h
def afd (o:Option (List Int)):List SV:=match o with
 |some n=>[(false,[.ints n]),Bo true]
 |none=>[(false,[.ints []]),Bo false]
def ld (l:List aj)(f:Nat)(hf:f<=l.length)(hl:l.length<=1000)(hx: ∀x∈l,x.length<=100000):ad 196 [V1 l,I f] (.aJ (afd (jk (l.drop f)))):=by
 have hn:(ab l).length =l.length:=by simp
 have hu:(l.drop f).length =l.length -f:=by simp
 have eu:=ED (l.drop f);rw[EJ];refine sF f196 ?_
 (try(refine tX 0 ?_;try exact Zt))
 refine af (ι:=Nat) (λi=>i<=(dL (l.drop f)).length) (λi=>l.length -i) (λi=>⟨[(0,some (.val (false,[.st (.view (ab l))]))),(6,pO 0),(7,vI ((f+i:Nat):Int))],[(0,some (.row true 1 (.ints ((dL (l.drop f)).take i))))],1⟩) 0 (bs.trans (jz 6 1 (.ints []) K9 rfl rfl rfl) Zc) (dC _) ?_;intro i hi;by_cases ak:f+i<l.length
 ·have he:=sA ak;have hd:(l.drop f).getD i []=l.getD (f+i) []:=by simp[jE]
  have hxl:(l.getD (f+i) []).length <=100000:=hx _ (yZ ak);have c1:=iB (l.getD (f+i) []) 7 K9 K0;by_cases hp:i< (dL (l.drop f)).length
  ·have vK:=EG hp;rw[hd]at vK;obtain⟨g1,g2,g3,g4⟩:=agU vK;have zx:(dL (l.drop f)).take (i+1)=(dL (l.drop f)).take i++[(dL (l.drop f)).getD i 0]:=by rw[BH,nM hp,jE,nM hp];rfl
   have htl:((dL (l.drop f)).take i).length =i:=by simp;omega
   rw[g1]at c1;generalize (dL (l.drop f)).getD i 0=v at*;generalize (dL (l.drop f)).take i=w at*;generalize l.getD (f+i) []=y at*;have c2:ad 148 [SS y,I (7:Nat)] (.aJ [I v,Bo true]):=c1;exact ahW
  ·have hi2:(dL (l.drop f)).length =i:=by omega
   have eG:=wZ (u:=l.drop f) K0;rw[hi2,hd]at eG;rw[if_neg K0];generalize l.getD (f+i) []=y at*;rcases agV eG with g|⟨n,g,g2⟩
   ·rw[g]at c1;have c2:ad 148 [SS y,I (7:Nat)] (.aJ [I 0,Bo false]):=c1;exact tA
   ·rw[g]at c1;have c2:ad 148 [SS y,I (7:Nat)] (.aJ [I n,Bo true]):=c1;exact tA
 ·have IH:(dL (l.drop f)).length =l.length -f:=by omega
  have:i=l.length -f:=by omega
  rw[o0 K0,if_pos K0];exact tA
def OI {a b:Int × Int}:(oW a b).2=0↔a.2=0/\b.2=0:=by
 unfold oW;by_cases h:a.2=0
 ·rw[if_neg (CN h)];exact⟨λe=>⟨h,e⟩,λe=>e.2⟩
 ·rw[if_pos h];exact⟨λe=>absurd e h,λe=>absurd e.1 h⟩
def T7 {c:Prop} [Decidable c]{k:Int}(h:(if c then(0:Int)else k)=0)(hk:k≠0):c:=by
 by_cases e:c
 ·exact e
 ·rw[if_neg e]at h;exact absurd h hk
def ag2 {α:Type}{l:List α}{i:Nat}{d:α}(h:i<l.length):l.getD i d∈l:=by rw[jE,nM h];exact oh _
def rY {α:Type}{l:List α}{x d:α}(h:x∈l): ∃i,i<l.length/\l.getD i d=x:=by
 obtain⟨i,hi,e⟩:=zN.1 h;exact⟨i,hi,by rw[jE,nM hi];exact e⟩
section
variable {p:Pl}
def OJ (h:(p.err jK).2=0):(∀i<p.ae.length,p.dn i=0)/\(∀i<p.aa.length,p.gK jK i=0)/\0<=p.eH/\p.eH<=1000000000000:=by
 unfold Pl.err at h;obtain⟨_,h⟩:=OI.1 h;obtain⟨h2,h⟩:=OI.1 h;obtain⟨_,h⟩:=OI.1 h;obtain⟨_,h⟩:=OI.1 h;obtain⟨_,h⟩:=OI.1 h;obtain⟨h6,h⟩:=OI.1 h;obtain⟨_,h⟩:=OI.1 h;obtain⟨_,h9⟩:=OI.1 h;exact⟨oG h2,oG h6,(T7 h9 K9).2⟩
def adQ (h:(p.err jK).2=0): ∀q∈p.ae,0<=q.2:=λq hq=>by
 obtain⟨i,hi,e⟩:=rY (d:=([],0)) hq;have:=(OJ h).1 i hi;unfold Pl.dn at this;have:=T7 (vY.1 this).2 K9;rw[<- e];exact this.1
def T8 {l:List aj}(h: ∀i<l.length,gW l i=0){i j:Nat}(Lb:i<j)(hj:j<l.length):l.getD i []≠l.getD j []:=λe=>by
 have h1:=(vY.1 (h j hj)).2;have hi:i<l.length:=by omega
 have hm:l.getD j []∈l.take j:=by
  rw[<- e];refine zN.2 ⟨i,by rw[LC];omega,?_⟩;rw[List.getElem_take];simp[jE,hi]
 rw[if_pos hm]at h1;exact absurd h1 K9
theorem OK (hs:io p)(h:(p.err jK).2=0):PB p:=by
 obtain⟨_,ht,hl⟩:=OJ h;have hT: ∀i<p.aa.length,gW (cO p.aa) i=0/\Vp jK p.aa i=0:=λi hi=>vY.1 (ht i hi);have bB:(cO p.aa).length =p.aa.length:=by simp[cO]
 refine⟨hs.pe,hs.ga,hs.te,hs.pa,λq hq=>?_,λt Ph=>?_,hl,λt Ph=>?_,λt Ph=>?_,λt Ph t' ht2 e=>?_,λt Ph hk=>?_⟩
 ·obtain⟨i,hi,e⟩:=rY (d:=([],[])) hq;rw[<- e];exact hs.qv i hi
 ·obtain⟨i,hi,e⟩:=rY (d:=dt) Ph;rw[<- e];exact hs.td i hi
 ·obtain⟨i,hi,e⟩:=rY (d:=dt) Ph;rw[<- e];exact hs.tr i hi
 ·obtain⟨i,hi,e⟩:=rY (d:=dt) Ph;have:=T7 (vY.1 (hT i hi).2).1 K9;rw[<- e];exact this
 ·obtain⟨i,hi,e1⟩:=rY (d:=dt) Ph;obtain⟨j,hj,e2⟩:=rY (d:=dt) ht2;have g1:=rx hi;have g2:=rx hj;rw[e1]at g1;rw[e2]at g2;rcases SE i j with Lb|rfl|Lb
  ·exact absurd (by rw[g1,g2,e]) (T8 (λk hk=>(hT k K0).1) Lb K0)
  ·rw[<- e1,<- e2]
  ·exact absurd (by rw[g1,g2,e]) (T8 (λk hk=>(hT k K0).1) Lb K0)
 ·obtain⟨i,hi,e1⟩:=rY (d:=dt) Ph;have vP:=(hT i hi).2;unfold Vp at vP;dsimp only at vP;rw[e1]at vP;obtain⟨_,h2⟩:=vY.1 vP;obtain⟨ha,h3⟩:=vY.1 h2;obtain⟨hc,_⟩:=vY.1 h3;unfold Qb at hc;rw[if_pos hk]at hc
  cases hn:t.bu with
  |nil=>rw[hn,if_pos (by rfl)]at hc;exact absurd hc K9
  |cons n0 nd=>
   rw[hn]at hc ha;rw[if_neg (by simp)]at hc;have hc:=T7 hc K9
   have hm:n0∈(cO p.aa).take i:=by
    have:=oG (f:=D3 (n0::nd) ((cO p.aa).take i)) ha 0 (by simp);unfold D3 at this;by_cases g:(n0::nd).getD 0 []∈(cO p.aa).take i
    ·exact g
    ·rw[if_neg g]at this;exact absurd this K9
   obtain⟨k,qF,ek⟩:=k6 (FU hm);have ek':aZ (cO p.aa) ((n0::nd).getD 0 [])=(k:Int):=ek;rw[ek',sB]at hc;refine⟨n0,nd,rfl,p.aa.getD k dt,ag2 (by rw[<- bB];exact qF),?_,hc⟩;rw[<- rx (by rw[<- bB];exact qF)]
   have hko:k=(cO p.aa).idxOf n0:=by
    unfold aZ at ek;rw[if_pos (FU hm)]at ek;omega
   subst hko;rw[getD_at qF];exact Sw qF
end
end Go.Proofs.Tryz
