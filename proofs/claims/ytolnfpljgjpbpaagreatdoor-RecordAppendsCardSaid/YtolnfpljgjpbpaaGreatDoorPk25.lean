import Derived.Test.YtolnfpljgjpbpaaGreatDoorPk18
import Derived.Test.YtolnfpljgjpbpaaGreatDoorPk24
set_option linter.all false
set_option maxRecDepth 100000
set_option maxHeartbeats 8000000
namespace Go.Proofs.Tryz
open Go.Fw Go.IntWalk Go.Plain
def ia {H:HF}{R:List Nat}(x:SV):yL H R (dyn x) x:=⟨rfl,by simp[dyn],λk d c h1 h2=>by
 simp only[dyn,gA]at h1;rw[h2]at h1;cases h1
 exact .st _⟩
section
variable {H:HF}{fid:Nat}{u:Un}{l:List (List DC)}{i a b c:Nat}
def Ro {t:aj}{V:Bool}(hV:bK u.res t=V)(hl:u.res.length<=1000000)(h9:H 9=some (.az 17 l))(hi:l[i]? =some (cV u a b c))(ha:H a=some (.row true 1 (.view (ab u.lots))))(hb:H b=some (.row true 4 (.view (u.res.map kg))))(hc:H c=some (.row true 5 (.view (u.gas.map tp)))):
  bI cx fid 63 [(false,[.cK 9 17 i 0]),(false,[.st (T t)])] H (.val (dyn (Bo V))) [] [9,a,b,c]:=by
 subst hV;exact iK (bp (kj (Kq (by simp) h9 hi ha hb hc)) (bp (kj (.st _)) gZ)) (uK u t hl) rfl ⟨rfl,rfl,rfl⟩
def Rp {t:Ts}{V:Bool}(hV:iV u.res t=V)(ht:t.bv.length<=1000)(hl:u.res.length<=1000000)(h9:H 9=some (.az 17 l))(hi:l[i]? =some (cV u a b c))(ha:H a=some (.row true 1 (.view (ab u.lots))))(hb:H b=some (.row true 4 (.view (u.res.map kg))))(hc:H c=some (.row true 5 (.view (u.gas.map tp)))):
  bI cx fid 142 [(false,[.cK 9 17 i 0]),dyn (true,fB t)] H (.val (dyn (Bo V))) [] [9,a,b,c]:=by
 subst hV;exact iK (bp (kj (Kq (by simp) h9 hi ha hb hc)) (bp (ia _) gZ)) (Oh u t ht hl) rfl ⟨rfl,rfl,rfl⟩
def WF {t:Ts}{r:aj}{y:Int × Int}{ty:TypeId}{p:Pl}{log:List En}{lg:Nat}{v e h x9 x11 x12:DC}(hs:ac 143 [WR p log,UR u,(true,fB t),SS r] (.aI [I y.1,I y.2]))(h1:H 1=some (.box ty [.st (.view (p.ae.map nh)),.st (.view (ab p.ap)),.st (.view (p.aa.map fB)),.st (.view (p.parts.map mj)),.st (J p.dY),.st (J p.eH),.own lg,v,e,x9,h,x11,x12]))
  (h2:H lg=some (.row true 3 (.view (log.map cd))))(h9:H 9=some (.az 17 l))(hi:l[i]? =some (cV u a b c))(ha:H a=some (.row true 1 (.view (ab u.lots))))(hb:H b=some (.row true 4 (.view (u.res.map kg))))(hc:H c=some (.row true 5 (.view (u.gas.map tp)))):
  bI cx fid 143 [(false,[.ptr 1 0]),(false,[.cK 9 17 i 0]),dyn (true,fB t),(false,[.st (T r)])] H (.aI [dyn (I y.1),dyn (I y.2)]) [] [1,lg,9,a,b,c]:=
 iK (bp (kj (Z8 (by simp) h1 h2)) (bp (kj (Kq (by simp) h9 hi ha hb hc)) (bp (ia _) (bp (kj (.st _)) gZ)))) hs ai5 ⟨rfl,rfl,rfl⟩
end
def aaC {b:Bool}(h:b=true)(e:Int):ac 44 [Bo b,I e] (.one (I 0)):=by subst h;exact aeX e
def agH {b:Bool}(h:b=false)(e:Int):ac 44 [Bo b,I e] (.one (I e)):=by subst h;exact aeW e
def aaD {p:Pl}{y:aj}(h:y∈cU p.aa):kE p y=p.aa.getD (be (cU p.aa) y).toNat dl/\0<=be (cU p.aa) y/\kE p y∈p.aa:=by
 obtain⟨k,hk,e⟩:=k9 h;have sC:k<p.aa.length:=by grind[cU]
 have hd:kE p y=p.aa.getD (be (cU p.aa) y).toNat dl:=by unfold kE;grind
 grind
def aaE (E:to)(p:Pl)(log:List En)(s:bV)(hl:s.units.length<=1000)(x y:aj)(n:List Int)(r:aj)(hp:p.aa.length<=1000)(Cu: ∀t∈p.aa,t.bv.length<=1000)(hu: ∀u∈s.units,u.res.length<=1000)(ag4:log.length<=1000)
  (pb: ∀u∈s.units,∀t∈p.aa,iV u.res t=true->ac 143 [WR p log,UR u,(true,fB t),SS r] (.aI [I (E.ev log u t r).1,I (E.ev log u t r).2])):
  bA cx 113 1 ((false,[.ptr 1 0])::[xp [x,y] n r].map dyn) (form p log s) [1] (.val (dyn (I (bm E p log s 12 [x,y] n r).2))) (form p log (bm E p log s 12 [x,y] n r).1):=by
 rw[show bm E p log s 12 [x,y] n r=T6 E p log s 12 x [x,y] n r from rfl];obtain⟨volt,earth,opens,hall,lots,units⟩:=s;have ct:=Q8 p y hp;by_cases hx:0<=iB ⟨volt,earth,opens,hall,lots,units⟩ x
 ·obtain⟨i,u,h1,h2,h3,h4,h5⟩:=j7 hx;have c0:=λfid H=>ld (fid:=fid) (H:=H) h3 hl h1;have LI:=jH h3;have hr:u.res.length<=1000000:=by grind
  have pb:=λt ht=>pb u LI t ht;by_cases hy:y∈cU p.aa
  ·obtain⟨t1,t2,t3⟩:=aaD hy;rw[fh hy]at ct;have pb:=pb _ t3;have Cu:=Cu _ t3
   have hq:aQ E p log ⟨volt,earth,opens,hall,lots,units⟩ u 12 [x,y] n r=if hall=u.name/\u.failed=false then(if bK u.res (kE p y).name then(u,23)else if iV u.res (kE p y)=false then(u,14)else if decide ((kE p y).kind =0)=volt then(u,24)else
     if(E.ev log u (kE p y) r).2=0 then({u with res:=u.res++[⟨(kE p y).name,(E.ev log u (kE p y) r).1,log.length,false⟩],failed:=decide ((E.ev log u (kE p y) r).1=0)},0)else(u,(E.ev log u (kE p y) r).2))else(u,20):=by
    rw[t1];exact if_pos t2
   clear t1 t2 t3;generalize kE p y=t at*;obtain⟨V,hV⟩: ∃V,bK u.res t.name=V:=⟨_,rfl⟩;obtain⟨D,hD⟩: ∃D,iV u.res t=D:=⟨_,rfl⟩;have bD:(log.map cd).length =log.length:=by simp
   rw[hV,hD]at hq;rw[hD]at pb;have Xn:=λhs=> @WF (u:=u) (t:=t) (r:=r) (y:=E.ev log u t r) (p:=p) (log:=log) (hs:=hs);generalize E.ev log u t r=z at*;obtain⟨z1,z2⟩:=z;dsimp only at Xn pb;have cv:=λH fid l i a b c=> @Ro H fid u l i a b c t.name V hV hr;have cr:=λH fid l i a b c=> @Rp H fid u l i a b c t D hD Cu hr;clear hV hD;obtain⟨nm,kd,nd,ru,lo,hi⟩:=t;obtain⟨name,win,ul,res,failed,rel,shaken,used,gas⟩:=u;dsimp only at hq;have Cx:res.length<=1000000:=hr;have hrl:(res.map kg).length =res.length:=by simp
   by_cases hh:hall=name
   ·subst hh;cases failed
    ·rw[if_pos ⟨rfl,rfl⟩]at hq;cases V
     ·rw[if_neg xZ]at hq;cases D
      ·rw[aY hx h2 h4 (hq.trans (if_pos rfl))];exact U4
      ·rw[if_neg bX]at hq;have Xn:=λH fid l i a b c=> @Xn (pb rfl) H fid l i a b c;by_cases hk:kd=0<;>cases volt
       ·subst hk;rw[if_neg (by simp)]at hq;by_cases hz:z2=0
        ·subst hz;rw[aY hx h2 h4 (hq.trans (if_pos rfl))];refine gI f113 h3 hl rfl ?_;repeat' ((first|(refine kO 7 rfl ?_;first|refine gu (λ_ z=>⟨_,_,_,(c0 _ _ ⟨_,_,rfl,rfl⟩ rfl),z⟩) ?_|refine Rq (bZ _ _) ?_|refine rG (λ_ z=>⟨_,wF (E:=0) rfl,z⟩) ?_|refine gu (λ_ z=>⟨_,_,_,(cv _ _ _ _ _ _ _ rfl (jR HL) rfl rfl rfl),z⟩) ?_|refine gu (λ_ z=>⟨_,_,_,(cr _ _ _ _ _ _ _ rfl (jR HL) rfl rfl rfl),z⟩) ?_|refine gu (λ_ z=>⟨_,_,_,(Xn _ _ _ _ _ _ _ _ _ _ _ _ _ _ _ rfl rfl rfl (jR HL) rfl rfl rfl),z⟩) ?_)|refine tX 0 ?_|exact Zt|refine bR ?_ ?_<;>intro h)<;>(try conv=>whnf))
         all_goals first|exact Ze|(simp only[jf];exact Ei)|exact Ei
        ·rw[aY hx h2 h4 (hq.trans (if_neg hz)),if_neg hz];refine gI f113 h3 hl rfl ?_;repeat' ((first|(refine kO 7 rfl ?_;first|refine gu (λ_ z=>⟨_,_,_,(c0 _ _ ⟨_,_,rfl,rfl⟩ rfl),z⟩) ?_|refine Rq (bZ _ _) ?_|refine rG (λ_ z=>⟨_,wF (E:=0) rfl,z⟩) ?_|refine gu (λ_ z=>⟨_,_,_,(cv _ _ _ _ _ _ _ rfl (jR HL) rfl rfl rfl),z⟩) ?_|refine gu (λ_ z=>⟨_,_,_,(cr _ _ _ _ _ _ _ rfl (jR HL) rfl rfl rfl),z⟩) ?_|refine gu (λ_ z=>⟨_,_,_,(Xn _ _ _ _ _ _ _ _ _ _ _ _ _ _ _ rfl rfl rfl (jR HL) rfl rfl rfl),z⟩) ?_)|refine tX 0 ?_|exact Zt|refine bR ?_ ?_<;>intro h)<;>(try conv=>whnf))
         all_goals first|exact Ze|exact Ei
       ·subst hk;rw[if_pos (by simp)]at hq;rw[aY hx h2 h4 hq];exact U4
       ·have Xu:(!((kd==0)==false))=false:=by grind
        rw[if_pos bw]at hq;rw[aY hx h2 h4 hq];refine gI f113 h3 hl rfl ?_;repeat' ((first|(refine kO 7 rfl ?_;first|refine gu (λ_ z=>⟨_,_,_,(c0 _ _ ⟨_,_,rfl,rfl⟩ rfl),z⟩) ?_|refine rG (λ_ z=>⟨_,agH Xu _,z⟩) ?_|refine Rq (bZ _ _) ?_|refine rG (λ_ z=>⟨_,wF (E:=24) rfl,z⟩) ?_|refine gu (λ_ z=>⟨_,_,_,(cv _ _ _ _ _ _ _ rfl (jR HL) rfl rfl rfl),z⟩) ?_|refine gu (λ_ z=>⟨_,_,_,(cr _ _ _ _ _ _ _ rfl (jR HL) rfl rfl rfl),z⟩) ?_)|refine tX 0 ?_|exact Zt|refine bR ?_ ?_<;>intro h)<;>(try conv=>whnf))
        all_goals first|exact Ze|exact Ei
       ·have Xu:(!((kd==0)==true))=true:=by grind
        rw[if_neg bw]at hq;by_cases hz:z2=0
        ·subst hz;rw[aY hx h2 h4 (hq.trans (if_pos rfl))];refine gI f113 h3 hl rfl ?_;repeat' ((first|(refine kO 7 rfl ?_;first|refine gu (λ_ z=>⟨_,_,_,(c0 _ _ ⟨_,_,rfl,rfl⟩ rfl),z⟩) ?_|refine rG (λ_ z=>⟨_,aaC Xu _,z⟩) ?_|refine Rq (bZ _ _) ?_|refine rG (λ_ z=>⟨_,wF (E:=0) rfl,z⟩) ?_|refine gu (λ_ z=>⟨_,_,_,(cv _ _ _ _ _ _ _ rfl (jR HL) rfl rfl rfl),z⟩) ?_|refine gu (λ_ z=>⟨_,_,_,(cr _ _ _ _ _ _ _ rfl (jR HL) rfl rfl rfl),z⟩) ?_|refine gu (λ_ z=>⟨_,_,_,(Xn _ _ _ _ _ _ _ _ _ _ _ _ _ _ _ rfl rfl rfl (jR HL) rfl rfl rfl),z⟩) ?_)|refine tX 0 ?_|exact Zt|refine bR ?_ ?_<;>intro h)<;>(try conv=>whnf))
         all_goals first|exact Ze|(simp only[jf];exact Ei)|exact Ei
        ·rw[aY hx h2 h4 (hq.trans (if_neg hz)),if_neg hz];refine gI f113 h3 hl rfl ?_;repeat' ((first|(refine kO 7 rfl ?_;first|refine gu (λ_ z=>⟨_,_,_,(c0 _ _ ⟨_,_,rfl,rfl⟩ rfl),z⟩) ?_|refine rG (λ_ z=>⟨_,aaC Xu _,z⟩) ?_|refine Rq (bZ _ _) ?_|refine rG (λ_ z=>⟨_,wF (E:=0) rfl,z⟩) ?_|refine gu (λ_ z=>⟨_,_,_,(cv _ _ _ _ _ _ _ rfl (jR HL) rfl rfl rfl),z⟩) ?_|refine gu (λ_ z=>⟨_,_,_,(cr _ _ _ _ _ _ _ rfl (jR HL) rfl rfl rfl),z⟩) ?_|refine gu (λ_ z=>⟨_,_,_,(Xn _ _ _ _ _ _ _ _ _ _ _ _ _ _ _ rfl rfl rfl (jR HL) rfl rfl rfl),z⟩) ?_)|refine tX 0 ?_|exact Zt|refine bR ?_ ?_<;>intro h)<;>(try conv=>whnf))
         all_goals first|exact Ze|exact Ei
     ·rw[if_pos rfl]at hq;rw[aY hx h2 h4 hq];exact U4
    ·rw[aY hx h2 h4 (hq.trans (if_neg (by simp)))];exact U4
   ·rw[aY hx h2 h4 (hq.trans (if_neg bw))];exact U4
  ·rw[eJ hy]at ct;have dm: ¬0<=be (cU p.aa) y:=by grind[dW]
   generalize kE p y=t at*;obtain⟨nm,kd,nd,ru,lo,hi⟩:=t;rw[aY hx h2 h4 (show aQ E p log ⟨volt,earth,opens,hall,lots,units⟩ u 12 [x,y] n r=(u,6)from if_neg dm)];obtain⟨name,win,ul,res,failed,rel,shaken,used,gas⟩:=u;exact U4
 ·rw[oV hx];generalize kE p y=t at*;obtain⟨nm,kd,nd,ru,lo,hi⟩:=t;generalize decide (y∈cU p.aa)=is at*;refine gF f113 hl ?_;exact K12
def aaO (p:Pl)(log:List En)(s:bV)(hl:s.units.length<=1000)(y:SV):bA cx 101 1 ((false,[.ptr 1 0])::[y].map dyn) (form p log s) [1] (.val (dyn (I 0))) (form p log s):=by
 obtain⟨volt,earth,opens,hall,lots,units⟩:=s;refine gF f101 hl ?_;exact K99
structure PB (p:Pl):Prop where
 ae:p.ae.length<=1000
 ap:p.ap.length<=1000
 aa:p.aa.length<=1000
 parts:p.parts.length<=1000
 voids: ∀q∈p.parts,q.2.length<=1000
 bv: ∀t∈p.aa,t.bv.length<=1000
 eH:0<=p.eH/\p.eH<=1000000000000
 rules: ∀t∈p.aa,t.rules.length<=10000
 kind: ∀t∈p.aa,0<=t.kind/\t.kind<=3
 amn: ∀t∈p.aa,∀t'∈p.aa,t.name=t'.name->t=t'
 comp: ∀t∈p.aa,t.kind=2->∃n0 nd,t.bv=n0::nd/\∃t0∈p.aa,t0.name=n0/\t0.kind=1
def alk (tx:aj):Prop:=(dT (cI (aH 32 (ci 3 tx)))).2=0
def aaP (p:Pl)(log:List En)(r:Rs):Prop:=∃k:Nat,r.entry=(k:Nat)/\k<log.length/\(log.getD k iX).text.length <=400/\lB ((aH 32 (log.getD k iX).text).getD 0 [])=12/\(∃a n q,fT (vb 12) (log.getD k iX).text =some (a,n,q))/\
 ∀t∈p.aa,t.name=r.test->t.kind=1->alk (log.getD k iX).text
structure UB (p:Pl) (log:List En) (u:Un):Prop where
 lots:u.lots.length<=log.length
 len:u.res.length<=log.length
 gas:u.gas.length<=10
 used:0<=u.used/\u.used<=1000000000000
 res: ∀r∈u.res,aaP p log r
structure SB (p:Pl) (log:List En) (s:bV):Prop where
 units:s.units.length<=6
 lots:s.lots.length<=12
 opens:s.opens.length<=log.length
 unit: ∀u∈s.units,UB p log u
noncomputable def EE:to:=⟨N8,KM⟩
def fE:List FuncId:=[101,102,103,104,105,106,107,108,109,110,111,112,113,114,115,116,117,118,119]
def qN: ∀ {u:List aj} {n:List Int},jT u=some n->n.length=u.length
 | [],n,h=>by cases h;rfl
 |s::r,n,h=>by
  unfold jT at h
  cases e:wN false 7 s with
  |none=>simp_all
  |some v=>
   cases e2:jT r with
   |none=>simp_all
   |some t=>
    rw[e,e2]at h;cases h;simp[qN e2]
def uS {v:Vb}{tx:aj}{a:List aj}{n:List Int}{q:aj}(h:fT v tx=some (a,n,q))(hk:v.sR<=v.words):a.length=v.words/\n.length=v.sR/\(∀x∈a,x.length<=tx.length)/\q.length<=tx.length/\q=(if v.rest then ci (v.words+1) tx else [])/\v.words+1<=(aH 32 tx).length /\(v.rest=true->v.words+2<=(aH 32 tx).length)/\a=((aH 32 tx).take (v.words+1)).drop 1:=by
 unfold fT at h;dsimp only at h;split at h
 ·cases h
 rename_i hc;have h1:v.words+1<=(aH 32 tx).length :=by grind
 have h2:v.rest=true->v.words+2<=(aH 32 tx).length :=λhr=>by grind
 rw[m7]at h;obtain⟨m,hm,e⟩:=h;simp only[ii]at e;obtain⟨rfl,rfl,rfl⟩:=e;have h3:=qN hm;have h4:=(cj 32 tx).2;refine⟨by grind,by grind,λx hx=>h4 x (Ca (P2 hx)),?_,rfl,h1,h2,rfl⟩;split
 grind[oh]
 grind
def th {α:Type}{l:List α}(h:l.length=1): ∃a,l= [a]:=xY.1 h
def Fv {α:Type}{l:List α}(h:l.length=2): ∃a b,l= [a,b]:=by
 match l,h with
 | [a,b],_=>grind
def agK {α:Type}{l:List α}(h:l.length=3): ∃a b c,l= [a,b,c]:=by
 match l,h with
 | [a,b,c],_=>grind
def amV {α:Type}{l:List α}(h:l.length=5): ∃a b c d e,l= [a,b,c,d,e]:=by
 match l,h with
 | [a,b,c,d,e],_=>grind
def agL {α:Type}{l:List α}(h:l.length=6): ∃a b c d e f,l= [a,b,c,d,e,f]:=by
 match l,h with
 | [a,b,c,d,e,f],_=>grind
def IV {l:List Rs}{t:aj}{r:Rs}(h:iO l t=some r):r∈l/\r.test=t/\r.void=false:=by
 unfold iO at h;have h1:=List.mem_of_find?_eq_some h;have h2:=List.find?_some h;unfold sY at h2
 grind
def Fx {l:List Rs}{t:Ts}{n0:aj}{nd:List aj}(h:iV l t=true)(hn:t.bv=n0::nd): ∃r,iO l n0=some r:=by
 unfold iV at h;rw[hn,List.all_cons,sU]at h
 grind[bK]
def agM {p:Pl}{log:List En}{u:Un}{t:Ts}(hP:PB p)(hU:UB p log u)(ht:t∈p.aa)(hr:iV u.res t=true)(hk:t.kind=2):aaB log u t:=by
 obtain⟨n0,nd,hn,_⟩:=hP.comp t ht hk;obtain⟨r,hl⟩:=Fx hr hn;obtain⟨k,h1,h2,h3,h4,⟨a,n,q,h5⟩,h6⟩:=hU.res r (IV hl).1;obtain⟨rt,ra,re,rv⟩:=r;simp only at h1;subst h1;have h7:=(uS h5 bX).2.2.2.2.2.2.1 rfl;exact⟨n0,nd,rt,ra,k,rv,hn,hl,h2,h7,by omega⟩
def adD (p:Pl)(log:List En)(s:bV)(hP:PB p)(hS:SB p log s)(C0:log.length<60){k:Nat}(hk:k<19){tx:aj}(Sf:tx.length<=400){a:List aj}{n:List Int}{q:aj}(h:fT (vb k) tx=some (a,n,q)):
  bA cx (fE.getD k 0) 1 ((false,[.ptr 1 0])::[xp a n q].map dyn) (form p log s) [1] (.val (dyn (I (bm EE p log s k a n q).2))) (form p log (bm EE p log s k a n q).1):=by
 have hl:s.units.length<=1000:=by exact Yr
 have Xv:s.lots.length<=1000:=by have:=hS.lots;omega
 have hop:s.opens.length<=1000:=by have:=hS.opens;omega
 have hur: ∀u∈s.units,u.res.length<=1000:=λu hu=>by have:=(hS.unit u hu).len;omega
 have hul: ∀u∈s.units,u.lots.length<=1000:=λu hu=>by have:=(hS.unit u hu).lots;omega
 have hug: ∀u∈s.units,u.gas.length<=1000:=λu hu=>by have:=(hS.unit u hu).gas;omega
 have huu: ∀u∈s.units,0<=u.used/\u.used<=1000000000000000:=λu hu=>by have:=(hS.unit u hu).used;omega
 have Cu: ∀i<p.aa.length,(p.aa.getD i dl).bv.length <=1000:=λi hi=>hP.bv _ bw;obtain rfl|rfl|rfl|rfl|rfl|rfl|rfl|rfl|rfl|rfl|rfl|rfl|rfl|rfl|rfl|rfl|rfl|rfl|rfl:k=0\/k=1\/k=2\/k=3\/k=4\/k=5\/k=6\/k=7\/k=8\/k=9\/k=10\/k=11\/k=12\/k=13\/k=14\/k=15\/k=16\/k=17\/k=18:=by omega
 all_goals obtain⟨ha,hn,hx,hq,-,-,-,-⟩:=uS h bX
 ·exact aaO p log s hl _
 ·obtain⟨x,rfl⟩:=th ha;have:=hx x (by simp);exact RA EE p log s hl x n q K0 Xv
 ·obtain⟨x,rfl⟩:=th ha;have:=hx x (by simp);exact OH EE p log s rfl Yr x n q K0 K0
 ·obtain⟨x,y,rfl⟩:=Fv ha;exact adi EE p log s hl x y n q Xv hul
 ·obtain⟨x,rfl⟩:=th ha;exact aaM EE p log s hl x n q hP.ap hop
 ·obtain⟨x,rfl⟩:=th ha;exact aaN EE p log s hl x n q hP.ap hop
 ·exact V9 EE p log s hl a n q
 ·exact Z6 EE p log s hl a n q
 ·exact NT EE p log s hl a n q
 ·have:=ade p log s hl a n q;cases hv:s.volt
  ·rw[hv]at this;rw[show bm EE p log s 9 a n q=(s,20)by grind[bm]];exact this
  ·rw[hv]at this;rw[show bm EE p log s 9 a n q=({s with volt:=false},0)by grind[bm]];exact this
 ·obtain⟨x,rfl⟩:=th ha;exact Wb EE p log s hl x n q
 ·obtain⟨x,rfl⟩:=th ha;exact Wc EE p log s hl x n q
 ·obtain⟨x,y,rfl⟩:=Fv ha;exact aaE EE p log s hl x y n q hP.aa hP.bv hur K0 λu hu t ht hr=>KN p log u t q bw K0 (hP.rules t ht) (hP.kind t ht) λhk=>agM hP (hS.unit u hu) ht hr hk
 ·obtain⟨x,y,rfl⟩:=Fv ha;exact Rt EE p log s hl x y n q hP.aa hP.parts hP.voids Cu hur
 ·obtain⟨x,rfl⟩:=th ha;exact NY EE p log s hl x n q hP.aa hur
 ·obtain⟨x,y,rfl⟩:=Fv ha;obtain⟨m,rfl⟩:=th hn;exact WK EE p log s hl x y m q
 ·obtain⟨x,rfl⟩:=th ha;exact NU EE p log s hl x n q
 ·obtain⟨x,y,z,rfl⟩:=agK ha;obtain⟨d,t,rfl⟩:=Fv hn;exact aaL EE p log s hl x y z d t q (by have:=hP.eH;omega) huu
 ·obtain⟨x,a1,a2,a3,a4,a5,rfl⟩:=agL ha;obtain⟨h1,h2,h3,h4,h5,rfl⟩:=amV hn;exact adC EE p log s hl x a1 a2 a3 a4 a5 h1 h2 h3 h4 h5 q hug
def IW {c:Prop} [Decidable c]{n:Int}{l:List Int}(hn:n≠0):fs ((if c then 0 else n)::l)=if c then fs l else n:=by
 by_cases h:c
 ·rw[if_pos h,if_pos h];rfl
 ·rw[if_neg h,if_neg h];show(if n≠0 then n else fs l)=n;rw[if_pos hn]
def adE (p:Pl)(log:List En)(et:Int)(ew tx:aj)(kn:Bool):s7 p log et ew tx kn=if be p.ax ew>=0 then(if 0<=et/\et<=1000000000000 then(if et>=im log then(if((tx.length:Nat):Int)<=400 then(if aU tx then(if kn=true then 0 else 7)else 3)else 8)else 9)else 2)else 6:=by
 unfold s7;rw[IW bX,IW bX,IW bX,IW bX,IW bX,IW bX];rfl
noncomputable def Uo (E:to)(p:Pl)(log:List En)(s:bV)(e:En):bV × Int:=
 if(p.ae.getD (be p.ax e.lz).toNat ([],0)).2< (vb (lB ((aH 32 e.text).getD 0 []))).role then(s,18)else
 match fT (vb (lB ((aH 32 e.text).getD 0 []))) e.text with
 |none=>(s,7)
 |some (a,n,rest)=>bm E p log s (lB ((aH 32 e.text).getD 0 [])) a n rest
def Fy (E:to)(p:Pl)(log:List En)(s:bV)(et:Int)(ew tx:aj):
  (s7 p log et ew tx (decide (lB ((aH 32 tx).getD 0 [])<19))≠0/\lJ E p log s ⟨et,ew,tx⟩=(s,s7 p log et ew tx (decide (lB ((aH 32 tx).getD 0 [])<19))))\/
  (s7 p log et ew tx (decide (lB ((aH 32 tx).getD 0 [])<19))=0/\0<=be p.ax ew/\tx.length<=400/\lB ((aH 32 tx).getD 0 [])<19/\lJ E p log s ⟨et,ew,tx⟩=Uo E p log s ⟨et,ew,tx⟩):=by
 rw[adE];unfold lJ;dsimp only;by_cases h1:be p.ax ew>=0
 ·rw[if_pos h1,if_neg (show ¬be p.ax ew<0 by omega)];by_cases h2:0<=et/\et<=1000000000000
  ·rw[if_pos h2,if_neg (Df h2)];by_cases h3:et>=im log
   ·rw[if_pos h3,if_neg (show ¬et<im log by omega)];by_cases h4:((tx.length:Nat):Int)<=400
    ·rw[if_pos h4,if_neg (show ¬400<tx.length by omega)];by_cases h5:aU tx
     ·rw[if_pos h5,if_neg (Df h5)];by_cases h6:lB ((aH 32 tx).getD 0 [])<19
      ·rw[if_pos (fh h6),if_neg (show ¬19<=lB ((aH 32 tx).getD 0 [])by omega)];exact .inr ⟨rfl,h1,by omega,h6,rfl⟩
      ·rw[if_neg (by rw[eJ h6];decide),if_pos (show 19<=lB ((aH 32 tx).getD 0 [])by omega)];exact U5
     ·rw[if_neg h5,if_pos h5];exact U5
    ·rw[if_neg h4,if_pos (show 400<tx.length by omega)];exact U5
   ·rw[if_neg h3,if_pos (show et<im log by omega)];exact U5
  ·rw[if_neg h2,if_pos h2];exact U5
 ·rw[if_neg h1,if_pos (show be p.ax ew<0 by omega)];exact U5
def ae8 {k:Nat}(hk:k<19): ∃nm,∃role w m:Nat,∃rest,Oc[k]? =some (nm,Ob role w m rest (fE.getD k 0))/\vb k=⟨(role:Nat),w,m,rest⟩/\w<=10/\m<=w/\(rest=true->m=0):=by
 obtain rfl|rfl|rfl|rfl|rfl|rfl|rfl|rfl|rfl|rfl|rfl|rfl|rfl|rfl|rfl|rfl|rfl|rfl|rfl:k=0\/k=1\/k=2\/k=3\/k=4\/k=5\/k=6\/k=7\/k=8\/k=9\/k=10\/k=11\/k=12\/k=13\/k=14\/k=15\/k=16\/k=17\/k=18:=by omega
 all_goals exact⟨_,_,_,_,_,rfl,rfl,by decide,by decide,by decide⟩
def Fz (E:to)(p:Pl)(log:List En)(s:bV)(k:Nat)(a:List aj)(n:List Int)(q:aj):(bm E p log s k a n q).1.units.length <=s.units.length+1:=by
 unfold bm;split<;>(repeat' split)<;>simp
noncomputable def ib (p:Pl)(log:List En)(s:bV)(e:En):bV × Int:=if 60<=log.length then(s,8)else lJ EE p log s e
def WM (log:List En)(e:En)(z:Int):List En:=if z=0 then log++[e]else log
def aaQ {l:List aj}{x:aj}(h:0<=be l x): ∃k:Nat,be l x=(k:Nat)/\k<l.length:=by
 by_cases hx:x∈l
 ·obtain⟨k,hk,e⟩:=k9 hx;exact⟨k,e,hk⟩
 ·rw[dW hx]at h;omega
def FA (p:Pl)(log:List En)(s:bV)(hP:PB p)(hS:SB p log s)(e:En)(he:e.text.length<=100000):
  bA cx 35 1 ((false,[.ptr 1 0])::[enX e].map dyn) (form p log s) [1] (.val (dyn (I (ib p log s e).2))) (form p (WM log e (ib p log s e).2) (ib p log s e).1):=by
 have hl:s.units.length<=1000:=by exact Yr
 unfold ib;by_cases C0:60<=log.length
 ·rw[if_pos C0];exact Oi p log s hl e C0
 ·rw[if_neg C0];have C0:log.length<60:=by omega
  obtain⟨et,ew,tx⟩:=e;dsimp only at he;have Lw:=Wl ((aH 32 tx).getD 0 [])
  rcases Fy EE p log s et ew tx with⟨h1,h2⟩|⟨h1,h2,h3,h4,h5⟩
  ·rw[h2];have hz:WM log ⟨et,ew,tx⟩ (s7 p log et ew tx (decide (lB ((aH 32 tx).getD 0 [])<19)))=log:=if_neg h1;simp only;rw[hz];by_cases hk:lB ((aH 32 tx).getD 0 [])<19
   ·obtain⟨nm,role,w,m,rest,g1,g2,_⟩:=ae8 hk;rw[g1]at Lw;rw[fh hk]at h1 ⊢;exact Wu p log s et ew tx hl hP.ae he C0 Lw h1
   ·rw[eJ hk]at h1 ⊢;have hn:Oc[lB ((aH 32 tx).getD 0 [])]? =none:=List.getElem?_eq_none (by show 19<=_;omega);rw[hn]at Lw;exact Wv p log s et ew tx hl hP.ae he C0 Lw h1
  ·rw[h5];rw[fh h4]at h1;obtain⟨nm,role,w,m,rest,g1,g2,g3,g4,g5⟩:=ae8 h4;rw[g1]at Lw;obtain⟨ik,I9,Aa⟩:=aaQ h2;have Aa:ik<p.ae.length:=by simpa [Pl.ax]using Aa
   unfold Uo;dsimp only;rw[I9,tK,g2];dsimp only;by_cases hr:(p.ae.getD ik ([],0)).2< (role:Nat)
   ·rw[if_pos hr];exact Oj p log s et ew tx hl hP.ae he C0 Lw h1 I9 Aa hr
   ·rw[if_neg hr];obtain⟨a,n,q,ok,c1,c2⟩:=Ws role w m rest (fE.getD (lB ((aH 32 tx).getD 0 [])) 0) tx he g3 g4 g5;cases ok
    ·rw[if_neg xZ]at c2;rw[c2];exact Ol p log s et ew tx hl hP.ae he C0 Lw h1 I9 Aa hr c1
    ·rw[if_pos rfl]at c2;rw[c2];have hef:=adD p log s hP hS C0 h4 h3 (by rw[g2];exact c2)
     have sP:(bm EE p log s (lB ((aH 32 tx).getD 0 [])) a n q).1.units.length <=1000:=by
      have:=Fz EE p log s (lB ((aH 32 tx).getD 0 [])) a n q;have:=hS.units;omega
     show bA _ _ _ _ _ _ (.val (dyn (I (bm EE p log s (lB ((aH 32 tx).getD 0 [])) a n q).2))) (form p (WM log _ (bm EE p log s (lB ((aH 32 tx).getD 0 [])) a n q).2) (bm EE p log s (lB ((aH 32 tx).getD 0 [])) a n q).1);generalize bm EE p log s (lB ((aH 32 tx).getD 0 [])) a n q=y at*;obtain⟨s',z⟩:=y;by_cases hz:z=0
     ·subst hz;exact WL p log s s' et ew tx hl sP hP.ae he C0 Lw h1 I9 Aa hr c1 hef
     ·have e1:WM log ⟨et,ew,tx⟩ z=log:=if_neg hz;simp only;rw[e1];exact RC p log s s' et ew tx hl sP hP.ae he C0 Lw h1 I9 Aa hr c1 hz hef
def WN {p:Pl}{log:List En}{r:Rs}(e:En)(h:aaP p log r):aaP p (log++[e]) r:=by
 obtain⟨k,h1,h2,h3,h4,h5,h6⟩:=h;refine⟨k,h1,by simp;omega,?_⟩
 grind
def UB.app {p:Pl}{log:List En}{u:Un}(h:UB p log u)(e:En):UB p (log++[e]) u:=
 ⟨by have:=h.lots;simp;omega,by have:=h.len;simp;omega,h.gas,h.used,λr hr=>WN e (h.res r hr)⟩
def adF {log:List En}{u:Un}{t:Ts}{rest:aj}(hk:t.kind=1)(h:(KM log u t rest).2=0):(dT (cI (aH 32 rest))).2=0:=by
 unfold KM at h
 grind
def adG (d t:Int):0<=ZG d t:=by
 unfold ZG;split
 ·rename_i h;unfold ZF at h;split
  grind
  ·exact De (Int.le_of_lt (Int.pow_pos bX)) h.2.1
 grind
def WO {p:Pl}{log:List En}{s:bV}{u u':Un}(hP:PB p)(hU:UB p log u)(e:En){k:Nat}{a:List aj}{n:List Int}{q:aj}(ht:e.text.length<=400)(hv:lB ((aH 32 e.text).getD 0 [])=k)(Be:fT (vb k) e.text=some (a,n,q))
  (h:aQ EE p log s u k a n q=(u',0)):UB p (log++[e]) u':=by
 have hm:=hU.app e;unfold aQ at h;split at h
 ·repeat' split at h
  all_goals(simp only[ii]at h;obtain⟨rfl,h⟩:=h)
  all_goals first|exact hm|exact⟨by have:=hU.lots;simp;omega,hm.len,hm.gas,hm.used,hm.res⟩
 ·grind
 ·grind
 ·by_cases hi:0<=be (cU p.aa) (a.getD 1 [])
  ·rw[if_pos hi]at h;dsimp only at h;obtain⟨j,hj,hjl⟩:=aaQ hi;rw[hj,tK]at h;have htm:p.aa.getD j dl∈p.aa:=by grind[cU]
   generalize p.aa.getD j dl=t at*;by_cases pb:(EE.ev log u t q).2=0
   ·rw[if_pos pb]at h;repeat' split at h
    all_goals(simp only[ii]at h;obtain⟨rfl,h⟩:=h)
    all_goals first|exact hm|skip
    refine⟨hm.lots,by have:=hU.len;simp;omega,hm.gas,hm.used,λr hr=>?_⟩;rcases ig.1 hr with hr|hr
    ·exact hm.res r hr
    ·rw[mA]at hr;subst hr;have hg:(log++[e]).getD log.length iX=e:=by grind
     refine⟨log.length,rfl,by simp,?_⟩;rw[hg];refine⟨ht,hv,⟨a,n,q,Be⟩,λt' PO hn hk=>?_⟩;obtain rfl:=hP.amn t' PO t htm hn;obtain⟨_,_,_,_,hq,_⟩:=uS Be bX;have:q=ci 3 e.text:=hq;subst this;exact adF hk pb
   grind
  grind
 ·repeat' split at h
  all_goals(simp only[ii]at h;obtain⟨rfl,h⟩:=h)
  all_goals first|exact hm|skip
  refine⟨hm.lots,by have:=hU.len;simp;omega,hm.gas,hm.used,λr hr=>?_⟩;obtain⟨r0,hr0,rfl⟩:=dC.1 hr;exact hm.res r0 hr0
 ·exact K70
 ·exact K70
 ·exact K70
 ·have hl:=hP.eH;have hu:=hU.used;have alD:=adG (n.getD 0 0) (n.getD 1 0);generalize ZG (n.getD 0 0) (n.getD 1 0)=ag at*;repeat' split at h
  all_goals(simp only[ii]at h;obtain⟨rfl,h⟩:=h)
  all_goals first|exact hm|exact⟨hm.lots,hm.len,hm.gas,aca,hm.res⟩
 ·dsimp only at h;repeat' split at h
  all_goals(simp only[ii]at h;obtain⟨rfl,h⟩:=h)
  all_goals first|exact hm|exact⟨hm.lots,hm.len,wY,hm.used,hm.res⟩
 grind
def SB.app {p:Pl}{log:List En}{s:bV}(h:SB p log s)(e:En):SB p (log++[e]) s:=⟨h.units,h.lots,by have:=h.opens;simp;omega,λu hu=>(h.unit u hu).app e⟩
theorem agN {p:Pl}{log:List En}{s:bV}(hP:PB p)(hS:SB p log s)(e:En){k:Nat}{a:List aj}{n:List Int}{q:aj}(ht:e.text.length<=400)(hv:lB ((aH 32 e.text).getD 0 [])=k)(Be:fT (vb k) e.text=some (a,n,q))
  {s':bV}(h:bm EE p log s k a n q=(s',0)):SB p (log++[e]) s':=by
 have hm:=hS.app e;have ho:=hS.opens;unfold bm at h;split at h
 ·exact ajo
 ·repeat' split at h
  all_goals(simp only[ii]at h;obtain⟨rfl,h⟩:=h)
  all_goals first|exact hm|exact⟨hm.units,by simp;omega,hm.opens,hm.unit⟩
 ·repeat' split at h
  all_goals(simp only[ii]at h;obtain⟨rfl,h⟩:=h)
  all_goals first|exact hm|skip
  refine⟨by simp;omega,hm.lots,hm.opens,λu hu=>?_⟩;rcases ig.1 hu with hu|hu
  ·exact hm.unit u hu
  ·rw[mA]at hu;subst hu;exact⟨dz _,dz _,dz _,⟨by show(0:Int)<=0;decide,by show(0:Int)<=1000000000000;decide⟩,λr hr=>by cases hr⟩
 ·repeat' split at h
  all_goals(simp only[ii]at h;obtain⟨rfl,h⟩:=h)
  all_goals first|exact hm|exact⟨hm.units,hm.lots,by simp;omega,hm.unit⟩
 ·repeat' split at h
  all_goals(simp only[ii]at h;obtain⟨rfl,h⟩:=h)
  all_goals first|exact hm|exact⟨hm.units,hm.lots,by have:=List.length_erase_le (a:=a.getD 0 []) (l:=s.opens);show(s.opens.erase (a.getD 0 [])).length <=(log++[e]).length;rw[tH];simp only[P0];omega,hm.unit⟩
 ·exact K43
 ·exact K43
 ·exact K43
 ·exact K43
 ·split at h
  ·rename_i hx;obtain⟨i,u,g1,g2,g3,g4,g5⟩:=j7 hx;dsimp only at h;rw[g2,g4]at h
   cases hr:aQ EE p log s u k a n q with
   |mk u' z=>
    rw[hr]at h;simp only[ii]at h;obtain⟨rfl,rfl⟩:=h;have hU:=WO hP (hS.unit u (jH g3)) e ht hv Be hr;refine⟨by simp;exact hm.units,hm.lots,hm.opens,λw hw=>?_⟩;rcases Sv hw with hw|rfl
    ·exact hm.unit w hw
    ·exact hU
  ·exact ajo
def RD {p:Pl}{log:List En}{s s':bV}(hP:PB p)(hS:SB p log s)(e:En)(h:ib p log s e=(s',0)):SB p (log++[e]) s'/\log.length<60:=by
 unfold ib at h;by_cases C0:60<=log.length
 grind
 ·rw[if_neg C0]at h;obtain⟨et,ew,tx⟩:=e
  rcases Fy EE p log s et ew tx with⟨h1,h2⟩|⟨h1,h2,h3,h4,h5⟩
  grind
  grind[Uo,agN]
def FB (p:Pl):SB p [] Go.Plain.fQ:=⟨by decide,by decide,by decide,λu hu=>by cases hu⟩
def mT (p:Pl)(n:aj)(hl:p.ae.length<=1000):ac 93 [(true,bL p),SS n] (.one (I (if n∈p.ax then(p.ae.getD (be p.ax n).toNat ([],0)).2 else -1))):=by
 have hn:(p.ae.map nh).length =p.ae.length:=by simp
 have Bf:p.ax.length=p.ae.length:=by simp[Pl.ax]
 refine sF f93 ?_
 (try(refine tX 0 ?_;try exact Zt))
 refine af (ι:=Nat) (λi=>i<=p.ae.length/\n∉p.ax.take i) (λi=>p.ae.length -i) (λi=>⟨[(1,lS n),(2,pP 0),(5,vI i)],[(0,some (.box 27 ((bL p).map .st)))],1⟩) 0 Zc ⟨dz _,by simp⟩ ?_;rintro i ⟨hi,dm⟩;by_cases al:i<p.ae.length
 ·have he:=aZ (f:=nh) al ([],0);have hg:p.ax.getD i []=(p.ae.getD i ([],0)).1:=by rw[getD_at al,getD_at K0];simp[Pl.ax]
  have nP:=λe=>mM (l:=p.ax) (x:=n) (i:=i) K0 e dm;have Gt:=iN (l:=p.ax) (i:=i) (x:=n) K0;rw[hg]at nP Gt;generalize hpe:p.ae.getD i ([],0)=pe at*;obtain⟨pn,pr⟩:=pe;dsimp only at nP Gt;by_cases hx:pn=n
  ·have hm:n∈p.ax:=Ca (Gt.2 (.inr hx.symm));rw[if_pos hm,nP hx,tK,hpe];exact K79
  ·exact K44
 ·obtain rfl:i=p.ae.length:=by omega
  rw[pc K0]at dm;rw[if_neg dm];exact tA
abbrev Hf (q:aj × Vb):List SC:=[T q.1,J q.2.role,J q.2.words,K q.2.rest]
def lh:ac 96 [] (.own 4 (.view (jL.map Hf))):=by
 refine sF f96 ?_;exact K1
def agO {s:aj}{n:Int}(h:wN false 7 s=some n):fN 7 s=some n/\0<=n/\(s.getD 0 0).toNat ≠45/\0<s.length:=by
 obtain⟨h1,h2⟩:=iA h;have h3:0<=n:=h2.resolve_left bX;exact⟨h1,h3,λe=>((qx h1).1 e) h3,yS h1⟩
def agP {s:aj}(h:wN false 7 s=none):fN 7 s=none\/∃n,fN 7 s=some n/\n<0:=by
 cases e:fN 7 s with
 |none=>exact .inl rfl
 |some n=>
  refine .inr ⟨n,rfl,?_⟩;rw[QB e]at h;by_cases h1:(s.getD 0 0).toNat =45
  ·have:=(qx e).1 h1;omega
  ·rw[if_neg h1]at h;cases h
def afb (o:Option (List Int)):List SV:=match o with
 |some n=>[(false,[.ints n]),Bo true]
 |none=>[(false,[.ints []]),Bo false]
def lj (l:List aj)(f:Nat)(hf:f<=l.length)(hl:l.length<=1000)(hx: ∀x∈l,x.length<=100000):ac 132 [V1 l,I f] (.aI (afb (jT (l.drop f)))):=by
 have hn:(ab l).length =l.length:=by simp
 have hu:(l.drop f).length =l.length -f:=by simp
 have eA:=E7 (l.drop f);rw[Fb];refine sF f132 ?_
 (try(refine tX 0 ?_;try exact Zt))
 refine af (ι:=Nat) (λi=>i<=(dP (l.drop f)).length) (λi=>l.length -i) (λi=>⟨[(0,some (.val (false,[.st (.view (ab l))]))),(6,pO 0),(7,vI ((f+i:Nat):Int))],[(0,some (.row true 1 (.ints ((dP (l.drop f)).take i))))],1⟩) 0 (bu.trans (jz 6 1 (.ints []) bX rfl rfl rfl) Zc) (dz _) ?_;intro i hi;by_cases al:f+i<l.length
 ·have he:=sA al;have hd:(l.drop f).getD i []=l.getD (f+i) []:=by simp[jX]
  have hxl:(l.getD (f+i) []).length <=100000:=hx _ (zl al);have c1:=iC (l.getD (f+i) []) 7 bX K0;by_cases hp:i< (dP (l.drop f)).length
  ·have tm:=E8 hp;rw[hd]at tm;obtain⟨g1,g2,g3,g4⟩:=agO tm;have z6:(dP (l.drop f)).take (i+1)=(dP (l.drop f)).take i++[(dP (l.drop f)).getD i 0]:=by rw[Db,o8 hp,jX,o8 hp];rfl
   have htl:((dP (l.drop f)).take i).length =i:=by simp;omega
   rw[g1]at c1;generalize (dP (l.drop f)).getD i 0=v at*;generalize (dP (l.drop f)).take i=w at*;generalize l.getD (f+i) []=y at*;have c2:ac 158 [SS y,I (7:Nat)] (.aI [I v,Bo true]):=c1;exact ahG
  ·have hi2:(dP (l.drop f)).length =i:=by omega
   have eG:=xu (u:=l.drop f) K0;rw[hi2,hd]at eG;rw[if_neg K0];generalize l.getD (f+i) []=y at*;rcases agP eG with g|⟨n,g,g2⟩
   ·rw[g]at c1;have c2:ac 158 [SS y,I (7:Nat)] (.aI [I 0,Bo false]):=c1;exact tA
   ·rw[g]at c1;have c2:ac 158 [SS y,I (7:Nat)] (.aI [I n,Bo true]):=c1;exact tA
 ·have I9:(dP (l.drop f)).length =l.length -f:=by omega
  have:i=l.length -f:=by omega
  rw[pc K0,if_pos K0];exact tA
def Kd (tx:aj):List aj × Int × Bool:=
 if 19<=lB ((aH 32 tx).getD 0 [])then([],-1,false)else
 if((vb (lB ((aH 32 tx).getD 0 []))).rest =false/\(aH 32 tx).length ≠(vb (lB ((aH 32 tx).getD 0 []))).words +1)\/((vb (lB ((aH 32 tx).getD 0 []))).rest =true/\(aH 32 tx).length < (vb (lB ((aH 32 tx).getD 0 []))).words +2)then([],(lB ((aH 32 tx).getD 0 []):Nat),false)else
 if []∈(aH 32 tx).take ((vb (lB ((aH 32 tx).getD 0 []))).words +1)then([],(lB ((aH 32 tx).getD 0 []):Nat),false)
 else((aH 32 tx).take ((vb (lB ((aH 32 tx).getD 0 []))).words +1)++(if(vb (lB ((aH 32 tx).getD 0 []))).rest then [ci ((vb (lB ((aH 32 tx).getD 0 []))).words +1) tx]else []),(lB ((aH 32 tx).getD 0 []):Nat),true)
abbrev si:aj × Vb:=([],⟨0,0,0,false⟩)
def adR {w:aj}{i:Nat}(hi:i<19)(hn:w∉(jL.map Prod.fst).take i)(he:(jL.getD i si).1=w):lB w=i:=by
 unfold lB;have al:i< (jL.map Prod.fst).length :=hi;have hg:(jL.map Prod.fst)[i]=w:=by grind
 rw[List.idxOf,Yg al];refine⟨by grind,λj hj=>?_⟩;have hv:jL.length=19:=rfl;have:(jL.map Prod.fst)[j]'K0∈(jL.map Prod.fst).take i:=Jl.2 ⟨j,by grind,by simp⟩
 grind
def agQ {w:aj}(hn:w∉jL.map Prod.fst):19<=lB w:=by
 unfold lB;have:=List.idxOf_eq_length hn;rw[this];decide
def xB {α:Type}{l:List α}{i:Nat}(h:i<l.length){x d:α}:x∈l.take (i+1)↔x∈l.take i\/x=l.getD i d:=by grind[List.take_add_one]
def OL: ∀k<19,(jL.getD k si).2.words <=10:=by decide
def lk (tx:aj)(hl:tx.length<=10000):ac 95 [SS tx] (.aI [(false,[.view (ab (Kd tx).1)]),I (Kd tx).2.1,Bo (Kd tx).2.2]):=by
 have c1:ac 131 [SS tx,(false,[.lit (.int .u8 32)])] (.own 1 (.view (ab (aH 32 tx)))):=by
  have:=j0 tx 32 K0
  grind[iM]
 have c2:=lh;have h1:=(cj 32 tx).1;have h2:=(cj 32 tx).2;have h3:=LX.2 (ng 32 tx);have ahu:=λk hk=>I0 k tx hk;have PP:(jL.map Hf).length =19:=rfl;have C2:=sA h3;unfold Kd;generalize hws:aH 32 tx=ws at*;have hn:(ab ws).length =ws.length:=by simp
 generalize hw:ws.getD 0 []=w0 at*;refine sF f95 ?_;repeat' ((first|refine tX 0 ?_|exact Zt|refine bR ?_ ?_<;>intro h)<;>(try conv=>whnf))
 refine af (ι:=Nat) (λi=>i<=19/\w0∉(jL.map Prod.fst).take i) (λi=>19 -i) (λi=>⟨[(0,lS tx),(5,pO 0),(6,pO 1),(7,vI i)],[(0,some (.row false 1 (.view (ab ws)))),(1,some (.row true 4 (.view (jL.map Hf))))],2⟩) 0 (bu.trans (dk 8 rfl) Zc) ⟨dz _,by simp⟩ ?_;rintro i ⟨hi,dm⟩;by_cases al:i<19
 ·have he:=aZ (f:=Hf) (l:=jL) al si;have nP:=λe=>adR al dm e;have Gt:=xB (l:=jL.map Prod.fst) (i:=i) (x:=w0) (d:=[]) al;have hg:(jL.map Prod.fst).getD i []=(jL.getD i si).1:=by grind
  rw[hg]at Gt;have ann:vb i=(jL.getD i si).2:=rfl;have hwi:=OL i al;generalize jL.getD i si=q at*;obtain⟨nm,role,w,nu,rest⟩:=q;dsimp only at nP Gt hwi;have he:(jL.map Hf)[i]? =some [T nm,J role,J (w:Nat),K rest]:=he;by_cases hx:nm=w0
  ·have hk:=nP hx;rw[hk,ann,if_neg K0];dsimp only;have c3:=dD (ws.take (w+1)) bw;by_cases hshape:(rest=false/\ws.length≠w+1)\/(rest=true/\ws.length<w+2)
   ·rw[if_pos hshape];cases rest
    ·have hs':ws.length≠w+1:=by grind
     exact tL
    ·have hs':ws.length<w+2:=by grind
     exact tL
   ·rw[if_neg hshape];have Sj:w+1<=ws.length:=by grind
    have hol:(ws.take (w+1)).length =w+1:=by grind
    have anX:(ab (ws.take (w+1))).length =w+1:=by grind
    cases rest
    ·have hs':ws.length=w+1:=by grind
     repeat' ((first|refine tX 0 ?_|exact Zt|refine bR ?_ ?_<;>intro h)<;>(try conv=>whnf))
     all_goals try first|exact Zo|(exact absurd hx h)
     refine af (ι:=Nat) (λk=>k<=w+1/\[]∉(ws.take (w+1)).take k) (λk=>w+1 -k) (λk=>⟨[(0,lS tx),(5,pO 0),(7,vI i),(8,pP 1),(9,pO 2),(10,vI k)],[(0,some (.row false 1 (.view (ab ws)))),(1,some (.box 160 [.st (T nm),.st (J role),.st (J w),.st (K false)])),(2,some (.row true 1 (.view (ab (ws.take (w+1))))))],3⟩) 0 Zc ⟨dz _,by simp⟩ ?_;rintro k ⟨Xu,LH⟩;by_cases sC:k<w+1
     ·have R7:=sA (l:=ws.take (w+1)) (i:=k) K0;have aht:=xB (l:=ws.take (w+1)) (i:=k) (x:=[]) (d:=[]) K0;exact K47
     ·obtain rfl:k=w+1:=by omega
      rw[pc K0]at LH;rw[if_neg LH];rw[if_neg bX,yb];exact tL
    ·have hs':w+2<=ws.length:=by grind
     repeat' ((first|refine tX 0 ?_|exact Zt|refine bR ?_ ?_<;>intro h)<;>(try conv=>whnf))
     all_goals try first|exact Zo|(exact absurd hx h)
     refine af (ι:=Nat) (λk=>k<=w+1/\[]∉(ws.take (w+1)).take k) (λk=>w+1 -k) (λk=>⟨[(0,lS tx),(5,pO 0),(7,vI i),(8,pP 1),(9,pO 2),(10,vI k)],[(0,some (.row false 1 (.view (ab ws)))),(1,some (.box 160 [.st (T nm),.st (J role),.st (J w),.st (K true)])),(2,some (.row true 1 (.view (ab (ws.take (w+1))))))],3⟩) 0 Zc ⟨dz _,by simp⟩ ?_;rintro k ⟨Xu,LH⟩;by_cases sC:k<w+1
     ·have R7:=sA (l:=ws.take (w+1)) (i:=k) K0;have aht:=xB (l:=ws.take (w+1)) (i:=k) (x:=[]) (d:=[]) K0;exact K47
     ·obtain rfl:k=w+1:=by omega
      rw[pc K0]at LH;rw[if_neg LH];rw[if_pos rfl,qI,<- (ahu (w+1) K0).2];have h00:AZ ws 0=0:=by cases ws<;>rfl
      repeat' ((first|refine tX 0 ?_|exact Zt|refine bR ?_ ?_<;>intro h)<;>(try conv=>whnf))
      all_goals try(exfalso;omega)
      refine af (ι:=Nat) (λm=>m<=w+1) (λm=>w+1 -m) (λm=>⟨[(0,lS tx),(5,pO 0),(7,vI i),(8,pP 1),(9,pO 2),(11,vI (AZ ws m:Nat)),(12,vI m)],[(0,some (.row false 1 (.view (ab ws)))),(1,some (.box 160 [.st (T nm),.st (J role),.st (J w),.st (K true)])),(2,some (.row true 1 (.view (ab (ws.take (w+1))))))],3⟩) 0 (ai (by rw[h00];kernel_rfl)) (dz _) ?_;intro m hm;by_cases hml:m<w+1
      ·have hem:=sA (l:=ws) (i:=m) K0;have hsu:=IZ (l:=ws) (k:=m) K0;have hom:=(ahu m K0).1;have hyl:=h2 (ws.getD m []) (zl K0);generalize ws.getD m []=y at*;repeat' ((first|refine tX 0 ?_|exact Zt|refine bR ?_ ?_<;>intro h)<;>(try conv=>whnf))
       all_goals first|exact Zo|exact⟨m+1,hml,by omega,ai (by rw[hsu];kernel_rfl)⟩
      ·obtain rfl:m=w+1:=by omega
       have hom:=(ahu (w+1) K0).1;exact tL
  ·exact tL
 ·obtain rfl:i=19:=by omega
  have ant:w0∉jL.map Prod.fst:=dm;rw[if_pos (agQ ant)];exact tL
def FE (l:List aj):Bool:=if(l.getD 0 []≠[115,104,111,99,107]/\l.getD 0 []≠[108,111,97,100])/\l.getD 0 []≠[103,97,115]then true else(jT (l.drop 2)).isSome
def aaW (o:Option (List Int)): ∃n,afb o= [(false,[.ints n]),Bo o.isSome]/\n=o.getD []:=by
 cases o with
 |none=>exact⟨_,rfl,rfl⟩
 |some n=>exact⟨_,rfl,rfl⟩
def zH (l:List aj)(h0:0<l.length)(h2:FE l=true\/2<=l.length)(hl:l.length<=1000)(hx: ∀x∈l,x.length<=100000)(hs:(l.getD 0 []≠[115,104,111,99,107]/\l.getD 0 []≠[108,111,97,100])/\l.getD 0 []≠[103,97,115]\/2<=l.length):ac 97 [V1 l] (.one (Bo (FE l))):=by
 have hn:(ab l).length =l.length:=by simp
 have he:=sA h0;unfold FE;generalize l.getD 0 []=w at*;by_cases h1:(w≠[115,104,111,99,107]/\w≠[108,111,97,100])/\w≠[103,97,115]
 ·rw[if_pos h1];obtain⟨⟨a,b⟩,c⟩:=h1;exact acq
 ·rw[if_neg h1];have c1:=lj l 2 (hs.resolve_left h1) hl hx;obtain⟨n,e1,e2⟩:=aaW (jT (l.drop 2));rw[e1]at c1;generalize (jT (l.drop 2)).isSome =ok at*;have c2:ac 132 [V1 l,I 2] (.aI [(false,[.ints n]),Bo ok]):=c1;by_cases a:w= [115,104,111,99,107]
  ·subst a;exact acq
  ·by_cases b:w= [108,111,97,100]
   ·subst b;exact acq
   ·have c:w= [103,97,115]:=by
     grind
    subst c;exact acq
def FF (l:List Rs)(x:Rs)(t:aj):iO (l++[x]) t=if sY t x then some x else iO l t:=by grind[iO]
abbrev bxU (u:Un):cC:=.box 94 ((jB u).map .st)
def o3 (u:Un)(t:aj)(hl:u.res.length<=1000000):ac 206 [(true,jB u),SS t] (.one (Bo (bK u.res t))):=by
 have hn:(u.res.map kg).length =u.res.length:=by simp
 refine sF f206 ?_
 (try(refine tX 0 ?_;try exact Zt))
 refine af (ι:=Nat) (λn=>n<=u.res.length/\iO u.res t=iO (u.res.take n) t) (λn=>n) (λn=>⟨[(1,lS t),(2,pP 0),(5,vI ((n:Nat) -1:Int))],[(0,some (bxU u))],1⟩) u.res.length (ai P3) ⟨dG _,by grind⟩ ?_;rintro n ⟨hi,hg⟩
 cases n with
 |zero=>
  have hv:bK u.res t=false:=by unfold bK;rw[hg];rfl
  rw[hv];exact tL
 |succ n=>
  have al:n<u.res.length:=by omega
  have he:=aZ (f:=kg) al AC;have z6:u.res.take (n+1)=u.res.take n++[u.res.getD n AC]:=by simp_all
  rw[z6,FF]at hg;generalize u.res.getD n AC=x at*;obtain⟨xt,xa,xe,xv⟩:=x;have he:(u.res.map kg)[n]? =some [T xt,J xa,J xe,K xv]:=he;unfold sY at hg;dsimp only at hg;by_cases hx:xt=t
  ·subst hx;cases xv
   ·rw[if_pos (by simp)]at hg;have hv:bK u.res xt=(xa==2):=by grind[bK]
    rw[hv];exact tL
   ·rw[if_neg (by simp)]at hg;exact K24
  ·rw[if_neg bw]at hg;exact K24
abbrev bxT (t:Ts):cC:=.box 73 ((fB t).map .st)
def KT (u:Un)(t:Ts)(ht:t.bv.length<=1000)(hl:u.res.length<=1000000):ac 207 [(true,jB u),(true,fB t)] (.one (Bo (iV u.res t))):=by
 have hn:(ab t.bv).length =t.bv.length:=by simp
 have hv:=λx=>o3 u x hl;have Jb:iV u.res t=t.bv.all (bK u.res):=rfl;rw[Jb];refine sF f207 ?_
 (try(refine tX 0 ?_;try exact Zt))
 refine af (ι:=Nat) (λi=>i<=t.bv.length/\∀j<i,bK u.res (t.bv.getD j [])=true) (λi=>t.bv.length -i) (λi=>⟨[(2,pP 0),(3,pP 1),(5,vI i)],[(0,some (bxU u)),(1,some (bxT t))],2⟩) 0 Zc ⟨dz _,λj hj=>by omega⟩ ?_;rintro i ⟨hi,hp⟩;by_cases al:i<t.bv.length
 ·have he:=sA al;have hc:=hv (t.bv.getD i []);have hge:t.bv.getD i []=t.bv[i]:=by grind
  cases hx:bK u.res (t.bv.getD i [])
  ·have hal:t.bv.all (bK u.res)=false:=by
    grind
   rw[hal];exact ajy
  ·have io: ∀j<i+1,bK u.res (t.bv.getD j [])=true:=λj hj=>by
    grind
   exact ajy
 ·obtain rfl:i=t.bv.length:=by omega
  have hal:t.bv.all (bK u.res)=true:=by
   rw[tM];intro x hx;obtain⟨j,hj,rfl⟩:=Jl.1 hx
   grind
  rw[hal];exact tL
def FH (p:Pl)(u:Un)(hp:p.aa.length<=1000)(hl:u.res.length<=1000000):ac 165 [(true,bL p),(true,jB u)] (.own 1 (.view (ab (uA p u.res)))):=by
 have hn:(p.aa.map fB).length =p.aa.length:=by simp
 have hv:=λx=>o3 u x hl;refine sF f165 ?_
 (try(refine tX 0 ?_;try exact Zt))
 refine af (ι:=Nat) (λi=>i<=p.aa.length) (λi=>p.aa.length -i) (λi=>⟨[(2,pP 0),(3,pP 1),(5,pO 2),(6,vI i)],[(0,some (.box 27 ((bL p).map .st))),(1,some (bxU u)),(2,some (.row true 1 (.view (ab (((cU p.aa).take i).filter λt=> !bK u.res t)))))],3⟩) 0
  (bu.trans (jz 5 1 (.view []) bX rfl rfl rfl) Zc) (dz _) ?_
 intro i hi;by_cases al:i<p.aa.length
 ·have he:=iP al;have xR:=E2 (l:=u.res) al;have hc:=hv (p.aa.getD i dl).name;have PP:(((cU p.aa).take i).filter λt=> !bK u.res t).length <=i:=pf (L3 _ _) wY;generalize ((cU p.aa).take i).filter (λt=> !bK u.res t)=out at*;generalize p.aa.getD i dl=t at*
  rcases t with⟨nm,kd,nd,ru,lo,lA⟩;have he:(p.aa.map fB)[i]? =some [T nm,J kd,.view (ab nd),T ru,J lo,J lA]:=he;dsimp only at xR hc;have hol:(ab out).length =out.length:=by simp
  cases hvv:bK u.res nm
  ·rw[hvv]at hc xR;rw[if_neg bX]at xR;exact K19
  ·rw[hvv]at hc xR;rw[if_pos rfl,yb]at xR;exact K25
 ·exact ah7
def vQ {fid nx n':Nat}{T T' H:Hp}{E E':dS}{ks:List Nat}(hT:LB T 1)(eP:LB T' 1)(hf:tag fid≠0)(hn:Nat.blt 0 n'=true)(hE:eZ (gw (aq (tag fid) 1) T' []) E.get ks=some E'):
  bu ⟨E,cH T (cT (aq (tag fid) 1) T')++H,nx⟩ ⟨E',T',n'⟩:=by
 have h:=Eb (R:=[]) (hp:=H) (nx:=nx) (n':=n') hT eP hf (by simp) (λk hk=>by cases hk) (λid b e=>by simp[Hp.get]at e) (by rwa [Bj]at hn) hE;rwa [yb]at h
def WU {E E':dS}{H:Hp}{nx n' un:Nat}{p:Pl}{log:List En}{s:bV}{m:List (Nat × Nat)}{ks:List Nat}(hl:s.units.length<=1000)(hm:Go.Fw.Jf ((un,9)::m)=true)(h9:H.get un=some (.az 17 (ay 0 s.units)))
  (hY:jY ((un,9)::m++mZ (bt 0 s.units)) H.get m=some (hd p log s))(hE:gY H (bt 0 s.units))(hn:(m.all λq=>Nat.blt (tag q.2) n')=true)(h0:Nat.blt 0 n'=true)
  (ahm:eZ ((un,9)::m++mZ (bt 0 s.units)) E.get ks=some E'):bu ⟨E,H,nx⟩ ⟨E',form p log s,n'⟩:=by
 have hT:=fW hl;have iG:=(IF (us:=s.units) hm).resolve_right K0;have e8:=cZ.aen (Y:=hd p log s) hT hm h9 iG hY rfl (hE.get hT);refine CP e8 (λq hq=>?_) ahm;have h0:0<n':=by rw[Bj]at h0;exact h0
 rcases ig.1 hq with h|h
 ·rcases cF.1 h with rfl|h
  ·show Fw.tag 9<n';rw[show Fw.tag 9=0 from rfl];exact h0
  ·exact amy
 ·exact ahL
abbrev nwC (p:Pl)(a b c d:DC):List DC:=[.st (.view (p.ae.map nh)),.st (.view (ab p.ap)),.st (.view (p.aa.map fB)),.st (.view (p.parts.map mj)),.st (J p.dY),.st (J p.eH),a,.st (K false),.st (K true),b,.st (T []),c,d]
abbrev OQ (p:Pl)(a b c d:DC):cC:=.box 81 (nwC p a b c d)
def alv (fn:Func)(p:Pl)(fid:Nat)(S:St):Prop:=∃id,S.hp.get id=some (OQ p .nil .nil .nil .nil)/\eu cx S.hp.get S.env.get fn.results.toList λys=>∃zs,kV [(id,fid)] ys=some zs/\pv zs=Fw.bh (.ptr fid 0)
def amW {f:FuncId}{c:Code}{fid:Nat}{p:Pl}(fn:Func)(h:m9 cx c ⟨iz 0 [dyn (true,bL p)],[],1⟩ (alv fn p fid) (λ_ _=>False) (alv fn p fid))
  (h1:iI cx.P f=true:=by kernel_rfl)(h2:cx.P.funcs[f]? =some fn:=by kernel_rfl)(h3:fn.body=some c:=by rfl)(h4:bQ fn.ntmps c=true:=by kernel_rfl)(h5: [dyn (true,bL p)].length <=fn.ntmps:=by exact fM rfl)(h6:aJ [] c=true:=by kernel_rfl):
  bA cx f 1 [dyn (true,bL p)] [] [] (Fw.bh (.ptr fid 0)) [(fid,some (OQ p .nil .nil .nil .nil))]:=
 fw kz h1 h2 h3 h4 h5 [] (λ_ h=>by cases h) h6 (λS hS=>by
  obtain⟨id,g1,g2⟩:=hS;refine⟨[(id,fid)],⟨by simp,by simp,λn b' e=>?_⟩,(λ_ h=>by cases h),g2⟩;obtain⟨rfl,rfl⟩:=fJ e
  exact⟨id,_,by simp,g1,rfl⟩) h
def adV (p:Pl)(fid:Nat):bA cx 48 1 [dyn (true,bL p)] [] [] (Fw.bh (.ptr fid 0)) [(fid,some (OQ p .nil .nil .nil .nil))]:=by
 refine amW f48 ?_
 (try(refine tX 0 ?_;try exact Zt))
 exact⟨12,rfl,_,rfl,rfl⟩
def aa6 {ok:Nat->Prop}(p:Pl):cC.dQ ok (OQ p .nil .nil .nil .nil):=by
 intro d hd;simp only[nwC,cF,jN,jO]at hd;rcases hd with rfl|rfl|rfl|rfl|rfl|rfl|rfl|rfl|rfl|rfl|rfl|rfl|rfl<;>trivial
def mw (H:HF)(fid:Nat)(p:Pl):bI cx fid 48 [dyn (true,bL p)] H (Fw.bh (.ptr fid 0)) [(fid,some (OQ p .nil .nil .nil .nil))] []:=
 gr (adV p fid) (λid hid=>by cases hid) (λid hid=>by cases hid) (λid b e=>by simp[Hp.get]at e) (λx hx=>by
   have:x=dyn (true,bL p):=by simpa using hx
   subst this
   exact bd _) (λid hid=>by cases hid)
  (λid hid=>.inr ajg) (λid b e=>by obtain⟨rfl,rfl⟩:=fJ e;exact aa6 p) (by
   intro d hd;have:d= .ptr fid 0:=by simpa [Fw.bh]using hd
   subst this
   exact .inr rfl)
def aa7 {E:dS}{Hh:Hp}{nx:Nat}(id:Nat){p:Pl}(hid:2*(nx+1+1+1)≠id)(hB:Hh.get id=some (OQ p .nil .nil .nil .nil)):
  ∃B3 B2 B1 R4,bu ⟨E,Hh,nx⟩ ⟨E,(2*(nx+1+1+1),some (.az 17 []))::(id,some (OQ p (.own (2*nx)) (.own (2*(nx+1))) (.own (2*(nx+1+1))) (.own (2*(nx+1+1+1)))))::(2*(nx+1+1+1),some R4)::(id,some B3)::(2*(nx+1+1),some (.row true 1 (.view [])))::(id,some B2)::(2*(nx+1),some (.row true 1 (.view [])))::(id,some B1)::(2*nx,some (.row true 3 (.view [])))::Hh,nx+1+1+1+1⟩:=by
 have s1:=iL (E:=E) (nx:=nx) id 6 3 (.view []) bX rfl rfl hB rfl;have s2:=iL (E:=E) (nx:=nx+1) (Hh:=(id,some (OQ p (.own (2*nx)) .nil .nil .nil))::(2*nx,some (.row true 3 (.view [])))::Hh) id 9 1 (.view []) bX rfl rfl P4 rfl;have s3:=iL (E:=E) (nx:=nx+1+1) (Hh:=(id,some (OQ p (.own (2*nx)) (.own (2*(nx+1))) .nil .nil))::(2*(nx+1),some (.row true 1 (.view [])))::(id,some (OQ p (.own (2*nx)) .nil .nil .nil))::(2*nx,some (.row true 3 (.view [])))::Hh) id 11 1 (.view []) bX rfl rfl P4 rfl;have s4:=iL (E:=E) (nx:=nx+1+1+1) (Hh:=(id,some (OQ p (.own (2*nx)) (.own (2*(nx+1))) (.own (2*(nx+1+1))) .nil))::(2*(nx+1+1),some (.row true 1 (.view [])))::(id,some (OQ p (.own (2*nx)) (.own (2*(nx+1))) .nil .nil))::(2*(nx+1),some (.row true 1 (.view [])))::(id,some (OQ p (.own (2*nx)) .nil .nil .nil))::(2*nx,some (.row true 3 (.view [])))::Hh) id 12 17 (.view []) bX rfl rfl P4 rfl;have s5:=Of (E:=E) (nx:=nx+1+1+1+1) (Hh:=(id,some (OQ p (.own (2*nx)) (.own (2*(nx+1))) (.own (2*(nx+1+1))) (.own (2*(nx+1+1+1)))))::(2*(nx+1+1+1),some (.row true 17 (.view [])))::(id,some (OQ p (.own (2*nx)) (.own (2*(nx+1))) (.own (2*(nx+1+1))) .nil))::(2*(nx+1+1),some (.row true 1 (.view [])))::(id,some (OQ p (.own (2*nx)) (.own (2*(nx+1))) .nil .nil))::(2*(nx+1),some (.row true 1 (.view [])))::(id,some (OQ p (.own (2*nx)) .nil .nil .nil))::(2*nx,some (.row true 3 (.view [])))::Hh) (2*(nx+1+1+1)) (z:=17) (V:=[]) (by rw[Hp.kL hid,Hp.au,an]);exact⟨_,_,_,_,(((s1.trans s2).trans s3).trans s4).trans s5⟩
noncomputable def mU (p:Pl):List En->bV->List En->bV × Nat × Int
 |_,s,[]=>(s,0,0)
 |log,s,e::r=>if(ib p log s e).2=0 then mU p (log++[e]) (ib p log s e).1 r else(s,log.length,(ib p log s e).2)
noncomputable def dh (p:Pl)(l:List En):bV × Nat × Int:=if(p.err jb).2≠0 then(Go.Plain.fQ,0,(p.err jb).2)else if 60<l.length then(Go.Plain.fQ,0,8)else mU p [] Go.Plain.fQ l
def I3 {p:Pl}{s:bV}{l:List En}{i:Nat}(h:i<l.length):mU p (l.take i) s (l.drop i)=if(ib p (l.take i) s (l.getD i iX)).2=0 then mU p (l.take (i+1)) (ib p (l.take i) s (l.getD i iX)).1 (l.drop (i+1))else(s,i,(ib p (l.take i) s (l.getD i iX)).2):=by
 have hd:l.drop i=l.getD i iX::l.drop (i+1):=by simp_all
 have ht:l.take (i+1)=l.take i++[l.getD i iX]:=by grind
 have bD:(l.take i).length =i:=by grind
 rw[hd,ht];show(if _ then _ else(s,(l.take i).length,_))=_
 grind
def FM {p:Pl}{log:List En}{s:bV}(hS:SB p log s)(e:En):(ib p log s e).1.units.length <=1000:=by
 have hu:=hS.units;unfold ib;split
 grind
 ·obtain⟨et,ew,tx⟩:=e
  rcases Fy EE p log s et ew tx with⟨h1,h2⟩|⟨h1,h2,h3,h4,h5⟩
  grind
  ·rw[h5];unfold Uo;dsimp only;split
   grind
   ·split
    ·show s.units.length<=1000;omega
    ·rename_i a n q _;have:=Fz EE p log s (lB ((aH 32 tx).getD 0 [])) a n q;omega
def FN {T:Hp}(hT:LB T 1):cZ (sG (ah T) λk=>k) T.get T.get:=by
 have h:=(nf.hp hT (ρ:=λk=>k) (λ_ _ _ _ e=>e)).ok
 have e:(cT (λk=>k) T).get =T.get:=by
  funext k;by_cases hk:k∈ah T
  ·rw[jQ (ρ:=λk=>k) (λ_ _ _ _ e=>e) k hk]
   cases hb:T.get k with
   |none=>rfl
   |some b=>simp[cC.LN]
  ·rw[Hp.get_none (by show k∉ah _;grind[dp]),Hp.get_none hk]
 grind
def aa8 {E E':dS}{nx n':Nat}{p:Pl}{log:List En}{s:bV}{ks:List Nat}(hl:s.units.length<=1000)(h0:Nat.blt 0 n'=true)(hE:eZ (sG (ah (form p log s)) λk=>k) E.get ks=some E'):bu ⟨E,form p log s,nx⟩ ⟨E',form p log s,n'⟩:=by
 have hT:=cN p log hl;refine CP (FN hT) (λq hq=>?_) hE;obtain⟨o,n⟩:=q;obtain⟨h1,h2⟩:=jZ.1 hq;show Fw.tag n<n';rw[h2];show Fw.tag o<n';rw[(hT.lt o h1).2];simp_all
def OR (y:bV × Nat × Int):DV:=if y.2.2=0 then .aI [(false,[.ptr 1 0]),dyn (I (0:Nat)),dyn (I 0)]else .aI [(false,[.st (.lit (.pointer none))]),dyn (I y.2.1),dyn (I y.2.2)]
def KW (p:Pl)(l:List En)(y:bV × Nat × Int):Hp:=if y.2.2=0 then form p l y.1 else []
def KX (p:Pl)(l:List En)(hs:gz p)(hP:(p.err jb).2=0->PB p)(hl:l.length<=1000)(ht: ∀e∈l,e.text.length<=100000):
  bA cx 30 1 [dyn (true,bL p),(false,[.st (.view (l.map cd))])] [] [] (OR (dh p l)) (KW p l (dh p l)):=by
 have hn:(l.map cd).length =l.length:=by simp
 have c1:=FC hs;unfold dh;generalize p.err jb=pe at*;obtain⟨pi,pz⟩:=pe;have c1:ac 47 [(true,bL p)] (.aI [I pi,I pz]):=c1;dsimp only at hP;by_cases h1:pz=0
 ·subst h1;rw[if_neg (by simp)];have hP:=hP rfl;by_cases h2:60<l.length
  ·rw[if_pos h2];show bA _ _ _ _ _ _ (.aI [(false,[.st (.lit (.pointer none))]),dyn (I (0:Nat)),dyn (I 8)]) [];refine gR f30 ?_;exact tL
  ·rw[if_neg h2];refine gR f30 ?_;repeat' ((first|(refine kO 7 rfl ?_;first|refine gu (λ_ z=>⟨_,_,_,(mw _ _ p),z⟩) ?_)|refine tX 0 ?_|exact Zt|refine bR ?_ ?_<;>intro h)<;>(try conv=>whnf))
   all_goals try(exfalso;omega)
   refine af (ι:=Nat × bV) (λq=>q.1<=l.length/\SB p (l.take q.1) q.2/\mU p (l.take q.1) q.2 (l.drop q.1)=mU p [] Go.Plain.fQ l) (λq=>l.length -q.1)
    (λq=>⟨[(9,pP 1),(26,some (.val (false,[.st (.view (l.map cd))]))),(27,vI l.length),(28,vI q.1)],form p (l.take q.1) q.2,1000⟩) (0,Go.Plain.fQ)
    (by
     refine Exists.elim (aa7 36 (p:=p) ?hid ?hB) λB3 h=>h.elim λB2 h=>h.elim λB1 h=>h.elim λR4 h=>bu.trans h (WU (ks:=[9,26,27,28]) (un:=52) (m:=[(36,1),(46,3),(48,5),(50,7)]) (s:=Go.Plain.fQ) (log:=l.take 0) (dz _) dy rfl dy K41 dy dy P3);case hB=>rfl
     case hid=>decide) ⟨dz _,FB p,rfl⟩ ?_
   rintro⟨i,s⟩ ⟨hi,hS,hR⟩;dsimp only at hi hS hR ⊢;by_cases al:i<l.length
   ·have he:=aZ (f:=cd) al iX;have eG:=I3 (p:=p) (s:=s) al;rw[hR]at eG;have hem:l.getD i iX∈l:=by grind
    have ha:=FA p (l.take i) s hP hS (l.getD i iX) (ht _ hem);have B9:=λs' h=>RD (s':=s') hP hS (l.getD i iX) h;have z6:l.take i++[l.getD i iX]=l.take (i+1):=by simp_all
    rw[z6]at B9;have hu:s.units.length<=1000:=by exact Yr
    have XA:(ib p (l.take i) s (l.getD i iX)).1.units.length <=1000:=FM hS _;unfold WM at ha;rw[z6]at ha;generalize l.getD i iX=e at*;generalize ib p (l.take i) s e=y at*;obtain⟨s',z⟩:=y;obtain⟨et,ew,tx⟩:=e;dsimp only at ha eG XA;have hT:=cN p (l.take i) hu;by_cases hz:z=0
    ·subst hz;rw[if_pos rfl]at ha eG;have eP:=cN p (l.take (i+1)) XA;have hS':=(B9 s' rfl).1;have ce:=λfid H hO hf=>ol (fid:=fid) (H:=H) ha hu XA hf hO;clear ha B9;repeat' ((first|refine tX 0 ?_|exact Zt|refine bR ?_ ?_<;>intro h)<;>(try conv=>whnf))
     all_goals try(exfalso;omega)
     repeat((first|(refine kO 7 rfl ?_;first|refine oa (λ_ z=>⟨_,_,_,(ce _ _ K68 (fj rfl)),z⟩) ?_)|refine tX 2 ?_|exact Zt);(try conv=>whnf))
     refine aM ?_;(refine aR ?_;conv=>whnf);(try(refine tX 2 ?_;try exact Zt));refine⟨_,vQ (E':=[(9,pP 1),(10,vI i),(12,vI 0),(26,some (.val (false,[.st (.view (l.map cd))]))),(27,vI l.length),(28,vI i),(37,some (lit (.bool (0 != 0))))]) (ks:=[9,10,12,26,27,28,37]) (n':=1000) hT eP (fj rfl) rfl dy,?_⟩;repeat' ((first|refine tX 0 ?_|exact Zt|refine bR ?_ ?_<;>intro h)<;>(try conv=>whnf))
     all_goals try(exfalso;omega)
     exact⟨(i+1,s'),⟨al,hS',eG.symm⟩,by grind,aa8 (ks:=[9,26,27,28]) XA rfl dy⟩
    ·rw[if_neg hz]at ha eG;have eP:=cN p (l.take i) XA;have ce:=λfid H hO hf=>ol (fid:=fid) (H:=H) ha hu XA hf hO;clear ha B9;rw[eG,show OR (s,i,z)= .aI [(false,[.st (.lit (.pointer none))]),dyn (I (i:Nat)),dyn (I z)]from if_neg hz,show KW p l (s,i,z)= []from if_neg hz];repeat' ((first|refine tX 0 ?_|exact Zt|refine bR ?_ ?_<;>intro h)<;>(try conv=>whnf))
     all_goals try(exfalso;omega)
     repeat((first|(refine kO 7 rfl ?_;first|refine oa (λ_ z=>⟨_,_,_,(ce _ _ K68 (fj rfl)),z⟩) ?_)|refine tX 2 ?_|exact Zt);(try conv=>whnf))
     refine aM ?_;(refine aR ?_;conv=>whnf);(try(refine tX 2 ?_;try exact Zt));refine⟨_,vQ (E':=[(9,pP 1),(10,vI i),(12,vI z),(26,some (.val (false,[.st (.view (l.map cd))]))),(27,vI l.length),(28,vI i),(37,some (lit (.bool (z != 0))))]) (ks:=[9,10,12,26,27,28,37]) (n':=1000) hT eP (fj rfl) rfl dy,?_⟩;exact tL
   ·obtain rfl:i=l.length:=by omega
    rw[L9]at hR;have hR:(s,0,0)=mU p [] Go.Plain.fQ l:=hR;rw[<- hR,show OR (s,0,0)= .aI [(false,[.ptr 1 0]),dyn (I (0:Nat)),dyn (I 0)]from rfl,show KW p l (s,0,0)=form p l s from rfl,mB];have hT:=cN p l (s:=s) Yr;repeat' ((first|refine tX 0 ?_|exact Zt|refine bR ?_ ?_<;>intro h)<;>(try conv=>whnf))
    all_goals first|exact Zo|exact⟨_,FN hT,_,rfl,rfl⟩
 ·rw[if_pos h1];have e1:OR (Go.Plain.fQ,0,pz)= .aI [(false,[.st (.lit (.pointer none))]),dyn (I (0:Nat)),dyn (I pz)]:=if_neg h1;have e2:KW p l (Go.Plain.fQ,0,pz)= []:=if_neg h1;rw[e1,e2];refine gR f30 ?_;exact tL
def Uv {p:Pl}(hP:PB p): ∀ {r log:List En} {s:bV},SB p log s->(mU p log s r).2.2=0->SB p (log++r) (mU p log s r).1
 | [],log,s,hS,_=>by rw[yb];exact hS
 |e::r,log,s,hS,h=>by
  unfold mU at h ⊢;by_cases hz:(ib p log s e).2=0
  ·rw[if_pos hz]at h ⊢;have:=(RD (s':=(ib p log s e).1) hP hS e (by rw[<- hz])).1;have g:=Uv hP this h;rwa [HB]at g
  ·rw[if_neg hz]at h;exact absurd h hz
def CV {p:Pl}{l:List En}(hP:(p.err jb).2=0->PB p)(h:(dh p l).2.2=0):SB p l (dh p l).1/\(p.err jb).2=0:=by
 unfold dh at h ⊢;by_cases h1:(p.err jb).2=0
 ·rw[if_neg (Df h1)]at h ⊢;by_cases h2:60<l.length
  ·rw[if_pos h2]at h;exact absurd h bX
  ·rw[if_neg h2]at h ⊢;exact⟨Uv (hP h1) (FB p) h,h1⟩
 ·rw[if_pos h1]at h;exact absurd h h1
def FO {p:Pl}{l:List En}{s:bV}(h:s.units.length<=1000):Na (form p l s):=by
 have hT:=cN p l h;refine⟨hT.nd,λk hk=>⟨?_,hT.lt k hk⟩,hT.dQ⟩;rw[qC]at hk;simp only[cF]at hk;rcases hk with rfl|rfl|rfl|rfl|rfl|h'
 ·decide
 ·decide
 ·decide
 ·decide
 ·decide
 ·obtain⟨j,q1,q2,q3⟩:=gh h';omega
def adW {p:Pl}{l:List En}(hP:(p.err jb).2=0->PB p):Na (KW p l (dh p l)):=by
 unfold KW;by_cases h:(dh p l).2.2=0
 ·rw[if_pos h];exact FO ajB
 ·rw[if_neg h];exact⟨by simp,(λk hk=>by cases hk),(λk b e=>by simp[Hp.get]at e)⟩
def FP (H:HF)(fid:Nat){p:Pl}{l:List En}(hs:gz p)(hP:(p.err jb).2=0->PB p)(hl:l.length<=1000)(ht: ∀e∈l,e.text.length<=100000):
  bI cx fid 30 [dyn (true,bL p),(false,[.st (.view (l.map cd))])] H (LA (aq (tag fid) 0) (OR (dh p l))) (cH [] (cT (aq (tag fid) 0) (KW p l (dh p l)))) []:=by
 refine Go.Fw.mw (KX p l hs hP hl ht) (adW hP) (λx hx=>?_) ?_
 ·rcases cF.1 hx with rfl|hx
  ·exact bd _
  ·have:x=(false,[.st (.view (l.map cd))]):=by simpa using hx
   subst this;exact aiU
 ·unfold OR KW;by_cases h:(dh p l).2.2=0
  ·rw[if_pos h,if_pos h];intro x hx;simp only[cF,jN,jO]at hx;rcases hx with rfl|rfl|rfl
   ·intro d hd;have:d= .ptr 1 0:=by simpa using hd
    subst this;exact(cN p l ajB).xW
   ·exact bd _
   ·exact bd _
  ·rw[if_neg h,if_neg h];intro x hx;simp only[cF,jN,jO]at hx;rcases hx with rfl|rfl|rfl
   ·exact K56
   ·exact bd _
   ·exact bd _
def sn {p:Pl}{l:List En}(hs:gz p)(hP:(p.err jb).2=0->PB p)(hl:l.length<=1000)(ht: ∀e∈l,e.text.length<=100000)(hi:(dh p l).2.2=0->(dh p l).2.1=0):
  ac 14 [(true,bL p),(false,[.view (l.map cd)])] (.aI [I (dh p l).2.1,I (dh p l).2.2]):=by
 have c1:=λH fid=>FP H fid hs hP hl ht;generalize dh p l=y at*;obtain⟨s,i,z⟩:=y;dsimp only at hi;by_cases hz:z=0
 ·subst hz;obtain rfl:=hi rfl;have c2:=λH fid=>show bI cx fid 30 [dyn (true,bL p),(false,[.st (.view (l.map cd))])] H (.aI [(false,[.ptr (aq (tag fid) 0 1) 0]),dyn (I (0:Nat)),dyn (I 0)]) _ _ from c1 H fid;exact ahN
 ·have c2: ∀H fid,bI cx fid 30 [dyn (true,bL p),(false,[.st (.view (l.map cd))])] H (.aI [(false,[.st (.lit (.pointer none))]),dyn (I (i:Nat)),dyn (I z)]) _ _:=λH fid=>by
   have:=c1 H fid;rw[show OR (s,i,z)= .aI [(false,[.st (.lit (.pointer none))]),dyn (I (i:Nat)),dyn (I z)]from if_neg hz]at this;exact this
  exact ahN
def sW {fn:Func}{f:FuncId}{c:Code}{args:List SV}{r:mc}(h:m9 cx c (entry args) (λS=>acS cx fn S λr'=>r'=r) (λ_ _=>False) (λS=>acS cx fn S λr'=>r'=r))
  (h1:iI cx.P f=true:=by kernel_rfl)(h2:cx.P.funcs[f]? =some fn:=by kernel_rfl)(h3:fn.body=some c:=by rfl)(h4:bQ fn.ntmps c=true:=by kernel_rfl)(h5:args.length<=fn.ntmps:=by exact fM rfl):ac f args r:=
 M9 kz h1 h2 h3 h4 h5 h
def FQ: ∀ {k:Nat} {us:List Un} {i:Nat} {u:Un},us[i]? =some u->(bt k us).get (17+6*(k+i))=some (.row true 1 (.view (ab u.lots)))/\(bt k us).get (19+6*(k+i))=some (.row true 4 (.view (u.res.map kg)))/\(bt k us).get (21+6*(k+i))=some (.row true 5 (.view (u.gas.map tp)))
 |k,[],i,u,h=>by grind
 |k,v::us,0,u,h=>by
  simp at h;subst h;have e:bt k (v::us)=lC v (17+6*k) (19+6*k) (21+6*k)++bt (k+1) us:=rfl;rw[e];refine⟨?_,?_,?_⟩
  ·show Hp.get ((17+6*k,_)::_) (17+6*k)=_;exact P4
  ·show Hp.get ((17+6*k,_)::(19+6*k,_)::_) (19+6*k)=_;rw[Hp.kL K0,Hp.au,an]
  ·show Hp.get ((17+6*k,_)::(19+6*k,_)::(21+6*k,_)::_) (21+6*k)=_;rw[Hp.kL K0,Hp.kL K0,Hp.au,an]
 |k,v::us,i+1,u,h=>by
  obtain⟨h1,h2,h3⟩:=FQ (k:=k+1) (us:=us) (i:=i) (u:=u) bw;rw[show k+1+i=k+(i+1)by omega]at h1 h2 h3
  have sk: ∀n,23+6*k<=n->(bt k (v::us)).get n=(bt (k+1) us).get n:=λn hn=>by
   show Hp.get ((17+6*k,_)::(19+6*k,_)::(21+6*k,_)::bt (k+1) us) n=_
   grind[Hp.kL]
  grind
theorem FR (u:Un): ∀c∈jB u,c.flat=true:=by
 intro c hc;simp only[jB,cF,jN,jO]at hc;rcases hc with rfl|rfl|rfl|rfl|rfl|rfl|rfl|rfl|rfl|rfl|rfl|rfl|rfl|rfl|rfl|rfl|rfl<;>rfl
theorem uU {H:HF}{R:List Nat}{u:Un}{a b c:Nat}(hR:a∈R/\b∈R/\c∈R)(ha:H a=some (.row true 1 (.view (ab u.lots))))(hb:H b=some (.row true 4 (.view (u.res.map kg))))(hc:H c=some (.row true 5 (.view (u.gas.map tp)))):
  ∀(k:Nat) (d:DC) (x:SC),(cV u a b c)[k]? =some d->(jB u)[k]? =some x->Full H R d x:=
 ak (.st _)<|ak (.st _)<|ak (.st _)<|ak (.st _)<|ak (.st _)<|ak (.st _)<|ak (.st _)<|ak (.st _)<|ak (.st _)<|ak (.st _)<|ak (.row hR.1 ha)<|ak (.row hR.2.1 hb)<|ak (.st _)<|ak (.st _)<|ak (.st _)<|ak (.st _)<|ak (.row hR.2.2 hc) jl
def FT {H:HF}{R:List Nat}{us:List Un}(h9:H 9=some (.az 17 (ay 0 us)))(hR9:9∈R)(hRr: ∀k∈ah (bt 0 us),k∈R)(hr: ∀k∈ah (bt 0 us),H k=(bt 0 us).get k):Full H R (.own 9) (.view (us.map jB)):=by
 have C4: ∀ {i:Nat} {e:List DC} {e':List SC},(ay 0 us)[i]? =some e->(us.map jB)[i]? =some e'->∃u,us[i]? =some u/\e=cV u (17+6*(0+i)) (19+6*(0+i)) (21+6*(0+i))/\e'=jB u:=λ{i e e'} h h'=>by
  rw[gA,m7]at h';obtain⟨u,hu,rfl⟩:=h';have:=vu (k:=0) hu
  grind
 refine .az hR9 h9 (by rw[jf,eN]) (λi e e' h h'=>?_) (λi e e' k d c h h' hd hc=>?_) (λi e' k c h' hc=>?_)
 ·obtain⟨u,_,rfl,rfl⟩:=C4 h h';rfl
 ·obtain⟨u,hu,rfl,rfl⟩:=C4 h h';obtain⟨g1,g2,g3⟩:=FQ (k:=0) hu
  grind[Hp.dU,uU]
 grind[FR]
abbrev so (s:bV):List DC:=[.st (K s.volt),.st (K s.earth),.own 5,.st (T s.hall),.own 7,.own 9]
def adX {H:HF}{R:List Nat}{s:bV}(h5:H 5=some (.row true 1 (.view (ab s.opens))))(h7:H 7=some (.row true 1 (.view (ab s.lots))))(h9:H 9=some (.az 17 (ay 0 s.units)))(hR:5∈R/\7∈R/\9∈R)(hRr: ∀k∈ah (bt 0 s.units),k∈R)(hr: ∀k∈ah (bt 0 s.units),H k=(bt 0 s.units).get k):
  yL H R (true,so s) (true,tq s):=
 ⟨rfl,rfl,ak (.st _)<|ak (.st _)<|ak (.row hR.1 h5)<|ak (.st _)<|ak (.row hR.2.1 h7)<|ak (FT h9 hR.2.2 hRr hr) jl⟩
def vR {fid nx n':Nat}{p:Pl}{l:List En}{s:bV}{R hp:Hp}{E E':dS}{ks:List Nat}(hl:s.units.length<=1000)(hR:Go.Fw.eM (ah R)=true)(hRk:((ah R).all λk=>Nat.blt 0 (tag k)&&(!Nat.beq (tag k) (tag fid)&&Nat.blt (tag k) n'))=true)
  (hRg: ∀(id:Nat) (b:cC),R.get id=some b->hp.get id=some b/\b.dQ λk=>k∈ah R)(hn:Nat.blt 0 n'=true)(hE:eZ (gw (aq (tag fid) 0) (form p l s) R) E.get ks=some E'):
  bu ⟨E,cH [] (cT (aq (tag fid) 0) (form p l s))++hp,nx⟩ ⟨E',R++form p l s,n'⟩:=by
 have hT:=FO (p:=p) (l:=l) hl
 have hX0: ∀k∈ah R,0<tag k/\tag k≠tag fid/\tag k<n':=λk hk=>by
  have:=tM.1 hRk k hk;simp only[sU,Bj,Bool.not_eq_true']at this;refine⟨this.1,λe=>?_,this.2.2⟩;simp_all
 refine(acU (R:=R) (n':=n') hT (bY hR) (λk hk=>?_) hRg (by simp_all) hE).trans (CN ?_)
 ·obtain⟨h1,h2,h3⟩:=hX0 k hk;exact⟨λh=>by have:=(hT.lt k h).2.2;omega,h2,h3⟩
 ·have:=qA (A:=form p l s) (F':=R) (B:=[]) (λn hn hm=>by
   have h1:=(hX0 n hn).1;have h2:=(hT.lt n hm).2.2
   omega)
  grind
def B7 {p:Pl}{l:List En}(hs:gz p)(hP:(p.err jb).2=0->PB p)(hl:l.length<=1000)(ht: ∀e∈l,e.text.length<=100000):
  ac 10 [(true,bL p),(false,[.view (l.map cd)])] (.aI [(true,tq (if(dh p l).2.2=0 then(dh p l).1 else st0)),I (dh p l).2.2]):=by
 have c1:=λH fid=>FP H fid hs hP hl ht;have B9:=λh=>(CV (p:=p) (l:=l) hP h).1;generalize dh p l=y at*;obtain⟨s,i,z⟩:=y;dsimp only at B9 ⊢;by_cases hz:z=0
 ·subst hz;rw[if_pos rfl];have hu:s.units.length<=1000:=by have:=(B9 rfl).units;omega
  clear B9;have c2:=λH fid=>show bI cx fid 30 [dyn (true,bL p),(false,[.st (.view (l.map cd))])] H (.aI [(false,[.ptr (aq (tag fid) 0 1) 0]),dyn (I (0:Nat)),dyn (I 0)]) (cH [] (cT (aq (tag fid) 0) (form p l s))) _ from c1 H fid;obtain⟨volt,earth,opens,hall,lots,units⟩:=s;refine sW (fn:=f10) ?_;repeat' ((first|refine tX 0 ?_|exact Zt|refine bR ?_ ?_<;>intro h)<;>(try conv=>whnf))
  repeat((first|(refine kO 7 rfl ?_;first|refine Rw (c2 _ _) ?_)|refine tX 2 ?_|exact Zt);(try conv=>whnf))
  refine aS ?_;refine aM ?_;(refine aR ?_;conv=>whnf);(try(refine tX 2 ?_;try exact Zt))
  refine⟨_,vR (R:=[(2,some (.box 35 [.st (K false),.st (K false),.nil,.st (T []),.nil,.nil]))]) (E':=[(4,pP 2),(6,pP 1),(8,vI 0),(17,some (lit (.bool (0 != 0))))]) (ks:=[4,6,8,17]) (n':=1000) hu rfl rfl (λid b e=>by
   obtain⟨rfl,rfl⟩:=fJ e;refine⟨rfl,λd hd=>?_⟩;simp only[cF,jN,jO]at hd
   rcases hd with rfl|rfl|rfl|rfl|rfl|rfl<;>trivial) rfl dy,?_⟩
  repeat' ((first|refine tX 0 ?_|exact Zt|refine bR ?_ ?_<;>intro h)<;>(try conv=>whnf))
  all_goals exact⟨[(true,tq ⟨volt,earth,opens,hall,lots,units⟩),I 0],5::7::9::ah (bt 0 units),bp (adX rfl rfl rfl ⟨by simp,by simp,by simp⟩ (λk hk=>by simp only[cF];exact .inr (.inr (.inr hk))) (λk hk=>gY.get K41 (fW hu) k hk)) (bp (ia _) gZ),rfl,rfl⟩
 ·rw[if_neg hz]
  have c2: ∀H fid,bI cx fid 30 [dyn (true,bL p),(false,[.st (.view (l.map cd))])] H (.aI [(false,[.st (.lit (.pointer none))]),dyn (I (i:Nat)),dyn (I z)]) [] []:=λH fid=>by
   have:=c1 H fid;rw[show OR (s,i,z)= .aI [(false,[.st (.lit (.pointer none))]),dyn (I (i:Nat)),dyn (I z)]from if_neg hz,show KW p l (s,i,z)= []from if_neg hz]at this;exact this
  refine sW (fn:=f10) ?_;repeat' ((first|(refine kO 7 rfl ?_;first|refine Rh (c2 _ _) ?_)|refine tX 0 ?_|exact Zt|refine bR ?_ ?_<;>intro h)<;>(try conv=>whnf))
  all_goals first|exact Zo|skip
  all_goals exact⟨[(true,tq st0),I z],[],bp ⟨rfl,rfl,ak (.st _)<|ak (.st _)<|ak (.nil false)<|ak (.st _)<|ak (.nil false)<|ak (.nil false) jl⟩ (bp (ia _) gZ),rfl,rfl⟩
def O6 {a b:Int × Int}:(o9 a b).2=0↔a.2=0/\b.2=0:=by
 unfold o9;by_cases h:a.2=0
 ·rw[if_neg (Df h)];exact⟨λe=>⟨h,e⟩,λe=>e.2⟩
 ·rw[if_pos h];exact⟨λe=>absurd e h,λe=>absurd e.1 h⟩
def Uz {c:Prop} [Decidable c]{k:Int}(h:(if c then(0:Int)else k)=0)(hk:k≠0):c:=by
 by_cases e:c
 ·exact e
 ·rw[if_neg e]at h;exact absurd h hk
def agV {α:Type}{l:List α}{i:Nat}{d:α}(h:i<l.length):l.getD i d∈l:=by rw[jX,o8 h];exact pd _
def sv {α:Type}{l:List α}{x d:α}(h:x∈l): ∃i,i<l.length/\l.getD i d=x:=by
 obtain⟨i,hi,e⟩:=Jl.1 h;exact⟨i,hi,by rw[jX,o8 hi];exact e⟩
section
variable {p:Pl}
def O7 (h:(p.err jb).2=0):(∀i<p.ae.length,p.du i=0)/\(∀i<p.aa.length,p.gE jb i=0)/\0<=p.eH/\p.eH<=1000000000000:=by
 unfold Pl.err at h;obtain⟨_,h⟩:=O6.1 h;obtain⟨h2,h⟩:=O6.1 h;obtain⟨_,h⟩:=O6.1 h;obtain⟨_,h⟩:=O6.1 h;obtain⟨_,h⟩:=O6.1 h;obtain⟨h6,h⟩:=O6.1 h;obtain⟨_,h⟩:=O6.1 h;obtain⟨_,h9⟩:=O6.1 h;exact⟨oQ h2,oQ h6,(Uz h9 bX).2⟩
def Lh (h:(p.err jb).2=0): ∀q∈p.ae,0<=q.2:=λq hq=>by
 obtain⟨i,hi,e⟩:=sv (d:=([],0)) hq;have:=(O7 h).1 i hi;unfold Pl.du at this;have:=Uz (wE.1 this).2 bX;rw[<- e];exact this.1
def UA {l:List aj}(h: ∀i<l.length,gQ l i=0){i j:Nat}(PS:i<j)(hj:j<l.length):l.getD i []≠l.getD j []:=λe=>by
 have h1:=(wE.1 (h j hj)).2;have hi:i<l.length:=by omega
 have hm:l.getD j []∈l.take j:=by
  rw[<- e];refine Jl.2 ⟨i,by rw[Dc];omega,?_⟩;rw[List.getElem_take];simp[jX,hi]
 rw[if_pos hm]at h1;exact absurd h1 bX
theorem Ga (hs:gz p)(h:(p.err jb).2=0):PB p:=by
 obtain⟨_,ht,hl⟩:=O7 h;have hT: ∀i<p.aa.length,gQ (cU p.aa) i=0/\VK jb p.aa i=0:=λi hi=>wE.1 (ht i hi);have bD:(cU p.aa).length =p.aa.length:=by simp[cU]
 refine⟨hs.pe,hs.ga,hs.te,hs.pa,λq hq=>?_,λt PO=>?_,hl,λt PO=>?_,λt PO=>?_,λt PO t' ht2 e=>?_,λt PO hk=>?_⟩
 ·obtain⟨i,hi,e⟩:=sv (d:=([],[])) hq;rw[<- e];exact hs.qv i hi
 ·obtain⟨i,hi,e⟩:=sv (d:=dl) PO;rw[<- e];exact hs.td i hi
 ·obtain⟨i,hi,e⟩:=sv (d:=dl) PO;rw[<- e];exact hs.tr i hi
 ·obtain⟨i,hi,e⟩:=sv (d:=dl) PO;have:=Uz (wE.1 (hT i hi).2).1 bX;rw[<- e];exact this
 ·obtain⟨i,hi,e1⟩:=sv (d:=dl) PO;obtain⟨j,hj,e2⟩:=sv (d:=dl) ht2;have g1:=rN hi;have g2:=rN hj;rw[e1]at g1;rw[e2]at g2;rcases S4 i j with PS|rfl|PS
  ·exact absurd (by rw[g1,g2,e]) (UA (λk hk=>(hT k K0).1) PS K0)
  ·rw[<- e1,<- e2]
  ·exact absurd (by rw[g1,g2,e]) (UA (λk hk=>(hT k K0).1) PS K0)
 ·obtain⟨i,hi,e1⟩:=sv (d:=dl) PO;have wq:=(hT i hi).2;unfold VK at wq;dsimp only at wq;rw[e1]at wq;obtain⟨_,h2⟩:=wE.1 wq;obtain⟨ha,h3⟩:=wE.1 h2;obtain⟨hc,_⟩:=wE.1 h3;unfold QG at hc;rw[if_pos hk]at hc
  cases hn:t.bv with
  |nil=>rw[hn,if_pos (by rfl)]at hc;exact absurd hc bX
  |cons n0 nd=>
   rw[hn]at hc ha;rw[if_neg (by simp)]at hc;have hc:=Uz hc bX
   have hm:n0∈(cU p.aa).take i:=by
    have:=oQ (f:=Ez (n0::nd) ((cU p.aa).take i)) ha 0 (by simp);unfold Ez at this;by_cases g:(n0::nd).getD 0 []∈(cU p.aa).take i
    ·exact g
    ·rw[if_neg g]at this;exact absurd this bX
   obtain⟨k,qU,ek⟩:=k9 (Ca hm);have ek':be (cU p.aa) ((n0::nd).getD 0 [])=(k:Int):=ek;rw[ek',tK]at hc;refine⟨n0,nd,rfl,p.aa.getD k dl,agV (by rw[<- bD];exact qU),?_,hc⟩;rw[<- rN (by rw[<- bD];exact qU)]
   have hko:k=(cU p.aa).idxOf n0:=by
    unfold be at ek;rw[if_pos (Ca hm)]at ek;omega
   subst hko;rw[getD_at qU];exact List.getElem_idxOf qU
end
def O9 {p:Pl}: ∀ {r log:List En} {s:bV},(mU p log s r).2.2=0->(mU p log s r).2.1=0
 | [],_,_,_=>rfl
 |e::r,log,s,h=>by
  unfold mU at h ⊢;by_cases hz:(ib p log s e).2=0
  ·rw[if_pos hz]at h ⊢;exact O9 h
  ·rw[if_neg hz]at h;exact absurd h hz
def uY {p:Pl}{l:List En}(h:(dh p l).2.2=0):(dh p l).2.1=0:=by
 unfold dh at h ⊢;split
 ·rfl
 ·rename_i h1;rw[if_neg h1]at h;split
  ·rfl
  ·rename_i h2;rw[if_neg h2]at h;exact O9 h
noncomputable def wj (p:Pl)(l:List En):bV:=(dh p l).1
def Gb {p:Pl}: ∀ {a log:List En} {s:bV} (b:List En),(mU p log s (a++b))=if(mU p log s a).2.2=0 then mU p (log++a) (mU p log s a).1 b else mU p log s a
 | [],log,s,b=>by rw[Md,yb];exact(if_pos rfl).symm
 |e::a,log,s,b=>by
  rw[qX];have e1: ∀r,mU p log s (e::r)=if(ib p log s e).2=0 then mU p (log++[e]) (ib p log s e).1 r else(s,log.length,(ib p log s e).2):=λ_=>rfl
  rw[e1,e1];by_cases hz:(ib p log s e).2=0
  ·rw[if_pos hz,if_pos hz,Gb b,HB];rfl
  ·rw[if_neg hz,if_neg hz,if_neg hz]
def sw {p:Pl}{l:List En}(h:(dh p l).2.2=0):dh p l=(wj p l,0,0)/\(p.err jb).2=0/\l.length<=60/\mU p [] Go.Plain.fQ l=dh p l:=by
 have hi:=uY h;refine⟨Prod.ext rfl (Prod.ext hi h),?_⟩;unfold dh at h ⊢;by_cases h1:(p.err jb).2=0
 ·rw[if_neg (Df h1)]at h ⊢;by_cases h2:60<l.length
  ·rw[if_pos h2]at h;exact absurd h bX
  ·rw[if_neg h2];exact⟨h1,by omega,rfl⟩
 ·rw[if_pos h1]at h;exact absurd h h1
def o6 {p:Pl}{l:List En}(h:(dh p l).2.2=0)(i:Nat):(dh p (l.take i)).2.2=0:=by
 obtain⟨_,h1,h2,h3⟩:=sw h;have hl:(l.take i).length <=60:=by rw[Dc];omega
 unfold dh;rw[if_neg (Df h1),if_neg K0];rw[<- h3]at h;rw[<- L2 i l,Gb]at h;by_cases hz:(mU p [] Go.Plain.fQ (l.take i)).2.2=0
 ·exact hz
 ·rw[if_neg hz]at h;exact absurd h hz
def Pa {p:Pl}{l:List En}(h:(dh p l).2.2=0)(e:En):dh p (l++[e])=if(ib p l (wj p l) e).2=0 then((ib p l (wj p l) e).1,0,0)else if 60<=l.length then(Go.Plain.fQ,0,8)else(wj p l,l.length,(ib p l (wj p l) e).2):=by
 obtain⟨h0,h1,h2,h3⟩:=sw h;by_cases h6:60<=l.length
 ·have ha:ib p l (wj p l) e=(wj p l,8):=if_pos h6;rw[ha,if_neg (show ¬(8:Int)=0 by decide),if_pos h6];unfold dh;rw[if_neg (Df h1),if_pos ai7]
 ·rw[if_neg h6];unfold dh;rw[if_neg (Df h1),if_neg ai7,Gb,h3,h0,if_pos rfl,Md];unfold mU;by_cases hz:(ib p l (wj p l) e).2=0
  ·rw[if_pos hz,if_pos hz];rfl
  ·rw[if_neg hz,if_neg hz]
def Pb {p:Pl}{l:List En}(h:(dh p l).2.2=0){i:Nat}(hi:i<l.length):(ib p (l.take i) (wj p (l.take i)) (l.getD i iX)).2=0/\wj p (l.take (i+1))=(ib p (l.take i) (wj p (l.take i)) (l.getD i iX)).1:=by
 have ht:l.take (i+1)=l.take i++[l.getD i iX]:=by rw[Db,o8 hi];simp[jX,hi]
 have h1:=o6 h (i+1);have h2:=Pa (o6 h i) (l.getD i iX);rw[<- ht]at h2
 have hz:(ib p (l.take i) (wj p (l.take i)) (l.getD i iX)).2=0:=by
  apply aev;intro hn;rw[if_neg hn]at h2;rw[h2]at h1;split at h1
  ·exact absurd h1 bX
  ·exact hn h1
 rw[if_pos hz]at h2;exact⟨hz,by rw[show wj p (l.take (i+1))=(dh p (l.take (i+1))).1 from rfl,h2]⟩
def abk {H:HF}{p:Pl}{l:List En}{s:bV}(hu:s.units.length<=1000)(h1:H 1=(form p l s).get 1)(h3:H 3=(form p l s).get 3)(h5:H 5=(form p l s).get 5)(h7:H 7=(form p l s).get 7)(h9:H 9=(form p l s).get 9)(hr: ∀k∈ah (bt 0 s.units),H k=(bt 0 s.units).get k):
  cZ (sG (ah (form p l s)) λk=>k) H (form p l s).get :=by
 have hT:=cN p l hu
 have hk: ∀k∈ah (form p l s),H k=(form p l s).get k:=λk hk=>by
  rw[qC]at hk;simp only[cF]at hk;rcases hk with rfl|rfl|rfl|rfl|rfl|h'
  ·exact h9
  ·exact h1
  ·exact h3
  ·exact h5
  ·exact h7
  ·exact(hr k h').trans (gY.get (H:=form p l s) K41 (fW hu) k h').symm
 obtain⟨a,b,c⟩:=FN hT;refine⟨a,b,λn b' e=>?_⟩;obtain⟨o,b2,q1,q2,q3⟩:=c n b' e;exact⟨o,b2,q1,(hk o (jZ.1 q1).1).trans q2,q3⟩
def Ee {p:Prop}(h:p:=by repeat first|exact gY.base _|refine gY.step rfl ?_):p:=h
def Lj {H:Hp}{us:List Un}{k:Nat}{u:Un}(hE:gY H (bt 0 us))(hu:us.length<=1000)(hk:us[k]? =some u):H.get (17+6*(0+k))=some (.row true 1 (.view (ab u.lots)))/\H.get (19+6*(0+k))=some (.row true 4 (.view (u.res.map kg)))/\H.get (21+6*(0+k))=some (.row true 5 (.view (u.gas.map tp))):=by
 obtain⟨g1,g2,g3⟩:=FQ (k:=0) hk;exact⟨(hE.get (fW hu) _ (Hp.dU g1)).trans g1,(hE.get (fW hu) _ (Hp.dU g2)).trans g2,(hE.get (fW hu) _ (Hp.dU g3)).trans g3⟩
def Ex {p:Prop}(h:p:=by exact⟨_,abk hu rfl rfl rfl rfl rfl (λk hk=>gY.get (by repeat first|exact gY.base _|refine gY.step rfl ?_) (fW hu) k hk),_,rfl,rfl⟩):p:=h
section
variable {p:Pl}{l:List En}(hs:gz p)(hP:(p.err jb).2=0->PB p)(hl:l.length<=1000)(ht: ∀e∈l,e.text.length<=100000)
include hs hP hl ht
theorem Gd {s:bV}{i:Nat}(h:dh p l=(s,i,0))(H:HF)(fid:Nat):bI cx fid 30 [dyn (true,bL p),(false,[.st (.view (l.map cd))])] H (.aI [(false,[.ptr (aq (tag fid) 0 1) 0]),dyn (I (0:Nat)),dyn (I 0)]) (cH [] (cT (aq (tag fid) 0) (form p l s))) []:=by
 have c1:=FP H fid hs hP hl ht;rw[h]at c1;exact c1
omit hs hl ht in
theorem qR {s:bV}{i:Nat}(h:dh p l=(s,i,0)):SB p l s/\s.units.length<=1000:=by
 have:=(CV (l:=l) hP (by rw[h])).1;rw[h]at this;have hu:=this.units;exact⟨this,by dsimp only at hu;omega⟩
variable {x:aj}(hx:x.length<=1000)
include hx
theorem W9 {s:bV}{i:Nat}(h:dh p l=(s,i,0))(hn:jJ x){k:Nat}(hi:be (s.units.map Un.name) x=(k:Nat)):bA cx 36 1 [dyn (true,bL p),(false,[.st (.view (l.map cd))]),dyn (SS x)] [] [] (.aI [(false,[.ptr 1 0]),(false,[.cK 9 17 k 0]),dyn (I 0)]) (form p l s):=by
 have c1:=gg x K0;have c2:=Gd hs hP hl ht h;obtain⟨_,hu⟩:=qR hP h;have c3:=λfid H=>Uk (fid:=fid) (H:=H) hu hi;unfold jF at c1;rw[if_pos hn]at c1;refine gR f36 ?_;refine aS ?_;(refine aR ?_;conv=>whnf);(try(refine tX 2 ?_;try exact Zt));refine aM ?_;(refine aR ?_;conv=>whnf);repeat((first|(refine kO 7 rfl ?_;first|refine Rw (c2 _ _) ?_)|refine tX 2 ?_|exact Zt);(try conv=>whnf))
 refine⟨_,vR (R:=[]) (E':=[(2,lS x),(9,pP 1),(11,vI 0)]) (ks:=[2,9,11]) (n':=1000) hu rfl rfl (λid b e=>by simp[Hp.get]at e) rfl dy,?_⟩;exact K88
omit hs hP hl ht hx in
theorem ad7: ∀y∈[dyn (true,bL p),(false,[.st (.view (l.map cd))]),dyn (SS x)],ec (λ_=>False) y:=λy hy=>by
 simp only[cF,jN,jO]at hy;rcases hy with rfl|rfl|rfl
 ·exact bd _
 ·exact aiU
 ·exact bd _
theorem aly {s:bV}{i:Nat}(h:dh p l=(s,i,0))(hn:jJ x){k:Nat}(hi:be (s.units.map Un.name) x=(k:Nat))(H:HF)(fid:Nat):bI cx fid 36 [dyn (true,bL p),(false,[.st (.view (l.map cd))]),dyn (SS x)] H (.aI [(false,[.ptr (aq (tag fid) 0 1) 0]),(false,[.cK (aq (tag fid) 0 9) 17 k 0]),dyn (I 0)]) (cH [] (cT (aq (tag fid) 0) (form p l s))) []:=by
 obtain⟨_,hu⟩:=qR hP h;refine Go.Fw.mw (W9 hs hP hl ht hx h hn hi) (FO hu) ad7 λy hy=>?_;simp only[cF,jN,jO]at hy;rcases hy with rfl|rfl|rfl
 ·exact amt
 ·intro d hd;have:d= .cK 9 17 k 0:=by simpa using hd
  subst this;show 9∈ah (form p l s);rw[qC];exact je
 ·exact bd _
theorem wT {s:bV}{i:Nat}(h:dh p l=(s,i,0))(hn:jJ x){k:Nat}(hi:be (s.units.map Un.name) x=(k:Nat)){u:Un}(hk:s.units[k]? =some u):
  ac 21 [(true,bL p),(false,[.view (l.map cd)]),SS x] (.aI [(false,[.view (ab (uA p u.res))]),I 0]):=by
 have c2:=aly hs hP hl ht hx h hn hi;obtain⟨hS,hu⟩:=qR hP h;have hr:u.res.length<=1000000:=by have:=(hS.unit u (jH hk)).len;omega
 have hp:=hs.te;obtain⟨M,hM⟩: ∃M,uA p u.res=M:=⟨_,rfl⟩;rw[hM];refine sW (fn:=f21) ?_;refine aS ?_;(refine aR ?_;conv=>whnf);(try(refine tX 2 ?_;try exact Zt));refine aM ?_;(refine aR ?_;conv=>whnf);repeat((first|(refine kO 7 rfl ?_;first|refine Rw (c2 _ _) ?_)|refine tX 2 ?_|exact Zt);(try conv=>whnf))
 refine⟨_,vR (R:=[]) (E':=[(8,pP 1),(9,some (.val (false,[.cK 9 17 k 0]))),(10,vI 0)]) (ks:=[8,9,10]) (n':=1000) hu rfl rfl (λid b e=>by simp[Hp.get]at e) rfl dy,?_⟩;repeat' ((first|(refine kO 7 rfl ?_;first|refine gu (λ_ z=>⟨_,_,_,(vH hM K0 hr rfl rfl rfl (vu hk) (Lj Ee hu hk).1 (Lj Ee hu hk).2.1 (Lj Ee hu hk).2.2),z⟩) ?_)|refine tX 0 ?_|exact Zt|refine bR ?_ ?_<;>intro h)<;>(try conv=>whnf))
 all_goals first|exact Zo|exact⟨[(false,[.view (ab M)]),I 0],[_],bp ⟨rfl,rfl,ak (.row je rfl) jl⟩ (bp (ia _) gZ),rfl,rfl⟩
end
abbrev wkS (p:Pl)(log:List En)(s:bV):List SC:=[.view (p.ae.map nh),.view (ab p.ap),.view (p.aa.map fB),.view (p.parts.map mj),J p.dY,J p.eH,.view (log.map cd)]++tq s
def wiF (us:List Un)(x:aj):List aj:=(us.filter λu=>decide (x∈u.lots)).map Un.name
def abl {us:List Un}{i:Nat}(h:i<us.length)(x:aj):wiF (us.take (i+1)) x=wiF (us.take i) x++(if x∈(us.getD i pA).lots then [(us.getD i pA).name]else []):=by
 have e:us.take (i+1)=us.take i++[us.getD i pA]:=by rw[Db,o8 h];simp[jX,h]
 unfold wiF;rw[e,SR,Aj];congr 1;generalize us.getD i pA=u;by_cases hx:x∈u.lots<;>simp[hx]
def abm (p:Pl)(log:List En)(s:bV)(x:aj)(hl:s.units.length<=1000)(hu: ∀u∈s.units,u.lots.length<=1000):ac 46 [(false,[.ref (wkS p log s)]),SS x] (.own 1 (.view (ab (TT s x)))):=by
 obtain⟨volt,earth,opens,hall,lots,us⟩:=s;have hn:(us.map jB).length =us.length:=by simp
 have hl:us.length<=1000:=hl;refine sF f46 ?_
 (try(refine tX 0 ?_;try exact Zt))
 refine af (ι:=Nat) (λi=>i<=us.length) (λi=>us.length -i) (λi=>⟨[(1,lS x),(5,pO 0),(12,some (.val (false,[.st (.view (us.map jB))]))),(13,vI us.length),(14,vI i)],[(0,some (.row true 1 (.view (ab (wiF (us.take i) x)))))],1⟩) 0
  (bu.trans (jz 5 1 (.view []) bX rfl rfl rfl) (ai P3)) (dz _) ?_
 intro i hi;by_cases al:i<us.length
 ·have he:=aZ (f:=jB) al pA;have xR:=abl al x;have hc:=bG (us.getD i pA).lots x (by have:=hu (us.getD i pA) (by rw[jX,o8 al,vX];exact pd al);omega)
  have PP:(wiF (us.take i) x).length <=i:=by
   unfold wiF;rw[jf];exact pf (L3 _ _) wY
  generalize wiF (us.take i) x=out at*;generalize us.getD i pA=u at*;obtain⟨nm,⟨k1,t1,s1,r1,k2,t2,s2,r2,st⟩,ul,re,fa,rl,sh,ud,ga⟩:=u;dsimp only at xR hc;have hol:(ab out).length =out.length:=by simp
  by_cases hv:x∈ul
  ·rw[fh hv]at hc;rw[if_pos hv]at xR;exact K19
  ·rw[eJ hv]at hc;rw[if_neg hv,yb]at xR;exact K25
 ·obtain rfl:i=us.length:=by omega
  rw[mB];exact tA
def Xa {H:HF}{fid:Nat}{p:Pl}{l:List En}{s:bV}(x:aj)(hl:s.units.length<=1000)(hu: ∀u∈s.units,u.lots.length<=1000)(h1:H 1=(form p l s).get 1)(h3:H 3=(form p l s).get 3)(h5:H 5=(form p l s).get 5)(h7:H 7=(form p l s).get 7)(h9:H 9=(form p l s).get 9)(hr: ∀k∈ah (bt 0 s.units),H k=(bt 0 s.units).get k):
  bI cx fid 46 [(false,[.ptr 1 0]),(false,[.st (T x)])] H (Fw.bh (.own fid)) [(fid,some (.row true 1 (.view (ab (TT s x)))))] (1::3::5::7::9::ah (bt 0 s.units)):=
 iK (bp (kj (.box (by simp) (h1.trans rfl) rfl (ak (.st _)<|ak (.st _)<|ak (.st _)<|ak (.st _)<|ak (.st _)<|ak (.st _)<|ak (.row (by simp) (h3.trans rfl))<|ak (.st _)<|ak (.st _)<|ak (.row (by simp) (h5.trans rfl))<|ak (.st _)<|ak (.row (by simp) (h7.trans rfl))<|ak (FT (h9.trans rfl) (by simp) (λk hk=>by simp only[cF];exact .inr (.inr (.inr (.inr (.inr hk))))) hr) jl))) (bp (kj (.st _)) gZ)) (abm p l s x hl hu) (E3 _) ⟨rfl,rfl,rfl⟩
def Lk {p:Pl}{l:List En}(hs:gz p)(hP:(p.err jb).2=0->PB p)(hl:l.length<=1000)(ht: ∀e∈l,e.text.length<=100000){x:aj}(hx:x.length<=1000){s:bV}{i:Nat}(h:dh p l=(s,i,0))(hn:jJ x)(hi:x∈s.lots):
  ac 27 [(true,bL p),(false,[.view (l.map cd)]),SS x] (.aI [(false,[.view (ab (TT s x))]),I 0]):=by
 have c1:=gg x K0;have c2:=Gd hs hP hl ht h;obtain⟨hS,hu⟩:=qR hP h;have c4:=bG s.lots x (by have:=hS.lots;omega);have c5:=λfid H=>Xa (fid:=fid) (H:=H) (p:=p) (l:=l) x hu (λu h=>by have:=(hS.unit u h).lots;omega);unfold jF at c1;rw[if_pos hn]at c1;rw[fh hi]at c4;refine sW (fn:=f27) ?_;refine aS ?_;(refine aR ?_;conv=>whnf);(try(refine tX 2 ?_;try exact Zt));refine aM ?_;(refine aR ?_;conv=>whnf);repeat((first|(refine kO 7 rfl ?_;first|refine Rw (c2 _ _) ?_)|refine tX 2 ?_|exact Zt);(try conv=>whnf))
 refine⟨_,vR (R:=[]) (E':=[(2,lS x),(8,pP 1),(10,vI 0)]) (ks:=[2,8,10]) (n':=1000) hu rfl rfl (λid b e=>by simp[Hp.get]at e) rfl dy,?_⟩;repeat' ((first|(refine kO 7 rfl ?_;first|refine gu (λ_ z=>⟨_,_,_,(c5 _ _ rfl rfl rfl rfl rfl (λk hk=>gY.get Ee (fW hu) k hk)),z⟩) ?_)|refine tX 0 ?_|exact Zt|refine bR ?_ ?_<;>intro h)<;>(try conv=>whnf))
 all_goals first|exact Zo|exact⟨[(false,[.view (ab (TT s x))]),I 0],[_],bp ⟨rfl,rfl,ak (.row je rfl) jl⟩ (bp (ia _) gZ),rfl,rfl⟩
end Go.Proofs.Tryz
