import Derived.Test.YtackacoaaihcjaaGreatDoorPkT10
set_option linter.all false
set_option maxRecDepth 100000
set_option maxHeartbeats 8000000
namespace Go.Proofs.Tryz
open Go.Fw Go.IntWalk Go.Plain
def wF {l:List Int}{E:Int}(h:fs l=E)(hl:l.length<=1000000:=by exact fP rfl):ad 52 [(false,[.ints l])] (.one (I E)):=by
 have:=oI l hl;rwa [h]at this
def VM (E:qH)(p:Pl)(log:List En)(s:bK)(hl:s.units.length<=1000)(a:List aj)(n:List Int)(r:aj):
  bt cx 120 1 ((false,[.ptr 1 0])::[wX a n r].map dyn) (form p log s) [1] (.val (dyn (I (ba E p log s 6 a n r).2))) (form p log (ba E p log s 6 a n r).1):=by
 obtain⟨volt,earth,opens,hall,lots,units⟩:=s;cases volt<;>cases earth
 ·refine gF (s':=⟨false,true,opens,hall,lots,units⟩) (y:=I 0) f120 hl ?_;exact tL
 ·refine gF (s':=⟨false,true,opens,hall,lots,units⟩) (y:=I 20) f120 hl ?_;exact tL
 ·refine gF (s':=⟨true,false,opens,hall,lots,units⟩) (y:=I 24) f120 hl ?_;exact tL
 ·refine gF (s':=⟨true,true,opens,hall,lots,units⟩) (y:=I 20) f120 hl ?_;exact tL
def ZI (E:qH)(p:Pl)(log:List En)(s:bK)(hl:s.units.length<=1000)(a:List aj)(n:List Int)(r:aj):
  bt cx 121 1 ((false,[.ptr 1 0])::[wX a n r].map dyn) (form p log s) [1] (.val (dyn (I (ba E p log s 7 a n r).2))) (form p log (ba E p log s 7 a n r).1):=by
 obtain⟨volt,earth,opens,hall,lots,units⟩:=s
 cases earth<;>rcases opens with _|⟨o,os⟩
 ·refine gF (s':=⟨volt,false,[],hall,lots,units⟩) (y:=I 20) f121 hl ?_;exact tL
 ·refine gF (s':=⟨volt,false,o::os,hall,lots,units⟩) (y:=I 20) f121 hl ?_;exact tL
 ·refine gF (s':=⟨volt,false,[],hall,lots,units⟩) (y:=I 0) f121 hl ?_;exact tL
 ·refine gF (s':=⟨volt,true,o::os,hall,lots,units⟩) (y:=I 24) f121 hl ?_;exact tL
def Np (E:qH)(p:Pl)(log:List En)(s:bK)(hl:s.units.length<=1000)(a:List aj)(n:List Int)(r:aj):
  bt cx 122 1 ((false,[.ptr 1 0])::[wX a n r].map dyn) (form p log s) [1] (.val (dyn (I (ba E p log s 8 a n r).2))) (form p log (ba E p log s 8 a n r).1):=by
 obtain⟨volt,earth,opens,hall,lots,units⟩:=s
 cases volt<;>rcases opens with _|⟨o,os⟩<;>cases earth
 ·refine gF (s':=⟨true,false,[],hall,lots,units⟩) (y:=I 0) f122 hl ?_;exact tL
 ·refine gF (s':=⟨false,true,[],hall,lots,units⟩) (y:=I 24) f122 hl ?_;exact tL
 ·refine gF (s':=⟨false,false,o::os,hall,lots,units⟩) (y:=I 24) f122 hl ?_;exact tL
 ·refine gF (s':=⟨false,true,o::os,hall,lots,units⟩) (y:=I 24) f122 hl ?_;exact tL
 ·refine gF (s':=⟨true,false,[],hall,lots,units⟩) (y:=I 20) f122 hl ?_;exact tL
 ·refine gF (s':=⟨true,true,[],hall,lots,units⟩) (y:=I 20) f122 hl ?_;exact tL
 ·refine gF (s':=⟨true,false,o::os,hall,lots,units⟩) (y:=I 20) f122 hl ?_;exact tL
 ·refine gF (s':=⟨true,true,o::os,hall,lots,units⟩) (y:=I 20) f122 hl ?_;exact tL
def qy {m:List (Nat × Nat)}{R:Hp}(hT:BQ R)(hm:Go.Fw.IM m=true){k:Nat}{us:List Un}(hs: ∀n∈ah (bq k us),n∈ah R):fI (m++mW R) (az k us)=some (az k us):=by
 refine Ac λx hx=>?_
 have key: ∀d∈x,m7 (m++mW R) d=some d:=λd hd=>by
  have hme:=DC.dJ hs (lU hx d hd);exact K79
 exact aik
def yU {m:List (Nat × Nat)}: ∀ {A B A' B':List (List DC)},fI m A=some A'->fI m B=some B'->fI m (A++B)=some (A'++B')
 | [],B,A',B',h,h'=>by grind[fI]
 |e::A,B,A',B',h,h'=>by
  unfold fI at h
  cases h1:eX m e with
  |none=>simp_all
  |some e'=>
   cases h2:fI m A with
   |none=>simp_all
   |some A2=>
    rw[h1,h2]at h;cases h;rw[qK];unfold fI;rw[h1,yU h2 h'];rfl
def VN {us:List Un}{i:Nat}{u:Un}(hi:us[i]? =some u):(ah (ax us i)).Nodup :=by
 have hn:=yJ 0 us;obtain⟨h1,h2⟩:=qo hi;have e:ah (bq 0 us)=ah (bq 0 (us.take i))++(ah (lz u (17+6*i) (19+6*i) (21+6*i))++ah (bq (i+1) (us.drop (i+1)))):=ahX
 grind
def Bu {us:List Un}{i:Nat}{u:Un}(hi:us[i]? =some u)(hl:us.length<=1000):BQ (ax us i):=
 ⟨VN hi,λn hn=>by obtain⟨a1,_,_,_,a2,a3⟩:=wQ hi hn;omega,λk b e=>by
  rw[Hp.get_append,oB]at e
  grind[tQ]⟩
def ZJ (fn:Func)(p:Pl)(log:List En)(s:bK)(u:Un)(us:List Un)(i:Nat)(r:DV)(S:St):Prop:=∃lg op lt l9,
 S.env.get 0=some (.val (false,[.ptr 1 0]))/\S.hp.get 1=some (.box 126 [.st (.view (p.ae.map m9)),.st (.view (ab p.ap)),.st (.view (p.aa.map fC)),.st (.view (p.parts.map mi)),.st (J p.dW),.st (J p.eH),.own lg,.st (K s.volt),.st (K s.earth),.own op,.st (T s.hall),.own lt,.own 9])/\
 S.hp.get 9=some (.aA 17 l9)/\∃a b c,l9=(az 0 us).set i (cP u a b c)/\
 S.hp.get lg=some (.row true 3 (.view (log.map df)))/\S.hp.get op=some (.row true 1 (.view (ab s.opens)))/\S.hp.get lt=some (.row true 1 (.view (ab s.lots)))/\
 S.hp.get a=some (.row true 1 (.view (ab u.lots)))/\S.hp.get b=some (.row true 4 (.view (u.res.map kE)))/\S.hp.get c=some (.row true 5 (.view (u.gas.map uV)))/\
 Go.Fw.IM [(9,9),(1,1),(lg,3),(op,5),(lt,7),(a,11),(b,13),(c,15)]=true/\ib S.hp (ax us i)/\
 er cx S.hp.get S.env.get fn.results.toList λys=>∃zs,kS ([(9,9),(1,1),(lg,3),(op,5),(lt,7),(a,11),(b,13),(c,15)]++mW (ax us i)) ys=some zs/\ph zs=r
def ac0 {lg op lt a b c:Nat}(h:Go.Fw.IM [(9,9),(1,1),(lg,3),(op,5),(lt,7),(a,11),(b,13),(c,15)]=true):
  (lg≠9/\lg≠1)/\(op≠9/\op≠1/\op≠lg)/\(lt≠9/\lt≠1/\lt≠lg/\lt≠op)/\(a≠9/\a≠1/\a≠lg/\a≠op/\a≠lt)/\(b≠9/\b≠1/\b≠lg/\b≠op/\b≠lt/\b≠a)/\c≠9/\c≠1/\c≠lg/\c≠op/\c≠lt/\c≠a/\c≠b:=by
 exact ahT
def TF {fn:Func}{p:Pl}{log:List En}{s:bK}{u u0:Un}{us:List Un}{i:Nat}{r:DV}{S:St}(hi:us[i]? =some u0)(hl:us.length<=1000)(h:ZJ fn p log s u us i r S):
  ∃m:List (Nat × Nat),cW m S.hp.get (eh p log s u ((az 0 us).set i (cP u 11 13 15)) (ax us i)).get /\(∀q∈[(0,1)],∃o off,S.env.get q.1=some (.val (false,[.ptr o off]))/\(o,q.2)∈m)/\
   er cx S.hp.get S.env.get fn.results.toList λys=>∃zs,kS m ys=some zs/\ph zs=r:=by
 obtain⟨lg,op,lt,l9,h0,h1,h9,a,b,c,rfl,h2,h3,h4,h5,h6,h7,hm,hE,hr⟩:=h;have hT:=Bu hi hl;obtain⟨⟨n1,n2⟩,⟨n3,n4,n5⟩,⟨n6,n7,n8,n9⟩,⟨a1,a2,a3,a4,a5⟩,⟨b1,b2,b3,b4,b5,b6⟩,c1,c2,c3,c4,c5,c6,c7⟩:=ac0 hm;have id1:bO ((9,9)::[(1,1),(lg,3),(op,5),(lt,7),(a,11),(b,13),(c,15)]++mW (ax us i)) lg=some 3:=aca;have id2:bO ((9,9)::[(1,1),(lg,3),(op,5),(lt,7),(a,11),(b,13),(c,15)]++mW (ax us i)) op=some 5:=aca;have id3:bO ((9,9)::[(1,1),(lg,3),(op,5),(lt,7),(a,11),(b,13),(c,15)]++mW (ax us i)) lt=some 7:=abI;have id5:bO ((9,9)::[(1,1),(lg,3),(op,5),(lt,7),(a,11),(b,13),(c,15)]++mW (ax us i)) a=some 11:=abI;have id6:bO ((9,9)::[(1,1),(lg,3),(op,5),(lt,7),(a,11),(b,13),(c,15)]++mW (ax us i)) b=some 13:=aiG;have id7:bO ((9,9)::[(1,1),(lg,3),(op,5),(lt,7),(a,11),(b,13),(c,15)]++mW (ax us i)) c=some 15:=aiB;have id4:bO ((9,9)::[(1,1),(lg,3),(op,5),(lt,7),(a,11),(b,13),(c,15)]++mW (ax us i)) 9=some 9:=rfl
 have iE:fI ((9,9)::[(1,1),(lg,3),(op,5),(lt,7),(a,11),(b,13),(c,15)]++mW (ax us i)) ((az 0 us).set i (cP u a b c))=some ((az 0 us).set i (cP u 11 13 15)):=by
  rw[uZ hi,uZ hi];refine yU (qy hT hm λn hn=>?_) ?_
  grind
  ·have h2:=qy (m:=(9,9)::[(1,1),(lg,3),(op,5),(lt,7),(a,11),(b,13),(c,15)]) hT hm (k:=i+1) (us:=us.drop (i+1)) λn hn=>by
    grind
   unfold fI;rw[h2];simp only[cP,eX,m7,id5,id6,id7]
 refine⟨_,cW.form (Y:=hd p log s++lz u 11 13 15) hT hm h9 iE ?_ rfl (hE.get hT),λq hq=>?_,hr⟩
 ·exact ai9
 grind
def gI {f:FuncId}{c:Code}{p:Pl}{log rZ:List En}{s s':bK}{u u':Un}{i:Nat}{ys:List SV}{y:SV}(fn:Func)(hi:s.units[i]? =some u)(hl:s.units.length<=1000)(hs:s'.units=s.units.set i u')
  (h:m6 cx c ⟨iz 0 ((false,[.ptr 1 0])::ys.map dyn),eh p log s u ((az 0 s.units).set i (cP u 11 13 15)) (ax s.units i),1⟩ (ZJ fn p rZ s' u' s.units i (.val (dyn y))) (λ_ _=>False) (ZJ fn p rZ s' u' s.units i (.val (dyn y))))
  (h1:iG cx.P f=true:=by kernel_rfl)(h2:cx.P.funcs[f]? =some fn:=by kernel_rfl)(h3:fn.body=some c:=by rfl)(h4:bM fn.ntmps c=true:=by kernel_rfl)(h5:ys.length+1<=fn.ntmps:=by exact fP rfl)(h6:aM [0] c=true:=by kernel_rfl):
  bt cx f 1 ((false,[.ptr 1 0])::ys.map dyn) (form p log s) [1] (.val (dyn y)) (form p rZ s'):=
 focus hi hl (fw lG h1 h2 h3 h4 br [(0,1)] (λp hp=>by grind) h6 (λS hS=>TF hi hl hS) h) hs
def ac1 {us:List Un}{i:Nat}{X:List DC}:((az 0 us).set i X).length =(us.map Un.name).length :=by rw[CJ,eN,ja]
theorem Ao {us:List Un}{j:Nat}{e:List DC}(h:(az 0 us)[j]? =some e):e.length=17/\e[0]? =some (.st (T ((us.map Un.name).getD j []))):=by
 have ak:=(kl.1 h).1;rw[eN]at ak;have hv:us[j]? =some us[j]:=by grind
 rw[uW hv]at h;cases h;refine⟨rfl,?_⟩;rw[jE,gr,hv];rfl
def k7 {H:HF}{fid:Nat}{us:List Un}{i:Nat}{u:Un}(hi:us[i]? =some u)(hl:us.length<=1000){x:aj}(hx:aZ (us.map Un.name) x=(i:Nat))(h1: ∃t cs,H 1=some (.box t cs)/\cs[12]? =some (.own 9))(h9:H 9=some (.aA 17 ((az 0 us).set i (cP u 11 13 15)))):
  bN cx fid 89 [(false,[.ptr 1 0]),(false,[.st (T x)])] H (bm (.cF 9 17 i 0)) [] [1,9]:=by
 refine Ev (ns:=us.map Un.name) x ⟨h1,⟨_,h9,ac1,λj e he=>?_⟩,by grind⟩ (.inr ⟨by omega,by grind⟩);by_cases hj:i=j
 ·subst hj;have ak:=(kl.1 hi).1;rw[IT br]at he;cases he;refine⟨rfl,?_⟩;rw[jE,gr,hi];rfl
 grind[Ao]
def Ap {H:HF}{fid:Nat}{us:List Un}(hl:us.length<=1000){x:aj}(hx:aZ (us.map Un.name) x<0)(h1: ∃t cs,H 1=some (.box t cs)/\cs[12]? =some (.own 9))(h9:H 9=some (.aA 17 (az 0 us))):
  bN cx fid 89 [(false,[.ptr 1 0]),(false,[.st (T x)])] H (bm (.st (.lit (.pointer none)))) [] [1,9]:=
 Ev (ns:=us.map Un.name) x ⟨h1,⟨_,h9,by rw[eN,ja],λ_ _ he=>Ao he⟩,by grind⟩ (.inl ⟨hx,rfl⟩)
def Ei {p:Prop}(h:p:=by
 refine⟨_,_,_,_,rfl,rfl,rfl,?_⟩;refine⟨?_,?_,?_,?_,?_⟩;rotate_left 3
 ·first|rfl|(simp only[List.set_set];rfl)
 ·refine⟨rfl,rfl,rfl,Er,Er,Er,rfl,?_,_,rfl,rfl⟩
  repeat(first|exact ib.base _|refine ib.step rfl ?_)):p:=h
def jX {s:bK}{x:aj}(h:0<=gY s x): ∃i u,aZ (s.units.map Un.name) x=(i:Nat)/\(gY s x).toNat =i/\s.units[i]? =some u/\s.units.getD i o6=u/\i< (az 0 s.units).length :=by
 have e:gY s x=aZ (s.units.map Un.name) x:=rfl;unfold aZ at e;by_cases hm:x∈s.units.map Un.name
 ·rw[if_pos hm]at e;have ak:=R5 hm;rw[ja]at ak;refine⟨(s.units.map Un.name).idxOf x,s.units[(s.units.map Un.name).idxOf x],?_,?_,?_,?_,?_⟩
  ·unfold aZ;grind
  grind
  ·simp
  grind
  grind[eN]
 grind
def QZ {l:List aj}{x:aj}:l.take (l.idxOf x)++l.drop (l.idxOf x+1)=l.erase x:=by rw[List.erase_eq_eraseIdx_of_idxOf rfl,List.eraseIdx_eq_take_drop_succ]
def agP {fid:Nat}{H:HF}{id:Nat}(zs:List aj)(i:Nat)(hi:i<zs.length)(hb:H id=some (.row true 1 (.view (ab zs)))):
  bN cx fid 202 [(false,[.own id]),(false,[.st (.lit (.int .i64 (i:Int)))]),(false,[.st (.lit (.int .i64 ((i:Int)+1)))])] H (bm (.own fid)) [(fid,some (.row true 1 (.view (ab (zs.take i++zs.drop (i+1)))))),(id,none)] [id]:=by
 have:=No (C:=cx) (fid:=fid) (f:=202) dp zs i (i+1) K0 K0 (λb cap arr T w q1 q2 q3 q4=>acZ zs i (i+1) K0 K0 b cap arr T w q1 q2 q3 q4) hb;rwa [show((i+1:Nat):Int)=(i:Int)+1 by omega]at this
def aar (E:qH)(p:Pl)(log:List En)(s:bK)(hl:s.units.length<=1000)(x:aj)(n:List Int)(r:aj)(hg:p.ap.length<=1000)(hs:s.opens.length<=1000):
  bt cx 118 1 ((false,[.ptr 1 0])::[wX [x] n r].map dyn) (form p log s) [1] (.val (dyn (I (ba E p log s 4 [x] n r).2))) (form p log (ba E p log s 4 [x] n r).1):=by
 obtain⟨volt,earth,opens,hall,lots,units⟩:=s;have hs:opens.length<=1000:=hs;have c1:=bD p.ap x K0;have c2:=bD opens x K0;have e:ba E p log ⟨volt,earth,opens,hall,lots,units⟩ 4 [x] n r=if x∈p.ap then(if x∈opens then(⟨volt,earth,opens,hall,lots,units⟩,20)else if volt=false/\earth=true then(⟨volt,earth,opens++[x],hall,lots,units⟩,0)else(⟨volt,earth,opens,hall,lots,units⟩,24))else(⟨volt,earth,opens,hall,lots,units⟩,6):=rfl
 rw[e];clear e;by_cases h1:x∈p.ap
 all_goals
  first|(rw[fH h1]at c1;rw[if_pos h1])|(rw[eT h1]at c1;rw[if_neg h1])
  by_cases h2:x∈opens
  all_goals
   first|rw[fH h2]at c2|rw[eT h2]at c2
   try first|rw[if_pos h2]|rw[if_neg h2]
   cases volt<;>cases earth
   all_goals
    try first|rw[if_pos (⟨rfl,rfl⟩:false=false/\true=true)]|rw[if_neg (by decide: ¬(false=false/\false=true))]|rw[if_neg (by decide: ¬(true=false/\false=true))]|rw[if_neg (by decide: ¬(true=false/\true=true))]
    refine gF f118 hl ?_;exact K65
def aas (E:qH)(p:Pl)(log:List En)(s:bK)(hl:s.units.length<=1000)(x:aj)(n:List Int)(r:aj)(hg:p.ap.length<=1000)(hs:s.opens.length<=1000):
  bt cx 119 1 ((false,[.ptr 1 0])::[wX [x] n r].map dyn) (form p log s) [1] (.val (dyn (I (ba E p log s 5 [x] n r).2))) (form p log (ba E p log s 5 [x] n r).1):=by
 obtain⟨volt,earth,opens,hall,lots,units⟩:=s;have hs:opens.length<=1000:=hs;have c1:=bD p.ap x K0;have c2:=Ah opens x K0;have e:ba E p log ⟨volt,earth,opens,hall,lots,units⟩ 5 [x] n r=if x∈p.ap then(if x∈opens then(⟨volt,earth,opens.erase x,hall,lots,units⟩,0)else(⟨volt,earth,opens,hall,lots,units⟩,20))else(⟨volt,earth,opens,hall,lots,units⟩,6):=rfl
 rw[e];clear e;by_cases h2:x∈opens
 ·have hk:=R5 h2;have d1:=λfid H id hb=>agP (fid:=fid) (H:=H) (id:=id) opens (opens.idxOf x) hk hb;rw[QZ]at d1;rw[show aZ opens x=(opens.idxOf x:Nat)by unfold aZ;rw[if_pos h2]]at c2;rw[if_pos h2];generalize opens.idxOf x=k at*;by_cases h1:x∈p.ap
  ·rw[fH h1]at c1;rw[if_pos h1];refine gF f119 hl ?_;repeat' ((first|(refine kO 7 rfl ?_;first|refine rG (λ_ z=>⟨_,aN (by omega) _,z⟩) ?_|refine rG (λ_ z=>⟨_,bG (by omega) _,z⟩) ?_|refine rG (λ_ z=>⟨_,wF rfl,z⟩) ?_|refine ij (λ_ z=>⟨_,_,_,(d1 _ _ _ rfl),z⟩) ?_)|refine tX 0 ?_|exact Zt|refine bR ?_ ?_<;>intro h)<;>(try conv=>whnf))
   all_goals exact Ew
  ·rw[eT h1]at c1;rw[if_neg h1];exact K35
 ·rw[show aZ opens x= -1 by unfold aZ;rw[if_neg h2]]at c2;rw[if_neg h2];by_cases h1:x∈p.ap
  ·rw[fH h1]at c1;rw[if_pos h1];exact K35
  ·rw[eT h1]at c1;rw[if_neg h1];exact K35
def Q0 (E:qH)(p:Pl)(log:List En)(s:bK)(hl:s.units.length<=1000)(x:aj)(n:List Int)(r:aj)(hx:x.length<=1000)(hs:s.lots.length<=1000):
  bt cx 115 1 ((false,[.ptr 1 0])::[wX [x] n r].map dyn) (form p log s) [1] (.val (dyn (I (ba E p log s 1 [x] n r).2))) (form p log (ba E p log s 1 [x] n r).1):=by
 obtain⟨volt,earth,opens,hall,lots,units⟩:=s;have c1:=gi x K0;have c2:=bD lots x (by simp only at hs;omega);unfold jG at c1;have e:ba E p log ⟨volt,earth,opens,hall,lots,units⟩ 1 [x] n r=if eK x then(if x∈lots then(⟨volt,earth,opens,hall,lots,units⟩,5)else if lots.length<12 then(⟨volt,earth,opens,hall,lots++[x],units⟩,0)else(⟨volt,earth,opens,hall,lots,units⟩,16))else(⟨volt,earth,opens,hall,lots,units⟩,4):=rfl
 rw[e];clear e;by_cases h1:eK x
 ·rw[if_pos h1]at c1 ⊢;by_cases h2:x∈lots
  ·rw[fH h2]at c2;rw[if_pos h2];refine gF f115 hl ?_;by_cases h3:lots.length<12
   ·exact K11
   ·exact K11
  ·rw[eT h2]at c2;rw[if_neg h2];by_cases h3:lots.length<12
   ·rw[if_pos h3];refine gF f115 hl ?_;exact K11
   ·rw[if_neg h3];refine gF f115 hl ?_;exact K11
 ·rw[if_neg h1]at c1 ⊢;refine gF f115 hl ?_;by_cases h2:x∈lots
  all_goals
   first|rw[fH h2]at c2|rw[eT h2]at c2
   by_cases h3:lots.length<12
   ·exact K11
   ·exact K11
end Go.Proofs.Tryz
