import Derived.Test.YtackacoaaihcjaaGreatDoorPkT8
import Derived.Test.YtackacoaaihcjaaGreatDoorPkT10
set_option linter.all false
set_option maxRecDepth 100000
set_option maxHeartbeats 8000000
namespace Go.Proofs.Tryz
open Go.Fw Go.IntWalk Go.Plain
def wY (s:aj)(hl:s.length<=1000000):ad 57 [SS s,SS [32]] (.own 1 (.view (ab (av 32 s)))):=by
 have h:=Ak s 32 hl (tJ s 32).2;rw[(tJ s 32).1]at h;exact h
abbrev NA (role words pW:Nat)(rest:Bool)(f:FuncId):SV:=(true,[J role,J words,J pW,K rest,.fn f [] []])
def ZN (role words pW:Nat)(f:FuncId)(s:aj)(hl:s.length<=100000)(hw:words<=10)(h:(av 32 s).length ≠words+1):ad 69 [NA role words pW false f,SS s] (.aJ [wX [] [] [],Bo false]):=by
 have c1:=wY s K0;have h1:=(bZ 32 s).1;exact afC
def ac6 (role words pW:Nat)(f:FuncId)(s:aj)(hl:s.length<=100000)(hw:words<=10)(h:(av 32 s).length =words+1)(he: []∈av 32 s):ad 69 [NA role words pW false f,SS s] (.aJ [wX [] [] [],Bo false]):=by
 have c1:=wY s K0;have h1:=(bZ 32 s).1;have c2:=bD (av 32 s) [] K0;rw[fH he]at c2;exact afC
instance ac7 (a b:Nat):dK (((a+b:Nat):Int) -(b:Int)) a:=⟨by omega⟩
def dL:List aj->List Int
 | []=>[]
 |s::r=>match wN false 7 s with
  |some n=>n::dL r
  |none=>[]
def ED: ∀u:List aj,(dL u).length <=u.length
 | []=>dw _
 |s::r=>by
  unfold dL;split
  ·have:=ED r;simp;omega
  ·simp
def EG: ∀ {u:List aj} {i:Nat},i< (dL u).length ->wN false 7 (u.getD i [])=some ((dL u).getD i 0)
 | [],i,h=>by simp[dL]at h
 |s::r,i,h=>by
  unfold dL at h ⊢
  cases e:wN false 7 s with
  |none=>rw[e]at h;simp at h
  |some n=>
   rw[e]at h
   cases i with
   |zero=>simp[e]
   |succ i=>
    have:=EG (u:=r) (i:=i) UK;simpa using this
def wZ: ∀ {u:List aj},(dL u).length <u.length->wN false 7 (u.getD (dL u).length [])=none
 | [],h=>by simp[dL]at h
 |s::r,h=>by
  unfold dL at h ⊢
  cases e:wN false 7 s with
  |none=>simp[e]
  |some n=>
   rw[e]at h;have:=wZ (u:=r) UK;simpa using this
def QD (role d k:Nat)(f:FuncId)(s:aj)(hl:s.length<=100000)(hw:d+k<=10)(h:(av 32 s).length =d+k+1)(he: []∉av 32 s):
  ad 69 [NA role (d+k) k false f,SS s] (.aJ [wX ((av 32 s).drop 1) (dL (((av 32 s).drop 1).drop d)) [],Bo (decide ((dL (((av 32 s).drop 1).drop d)).length =k))]):=by
 have c1:=wY s K0;have h1:=(bZ 32 s).1;have h2:=(bZ 32 s).2;have c2:=bD (av 32 s) [] K0;rw[eT he]at c2;generalize av 32 s=l at*;have hn:(ab l).length =l.length:=by simp
 have hu:(ab ((l.drop 1).drop d)).length =k:=by simp;omega
 have hlu: ∀i<k,(((l.drop 1).drop d).getD i []).length <=100000:=λi hi=>by
  have kA:i< ((l.drop 1).drop d).length :=by simp;omega
  have:((l.drop 1).drop d).getD i []∈l:=by
   rw[jE,nM kA,sY];exact Ps (Ps (oh kA))
  have:=h2 _ this;omega
 refine sF f69 ?_;repeat' ((first|refine tX 0 ?_|exact Zt|refine bR ?_ ?_<;>intro h)<;>(try conv=>whnf))
 generalize hU:(l.drop 1).drop d=u at*;have hk:u.length=k:=by simpa using hu
 refine af (ι:=Nat) (λi=>i<=(dL u).length) (λi=>u.length -i) (λi=>⟨[(4,pP 0),(7,pP 1),(61,some (.val (false,[.st (.view (ab u))]))),(62,vI k),(63,vI i)],[(0,some (.box 147 [.nil,.nil,.st (T [])])),(1,some (.box 147 [.st (.view (ab (l.drop 1))),.own 2,.st (T [])])),(2,some (.row true 1 (.ints ((dL u).take i))))],3⟩) 0
  (bs.trans (iJ 8 1 1 (.ints []) (T:=147) (cs:=[.st (.view (ab (l.drop 1))),.nil,.st (T [])]) K9 rfl rfl rfl rfl) (ai (by rw[<- hu];kernel_rfl))) (dC _) ?_
 intro i hi;have eu:=ED u;by_cases ak:i<k
 ·have Cy:=sA (l:=u) (i:=i) K0;have Ue:=hlu i ak;obtain⟨v,cn,hv⟩:=mQ false 7 K9 (u.getD i []) K0;by_cases hp:i< (dL u).length
  ·have vK:=EG hp;have e1:=hv _ vK;have zx:(dL u).take (i+1)=(dL u).take i++[v]:=by rw[<- e1,BH,nM hp,jE,nM hp];rfl
   have htl:((dL u).take i).length =i:=by simp;omega
   rw[vK]at cn;generalize (dL u).take i=w at*;generalize u.getD i []=y at*;exact ahW
  ·have hi2:(dL u).length =i:=by omega
   have eG:=wZ (u:=u) K0;rw[hi2]at eG;rw[eG]at cn;rw[o0 K0,eT K0];generalize u.getD i []=y at*;exact tA
 ·have IH:(dL u).length =k:=by omega
  have:i=k:=by omega
  subst this;rw[o0 K0,fH IH];exact tA
abbrev vE (n:aj)(role words pW:Nat)(rest:Bool)(f:FuncId):aj × SV:=(n,NA role words pW rest f)
abbrev kB (q:aj × SV):ByteArray × SV:=(B q.1,q.2)
def NB:List (aj × SV):=[
 vE [110,111,116,101] 0 0 0 true 114,vE [108,111,116] 1 1 0 false 115,vE [117,110,105,116] 1 1 0 true 116,
 vE [117,115,101] 1 2 0 false 117,vE [111,112,101,110] 2 1 0 false 118,vE [115,104,117,116] 2 1 0 false 119,
 vE [101,97,114,116,104] 2 0 0 false 120,vE [108,105,102,116] 2 0 0 false 121,vE [118,111,108,116,97,103,101] 2 0 0 false 122,
 vE [111,102,102] 2 0 0 false 123,vE [101,110,116,101,114] 1 1 0 false 124,vE [108,101,97,118,101] 1 1 0 false 125,
 vE [116,101,115,116] 2 2 0 true 126,vE [114,101,112,97,105,114] 1 2 0 false 127,vE [114,101,108,101,97,115,101] 3 1 0 false 128,
 vE [115,104,111,99,107] 1 2 1 false 129,vE [105,110,115,112,101,99,116] 2 1 0 false 130,vE [108,111,97,100] 1 3 2 false 131,vE [103,97,115] 1 6 5 false 132]
def uh:List (ByteArray × SV):=NB.map kB
def NC: ∀(l:List (aj × SV)) (w:aj),iY (l.map kB) (B w)=(l[(l.map Prod.fst).idxOf w]?).map Prod.snd
 | [],_=>rfl
 |q::l,w=>by
  show(match(B w==B q.1)with|true=>some q.2|false=>iY (l.map kB) (B w))=_;rw[Y9];by_cases h:w=q.1
  ·rw[fH h];simp[List.idxOf_cons,h]
  ·have hb:(q.1==w)=false:=by simp;exact λe=>h e.symm
   rw[eT h];dsimp only;rw[NC l w];simp[List.idxOf_cons,hb]
def VV (w:aj):iY uh (B w)=(NB[jH w]?).map Prod.snd:=NC NB w
def agk (fn:Func)(fid:Nat)(S:St):Prop:=∃id,S.hp.get id=some (.map uh)/\er cx S.hp.get S.env.get fn.results.toList λys=>∃zs,kS [(id,fid)] ys=some zs/\ph zs=bm (.mp fid)
def gM {f:FuncId}{c:Code}{fid:Nat}(fn:Func)(h:m6 cx c ⟨iz 0 [],[],1⟩ (agk fn fid) (λ_ _=>False) (agk fn fid))
  (h1:iG cx.P f=true:=by kernel_rfl)(h2:cx.P.funcs[f]? =some fn:=by kernel_rfl)(h3:fn.body=some c:=by rfl)(h4:bM fn.ntmps c=true:=by kernel_rfl)(h5:([]:List DX).length <=fn.ntmps:=by exact dC _)(h6:aM [] c=true:=by kernel_rfl):
  bt cx f 1 [] [] [] (bm (.mp fid)) [(fid,some (.map uh))]:=
 fw lG h1 h2 h3 h4 h5 [] (λ_ h=>by cases h) h6 (λS hS=>by
  obtain⟨id,g1,g2⟩:=hS;refine⟨[(id,fid)],⟨by simp,by simp,λn b' e=>?_⟩,(λ_ h=>by cases h),g2⟩;obtain⟨rfl,rfl⟩:=gE e
  exact⟨id,_,by simp,g1,rfl⟩) h
def VX (fid:Nat):bt cx 68 1 [] [] [] (bm (.mp fid)) [(fid,some (.map uh))]:=by
 refine gM f68 ?_
 (try(refine tX 0 ?_;try exact Zt))
 exact⟨4,by kernel_rfl,_,rfl,rfl⟩
def ke (H:HF)(fid:Nat):bN cx fid 68 [] H (bm (.mp fid)) [(fid,some (.map uh))] []:=
 gv (VX fid) (λid hid=>by cases hid) (λid hid=>by cases hid) (λid b e=>by simp[Hp.get]at e) (λx hx=>by cases hx) (λid hid=>by cases hid)
  (λid hid=>.inr ajD) (λid b e=>by obtain⟨rfl,rfl⟩:=gE e;trivial) (by
   intro d hd;have:d= .mp fid:=by simpa [bm]using hd
   subst this
   exact .inr rfl)
theorem lZ: ∀(k:Nat) (s:aj),(bP k s).length <=s.length
 |0,s=>dw _
 |k+1,s=>by
  unfold bP;have:=lZ k (s.drop ((av 32 s).getD 0 []).length.succ);rw[SH]at this;omega
def VY (role w:Nat)(f:FuncId)(s:aj)(hl:s.length<=100000)(hw:w<=10)(h:(av 32 s).length <w+2):ad 69 [NA role w 0 true f,SS s] (.aJ [wX [] [] [],Bo false]):=by
 have c1:=rI s (w+2) K0 K0 K0;rw[Nw _ _ K0,if_pos K0,show(((w+2:Nat)):Int)=(w:Int)+2 by omega]at c1;have h1:=(bZ 32 s).1;exact afC
instance agE (a:Nat):dK ((a:Int) -((0:Nat):Int)) a:=⟨by omega⟩
instance alF (a:Nat):dK ((a:Int)+1) (a+1):=⟨by omega⟩
def ZO (role w:Nat)(f:FuncId)(s:aj)(hl:s.length<=100000)(hw:w<=10)(h:w+2<=(av 32 s).length)(he: []∈(av 32 s).take (w+1)):ad 69 [NA role w 0 true f,SS s] (.aJ [wX [] [] (bP (w+1) s),Bo false]):=by
 have c1:=rI s (w+2) K0 K0 K0;rw[J2 _ _ K0 h,show(((w+2:Nat)):Int)=(w:Int)+2 by omega,show w+2 -1=w+1 from rfl]at c1;have ak:((av 32 s).take (w+1)).length =w+1:=by simp;omega
 have c2:=bD ((av 32 s).take (w+1)) [] K0;rw[fH he]at c2;generalize (av 32 s).take (w+1)=l at*;generalize bP (w+1) s=r at*;have hn:(ab (l++[r])).length =w+2:=by simp;omega
 have hn2:(ab ((l++[r]).take (w+1))).length =w+1:=by exact ajx
 have hg:(ab (l++[r]))[w+1]? =some [T r]:=by simp[ab,ak]
 have zx:(l++[r]).take (w+1)=l:=by rw[<- ak];simp
 have c3:=c2;rw[<- zx]at c3;refine sF f69 ?_;refine aS ?_;(refine aR ?_;conv=>whnf);(try(refine tX 2 ?_;try exact Zt));refine aS ?_;(refine aR ?_;conv=>whnf);(try(refine tX 2 ?_;try exact Zt));refine aS ?_;(refine aR ?_;conv=>whnf);(try(refine tX 2 ?_;try exact Zt));refine aS ?_;refine aS ?_;(refine aR ?_;conv=>whnf);(try(refine tX 2 ?_;try exact Zt))
 (try refine tB 0 ?_)
 refine aQ ?_;(refine aR ?_;conv=>whnf);(try(refine tX 2 ?_;try exact Zt));refine⟨_,dh 22 rfl,?_⟩;exact tA
def VZ (role w:Nat)(f:FuncId)(s:aj)(hl:s.length<=100000)(hw:w<=10)(h:w+2<=(av 32 s).length)(he: []∉(av 32 s).take (w+1)):ad 69 [NA role w 0 true f,SS s] (.aJ [wX (((av 32 s).take (w+1)).drop 1) [] (bP (w+1) s),Bo true]):=by
 have c1:=rI s (w+2) K0 K0 K0;rw[J2 _ _ K0 h,show(((w+2:Nat)):Int)=(w:Int)+2 by omega,show w+2 -1=w+1 from rfl]at c1;have ak:((av 32 s).take (w+1)).length =w+1:=by simp;omega
 have c2:=bD ((av 32 s).take (w+1)) [] K0;rw[eT he]at c2;generalize (av 32 s).take (w+1)=l at*;generalize bP (w+1) s=r at*;have hn:(ab (l++[r])).length =w+2:=by simp;omega
 have hn2:(ab ((l++[r]).take (w+1))).length =w+1:=by exact ajx
 have hg:(ab (l++[r]))[w+1]? =some [T r]:=by simp[ab,ak]
 have zx:(l++[r]).take (w+1)=l:=by rw[<- ak];simp
 have c3:=c2;rw[<- zx]at c3;have hn3:((l++[r]).take (w+1)).length =w+1:=by rw[zx];exact ak
 have hn4:(((l++[r]).take (w+1)).drop 1).length =w:=by rw[zx];simp;omega
 have hz:(ab ((((l++[r]).take (w+1)).drop 1).drop w)).length =0:=by rw[zx];simp;omega
 refine sF f69 ?_;refine aS ?_;(refine aR ?_;conv=>whnf);(try(refine tX 2 ?_;try exact Zt));refine aS ?_;(refine aR ?_;conv=>whnf);(try(refine tX 2 ?_;try exact Zt));refine aS ?_;(refine aR ?_;conv=>whnf);(try(refine tX 2 ?_;try exact Zt));refine aS ?_;refine aS ?_;(refine aR ?_;conv=>whnf);(try(refine tX 2 ?_;try exact Zt))
 (try refine tB 0 ?_)
 refine aQ ?_;(refine aR ?_;conv=>whnf);(try(refine tX 2 ?_;try exact Zt));refine⟨_,dh 22 rfl,?_⟩;repeat' ((first|refine tX 0 ?_|exact Zt|refine bR ?_ ?_<;>intro h)<;>(try conv=>whnf))
 generalize (((l++[r]).take (w+1)).drop 1).drop w=u at*
 refine af (ι:=Nat) (λ_=>True) (λ_=>0) (λ_=>⟨[(4,pP 0),(7,pP 1),(61,some (.val (false,[.st (.view (ab u))]))),(62,vI (ab u).length),(63,vI 0)],[(0,some (.box 147 [.nil,.nil,.st (T [])])),(1,some (.box 147 [.st (.view (ab (((l++[r]).take (w+1)).drop 1))),.nil,.st (T r)]))],2⟩) 0
  Zc trivial ?_
 intro i _;rw[zx];exact tA
def EJ: ∀u:List aj,jk u=if(dL u).length =u.length then some (dL u)else none
 | []=>rfl
 |s::r=>by
  unfold jk dL
  cases e:wN false 7 s with
  |none=>simp
  |some n=>
   rw[EJ r];by_cases h:(dL r).length =r.length
   ·simp[h]
   ·simp[h]
def V4 (role w k:Nat)(rest:Bool)(f:FuncId)(s:aj)(hl:s.length<=100000)(hw:w<=10)(hk:k<=w)(hr:rest=true->k=0):
  ∃a n r ok,ad 69 [NA role w k rest f,SS s] (.aJ [wX a n r,Bo ok])/\eD ⟨role,w,k,rest⟩ s=if ok=true then some (a,n,r)else none:=by
 have sQ:w+1<=11:=by omega
 cases rest
 ·by_cases h:(av 32 s).length =w+1
  ·have ht:(av 32 s).take (w+1)=av 32 s:=o0 K0;by_cases he: []∈av 32 s
   ·refine⟨_,_,_,_,ac6 role w k f s hl hw h he,?_⟩;unfold eD;rw[if_pos (.inr (.inr (by rw[show(Vb.mk role w k false).words +1=w+1 from rfl,ht];exact he)))];rfl
   ·obtain⟨d,rfl⟩: ∃d,w=d+k:=⟨w -k,by omega⟩;refine⟨_,_,_,_,QD role d k f s hl hw h he,?_⟩;unfold eD
    rw[if_neg (by
     show ¬((false=true/\_)\/(false=false/\(av 32 s).length ≠d+k+1)\/[]∈(av 32 s).take (d+k+1));rw[ht];rintro(⟨h1,_⟩|⟨_,h1⟩|h1)
     ·cases h1
     ·exact h1 h
     ·exact he h1)]
    show(jk (((av 32 s).take (d+k+1)).drop (d+k+1 -k))).map (λn=>(((av 32 s).take (d+k+1)).drop 1,n,if false=true then _ else []))=_;rw[ht,show d+k+1 -k=1+d by omega,<- XX,EJ];have hu:(((av 32 s).drop 1).drop d).length =k:=by simp;omega
    rw[hu];by_cases hn:(dL (((av 32 s).drop 1).drop d)).length =k
    ·rw[if_pos hn,fH hn];rfl
    ·rw[if_neg hn,eT hn];rfl
  ·refine⟨_,_,_,_,ZN role w k f s hl hw h,?_⟩;unfold eD;rw[if_pos (.inr (.inl ⟨rfl,h⟩))];rfl
 ·obtain rfl:=hr rfl;by_cases h:(av 32 s).length <w+2
  ·refine⟨_,_,_,_,VY role w f s hl hw h,?_⟩;unfold eD;rw[if_pos (.inl ⟨rfl,h⟩)];rfl
  ·by_cases he: []∈(av 32 s).take (w+1)
   ·refine⟨_,_,_,_,ZO role w f s hl hw K0 he,?_⟩;unfold eD;rw[if_pos (.inr (.inr he))];rfl
   ·refine⟨_,_,_,_,VZ role w f s hl hw K0 he,?_⟩;unfold eD
    rw[if_neg (by
     rintro(⟨_,h1⟩|⟨h1,_⟩|h1)
     ·exact h h1
     ·cases h1
     ·exact he h1)]
    show(jk (((av 32 s).take (w+1)).drop (w+1 -0))).map (λn=>(((av 32 s).take (w+1)).drop 1,n,if true=true then _ else []))=_;rw[show((av 32 s).take (w+1)).drop (w+1 -0)= []from List.drop_eq_nil_of_le wG];rfl
end Go.Proofs.Tryz
