import Derived.Test.YtackacoaaihcjaaGreatDoorPkF8
import Derived.Test.YtackacoaaihcjaaGreatDoorPkF10
set_option linter.all false
set_option maxRecDepth 100000
set_option maxHeartbeats 8000000
namespace Go.Proofs.Tryz
open Go.Fw Go.IntWalk Go.Plain
def wT (s:aj)(hl:s.length<=1000000):ac 57 [SS s,SS [32]] (.own 1 (.view (ab (ar 32 s)))):=by
 have h:=Am s 32 hl (tK s 32).2;rw[(tK s 32).1]at h;exact h
abbrev NJ (role words pZ:Nat)(rest:Bool)(f:FuncId):SV:=(true,[J role,J words,J pZ,K rest,.fn f [] []])
def Z2 (role words pZ:Nat)(f:FuncId)(s:aj)(hl:s.length<=100000)(hw:words<=10)(h:(ar 32 s).length ≠words+1):ac 69 [NJ role words pZ false f,SS s] (.aJ [wS [] [] [],Bo false]):=by
 have c1:=wT s K0;have h1:=(cd 32 s).1;exact afF
def adc (role words pZ:Nat)(f:FuncId)(s:aj)(hl:s.length<=100000)(hw:words<=10)(h:(ar 32 s).length =words+1)(he: []∈ar 32 s):ac 69 [NJ role words pZ false f,SS s] (.aJ [wS [] [] [],Bo false]):=by
 have c1:=wT s K0;have h1:=(cd 32 s).1;have c2:=bD (ar 32 s) [] K0;rw[fG he]at c2;exact afF
instance ade (a b:Nat):dN (((a+b:Nat):Int) -(b:Int)) a:=⟨by omega⟩
def dP:List aj->List Int
 | []=>[]
 |s::r=>match wN false 7 s with
  |some n=>n::dP r
  |none=>[]
def EC: ∀u:List aj,(dP u).length <=u.length
 | []=>dz _
 |s::r=>by
  unfold dP;split
  ·have:=EC r;simp;omega
  ·simp
def ED: ∀ {u:List aj} {i:Nat},i< (dP u).length ->wN false 7 (u.getD i [])=some ((dP u).getD i 0)
 | [],i,h=>by simp[dP]at h
 |s::r,i,h=>by
  unfold dP at h ⊢
  cases e:wN false 7 s with
  |none=>rw[e]at h;simp at h
  |some n=>
   rw[e]at h
   cases i with
   |zero=>simp[e]
   |succ i=>
    have:=ED (u:=r) (i:=i) UY;simpa using this
def wU: ∀ {u:List aj},(dP u).length <u.length->wN false 7 (u.getD (dP u).length [])=none
 | [],h=>by simp[dP]at h
 |s::r,h=>by
  unfold dP at h ⊢
  cases e:wN false 7 s with
  |none=>simp[e]
  |some n=>
   rw[e]at h;have:=wU (u:=r) UY;simpa using this
def QJ (role d k:Nat)(f:FuncId)(s:aj)(hl:s.length<=100000)(hw:d+k<=10)(h:(ar 32 s).length =d+k+1)(he: []∉ar 32 s):
  ac 69 [NJ role (d+k) k false f,SS s] (.aJ [wS ((ar 32 s).drop 1) (dP (((ar 32 s).drop 1).drop d)) [],Bo (decide ((dP (((ar 32 s).drop 1).drop d)).length =k))]):=by
 have c1:=wT s K0;have h1:=(cd 32 s).1;have h2:=(cd 32 s).2;have c2:=bD (ar 32 s) [] K0;rw[eU he]at c2;generalize ar 32 s=l at*;have hn:(ab l).length =l.length:=by simp
 have hu:(ab ((l.drop 1).drop d)).length =k:=by simp;omega
 have hlu: ∀i<k,(((l.drop 1).drop d).getD i []).length <=100000:=λi hi=>by
  have kH:i< ((l.drop 1).drop d).length :=by simp;omega
  have:((l.drop 1).drop d).getD i []∈l:=by
   rw[jP,oX kH,sZ];exact PA (PA (pH kH))
  have:=h2 _ this;omega
 refine sF f69 ?_;repeat' ((first|refine tX 0 ?_|exact Zt|refine bR ?_ ?_<;>intro h)<;>(try conv=>whnf))
 generalize hU:(l.drop 1).drop d=u at*;have hk:u.length=k:=by simpa using hu
 refine af (ι:=Nat) (λi=>i<=(dP u).length) (λi=>u.length -i) (λi=>⟨[(4,pP 0),(7,pP 1),(61,some (.val (false,[.st (.view (ab u))]))),(62,vI k),(63,vI i)],[(0,some (.box 147 [.nil,.nil,.st (T [])])),(1,some (.box 147 [.st (.view (ab (l.drop 1))),.own 2,.st (T [])])),(2,some (.row true 1 (.ints ((dP u).take i))))],3⟩) 0
  (bs.trans (iK 8 1 1 (.ints []) (T:=147) (cs:=[.st (.view (ab (l.drop 1))),.nil,.st (T [])]) K9 rfl rfl rfl rfl) (ai (by rw[<- hu];kernel_rfl))) (dM _) ?_
 intro i hi;have eB:=EC u;by_cases ak:i<k
 ·have CC:=sA (l:=u) (i:=i) K0;have Uy:=hlu i ak;obtain⟨v,cn,hv⟩:=mO false 7 K9 (u.getD i []) K0;by_cases hp:i< (dP u).length
  ·have uE:=ED hp;have e1:=hv _ uE;have zB:(dP u).take (i+1)=(dP u).take i++[v]:=by rw[<- e1,CK,oX hp,jP,oX hp];rfl
   have htl:((dP u).take i).length =i:=by simp;omega
   rw[uE]at cn;generalize (dP u).take i=w at*;generalize u.getD i []=y at*;exact ahY
  ·have hi2:(dP u).length =i:=by omega
   have eG:=wU (u:=u) K0;rw[hi2]at eG;rw[eG]at cn;rw[o0 K0,eU K0];generalize u.getD i []=y at*;exact tA
 ·have IF:(dP u).length =k:=by omega
  have:i=k:=by omega
  subst this;rw[o0 K0,fG IF];exact tA
abbrev vE (n:aj)(role words pZ:Nat)(rest:Bool)(f:FuncId):aj × SV:=(n,NJ role words pZ rest f)
abbrev kB (q:aj × SV):ByteArray × SV:=(B q.1,q.2)
def NK:List (aj × SV):=[
 vE [110,111,116,101] 0 0 0 true 114,vE [108,111,116] 1 1 0 false 115,vE [117,110,105,116] 1 1 0 true 116,
 vE [117,115,101] 1 2 0 false 117,vE [111,112,101,110] 2 1 0 false 118,vE [115,104,117,116] 2 1 0 false 119,
 vE [101,97,114,116,104] 2 0 0 false 120,vE [108,105,102,116] 2 0 0 false 121,vE [118,111,108,116,97,103,101] 2 0 0 false 122,
 vE [111,102,102] 2 0 0 false 123,vE [101,110,116,101,114] 1 1 0 false 124,vE [108,101,97,118,101] 1 1 0 false 125,
 vE [116,101,115,116] 2 2 0 true 126,vE [114,101,112,97,105,114] 1 2 0 false 127,vE [114,101,108,101,97,115,101] 3 1 0 false 128,
 vE [115,104,111,99,107] 1 2 1 false 129,vE [105,110,115,112,101,99,116] 2 1 0 false 130,vE [108,111,97,100] 1 3 2 false 131,vE [103,97,115] 1 6 5 false 132]
def ui:List (ByteArray × SV):=NK.map kB
def NL: ∀(l:List (aj × SV)) (w:aj),iY (l.map kB) (B w)=(l[(l.map Prod.fst).idxOf w]?).map Prod.snd
 | [],_=>rfl
 |q::l,w=>by
  show(match(B w==B q.1)with|true=>some q.2|false=>iY (l.map kB) (B w))=_;rw[Zx];by_cases h:w=q.1
  ·rw[fG h];simp[List.idxOf_cons,h]
  ·have hb:(q.1==w)=false:=by simp;exact λe=>h e.symm
   rw[eU h];dsimp only;rw[NL l w];simp[List.idxOf_cons,hb]
def Wb (w:aj):iY ui (B w)=(NK[jJ w]?).map Prod.snd:=NL NK w
def ago (fn:Func)(fid:Nat)(S:St):Prop:=∃id,S.hp.get id=some (.map ui)/\eA cx S.hp.get S.env.get fn.results.toList λys=>∃zs,kV [(id,fid)] ys=some zs/\pg zs=bm (.mp fid)
def gM {f:FuncId}{c:Code}{fid:Nat}(fn:Func)(h:m6 cx c ⟨iz 0 [],[],1⟩ (ago fn fid) (λ_ _=>False) (ago fn fid))
  (h1:iH cx.P f=true:=by kernel_rfl)(h2:cx.P.funcs[f]? =some fn:=by kernel_rfl)(h3:fn.body=some c:=by rfl)(h4:bM fn.ntmps c=true:=by kernel_rfl)(h5:([]:List DX).length <=fn.ntmps:=by exact dM _)(h6:aM [] c=true:=by kernel_rfl):
  bt cx f 1 [] [] [] (bm (.mp fid)) [(fid,some (.map ui))]:=
 fA lH h1 h2 h3 h4 h5 [] (λ_ h=>by cases h) h6 (λS hS=>by
  obtain⟨id,g1,g2⟩:=hS;refine⟨[(id,fid)],⟨by simp,by simp,λn b' e=>?_⟩,(λ_ h=>by cases h),g2⟩;obtain⟨rfl,rfl⟩:=iA e
  exact⟨id,_,by simp,g1,rfl⟩) h
def Wc (fid:Nat):bt cx 68 1 [] [] [] (bm (.mp fid)) [(fid,some (.map ui))]:=by
 refine gM f68 ?_
 (try(refine tX 0 ?_;try exact Zt))
 exact⟨4,by kernel_rfl,_,rfl,rfl⟩
def jn (H:HF)(fid:Nat):bW cx fid 68 [] H (bm (.mp fid)) [(fid,some (.map ui))] []:=
 gu (Wc fid) (λid hid=>by cases hid) (λid hid=>by cases hid) (λid b e=>by simp[Hp.get]at e) (λx hx=>by cases hx) (λid hid=>by cases hid)
  (λid hid=>.inr ajD) (λid b e=>by obtain⟨rfl,rfl⟩:=iA e;trivial) (by
   intro d hd;have:d= .mp fid:=by simpa [bm]using hd
   subst this
   exact .inr rfl)
theorem lY: ∀(k:Nat) (s:aj),(bP k s).length <=s.length
 |0,s=>dz _
 |k+1,s=>by
  unfold bP;have:=lY k (s.drop ((ar 32 s).getD 0 []).length.succ);rw[SR]at this;omega
def We (role w:Nat)(f:FuncId)(s:aj)(hl:s.length<=100000)(hw:w<=10)(h:(ar 32 s).length <w+2):ac 69 [NJ role w 0 true f,SS s] (.aJ [wS [] [] [],Bo false]):=by
 have c1:=rQ s (w+2) K0 K0 K0;rw[ND _ _ K0,if_pos K0,show(((w+2:Nat)):Int)=(w:Int)+2 by omega]at c1;have h1:=(cd 32 s).1;exact afF
instance agI (a:Nat):dN ((a:Int) -((0:Nat):Int)) a:=⟨by omega⟩
instance alG (a:Nat):dN ((a:Int)+1) (a+1):=⟨by omega⟩
def Z3 (role w:Nat)(f:FuncId)(s:aj)(hl:s.length<=100000)(hw:w<=10)(h:w+2<=(ar 32 s).length)(he: []∈(ar 32 s).take (w+1)):ac 69 [NJ role w 0 true f,SS s] (.aJ [wS [] [] (bP (w+1) s),Bo false]):=by
 have c1:=rQ s (w+2) K0 K0 K0;rw[J4 _ _ K0 h,show(((w+2:Nat)):Int)=(w:Int)+2 by omega,show w+2 -1=w+1 from rfl]at c1;have ak:((ar 32 s).take (w+1)).length =w+1:=by simp;omega
 have c2:=bD ((ar 32 s).take (w+1)) [] K0;rw[fG he]at c2;generalize (ar 32 s).take (w+1)=l at*;generalize bP (w+1) s=r at*;have hn:(ab (l++[r])).length =w+2:=by simp;omega
 have hn2:(ab ((l++[r]).take (w+1))).length =w+1:=by exact ajx
 have hg:(ab (l++[r]))[w+1]? =some [T r]:=by simp[ab,ak]
 have zB:(l++[r]).take (w+1)=l:=by rw[<- ak];simp
 have c3:=c2;rw[<- zB]at c3;refine sF f69 ?_;refine aS ?_;(refine aR ?_;conv=>whnf);(try(refine tX 2 ?_;try exact Zt));refine aS ?_;(refine aR ?_;conv=>whnf);(try(refine tX 2 ?_;try exact Zt));refine aS ?_;(refine aR ?_;conv=>whnf);(try(refine tX 2 ?_;try exact Zt));refine aS ?_;refine aS ?_;(refine aR ?_;conv=>whnf);(try(refine tX 2 ?_;try exact Zt))
 (try refine tB 0 ?_)
 refine aQ ?_;(refine aR ?_;conv=>whnf);(try(refine tX 2 ?_;try exact Zt));refine⟨_,dj 22 rfl,?_⟩;exact tA
def Wf (role w:Nat)(f:FuncId)(s:aj)(hl:s.length<=100000)(hw:w<=10)(h:w+2<=(ar 32 s).length)(he: []∉(ar 32 s).take (w+1)):ac 69 [NJ role w 0 true f,SS s] (.aJ [wS (((ar 32 s).take (w+1)).drop 1) [] (bP (w+1) s),Bo true]):=by
 have c1:=rQ s (w+2) K0 K0 K0;rw[J4 _ _ K0 h,show(((w+2:Nat)):Int)=(w:Int)+2 by omega,show w+2 -1=w+1 from rfl]at c1;have ak:((ar 32 s).take (w+1)).length =w+1:=by simp;omega
 have c2:=bD ((ar 32 s).take (w+1)) [] K0;rw[eU he]at c2;generalize (ar 32 s).take (w+1)=l at*;generalize bP (w+1) s=r at*;have hn:(ab (l++[r])).length =w+2:=by simp;omega
 have hn2:(ab ((l++[r]).take (w+1))).length =w+1:=by exact ajx
 have hg:(ab (l++[r]))[w+1]? =some [T r]:=by simp[ab,ak]
 have zB:(l++[r]).take (w+1)=l:=by rw[<- ak];simp
 have c3:=c2;rw[<- zB]at c3;have hn3:((l++[r]).take (w+1)).length =w+1:=by rw[zB];exact ak
 have hn4:(((l++[r]).take (w+1)).drop 1).length =w:=by rw[zB];simp;omega
 have hz:(ab ((((l++[r]).take (w+1)).drop 1).drop w)).length =0:=by rw[zB];simp;omega
 refine sF f69 ?_;refine aS ?_;(refine aR ?_;conv=>whnf);(try(refine tX 2 ?_;try exact Zt));refine aS ?_;(refine aR ?_;conv=>whnf);(try(refine tX 2 ?_;try exact Zt));refine aS ?_;(refine aR ?_;conv=>whnf);(try(refine tX 2 ?_;try exact Zt));refine aS ?_;refine aS ?_;(refine aR ?_;conv=>whnf);(try(refine tX 2 ?_;try exact Zt))
 (try refine tB 0 ?_)
 refine aQ ?_;(refine aR ?_;conv=>whnf);(try(refine tX 2 ?_;try exact Zt));refine⟨_,dj 22 rfl,?_⟩;repeat' ((first|refine tX 0 ?_|exact Zt|refine bR ?_ ?_<;>intro h)<;>(try conv=>whnf))
 generalize (((l++[r]).take (w+1)).drop 1).drop w=u at*
 refine af (ι:=Nat) (λ_=>True) (λ_=>0) (λ_=>⟨[(4,pP 0),(7,pP 1),(61,some (.val (false,[.st (.view (ab u))]))),(62,vI (ab u).length),(63,vI 0)],[(0,some (.box 147 [.nil,.nil,.st (T [])])),(1,some (.box 147 [.st (.view (ab (((l++[r]).take (w+1)).drop 1))),.nil,.st (T r)]))],2⟩) 0
  Zc trivial ?_
 intro i _;rw[zB];exact tA
def EI: ∀u:List aj,jl u=if(dP u).length =u.length then some (dP u)else none
 | []=>rfl
 |s::r=>by
  unfold jl dP
  cases e:wN false 7 s with
  |none=>simp
  |some n=>
   rw[EI r];by_cases h:(dP r).length =r.length
   ·simp[h]
   ·simp[h]
def Ie (role w k:Nat)(rest:Bool)(f:FuncId)(s:aj)(hl:s.length<=100000)(hw:w<=10)(hk:k<=w)(hr:rest=true->k=0):
  ∃a n r ok,ac 69 [NJ role w k rest f,SS s] (.aJ [wS a n r,Bo ok])/\dU ⟨role,w,k,rest⟩ s=if ok=true then some (a,n,r)else none:=by
 have sR:w+1<=11:=by omega
 cases rest
 ·by_cases h:(ar 32 s).length =w+1
  ·have ht:(ar 32 s).take (w+1)=ar 32 s:=o0 K0;by_cases he: []∈ar 32 s
   ·refine⟨_,_,_,_,adc role w k f s hl hw h he,?_⟩;unfold dU;rw[if_pos (.inr (.inr (by rw[show(Vb.mk role w k false).words +1=w+1 from rfl,ht];exact he)))];rfl
   ·obtain⟨d,rfl⟩: ∃d,w=d+k:=⟨w -k,by omega⟩;refine⟨_,_,_,_,QJ role d k f s hl hw h he,?_⟩;unfold dU
    rw[if_neg (by
     show ¬((false=true/\_)\/(false=false/\(ar 32 s).length ≠d+k+1)\/[]∈(ar 32 s).take (d+k+1));rw[ht];rintro(⟨h1,_⟩|⟨_,h1⟩|h1)
     ·cases h1
     ·exact h1 h
     ·exact he h1)]
    show(jl (((ar 32 s).take (d+k+1)).drop (d+k+1 -k))).map (λn=>(((ar 32 s).take (d+k+1)).drop 1,n,if false=true then _ else []))=_;rw[ht,show d+k+1 -k=1+d by omega,<- Yb,EI];have hu:(((ar 32 s).drop 1).drop d).length =k:=by simp;omega
    rw[hu];by_cases hn:(dP (((ar 32 s).drop 1).drop d)).length =k
    ·rw[if_pos hn,fG hn];rfl
    ·rw[if_neg hn,eU hn];rfl
  ·refine⟨_,_,_,_,Z2 role w k f s hl hw h,?_⟩;unfold dU;rw[if_pos (.inr (.inl ⟨rfl,h⟩))];rfl
 ·obtain rfl:=hr rfl;by_cases h:(ar 32 s).length <w+2
  ·refine⟨_,_,_,_,We role w f s hl hw h,?_⟩;unfold dU;rw[if_pos (.inl ⟨rfl,h⟩)];rfl
  ·by_cases he: []∈(ar 32 s).take (w+1)
   ·refine⟨_,_,_,_,Z3 role w f s hl hw K0 he,?_⟩;unfold dU;rw[if_pos (.inr (.inr he))];rfl
   ·refine⟨_,_,_,_,Wf role w f s hl hw K0 he,?_⟩;unfold dU
    rw[if_neg (by
     rintro(⟨_,h1⟩|⟨h1,_⟩|h1)
     ·exact h h1
     ·cases h1
     ·exact he h1)]
    show(jl (((ar 32 s).take (w+1)).drop (w+1 -0))).map (λn=>(((ar 32 s).take (w+1)).drop 1,n,if true=true then _ else []))=_;rw[show((ar 32 s).take (w+1)).drop (w+1 -0)= []from List.drop_eq_nil_of_le wA];rfl
end Go.Proofs.Tryz
