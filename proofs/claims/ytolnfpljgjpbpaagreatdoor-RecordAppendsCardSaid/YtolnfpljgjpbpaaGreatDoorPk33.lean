import Derived.Test.YtolnfpljgjpbpaaGreatDoorPk32
set_option linter.all false
set_option maxRecDepth 100000
set_option maxHeartbeats 8000000
namespace Go.Proofs.Tryz
open Go.Fw Go.IntWalk Go.Plain
theorem Ux {w:aj}(h:lB w<19):w=(jL.getD (lB w) si).1:=by
 have h':lB w< (jL.map Prod.fst).length :=h;have e:(jL.map Prod.fst)[lB w]=w:=List.getElem_idxOf h';have hv:lB w<jL.length:=h;conv=>lhs;rw[<- e]
 simp[jX,hv]
theorem A9: ∀k<19,((vb k).sR =0/\((jL.getD k si).1≠[115,104,111,99,107]/\(jL.getD k si).1≠[108,111,97,100])/\(jL.getD k si).1≠[103,97,115])\/
  ((vb k).words +1 -(vb k).sR =2/\(vb k).rest =false/\1<=(vb k).words /\¬(((jL.getD k si).1≠[115,104,111,99,107]/\(jL.getD k si).1≠[108,111,97,100])/\(jL.getD k si).1≠[103,97,115])):=by decide
def Uy {tx:aj}{k:Nat}(hk:lB ((aH 32 tx).getD 0 [])=k)(h19:k<19):
  (fT (vb k) tx=none/\(∃ws,Kd tx=(ws,(k:Int),false))\/
  ∃a r,a.length=(vb k).words /\Kd tx=((aH 32 tx).getD 0 []::a++(if(vb k).rest then [r]else []),(k:Int),true)/\(∀x∈a,x∈aH 32 tx)/\r.length<=tx.length/\((vb k).rest =true->r=ci ((vb k).words +1) tx)/\
   fT (vb k) tx=(jT (((aH 32 tx).getD 0 []::a).drop ((vb k).words +1 -(vb k).sR))).map λn=>(a,n,if(vb k).rest then r else [])):=by
 have h3:=LX.2 (ng 32 tx);unfold Kd fT;rw[hk,if_neg (show ¬19<=k by omega)];generalize hws:aH 32 tx=ws at*;generalize vb k=v at*;by_cases h1:(v.rest=false/\ws.length≠v.words+1)\/(v.rest=true/\ws.length<v.words+2)
 ·rw[if_pos h1];refine .inl ⟨?_,[],rfl⟩;rw[if_pos];rcases h1 with h|h
  ·exact .inr (.inl h)
  ·exact .inl h
 rw[if_neg h1];by_cases h2: []∈ws.take (v.words+1)
 ·rw[if_pos h2];refine .inl ⟨?_,[],rfl⟩;rw[if_pos (.inr (.inr h2))]
 rw[if_neg h2]
 have bD:v.words+1<=ws.length:=by
  cases hr:v.rest
  ·have: ¬(ws.length≠v.words+1):=λh=>h1 (.inl ⟨hr,h⟩);omega
  ·have: ¬(ws.length<v.words+2):=λh=>h1 (.inr ⟨hr,h⟩);omega
 have ht:ws.take (v.words+1)=ws.getD 0 []::(ws.take (v.words+1)).drop 1:=by
  cases ws with
  |nil=>simp at h3
  |cons a ws=>rfl
 refine .inr ⟨(ws.take (v.words+1)).drop 1,ci (v.words+1) tx,by rw[S7,Dc];omega,by rw[<- ht],λx hx=>Ca (P2 hx),?_,λ_=>rfl,?_⟩
 ·exact oh _ _
 ·have h4: ¬((v.rest=true/\ws.length<v.words+2)\/(v.rest=false/\ws.length≠v.words+1)\/[]∈ws.take (v.words+1)):=by
   rintro(h|h|h)
   ·exact h1 (.inr h)
   ·exact h1 (.inl h)
   ·exact h2 h
  show(if _ then _ else _)=_;rw[if_neg h4,<- ht]
def abf {tx:aj}(hl:tx.length<=400){k:Nat}(hk:lB ((aH 32 tx).getD 0 [])=k):
  (19<=k/\Kd tx=([],-1,false))\/(k<19/\fT (vb k) tx=none/\∃ws,Kd tx=(ws,(k:Int),false))\/(k<19/\fT (vb k) tx=none/\∃ws,Kd tx=(ws,(k:Int),true)/\ac 97 [V1 ws] (.one (Bo false)))\/
  (k<19/\∃a n r,fT (vb k) tx=some (a,n,if(vb k).rest then r else [])/\Kd tx=((aH 32 tx).getD 0 []::a++(if(vb k).rest then [r]else []),(k:Int),true)/\a.length=(vb k).words /\(∀x∈a,x.length<=1000)/\r.length<=1000/\
   jT (((aH 32 tx).getD 0 []::a).drop ((vb k).words +1 -(vb k).sR))=some n/\ac 97 [V1 ((aH 32 tx).getD 0 []::a++(if(vb k).rest then [r]else []))] (.one (Bo true))):=by
 by_cases h19:19<=k
 ·exact .inl ⟨h19,by unfold Kd;grind⟩
 have h19:k<19:=by omega
 rcases Uy hk h19 with⟨h1,h2⟩|⟨a,r,h1,h2,h3,h4,h5,h6⟩
 ·grind
 have hs2:=(cj 32 tx).2;have UQ:((aH 32 tx).getD 0 []).length <=400:=by grind
 have hal: ∀x∈a,x.length<=1000:=λx hx=>by grind
 have hw:=Ux (w:=(aH 32 tx).getD 0 []) (by omega);rw[hk]at hw;generalize (aH 32 tx).getD 0 []=w0 at*;have anQ:(vb k).words <=10:=OL k h19
 have hN:FE (w0::a++(if(vb k).rest then [r]else []))=(jT ((w0::a).drop ((vb k).words +1 -(vb k).sR))).isSome :=by
  unfold FE;show(if(w0≠_/\w0≠_)/\w0≠_ then true else _)=_
  rcases A9 k h19 with⟨g1,g2⟩|⟨g1,g2,g3,g4⟩
  ·have hd:(w0::a).drop ((vb k).words +1)= []:=Sy (by grind);rw[g1,HH,hd];rw[<- hw]at g2;exact if_pos g2
  grind
 have iY:=zH (w0::a++(if(vb k).rest then [r]else [])) (by simp) (by
  rcases A9 k h19 with⟨g1,g2⟩|⟨g1,g2,g3,g4⟩
  ·refine .inl ?_;rw[hN,g1,HH,Sy (by grind)];rfl
  ·refine .inr ?_;rw[g2];simp;omega) (by grind) (λx hx=>by
   grind) (by
  grind[A9])
 rw[hN]at iY
 cases hn:jT ((w0::a).drop ((vb k).words +1 -(vb k).sR))with
 |none=>
  grind
 |some n=>
  rw[hn]at iY h6;exact .inr (.inr (.inr ⟨h19,a,n,r,h6,h2,h1,hal,by omega,hn,iY⟩))
section
variable {p:Pl}{log:List En}{s:bV}{e:En}
theorem O2 (h:e.lz∈p.ax):fP p e.lz=(p.ae.getD (be p.ax e.lz).toNat ([],0)).2:=if_pos h
def abg (Xx: ∀q∈p.ae,0<=q.2):fP p e.lz<0↔be p.ax e.lz<0:=by
 by_cases h:e.lz∈p.ax
 grind[k9,O2]
 ·unfold fP;rw[if_neg h,dW h]
theorem O3 (hP:PB p)(hS:SB p log s)(hR:RB p log s)(Xx: ∀q∈p.ae,0<=q.2)(ht:e.text.length<=100000):
  ac 55 [(true,bL p),(false,[.view (log.map cd)]),(true,tq s),(true,cd e)] (nxR (lJ EE p log s e)):=by
 have hri:=abg (e:=e) Xx;by_cases mY:pre p log e=0;rotate_left
 ·have:=abd p log s e hP.ae hR.len ht mY
  have io:lJ EE p log s e=(s,pre p log e):=by
   unfold pre at mY ⊢;unfold lJ
   grind
  grind
 obtain⟨g1,g2,g3,g4⟩:=F8 mY;have Ad: ¬be p.ax e.lz<0:=λh=>by grind
 have abM:e.lz∈p.ax:=by grind[dW]
 have anU:=O2 abM
 have io:lJ EE p log s e=if ¬aU e.text then(s,3)else
   if 19<=lB ((aH 32 e.text).getD 0 [])then(s,7)else
   if fP p e.lz< (vb (lB ((aH 32 e.text).getD 0 []))).role then(s,18)else
   match fT (vb (lB ((aH 32 e.text).getD 0 []))) e.text with
   |none=>(s,7)
   |some (a,n,rest)=>bm EE p log s (lB ((aH 32 e.text).getD 0 [])) a n rest:=by
  unfold lJ
  grind
 rw[io];clear io;generalize hk:lB ((aH 32 e.text).getD 0 [])=k at*;have ma: ∀ {ws:List aj} {k':Int} {ok nb:Bool},_:=λ{ws k' ok nb}=>qQ p log s e hP.ae hR.len mY (ws:=ws) (k:=k') (ok:=ok) (nb:=nb);by_cases zZ:aU e.text;rotate_left
 ·rw[if_pos zZ]
  rcases abf g4 hk with⟨a1,a2⟩|⟨a1,a2,ws,a3⟩|⟨a1,a2,ws,a3,a4⟩|⟨a1,a,n,r,a2,a3,a4,a5,a6,a7,a8⟩
  grind
  grind
  grind
  ·exact qQ p log s e hP.ae hR.len mY a3 (.inr ⟨k,rfl,a1⟩) (λ_=>a8) 3 (by decide) (λ_=>rfl) (λh=>absurd h zZ) (λ_ h=>absurd h zZ) (λ_ h=>absurd h zZ) (λ_ h=>absurd h zZ)
 rw[if_neg (λh=>h zZ)];have inj: ∀ {j:Nat},((k:Nat):Int)=j->j=k:=λh=>by omega
 rcases abf g4 hk with⟨a1,a2⟩|⟨a1,a2,ws,a3⟩|⟨a1,a2,ws,a3,a4⟩|⟨a1,a,n,r,a2,a3,a4,a5,a6,a7,a8⟩
 ·rw[if_pos a1]
  grind
 ·rw[if_neg (by omega),a2];by_cases UI:fP p e.lz< (vb k).role
  ·rw[if_pos UI];exact qQ p log s e hP.ae hR.len mY a3 (nb:=true) (.inr ⟨k,rfl,a1⟩) (λh=>by cases h) 18 (by decide) (λh=>absurd zZ h) (λ_ h=>by omega) (λ_ _ _ _=>rfl) (λj _ h h'=>by obtain rfl:=inj h;omega) (λ_ _ _ _ h=>by cases h)
  grind
 ·rw[if_neg (by omega),a2];by_cases UI:fP p e.lz< (vb k).role
  ·rw[if_pos UI];exact qQ p log s e hP.ae hR.len mY a3 (.inr ⟨k,rfl,a1⟩) (λ_=>a4) 18 (by decide) (λh=>absurd zZ h) (λ_ h=>by omega) (λ_ _ _ _=>rfl) (λj _ h h'=>by obtain rfl:=inj h;omega) (λ_ _ _ _ _ h=>by cases h)
  ·rw[if_neg UI];exact qQ p log s e hP.ae hR.len mY a3 (.inr ⟨k,rfl,a1⟩) (λ_=>a4) 7 (by decide) (λh=>absurd zZ h) (λ_ _=>rfl) (λj _ h h'=>by grind) (λ_ _ _ _ _=>rfl) (λ_ _ _ _ _ h=>by cases h)
 ·rw[if_neg (by omega),a2];by_cases UI:fP p e.lz< (vb k).role
  ·rw[if_pos UI];exact qQ p log s e hP.ae hR.len mY a3 (.inr ⟨k,rfl,a1⟩) (λ_=>a8) 18 (by decide) (λh=>absurd zZ h) (λ_ h=>by omega) (λ_ _ _ _=>rfl) (λj _ h h'=>by obtain rfl:=inj h;omega) (λj _ h h'=>by grind)
  ·rw[if_neg UI];dsimp only;have hq:(if(vb k).rest then r else []).length <=1000:=by grind
   have eG:=ad4 (a:=a) (n:=n) (q:=if(vb k).rest then r else []) hP hS hR a1 (w0:=(aH 32 e.text).getD 0 []) (by grind[Ux]) a4 a5 hq a7;have hws:(aH 32 e.text).getD 0 []::a++(if(vb k).rest then [if(vb k).rest then r else []]else [])=(aH 32 e.text).getD 0 []::a++(if(vb k).rest then [r]else []):=by grind
   rw[hws]at eG;have b1:=hR.opens;have b2:s.lots.length<=1000:=by have:=hS.lots;omega
   have b3:s.units.length<=1000:=by have:=hS.units;omega
   have b4: ∀u∈s.units,(u.lots.length<=1000/\u.res.length<=1000)/\u.gas.length<=1000:=λu hu=>by
    have h1:=(hS.unit u hu).lots;have h2:=(hS.unit u hu).len;have h3:=(hS.unit u hu).gas;have h4:=hR.len
    grind
   rcases eG with h|⟨i,u,h1,h2,h3⟩|⟨i,u,u',h1,h2,h3,h4⟩
   ·exact RS p log s e hP.ae hR.len mY zZ a3 a1 a8 (by omega) b1 b2 b3 b4 h
   ·exact RU p log s e hP.ae hR.len mY zZ a3 a1 a8 (by omega) b1 b2 b3 b4 h1 h2 h3
   ·exact RT p log s e hP.ae hR.len mY zZ a3 a1 a8 (by omega) b1 b2 b3 b4 h1 h2 h3 h4
end
def ad5 {p:Pl}{log:List En}{u:Un}{t:Ts}(hP:PB p)(hU:UB p log u)(ht:t∈p.aa)(hr:iV u.res t=true)(hk:t.kind=2):adU log u t:=by
 obtain⟨n0,nd,hn,t0,ht0,Ht,hk0⟩:=hP.comp t ht hk;obtain⟨r,hl⟩:=Fx hr hn;obtain⟨hm,hmt,_⟩:=IV hl;obtain⟨k,h1,h2,h3,h4,⟨a,n,q,h5⟩,h6⟩:=hU.res r hm;have h7:=h6 t0 ht0 (by rw[Ht,hmt]) hk0;obtain⟨rt,ra,re,rv⟩:=r;simp only at h1;subst h1
 rcases Uy h4 (by decide)with⟨g1,_⟩|⟨a',r',g1,g2,g3,g4,g5,g6⟩
 ·rw[h5]at g1;cases g1
 ·have Cx:=g5 rfl;subst Cx;refine⟨n0,nd,rt,ra,k,rv,(aH 32 (log.getD k iX).text).getD 0 []::a',12,hn,hl,h2,?_,g2,by omega,h7⟩;rw[kH,g1];rfl
def RV {l:List aj}{x:aj}(h:l.Nodup)(hx:x∉l):(l++[x]).Nodup :=by
 rw[LZ];refine⟨h,by simp,λa ha b hb e=>?_⟩;have:b=x:=by simpa using hb
 subst this;subst e;exact hx ha
def O4 {p:Pl}{log:List En}{s:bV}{e:En}(h:s.opens.Nodup)(hz:(lJ EE p log s e).2=0):(lJ EE p log s e).1.opens.Nodup :=by
 unfold lJ at hz ⊢;split
 ·exact h
 split
 ·exact h
 split
 ·exact h
 split
 ·exact h
 split
 ·exact h
 split
 ·exact h
 split
 ·exact h
 split
 ·exact h
 ·rename_i a n r _;unfold bm;split
  ·exact h
  ·repeat' split
   all_goals exact h
  ·repeat' split
   all_goals exact h
  ·repeat' split
   all_goals first|exact h|exact RV h (by assumption)
  ·repeat' split
   all_goals first|exact h|exact h.erase _
  all_goals(repeat' split)
  all_goals exact h
def zM:ac 54 [] (.one (true,tq Go.Plain.fQ)):=by
 refine sF f54 ?_
 (try(refine tX 0 ?_;try exact Zt))
 rfl
def RI (p:Pl)(l:List En)(i:Nat)(s:bV):Prop:=i<=l.length/\mU p [] Go.Plain.fQ l=mU p (l.take i) s (l.drop i)/\SB p (l.take i) s/\s.opens.Nodup
def RW {p:Pl}{l:List En}(hs:gz p)(hP:PB p)(Xx: ∀q∈p.ae,0<=q.2)(hl:l.length<=60)(ht: ∀e∈l,e.text.length<=100000){y:bV × Nat × Int}(hy:mU p [] Go.Plain.fQ l=y):
  ac 33 [(true,bL p),(false,[.view (l.map cd)])] (.aI [(true,tq y.1),I y.2.1,I y.2.2]):=by
 have c1:=zM;have wu:(l.map cd).length =l.length:=by simp
 have hu: ∀e∈l.map cd,e.length=3:=λe he=>by
  obtain⟨x,_,rfl⟩:=dC.1 he;rfl
 refine sF f33 ?_;repeat' ((first|refine tX 0 ?_|exact Zt|refine bR ?_ ?_<;>intro h)<;>(try conv=>whnf))
 all_goals try(exfalso;omega)
 refine af (ι:=Nat × bV) (λz=>RI p l z.1 z.2) (λz=>l.length -z.1) (λz=>⟨[(1,some (.val (nN l))),(2,pP 0),(4,pP 2),(7,pP 4),(8,vI z.1)],[(0,some (.box 27 (dyn (true,bL p)).2)),(2,some (.box 35 [.st (K false),.st (K false),.nil,.st (T []),.nil,.nil])),(4,some (.box 35 (dyn (true,tq z.2)).2))],1000⟩) (0,Go.Plain.fQ) Zc ⟨dz _,by rw[Dl,GF],by rw[Dl];exact FB p,Me⟩ ?_;rintro⟨i,s⟩ ⟨hi,bE,B9,Cu⟩;dsimp only at hi bE B9 Cu ⊢;by_cases al:i<l.length
 ·have tm:=aZ (f:=cd) al iX;have z6:l.take (i+1)=l.take i++[l.getD i iX]:=by rw[Db,o8 al];simp[jX,al]
  have htl:(l.take i).length =i:=by simp;omega
  have alK:l.getD i iX∈l:=by rw[jX,o8 al];exact pd _
  have al2:ib p (l.take i) s (l.getD i iX)=lJ EE p (l.take i) s (l.getD i iX):=if_neg (by omega);have hRB:RB p (l.take i) s:=⟨hs,by omega,by have:=B9.opens;omega,Cu,λu hu t PO hk hr=>ad5 hP (B9.unit u hu) PO hr hk⟩;have c2:=O3 (e:=l.getD i iX) hP B9 hRB Xx (ht _ alK);rw[HG]at c2;rw[I3 al,al2]at bE;have anu:=λs' h=>(RD (s':=s') hP B9 (l.getD i iX) (al2.trans h)).1;have al4:=O4 (p:=p) (log:=l.take i) (e:=l.getD i iX) Cu;generalize hz:lJ EE p (l.take i) s (l.getD i iX)=z at*;obtain⟨s',e'⟩:=z;dsimp only at bE al4;by_cases he:e'=0
  ·subst he;rw[if_pos rfl]at bE;have c3:ac 55 [(true,bL p),(false,[.view (List.take i (l.map cd))]),(true,tq s),(true,cd (l.getD i iX))] (.aI [(true,tq s'),I 0]):=c2;generalize l.getD i iX=en at*
   (try(refine tX 0 ?_;try exact Zt))
   refine Ck hu rfl rfl rfl rfl rfl rfl (by omega) ?_;repeat' ((first|refine tX 0 ?_|exact Zt|refine bR ?_ ?_<;>intro h)<;>(try conv=>whnf))
   all_goals first|exact Ze|exact⟨(i+1,s'),⟨al,bE,by rw[z6];exact anu s' rfl,al4 rfl⟩,by dsimp only;omega,Zc⟩
  ·rw[if_neg he]at bE
   have c3:ac 55 [(true,bL p),(false,[.view (List.take i (l.map cd))]),(true,tq s),(true,cd (l.getD i iX))] (.aI [(true,ad1),I e']):=by
    have:nxR (s',e')= .aI [(true,ad1),I e']:=by show mc.aI _=_;rw[if_neg he]
    rw[this]at c2;exact c2
   generalize l.getD i iX=en at*;rw[bE]at hy;subst hy
   (try(refine tX 0 ?_;try exact Zt))
   refine Ck hu rfl rfl rfl rfl rfl rfl (by omega) ?_;exact tB0
 ·obtain rfl:i=l.length:=by omega
  have hy':y=(s,0,0):=by rw[<- hy,bE,L9];rfl
  subst hy';exact tB0
section
variable {p:Pl}{l:List En}
def O5 (hl:60<l.length)(hl2:l.length<=1000):ac 33 [(true,bL p),(false,[.view (l.map cd)])] (.aI [(true,tq Go.Plain.fQ),I 0,I 8]):=by
 have c1:=zM;have wu:(l.map cd).length =l.length:=by simp
 refine sF f33 ?_;exact tA
def wR (hs:gz p)(he:(p.err jb).2=0)(hP:PB p)(Xx: ∀q∈p.ae,0<=q.2)(hl:l.length<=1000)(ht: ∀e∈l,e.text.length<=100000):
  ac 33 [(true,bL p),(false,[.view (l.map cd)])] (.aI [(true,tq (dh p l).1),I (dh p l).2.1,I (dh p l).2.2]):=by
 unfold dh;rw[if_neg (Df he)];by_cases h:60<l.length
 ·rw[if_pos h];exact O5 h hl
 ·rw[if_neg h];exact RW hs hP Xx (by omega) ht rfl
def sO (hs:gz p)(he:(p.err jb).2=0)(hP:PB p)(Xx: ∀q∈p.ae,0<=q.2)(hl:l.length<=1000)(ht: ∀e∈l,e.text.length<=100000):
  ac 16 [(true,bL p),(false,[.view (l.map cd)])] (.aI [I (dh p l).2.1,I (dh p l).2.2]):=by
 have c1:=wR hs he hP Xx hl ht;generalize dh p l=y at*;refine sF f16 ?_;repeat' ((first|refine tX 0 ?_|exact Zt|refine bR ?_ ?_<;>intro h)<;>(try conv=>whnf))
 all_goals rfl
def Lf (hs:gz p)(he:(p.err jb).2=0)(hP:PB p)(Xx: ∀q∈p.ae,0<=q.2)(hl:l.length<=1000)(ht: ∀e∈l,e.text.length<=100000):
  ac 18 [(true,bL p),(false,[.view (l.map cd)])] (.one (true,tq (dh p l).1)):=by
 have c1:=wR hs he hP Xx hl ht;generalize dh p l=y at*;refine sF f18 ?_;repeat' ((first|refine tX 0 ?_|exact Zt|refine bR ?_ ?_<;>intro h)<;>(try conv=>whnf))
 all_goals rfl
end
def mV (l:List En)(hl:l.length<=1000):ac 12 [(false,[.view (l.map cd)])] (.own 3 (.view (l.map cd))):=by
 have wu:(l.map cd).length =l.length:=by simp
 refine sF f12 ?_;repeat' ((first|refine tX 0 ?_|exact Zt|refine bR ?_ ?_<;>intro h)<;>(try conv=>whnf))
 all_goals first|rfl|trace_state
end Go.Proofs.Tryz
