/-
  The law RecordAppends of chapter 10 returns true for every plant, every log and every entry, and leaves its arguments as they were, where the tables and errors hold what their text lays.
-/
import Derived.Test.YtolnfpljgjpbpaaGreatDoorPk7
import Derived.Test.YtolnfpljgjpbpaaGreatDoorPk34
import Derived.Test.YtolnfpljgjpbpaaGreatDoorTie
import Derived.Test.YtolnfpljgjpbpaaGreatDoorCards
set_option linter.all false
namespace Go.Proofs.YtolnfpljgjpbpaaGreatDoor.recordAppends
open Go.Fw Go.ChangeShapes Go.WideShapes Go.ChangeAt Go.RowKit Go.Proofs.Tryz
set_option maxRecDepth 100000 in
def walk (xs:List SV)(h:Ci cx 6 Tryz.f5.params.toList xs):ac 5 xs (.one (false,[.lit (.bool true)])):=by
 rw[Tryz.params5]at h;obtain⟨x,y,z,rfl,h1,h2,h3⟩:=akm (t:=27) (u:=28) (v:=51) h;obtain⟨p,rfl,⟨a1,a2,a3,a4⟩,b1,b2⟩:=Bb h1;obtain⟨l,rfl,hl,_⟩:=Lm h2;obtain⟨e,rfl⟩:=ad9 h3;exact Pk Ba p l e a1 a2 a3 a4 (λi hi=>b1 _ (Bc hi _)) (λi hi=>b2 _ (Bc hi _)) hl
set_option maxRecDepth 100000 in
def lifted (os:Os)(lu:os.Started)(H:Type)(enc:TypeId × Value->H):
  ReturnsInHanded {} Tryz.checked os 5 .any (λw args=>(Rows.recordAppendsSpec.pre enc Tryz.prog Tryz.f5 [] false w args/\laidMetH Tryz.prog jn w)/\sizedMet enc Tryz.prog Tryz.f5 (OpenSpec.ofChange Rows.recordAppendsSpec) false w args)
   (Rows.recordAppendsSpec.post enc Tryz.prog Tryz.f5 false true false false):=by
 refine XS (C:=Tryz.checked) own lu (by kernel_rfl)
  (XP (enc:=enc) (C:=Tryz.checked) (os:=os) (X:=λw _=>laidMetH Tryz.prog jn w) false (World.laidAll Tryz.prog os jn) #[.agg #[.slice none 0 0,.slice none 0 0,.slice none 0 0,.slice none 0 0,.int .i64 0,.int .i64 0],.slice none 0 0,.agg #[.int .i64 0,.string (ByteArray.mk #[]),.string (ByteArray.mk #[])]] 8 (X5 _ _ _) (XW (by kernel_rfl) (by kernel_rfl)) (by kernel_rfl) (by kernel_rfl) (by kernel_rfl) (Gf os _)) ?_
 intro w tape i _ Sj _ e8 mY _;obtain⟨_,_,_,fn',abA,_,_,_,_,l8⟩:=e8;obtain rfl:fn'=Tryz.f5:=qg (abA.symm.trans Tryz.func5);obtain⟨⟨⟨ds,gs,Gx,hw,_⟩,hx⟩,_⟩:=mY;have hw':=XX (w':=w.forCall tape i) (by rfl) hw;have tu:laidMetH Tryz.prog jn (w.forCall tape i):=hx.of_heap (by rfl)
 refine(rJ (C:=cx) (d:=6) kz Lo (by kernel_rfl) (by kernel_rfl) rfl (by kernel_rfl) rfl
  (λds hl=>by
   rw[Tryz.params5]at hl
   match ds,hl with
   | [d1,d2,d3],_=>rfl) walk (Lp tu Sj) l8 hw').mono λe W' hh=>?_
 obtain⟨v,he,hp⟩:=hh;subst he;exact XV hp
def zN:(Rows.recordAppendsRow.wf (OpenSpec.ofChange Rows.recordAppendsSpec)&&laidOutB Tryz.prog&&mapsRowed Tryz.prog&&Tryz.f5.params.all (Tryz.prog.readableRec ·)&&namedTie Tryz.prog Rows.recordAppendsRow.named Rows.recordAppendsSpec.vars&&(Rows.recordAppendsRow.stops==[])&&(Tryz.prog.stops==[])&&(Rows.recordAppendsRow.knobs==[])&&(Tryz.prog.stopKnobs==[]))=true:=by kernel_rfl
def zO:(Rows.recordAppendsRow.inPlace==Tryz.prog.inPlace 5)=true:=by kernel_rfl
def zP:(Rows.recordAppendsRow.unfollowed==Tryz.prog.unfollowed 5)=true:=by kernel_rfl
def zQ:(Rows.recordAppendsRow.recurses==Tryz.prog.recurses 5)=true:=by kernel_rfl
def zR:(Rows.recordAppendsRow.named==Tryz.prog.varsNamed 5)=true:=by kernel_rfl
def zS:((Rows.recordAppendsRow.maps==(Tryz.f5.params.toList++Rows.recordAppendsSpec.plain.varTypes Tryz.prog).any (Tryz.prog.mapsRec ·))&&(Rows.recordAppendsRow.ifaces==(Tryz.f5.params.toList++Rows.recordAppendsSpec.plain.varTypes Tryz.prog).any (Tryz.prog.ifacesRec ·))&&(Rows.recordAppendsRow.mapsOut==Tryz.prog.mapsAmong Tryz.f5.resultTypes.toList)&&(Rows.recordAppendsRow.loops==(Tryz.f5.params.toList++Rows.recordAppendsSpec.plain.varTypes Tryz.prog).any (Tryz.prog.loopsFrom ·))&&(Rows.recordAppendsRow.wideKeys==(Tryz.f5.params.toList++Rows.recordAppendsSpec.plain.varTypes Tryz.prog++Tryz.f5.resultTypes.toList).any (Tryz.prog.wideKeysFrom ·))&&Rows.recordAppendsSpec.vars.all (Tryz.prog.varReadable ·)&&Tryz.f5.resultTypes.all (λt=>Tryz.prog.readableRec t&&decide (t<Tryz.prog.types.size))&&(Rows.recordAppendsRow.ifacesOut==Tryz.f5.resultTypes.toList.any (Tryz.prog.ifacesRec ·))&&(Rows.recordAppendsRow.loopsOut==Tryz.f5.resultTypes.toList.any (Tryz.prog.loopsFrom ·)))=true:=by kernel_rfl
def zT:(Rows.recordAppendsRow.plainKeys==Tryz.prog.plainKeys)=true:=by kernel_rfl
def zU:(Rows.recordAppendsRow.shortTexts.isNone&&Tryz.prog.stopsHeard&&Tryz.prog.mayEnter&&(Rows.recordAppendsRow.lifted==Tryz.prog.liftsFinal)&&(Tryz.prog.make==some Rows.recordAppendsRow.make))=true:=by kernel_rfl
def zW:o7 Tryz.prog Tryz.f5 Rows.recordAppendsSpec Rows.recordAppendsRow=true:=by kernel_rfl
def Gg:joinedFacts Tryz.prog 5 Tryz.f5 Rows.recordAppendsSpec Rows.recordAppendsRow=true:=
 Bd zN zO zP zQ zR zS zT zU zW
def named:Tryz.prog.funcNamed Rows.recordAppendsRow.func=some 5:=by kernel_rfl
def instanced:Tryz.f5.isInstance Tryz.prog Rows.recordAppendsRow.origin Rows.recordAppendsRow.targs:=Jm (by kernel_rfl)
def zX:Tryz.f5.isWrapper Tryz.prog Rows.recordAppendsRow.wrapper Rows.recordAppendsRow.mainSum:=by
 unfold Func.isWrapper;first|(rw[if_pos (by decide+kernel)];kernel_rfl)|(rw[if_neg (by decide+kernel)];exact⟨rfl,rfl⟩)
def abu:Rows.RecordAppendsSaid:=
 XT 5 Tryz.f5 rfl rfl rfl rfl rfl rfl rfl ⟨rfl,rfl,rfl,rfl,rfl⟩ rfl rfl rfl rfl rfl named Tryz.func5 Gg
  instanced zX
  (λos lu H enc _=>lifted os lu H enc)
def Pc:Rows.recordAppendsRow.wfByText (OpenSpec.ofChange Rows.recordAppendsSpec)=true:=by kernel_rfl
def Pd:Tryz.pinned.checked.prog.mainIs=some (true,("c4e3e1b251f09b66eee75dbaad17e04f2a1a0b7866e8dcc4d50543ef596e48e1" :String).toList):=by kernel_rfl
def Pe:true=Tryz.prog.looks []:=by kernel_rfl
def Pf:(Tryz.f5.params.toList.all λu=> !Tryz.prog.wantsStandIn u)=true:=by kernel_rfl
def Pg:false=Rows.recordAppendsRow.goesBy Tryz.prog:=u5 Ln _
def Ph:Tryz.prog.funcNamed "buchholz/buchholzlaw10.RecordAppends" =some 5:=named
def Pj (f:FuncId)(fn:Func)(hf:Tryz.prog.funcNamed "buchholz/buchholzlaw10.RecordAppends" =some f)(Cy:Tryz.prog.funcs[f]? =some fn):true=Tryz.prog.looks []/\∀(j:Nat) t,fn.params[j]? =some t->Tryz.prog.wantsStandIn t=false:=by
 obtain rfl:f=5:=qg (Ph.symm.trans hf) |>.symm;obtain rfl:fn=Tryz.f5:=(qg (Tryz.func5.symm.trans Cy)).symm
 exact⟨Pe,λj t ht=>by
  have hm:t∈Tryz.f5.params.toList:=by simpa using L1 ht
  exact(show Tryz.prog.wantsStandIn t=false by simpa using tM.1 Pf t hm)⟩
theorem proved:Rows.RecordAppendsCardSaid:=
 Claim7.holds_tied_plain_at .later [] [.data,.data,.data,.data,.sentinel,.sentinel,.widerDeep,.data,.pinned] true (true,"c4e3e1b251f09b66eee75dbaad17e04f2a1a0b7866e8dcc4d50543ef596e48e1") true
  abu (λ_ h=>by cases h) Pc (λ_ h=>by cases h) recordAppends_row_tie rfl ⟨rfl,rfl⟩ Pd rfl Pj Pg
end Go.Proofs.YtolnfpljgjpbpaaGreatDoor.recordAppends
