/-
  The law RecordLocked of chapter 10 returns true for every plant and every log, and leaves its arguments as they were, where the tables and errors hold what their text lays.
-/
import Derived.Test.YtolnfpljgjpbpaaGreatDoorPk7
import Derived.Test.YtolnfpljgjpbpaaGreatDoorPk34
import Derived.Test.YtolnfpljgjpbpaaGreatDoorTie
import Derived.Test.YtolnfpljgjpbpaaGreatDoorCards
set_option linter.all false
namespace Go.Proofs.YtolnfpljgjpbpaaGreatDoor.recordLocked
open Go.Fw Go.ChangeShapes Go.WideShapes Go.ChangeAt Go.RowKit Go.Proofs.Tryz
set_option maxRecDepth 100000 in
def walk (xs:List SV)(h:Ci cx 6 Tryz.f3.params.toList xs):ac 3 xs (.one (false,[.lit (.bool true)])):=by
 rw[Tryz.params3]at h;obtain⟨x,y,rfl,h1,h2⟩:=Y4 (t:=27) (u:=28) h;obtain⟨p,rfl,⟨a1,a2,a3,a4⟩,b1,b2⟩:=Bb h1;obtain⟨l,rfl,hl,_⟩:=Lm h2;exact R2 Ba p l a1 a2 a3 a4 (λi hi=>b1 _ (Bc hi _)) (λi hi=>b2 _ (Bc hi _)) hl
set_option maxRecDepth 100000 in
def lifted (os:Os)(lu:os.Started)(H:Type)(enc:TypeId × Value->H):
  ReturnsInHanded {} Tryz.checked os 3 .any (λw args=>(Rows.recordLockedSpec.pre enc Tryz.prog Tryz.f3 [] false w args/\laidMetH Tryz.prog jn w)/\sizedMet enc Tryz.prog Tryz.f3 (OpenSpec.ofChange Rows.recordLockedSpec) false w args)
   (Rows.recordLockedSpec.post enc Tryz.prog Tryz.f3 false true false false):=by
 refine XS (C:=Tryz.checked) own lu (by kernel_rfl)
  (XP (enc:=enc) (C:=Tryz.checked) (os:=os) (X:=λw _=>laidMetH Tryz.prog jn w) false (World.laidAll Tryz.prog os jn) #[.agg #[.slice none 0 0,.slice none 0 0,.slice none 0 0,.slice none 0 0,.int .i64 0,.int .i64 0],.slice none 0 0] 8 (X5 _ _ _) (XW (by kernel_rfl) (by kernel_rfl)) (by kernel_rfl) (by kernel_rfl) (by kernel_rfl) (Gf os _)) ?_
 intro w tape i _ Sj _ e8 mY _;obtain⟨_,_,_,fn',abA,_,_,_,_,l8⟩:=e8;obtain rfl:fn'=Tryz.f3:=qg (abA.symm.trans Tryz.func3);obtain⟨⟨⟨ds,gs,Gx,hw,_⟩,hx⟩,_⟩:=mY;have hw':=XX (w':=w.forCall tape i) (by rfl) hw;have tu:laidMetH Tryz.prog jn (w.forCall tape i):=hx.of_heap (by rfl)
 refine(rJ (C:=cx) (d:=6) kz Lo (by kernel_rfl) (by kernel_rfl) rfl (by kernel_rfl) rfl
  (λds hl=>by
   rw[Tryz.params3]at hl
   match ds,hl with
   | [d1,d2],_=>rfl) walk (Lp tu Sj) l8 hw').mono λe W' hh=>?_
 obtain⟨v,he,hp⟩:=hh;subst he;exact XV hp
def zN:(Rows.recordLockedRow.wf (OpenSpec.ofChange Rows.recordLockedSpec)&&laidOutB Tryz.prog&&mapsRowed Tryz.prog&&Tryz.f3.params.all (Tryz.prog.readableRec ·)&&namedTie Tryz.prog Rows.recordLockedRow.named Rows.recordLockedSpec.vars&&(Rows.recordLockedRow.stops==[])&&(Tryz.prog.stops==[])&&(Rows.recordLockedRow.knobs==[])&&(Tryz.prog.stopKnobs==[]))=true:=by kernel_rfl
def zO:(Rows.recordLockedRow.inPlace==Tryz.prog.inPlace 3)=true:=by kernel_rfl
def zP:(Rows.recordLockedRow.unfollowed==Tryz.prog.unfollowed 3)=true:=by kernel_rfl
def zQ:(Rows.recordLockedRow.recurses==Tryz.prog.recurses 3)=true:=by kernel_rfl
def zR:(Rows.recordLockedRow.named==Tryz.prog.varsNamed 3)=true:=by kernel_rfl
def zS:((Rows.recordLockedRow.maps==(Tryz.f3.params.toList++Rows.recordLockedSpec.plain.varTypes Tryz.prog).any (Tryz.prog.mapsRec ·))&&(Rows.recordLockedRow.ifaces==(Tryz.f3.params.toList++Rows.recordLockedSpec.plain.varTypes Tryz.prog).any (Tryz.prog.ifacesRec ·))&&(Rows.recordLockedRow.mapsOut==Tryz.prog.mapsAmong Tryz.f3.resultTypes.toList)&&(Rows.recordLockedRow.loops==(Tryz.f3.params.toList++Rows.recordLockedSpec.plain.varTypes Tryz.prog).any (Tryz.prog.loopsFrom ·))&&(Rows.recordLockedRow.wideKeys==(Tryz.f3.params.toList++Rows.recordLockedSpec.plain.varTypes Tryz.prog++Tryz.f3.resultTypes.toList).any (Tryz.prog.wideKeysFrom ·))&&Rows.recordLockedSpec.vars.all (Tryz.prog.varReadable ·)&&Tryz.f3.resultTypes.all (λt=>Tryz.prog.readableRec t&&decide (t<Tryz.prog.types.size))&&(Rows.recordLockedRow.ifacesOut==Tryz.f3.resultTypes.toList.any (Tryz.prog.ifacesRec ·))&&(Rows.recordLockedRow.loopsOut==Tryz.f3.resultTypes.toList.any (Tryz.prog.loopsFrom ·)))=true:=by kernel_rfl
def zT:(Rows.recordLockedRow.plainKeys==Tryz.prog.plainKeys)=true:=by kernel_rfl
def zU:(Rows.recordLockedRow.shortTexts.isNone&&Tryz.prog.stopsHeard&&Tryz.prog.mayEnter&&(Rows.recordLockedRow.lifted==Tryz.prog.liftsFinal)&&(Tryz.prog.make==some Rows.recordLockedRow.make))=true:=by kernel_rfl
def zW:o7 Tryz.prog Tryz.f3 Rows.recordLockedSpec Rows.recordLockedRow=true:=by kernel_rfl
def Gg:joinedFacts Tryz.prog 3 Tryz.f3 Rows.recordLockedSpec Rows.recordLockedRow=true:=
 Bd zN zO zP zQ zR zS zT zU zW
def named:Tryz.prog.funcNamed Rows.recordLockedRow.func=some 3:=by kernel_rfl
def instanced:Tryz.f3.isInstance Tryz.prog Rows.recordLockedRow.origin Rows.recordLockedRow.targs:=Jm (by kernel_rfl)
def zX:Tryz.f3.isWrapper Tryz.prog Rows.recordLockedRow.wrapper Rows.recordLockedRow.mainSum:=by
 unfold Func.isWrapper;first|(rw[if_pos (by decide+kernel)];kernel_rfl)|(rw[if_neg (by decide+kernel)];exact⟨rfl,rfl⟩)
def abu:Rows.RecordLockedSaid:=
 XT 3 Tryz.f3 rfl rfl rfl rfl rfl rfl rfl ⟨rfl,rfl,rfl,rfl,rfl⟩ rfl rfl rfl rfl rfl named Tryz.func3 Gg
  instanced zX
  (λos lu H enc _=>lifted os lu H enc)
def Pc:Rows.recordLockedRow.wfByText (OpenSpec.ofChange Rows.recordLockedSpec)=true:=by kernel_rfl
def Pd:Tryz.pinned.checked.prog.mainIs=some (true,("c4e3e1b251f09b66eee75dbaad17e04f2a1a0b7866e8dcc4d50543ef596e48e1" :String).toList):=by kernel_rfl
def Pe:true=Tryz.prog.looks []:=by kernel_rfl
def Pf:(Tryz.f3.params.toList.all λu=> !Tryz.prog.wantsStandIn u)=true:=by kernel_rfl
def Pg:false=Rows.recordLockedRow.goesBy Tryz.prog:=u5 Ln _
def Ph:Tryz.prog.funcNamed "buchholz/buchholzlaw10.RecordLocked" =some 3:=named
def Pj (f:FuncId)(fn:Func)(hf:Tryz.prog.funcNamed "buchholz/buchholzlaw10.RecordLocked" =some f)(Cy:Tryz.prog.funcs[f]? =some fn):true=Tryz.prog.looks []/\∀(j:Nat) t,fn.params[j]? =some t->Tryz.prog.wantsStandIn t=false:=by
 obtain rfl:f=3:=qg (Ph.symm.trans hf) |>.symm;obtain rfl:fn=Tryz.f3:=(qg (Tryz.func3.symm.trans Cy)).symm
 exact⟨Pe,λj t ht=>by
  have hm:t∈Tryz.f3.params.toList:=by simpa using L1 ht
  exact(show Tryz.prog.wantsStandIn t=false by simpa using tM.1 Pf t hm)⟩
theorem proved:Rows.RecordLockedCardSaid:=
 Claim7.holds_tied_plain_at .later [] [.data,.data,.data,.data,.sentinel,.sentinel,.widerDeep,.data,.pinned] true (true,"c4e3e1b251f09b66eee75dbaad17e04f2a1a0b7866e8dcc4d50543ef596e48e1") true
  abu (λ_ h=>by cases h) Pc (λ_ h=>by cases h) recordLocked_row_tie rfl ⟨rfl,rfl⟩ Pd rfl Pj Pg
end Go.Proofs.YtolnfpljgjpbpaaGreatDoor.recordLocked
