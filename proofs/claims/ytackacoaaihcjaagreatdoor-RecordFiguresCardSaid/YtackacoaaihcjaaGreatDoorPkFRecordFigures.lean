/-
  The law RecordFigures of chapter 10 returns true for every plant, every log and every index, and leaves its arguments as they were, where the tables and errors hold what their text lays.
-/
import Derived.Test.YtackacoaaihcjaaGreatDoorPkF31
import Derived.Test.YtackacoaaihcjaaGreatDoorTie
import Derived.Test.YtackacoaaihcjaaGreatDoorCards
set_option linter.all false
namespace Go.Proofs.YtackacoaaihcjaaGreatDoor.recordFigures
open Go.Fw Go.ChangeShapes Go.WideShapes Go.ChangeAt Go.RowKit Go.Proofs.Tryz
set_option maxRecDepth 100000 in
def walk (xs:List SV)(h:Gg cx 6 Tryz.f6.params.toList xs):ac 6 xs (.one (false,[.lit (.bool true)])):=by
 rw[Tryz.params6]at h;obtain⟨x,y,z,rfl,h1,h2,h3⟩:=akN (t:=27) (u:=28) (v:=3) h;obtain⟨p,rfl,⟨a1,a2,a3,a4⟩,b1,b2⟩:=Xc h1;obtain⟨l,rfl,hl,_⟩:=ad3 h2;obtain⟨n,rfl⟩:=JA h3;exact OV W9 p l n a1 a2 a3 a4 (λi hi=>b1 _ (abj hi _)) (λi hi=>b2 _ (abj hi _)) hl
set_option maxRecDepth 100000 in
def lifted (os:Os)(KV:os.Started)(H:Type)(enc:TypeId × Value->H):
  ReturnsInHanded {} Tryz.checked os 6 .any (λw args=>(Rows.recordFiguresSpec.pre enc Tryz.prog Tryz.f6 [] false w args/\laidMetH Tryz.prog oT w)/\sizedMet enc Tryz.prog Tryz.f6 (OpenSpec.ofChange Rows.recordFiguresSpec) false w args)
   (Rows.recordFiguresSpec.post enc Tryz.prog Tryz.f6 false true false false):=by
 refine returnsInHanded_of_calls (C:=Tryz.checked) own KV (by kernel_rfl)
  (ChangeSpec.witness_shaped (enc:=enc) (C:=Tryz.checked) (os:=os) (X:=λw _=>laidMetH Tryz.prog oT w) false (World.laidAll Tryz.prog os oT) #[.agg #[.slice none 0 0,.slice none 0 0,.slice none 0 0,.slice none 0 0,.int .i64 0,.int .i64 0],.slice none 0 0,.int .i64 0] 8 (World.laidAll_os _ _ _) (World.shaped_of_ZipB (by kernel_rfl) (by kernel_rfl)) (by kernel_rfl) (by kernel_rfl) (by kernel_rfl) (abk os _)) ?_
 intro w tape i _ hsh _ fC o6 _;obtain⟨_,_,_,fn',anT,_,_,_,_,oU⟩:=fC;obtain rfl:fn'=Tryz.f6:=wz (anT.symm.trans Tryz.func6);obtain⟨⟨⟨ds,gs,RU,hw,_⟩,hx⟩,_⟩:=o6;have hw':=DataW.Whole.of_heap (w':=w.forCall tape i) (by rfl) hw;have AO:laidMetH Tryz.prog oT (w.forCall tape i):=hx.of_heap (by rfl)
 refine(Jz (C:=cx) (d:=6) lH ad5 (by kernel_rfl) (by kernel_rfl) rfl (by kernel_rfl) rfl
  (λds hl=>by
   rw[Tryz.params6]at hl
   match ds,hl with
   | [d1,d2,d3],_=>rfl) walk (ad7 AO hsh) oU hw').mono λe W' hh=>?_
 obtain⟨v,he,hp⟩:=hh;subst he;exact ChangeSpec.post_blind hp
def ad8:(Rows.recordFiguresRow.wf (OpenSpec.ofChange Rows.recordFiguresSpec)&&laidOutB Tryz.prog&&mapsRowed Tryz.prog&&Tryz.f6.params.all (Tryz.prog.readableRec ·)&&namedTie Tryz.prog Rows.recordFiguresRow.named Rows.recordFiguresSpec.vars&&(Rows.recordFiguresRow.stops==[])&&(Tryz.prog.stops==[])&&(Rows.recordFiguresRow.knobs==[])&&(Tryz.prog.stopKnobs==[]))=true:=by kernel_rfl
def ad9:(Rows.recordFiguresRow.inPlace==Tryz.prog.inPlace 6)=true:=by kernel_rfl
def aea:(Rows.recordFiguresRow.unfollowed==Tryz.prog.unfollowed 6)=true:=by kernel_rfl
def aeb:(Rows.recordFiguresRow.recurses==Tryz.prog.recurses 6)=true:=by kernel_rfl
def aec:(Rows.recordFiguresRow.named==Tryz.prog.varsNamed 6)=true:=by kernel_rfl
def aed:((Rows.recordFiguresRow.maps==(Tryz.f6.params.toList++Rows.recordFiguresSpec.plain.varTypes Tryz.prog).any (Tryz.prog.mapsRec ·))&&(Rows.recordFiguresRow.ifaces==(Tryz.f6.params.toList++Rows.recordFiguresSpec.plain.varTypes Tryz.prog).any (Tryz.prog.ifacesRec ·))&&(Rows.recordFiguresRow.mapsOut==Tryz.prog.mapsAmong Tryz.f6.resultTypes.toList)&&(Rows.recordFiguresRow.loops==(Tryz.f6.params.toList++Rows.recordFiguresSpec.plain.varTypes Tryz.prog).any (Tryz.prog.loopsFrom ·))&&(Rows.recordFiguresRow.wideKeys==(Tryz.f6.params.toList++Rows.recordFiguresSpec.plain.varTypes Tryz.prog++Tryz.f6.resultTypes.toList).any (Tryz.prog.wideKeysFrom ·))&&Rows.recordFiguresSpec.vars.all (Tryz.prog.varReadable ·)&&Tryz.f6.resultTypes.all (λt=>Tryz.prog.readableRec t&&decide (t<Tryz.prog.types.size))&&(Rows.recordFiguresRow.ifacesOut==Tryz.f6.resultTypes.toList.any (Tryz.prog.ifacesRec ·))&&(Rows.recordFiguresRow.loopsOut==Tryz.f6.resultTypes.toList.any (Tryz.prog.loopsFrom ·)))=true:=by kernel_rfl
def aee:(Rows.recordFiguresRow.plainKeys==Tryz.prog.plainKeys)=true:=by kernel_rfl
def aef:(Rows.recordFiguresRow.shortTexts.isNone&&Tryz.prog.stopsHeard&&Tryz.prog.mayEnter&&(Rows.recordFiguresRow.lifted==Tryz.prog.liftsFinal)&&(Tryz.prog.make==some Rows.recordFiguresRow.make))=true:=by kernel_rfl
def aeg:w9 Tryz.prog Tryz.f6 Rows.recordFiguresSpec Rows.recordFiguresRow=true:=by kernel_rfl
def ahg:joinedFacts Tryz.prog 6 Tryz.f6 Rows.recordFiguresSpec Rows.recordFiguresRow=true:=
 Xd ad8 ad9 aea aeb aec aed aee aef aeg
def named:Tryz.prog.funcNamed Rows.recordFiguresRow.func=some 6:=by kernel_rfl
def instanced:Tryz.f6.isInstance Tryz.prog Rows.recordFiguresRow.origin Rows.recordFiguresRow.targs:=CS (by kernel_rfl)
def aeh:Tryz.f6.isWrapper Tryz.prog Rows.recordFiguresRow.wrapper Rows.recordFiguresRow.mainSum:=by
 unfold Func.isWrapper;first|(rw[if_pos (by decide+kernel)];kernel_rfl)|(rw[if_neg (by decide+kernel)];exact⟨rfl,rfl⟩)
def anL:Rows.RecordFiguresSaid:=
 OpenClaim.holds_of_wide 6 Tryz.f6 rfl rfl rfl rfl rfl rfl rfl ⟨rfl,rfl,rfl,rfl,rfl⟩ rfl rfl rfl rfl rfl named Tryz.func6 ahg
  instanced aeh
  (λos KV H enc _=>lifted os KV H enc)
def al8:Rows.recordFiguresRow.wfByText (OpenSpec.ofChange Rows.recordFiguresSpec)=true:=by kernel_rfl
def al9:Tryz.pinned.checked.prog.mainIs=some (true,("5de75394fcf4071a49d1c426ce9f3e91d107d871be1114e97a52313f088b1c88" :String).toList):=by kernel_rfl
def ama:true=Tryz.prog.looks []:=by kernel_rfl
def amb:(Tryz.f6.params.toList.all λu=> !Tryz.prog.wantsStandIn u)=true:=by kernel_rfl
def amc:false=Rows.recordFiguresRow.goesBy Tryz.prog:=OW ad4 _
def amd:Tryz.prog.funcNamed "buchholz/buchholzlaw10.RecordFigures" =some 6:=named
def ame (f:FuncId)(fn:Func)(hf:Tryz.prog.funcNamed "buchholz/buchholzlaw10.RecordFigures" =some f)(GO:Tryz.prog.funcs[f]? =some fn):true=Tryz.prog.looks []/\∀(j:Nat) t,fn.params[j]? =some t->Tryz.prog.wantsStandIn t=false:=by
 obtain rfl:f=6:=wz (amd.symm.trans hf) |>.symm;obtain rfl:fn=Tryz.f6:=(wz (Tryz.func6.symm.trans GO)).symm
 exact⟨ama,λj t ht=>by
  have hm:t∈Tryz.f6.params.toList:=by simpa using XQ ht
  exact(show Tryz.prog.wantsStandIn t=false by simpa using ww.1 amb t hm)⟩
theorem proved:Rows.RecordFiguresCardSaid:=
 Claim7.holds_tied_plain_at .later [] [.data,.data,.data,.data,.sentinel,.sentinel,.widerDeep,.data,.pinned] true (true,"5de75394fcf4071a49d1c426ce9f3e91d107d871be1114e97a52313f088b1c88") true
  anL (λ_ h=>by cases h) al8 (λ_ h=>by cases h) recordFigures_row_tie rfl ⟨rfl,rfl⟩ al9 rfl ame amc
end Go.Proofs.YtackacoaaihcjaaGreatDoor.recordFigures
