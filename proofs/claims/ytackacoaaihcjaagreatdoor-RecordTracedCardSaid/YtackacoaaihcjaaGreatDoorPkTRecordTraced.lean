/-
  The law RecordTraced of chapter 10 returns true for every plant and every log, and leaves its arguments as they were, where the tables and errors hold what their text lays.
-/
import Derived.Test.YtackacoaaihcjaaGreatDoorPkT31
import Derived.Test.YtackacoaaihcjaaGreatDoorTie
import Derived.Test.YtackacoaaihcjaaGreatDoorCards
set_option linter.all false
namespace Go.Proofs.YtackacoaaihcjaaGreatDoor.recordTraced
open Go.Fw Go.ChangeShapes Go.WideShapes Go.ChangeAt Go.RowKit Go.Proofs.Tryz
set_option maxRecDepth 100000 in
def walk (xs:List SV)(h:Jw cx 6 Tryz.f4.params.toList xs):ad 4 xs (.one (false,[.lit (.bool true)])):=by
 rw[Tryz.params4]at h;obtain⟨x,y,rfl,h1,h2⟩:=akM (t:=27) (u:=28) h;obtain⟨p,rfl,⟨a1,a2,a3,a4⟩,b1,b2⟩:=WU h1;obtain⟨l,rfl,hl,_⟩:=adY h2;exact RC WQ p l a1 a2 a3 a4 (λi hi=>b1 _ (abb hi _)) (λi hi=>b2 _ (abb hi _)) hl
set_option maxRecDepth 100000 in
def lifted (os:Os)(KR:os.Started)(H:Type)(enc:TypeId × Value->H):
  ReturnsInHanded {} Tryz.checked os 4 .any (λw args=>(Rows.recordTracedSpec.pre enc Tryz.prog Tryz.f4 [] false w args/\laidMetH Tryz.prog oU w)/\sizedMet enc Tryz.prog Tryz.f4 (OpenSpec.ofChange Rows.recordTracedSpec) false w args)
   (Rows.recordTracedSpec.post enc Tryz.prog Tryz.f4 false true false false):=by
 refine returnsInHanded_of_calls (C:=Tryz.checked) own KR (by kernel_rfl)
  (ChangeSpec.witness_shaped (enc:=enc) (C:=Tryz.checked) (os:=os) (X:=λw _=>laidMetH Tryz.prog oU w) false (World.laidAll Tryz.prog os oU) #[.agg #[.slice none 0 0,.slice none 0 0,.slice none 0 0,.slice none 0 0,.int .i64 0,.int .i64 0],.slice none 0 0] 8 (World.laidAll_os _ _ _) (World.shaped_of_ZipB (by kernel_rfl) (by kernel_rfl)) (by kernel_rfl) (by kernel_rfl) (by kernel_rfl) (abc os _)) ?_
 intro w tape i _ hsh _ fB o7 _;obtain⟨_,_,_,fn',anU,_,_,_,_,oV⟩:=fB;obtain rfl:fn'=Tryz.f4:=wE (anU.symm.trans Tryz.func4);obtain⟨⟨⟨ds,gs,RT,hw,_⟩,hx⟩,_⟩:=o7;have hw':=DataW.Whole.of_heap (w':=w.forCall tape i) (by rfl) hw;have AN:laidMetH Tryz.prog oU (w.forCall tape i):=hx.of_heap (by rfl)
 refine(Jy (C:=cx) (d:=6) lG ad0 (by kernel_rfl) (by kernel_rfl) rfl (by kernel_rfl) rfl
  (λds hl=>by
   rw[Tryz.params4]at hl
   match ds,hl with
   | [d1,d2],_=>rfl) walk (ad2 AN hsh) oV hw').mono λe W' hh=>?_
 obtain⟨v,he,hp⟩:=hh;subst he;exact ChangeSpec.post_blind hp
def ad3:(Rows.recordTracedRow.wf (OpenSpec.ofChange Rows.recordTracedSpec)&&laidOutB Tryz.prog&&mapsRowed Tryz.prog&&Tryz.f4.params.all (Tryz.prog.readableRec ·)&&namedTie Tryz.prog Rows.recordTracedRow.named Rows.recordTracedSpec.vars&&(Rows.recordTracedRow.stops==[])&&(Tryz.prog.stops==[])&&(Rows.recordTracedRow.knobs==[])&&(Tryz.prog.stopKnobs==[]))=true:=by kernel_rfl
def ad4:(Rows.recordTracedRow.inPlace==Tryz.prog.inPlace 4)=true:=by kernel_rfl
def ad5:(Rows.recordTracedRow.unfollowed==Tryz.prog.unfollowed 4)=true:=by kernel_rfl
def ad6:(Rows.recordTracedRow.recurses==Tryz.prog.recurses 4)=true:=by kernel_rfl
def ad7:(Rows.recordTracedRow.named==Tryz.prog.varsNamed 4)=true:=by kernel_rfl
def ad8:((Rows.recordTracedRow.maps==(Tryz.f4.params.toList++Rows.recordTracedSpec.plain.varTypes Tryz.prog).any (Tryz.prog.mapsRec ·))&&(Rows.recordTracedRow.ifaces==(Tryz.f4.params.toList++Rows.recordTracedSpec.plain.varTypes Tryz.prog).any (Tryz.prog.ifacesRec ·))&&(Rows.recordTracedRow.mapsOut==Tryz.prog.mapsAmong Tryz.f4.resultTypes.toList)&&(Rows.recordTracedRow.loops==(Tryz.f4.params.toList++Rows.recordTracedSpec.plain.varTypes Tryz.prog).any (Tryz.prog.loopsFrom ·))&&(Rows.recordTracedRow.wideKeys==(Tryz.f4.params.toList++Rows.recordTracedSpec.plain.varTypes Tryz.prog++Tryz.f4.resultTypes.toList).any (Tryz.prog.wideKeysFrom ·))&&Rows.recordTracedSpec.vars.all (Tryz.prog.varReadable ·)&&Tryz.f4.resultTypes.all (λt=>Tryz.prog.readableRec t&&decide (t<Tryz.prog.types.size))&&(Rows.recordTracedRow.ifacesOut==Tryz.f4.resultTypes.toList.any (Tryz.prog.ifacesRec ·))&&(Rows.recordTracedRow.loopsOut==Tryz.f4.resultTypes.toList.any (Tryz.prog.loopsFrom ·)))=true:=by kernel_rfl
def ad9:(Rows.recordTracedRow.plainKeys==Tryz.prog.plainKeys)=true:=by kernel_rfl
def aea:(Rows.recordTracedRow.shortTexts.isNone&&Tryz.prog.stopsHeard&&Tryz.prog.mayEnter&&(Rows.recordTracedRow.lifted==Tryz.prog.liftsFinal)&&(Tryz.prog.make==some Rows.recordTracedRow.make))=true:=by kernel_rfl
def aeb:xh Tryz.prog Tryz.f4 Rows.recordTracedSpec Rows.recordTracedRow=true:=by kernel_rfl
def ahe:joinedFacts Tryz.prog 4 Tryz.f4 Rows.recordTracedSpec Rows.recordTracedRow=true:=
 WV ad3 ad4 ad5 ad6 ad7 ad8 ad9 aea aeb
def named:Tryz.prog.funcNamed Rows.recordTracedRow.func=some 4:=by kernel_rfl
def instanced:Tryz.f4.isInstance Tryz.prog Rows.recordTracedRow.origin Rows.recordTracedRow.targs:=Ls (by kernel_rfl)
def aec:Tryz.f4.isWrapper Tryz.prog Rows.recordTracedRow.wrapper Rows.recordTracedRow.mainSum:=by
 unfold Func.isWrapper;first|(rw[if_pos (by decide+kernel)];kernel_rfl)|(rw[if_neg (by decide+kernel)];exact⟨rfl,rfl⟩)
def anH:Rows.RecordTracedSaid:=
 OpenClaim.holds_of_wide 4 Tryz.f4 rfl rfl rfl rfl rfl rfl rfl ⟨rfl,rfl,rfl,rfl,rfl⟩ rfl rfl rfl rfl rfl named Tryz.func4 ahe
  instanced aec
  (λos KR H enc _=>lifted os KR H enc)
def al6:Rows.recordTracedRow.wfByText (OpenSpec.ofChange Rows.recordTracedSpec)=true:=by kernel_rfl
def al7:Tryz.pinned.checked.prog.mainIs=some (true,("5de75394fcf4071a49d1c426ce9f3e91d107d871be1114e97a52313f088b1c88" :String).toList):=by kernel_rfl
def al8:true=Tryz.prog.looks []:=by kernel_rfl
def al9:(Tryz.f4.params.toList.all λu=> !Tryz.prog.wantsStandIn u)=true:=by kernel_rfl
def ama:false=Rows.recordTracedRow.goesBy Tryz.prog:=OO adZ _
def amb:Tryz.prog.funcNamed "buchholz/buchholzlaw10.RecordTraced" =some 4:=named
def amc (f:FuncId)(fn:Func)(hf:Tryz.prog.funcNamed "buchholz/buchholzlaw10.RecordTraced" =some f)(GN:Tryz.prog.funcs[f]? =some fn):true=Tryz.prog.looks []/\∀(j:Nat) t,fn.params[j]? =some t->Tryz.prog.wantsStandIn t=false:=by
 obtain rfl:f=4:=wE (amb.symm.trans hf) |>.symm;obtain rfl:fn=Tryz.f4:=(wE (Tryz.func4.symm.trans GN)).symm
 exact⟨al8,λj t ht=>by
  have hm:t∈Tryz.f4.params.toList:=by simpa using XC ht
  exact(show Tryz.prog.wantsStandIn t=false by simpa using wC.1 al9 t hm)⟩
theorem proved:Rows.RecordTracedCardSaid:=
 Claim7.holds_tied_plain_at .later [] [.data,.data,.data,.data,.sentinel,.sentinel,.widerDeep,.data,.pinned] true (true,"5de75394fcf4071a49d1c426ce9f3e91d107d871be1114e97a52313f088b1c88") true
  anH (λ_ h=>by cases h) al6 (λ_ h=>by cases h) recordTraced_row_tie rfl ⟨rfl,rfl⟩ al7 rfl amc ama
end Go.Proofs.YtackacoaaihcjaaGreatDoor.recordTraced
