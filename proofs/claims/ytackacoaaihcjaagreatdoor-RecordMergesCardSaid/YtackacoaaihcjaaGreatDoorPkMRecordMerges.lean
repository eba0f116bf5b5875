/-
  The law RecordMerges of chapter 10 returns true for every plant and any two logs, and leaves its arguments as they were, where the tables and errors hold what their text lays.
-/
import Derived.Test.YtackacoaaihcjaaGreatDoorPkM17
import Derived.Test.YtackacoaaihcjaaGreatDoorTie
import Derived.Test.YtackacoaaihcjaaGreatDoorCards
set_option linter.all false
namespace Go.Proofs.YtackacoaaihcjaaGreatDoor.recordMerges
open Go.Fw Go.ChangeShapes Go.WideShapes Go.ChangeAt Go.RowKit Go.Proofs.Tryz
set_option maxRecDepth 100000 in
def walk (xs:List SV)(h:Gi cx 6 Tryz.f5.params.toList xs):ac 5 xs (.one (false,[.lit (.bool true)])):=by
 rw[Tryz.params5]at h;obtain⟨x,y,z,rfl,h1,h2,h3⟩:=akZ (t:=27) (u:=28) (v:=28) h;obtain⟨p,rfl,⟨a1,a2,a3,a4⟩,b1,b2⟩:=Xg h1;obtain⟨l,rfl,hl,_⟩:=Us h2;obtain⟨m,rfl,hm,_⟩:=Us h3;exact RP Xd p l m a1 a2 a3 a4 (λi hi=>b1 _ (abt hi _)) (λi hi=>b2 _ (abt hi _)) hl hm
set_option maxRecDepth 100000 in
def lifted (os:Os)(KV:os.Started)(H:Type)(enc:TypeId × Value->H):
  ReturnsInHanded {} Tryz.checked os 5 .any (λw args=>(Rows.recordMergesSpec.pre enc Tryz.prog Tryz.f5 [] false w args/\laidMetH Tryz.prog o6 w)/\sizedMet enc Tryz.prog Tryz.f5 (OpenSpec.ofChange Rows.recordMergesSpec) false w args)
   (Rows.recordMergesSpec.post enc Tryz.prog Tryz.f5 false true false false):=by
 refine returnsInHanded_of_calls (C:=Tryz.checked) own KV (by kernel_rfl)
  (ChangeSpec.witness_shaped (enc:=enc) (C:=Tryz.checked) (os:=os) (X:=λw _=>laidMetH Tryz.prog o6 w) false (World.laidAll Tryz.prog os o6) #[.agg #[.slice none 0 0,.slice none 0 0,.slice none 0 0,.slice none 0 0,.int .i64 0,.int .i64 0],.slice none 0 0,.slice none 0 0] 8 (World.laidAll_os _ _ _) (World.shaped_of_ZipB (by kernel_rfl) (by kernel_rfl)) (by kernel_rfl) (by kernel_rfl) (by kernel_rfl) (abu os _)) ?_
 intro w tape i _ hsh _ fC ph _;obtain⟨_,_,_,fn',aoc,_,_,_,_,o7⟩:=fC;obtain rfl:fn'=Tryz.f5:=xU (aoc.symm.trans Tryz.func5);obtain⟨⟨⟨ds,gs,RW,hw,_⟩,hx⟩,_⟩:=ph;have hw':=DataW.Whole.of_heap (w':=w.forCall tape i) (by rfl) hw;have AW:laidMetH Tryz.prog o6 (w.forCall tape i):=hx.of_heap (by rfl)
 refine(Jw (C:=cx) (d:=6) lJ ad9 (by kernel_rfl) (by kernel_rfl) rfl (by kernel_rfl) rfl
  (λds hl=>by
   rw[Tryz.params5]at hl
   match ds,hl with
   | [d1,d2,d3],_=>rfl) walk (aeb AW hsh) o7 hw').mono λe W' hh=>?_
 obtain⟨v,he,hp⟩:=hh;subst he;exact ChangeSpec.post_blind hp
def aec:(Rows.recordMergesRow.wf (OpenSpec.ofChange Rows.recordMergesSpec)&&laidOutB Tryz.prog&&mapsRowed Tryz.prog&&Tryz.f5.params.all (Tryz.prog.readableRec ·)&&namedTie Tryz.prog Rows.recordMergesRow.named Rows.recordMergesSpec.vars&&(Rows.recordMergesRow.stops==[])&&(Tryz.prog.stops==[])&&(Rows.recordMergesRow.knobs==[])&&(Tryz.prog.stopKnobs==[]))=true:=by kernel_rfl
def aed:(Rows.recordMergesRow.inPlace==Tryz.prog.inPlace 5)=true:=by kernel_rfl
def aee:(Rows.recordMergesRow.unfollowed==Tryz.prog.unfollowed 5)=true:=by kernel_rfl
def aef:(Rows.recordMergesRow.recurses==Tryz.prog.recurses 5)=true:=by kernel_rfl
def aeg:(Rows.recordMergesRow.named==Tryz.prog.varsNamed 5)=true:=by kernel_rfl
def aeh:((Rows.recordMergesRow.maps==(Tryz.f5.params.toList++Rows.recordMergesSpec.plain.varTypes Tryz.prog).any (Tryz.prog.mapsRec ·))&&(Rows.recordMergesRow.ifaces==(Tryz.f5.params.toList++Rows.recordMergesSpec.plain.varTypes Tryz.prog).any (Tryz.prog.ifacesRec ·))&&(Rows.recordMergesRow.mapsOut==Tryz.prog.mapsAmong Tryz.f5.resultTypes.toList)&&(Rows.recordMergesRow.loops==(Tryz.f5.params.toList++Rows.recordMergesSpec.plain.varTypes Tryz.prog).any (Tryz.prog.loopsFrom ·))&&(Rows.recordMergesRow.wideKeys==(Tryz.f5.params.toList++Rows.recordMergesSpec.plain.varTypes Tryz.prog++Tryz.f5.resultTypes.toList).any (Tryz.prog.wideKeysFrom ·))&&Rows.recordMergesSpec.vars.all (Tryz.prog.varReadable ·)&&Tryz.f5.resultTypes.all (λt=>Tryz.prog.readableRec t&&decide (t<Tryz.prog.types.size))&&(Rows.recordMergesRow.ifacesOut==Tryz.f5.resultTypes.toList.any (Tryz.prog.ifacesRec ·))&&(Rows.recordMergesRow.loopsOut==Tryz.f5.resultTypes.toList.any (Tryz.prog.loopsFrom ·)))=true:=by kernel_rfl
def aei:(Rows.recordMergesRow.plainKeys==Tryz.prog.plainKeys)=true:=by kernel_rfl
def aej:(Rows.recordMergesRow.shortTexts.isNone&&Tryz.prog.stopsHeard&&Tryz.prog.mayEnter&&(Rows.recordMergesRow.lifted==Tryz.prog.liftsFinal)&&(Tryz.prog.make==some Rows.recordMergesRow.make))=true:=by kernel_rfl
def aek:xl Tryz.prog Tryz.f5 Rows.recordMergesSpec Rows.recordMergesRow=true:=by kernel_rfl
def ahq:joinedFacts Tryz.prog 5 Tryz.f5 Rows.recordMergesSpec Rows.recordMergesRow=true:=
 Xh aec aed aee aef aeg aeh aei aej aek
def named:Tryz.prog.funcNamed Rows.recordMergesRow.func=some 5:=by kernel_rfl
def instanced:Tryz.f5.isInstance Tryz.prog Rows.recordMergesRow.origin Rows.recordMergesRow.targs:=CW (by kernel_rfl)
def ael:Tryz.f5.isWrapper Tryz.prog Rows.recordMergesRow.wrapper Rows.recordMergesRow.mainSum:=by
 unfold Func.isWrapper;first|(rw[if_pos (by decide+kernel)];kernel_rfl)|(rw[if_neg (by decide+kernel)];exact⟨rfl,rfl⟩)
def anR:Rows.RecordMergesSaid:=
 OpenClaim.holds_of_wide 5 Tryz.f5 rfl rfl rfl rfl rfl rfl rfl ⟨rfl,rfl,rfl,rfl,rfl⟩ rfl rfl rfl rfl rfl named Tryz.func5 ahq
  instanced ael
  (λos KV H enc _=>lifted os KV H enc)
def ami:Rows.recordMergesRow.wfByText (OpenSpec.ofChange Rows.recordMergesSpec)=true:=by kernel_rfl
def amj:Tryz.pinned.checked.prog.mainIs=some (true,("5de75394fcf4071a49d1c426ce9f3e91d107d871be1114e97a52313f088b1c88" :String).toList):=by kernel_rfl
def amk:true=Tryz.prog.looks []:=by kernel_rfl
def aml:(Tryz.f5.params.toList.all λu=> !Tryz.prog.wantsStandIn u)=true:=by kernel_rfl
def amm:false=Rows.recordMergesRow.goesBy Tryz.prog:=OW ad8 _
def amn:Tryz.prog.funcNamed "buchholz/buchholzlaw10.RecordMerges" =some 5:=named
def amo (f:FuncId)(fn:Func)(hf:Tryz.prog.funcNamed "buchholz/buchholzlaw10.RecordMerges" =some f)(GP:Tryz.prog.funcs[f]? =some fn):true=Tryz.prog.looks []/\∀(j:Nat) t,fn.params[j]? =some t->Tryz.prog.wantsStandIn t=false:=by
 obtain rfl:f=5:=xU (amn.symm.trans hf) |>.symm;obtain rfl:fn=Tryz.f5:=(xU (Tryz.func5.symm.trans GP)).symm
 exact⟨amk,λj t ht=>by
  have hm:t∈Tryz.f5.params.toList:=by simpa using XW ht
  exact(show Tryz.prog.wantsStandIn t=false by simpa using wL.1 aml t hm)⟩
theorem proved:Rows.RecordMergesCardSaid:=
 Claim7.holds_tied_plain_at .later [] [.data,.data,.data,.data,.sentinel,.sentinel,.widerDeep,.data,.pinned] true (true,"5de75394fcf4071a49d1c426ce9f3e91d107d871be1114e97a52313f088b1c88") true
  anR (λ_ h=>by cases h) ami (λ_ h=>by cases h) recordMerges_row_tie rfl ⟨rfl,rfl⟩ amj rfl amo amm
end Go.Proofs.YtackacoaaihcjaaGreatDoor.recordMerges
