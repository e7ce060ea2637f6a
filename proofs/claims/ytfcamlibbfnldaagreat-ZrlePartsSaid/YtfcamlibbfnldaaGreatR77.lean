/- ZrleParts answers true at every input, and its arguments read behind the call as they read before. -/
import Derived.Test.YtfcamlibbfnldaaGreatSD
import Derived.Test.YtfcamlibbfnldaaGreatRows
import Derived.WalkKit
import Derived.ProofKit
import Derived.OpenShut
import Derived.Test.YtfcamlibbfnldaaGreatPB
import Derived.Test.YtfcamlibbfnldaaGreatPD
set_option linter.unusedSimpArgs false
set_option linter.unusedVariables false
set_option linter.unusedSectionVars false
namespace Go.Proofs.YtfcamlibbfnldaaGreat.Am
open Go.Am
open Go.ChangeShapes Go.WideShapes Go.ChangeAt Go.RowKit
theorem cX {a b:Bool} (h:a=true) (k:b=true):(a&&b)=true:=by rw[h,k];rfl
theorem ae2:Rows.zrlePartsRow.wf (OpenSpec.ofChange Rows.zrlePartsSpec)=true:=by kernel_rfl
theorem ae1:laidOutB Tryz.prog=true:=by kernel_rfl
theorem ae0:mapsRowed Tryz.prog=true:=by kernel_rfl
theorem ad9:Tryz.f11.params.all (Tryz.prog.readableRec ·)=true:=by kernel_rfl
theorem ad8:namedTie Tryz.prog Rows.zrlePartsRow.named Rows.zrlePartsSpec.vars=true:=by kernel_rfl
theorem ad7:(Rows.zrlePartsRow.stops==[])=true:=by kernel_rfl
theorem ad6:(Tryz.prog.stops==[])=true:=by kernel_rfl
theorem ad5:(Rows.zrlePartsRow.knobs==[])=true:=by kernel_rfl
theorem ad4:(Tryz.prog.stopKnobs==[])=true:=by kernel_rfl
theorem ad3:(Rows.zrlePartsRow.inPlace==Tryz.prog.inPlace 11)=true:=by kernel_rfl
theorem US:(Rows.zrlePartsRow.unfollowed==Tryz.prog.unfollowed 11)=true:=by kernel_rfl
theorem UR:(Rows.zrlePartsRow.recurses==Tryz.prog.recurses 11)=true:=by kernel_rfl
theorem UQ:(Rows.zrlePartsRow.named==Tryz.prog.varsNamed 11)=true:=by kernel_rfl
theorem UP:(Rows.zrlePartsRow.maps==(Tryz.f11.params.toList++Rows.zrlePartsSpec.plain.varTypes Tryz.prog).any (Tryz.prog.mapsRec ·))=true:=by kernel_rfl
theorem UO:(Rows.zrlePartsRow.ifaces==(Tryz.f11.params.toList++Rows.zrlePartsSpec.plain.varTypes Tryz.prog).any (Tryz.prog.ifacesRec ·))=true:=by kernel_rfl
theorem UN:(Rows.zrlePartsRow.mapsOut==Tryz.prog.mapsAmong Tryz.f11.resultTypes.toList)=true:=by kernel_rfl
theorem UM:(Rows.zrlePartsRow.loops==(Tryz.f11.params.toList++Rows.zrlePartsSpec.plain.varTypes Tryz.prog).any (Tryz.prog.loopsFrom ·))=true:=by kernel_rfl
theorem UL:(Rows.zrlePartsRow.wideKeys==(Tryz.f11.params.toList++Rows.zrlePartsSpec.plain.varTypes Tryz.prog++Tryz.f11.resultTypes.toList).any (Tryz.prog.wideKeysFrom ·))=true:=by kernel_rfl
theorem UK:Rows.zrlePartsSpec.vars.all (Tryz.prog.varReadable ·)=true:=by kernel_rfl
theorem UJ:Tryz.f11.resultTypes.all (fun t=>Tryz.prog.readableRec t&&decide (t<Tryz.prog.types.size))=true:=by kernel_rfl
theorem UI:(Rows.zrlePartsRow.ifacesOut==Tryz.f11.resultTypes.toList.any (Tryz.prog.ifacesRec ·))=true:=by kernel_rfl
theorem UH:(Rows.zrlePartsRow.loopsOut==Tryz.f11.resultTypes.toList.any (Tryz.prog.loopsFrom ·))=true:=by kernel_rfl
theorem UG:(Rows.zrlePartsRow.plainKeys==Tryz.prog.plainKeys)=true:=by kernel_rfl
theorem UF:Rows.zrlePartsRow.shortTexts.isNone=true:=by kernel_rfl
theorem UE:Tryz.prog.stopsHeard=true:=by kernel_rfl
theorem UD:Tryz.prog.mayEnter=true:=by kernel_rfl
theorem UC:(Rows.zrlePartsRow.lifted==Tryz.prog.liftsFinal)=true:=by kernel_rfl
theorem UB:(Tryz.prog.make==some Rows.zrlePartsRow.make)=true:=by kernel_rfl
theorem UA:(Rows.zrlePartsRow.kinds==(if Rows.zrlePartsRow.domain.isEmpty then [] else Tryz.f11.params.toList.map fun t=>match Tryz.prog.underlying t with|some (.int k)=>some k|_=>none))=true:=by kernel_rfl
theorem Uz:(Rows.zrlePartsRow.pinned==Rows.zrlePartsRow.pinnedBy)=true:=by kernel_rfl
theorem Uy:(Rows.zrlePartsRow.veiled==(Tryz.f11.params.toList++Rows.zrlePartsSpec.plain.varTypes Tryz.prog++Tryz.f11.resultTypes.toList).any (Tryz.prog.veiledRec ·))=true:=by kernel_rfl
theorem Ux:Rows.zrlePartsRow.veiledFits Tryz.prog Tryz.f11.params.toList (Tryz.f11.params.toList++Rows.zrlePartsSpec.plain.varTypes Tryz.prog++Tryz.f11.resultTypes.toList)=true:=by kernel_rfl
open Go.ChangeShapes Go.WideShapes Go.ChangeAt Go.RowKit
theorem av8:ownKnob Tryz.prog.godebug=none:=by kernel_rfl
theorem ad2:laidOutB Tryz.prog=true:=by kernel_rfl
set_option maxRecDepth 100000 in
theorem QY (os:Os) (started:os.Started) (H:Type) (enc:TypeId×Value→H) :
  ReturnsInHanded {} Tryz.checked os 11 .any (Rows.zrlePartsSpec.pre6 enc Tryz.prog Tryz.f11 Rows.zrlePartsRow.domain false) (Rows.zrlePartsSpec.post enc Tryz.prog Tryz.f11 false true false false):=by
 refine returnsInHanded_of_change (C:=Tryz.checked) av8 started (by kernel_rfl) Tryz.func11
  (ChangeSpec.witness6 (enc:=enc) (C:=Tryz.checked) false ⟨#[],#[.agg #[.int .i64 0,.int .i64 0,.bool false,.bool false,.int .i64 0,.int .i64 0,.int .i64 0,.int .i64 0,.int .i64 0,.int .i64 0],.int .i64 0,.int .i64 0,.slice none 0 0,.slice none 0 0],[]⟩ 8 (by kernel_rfl) (by kernel_rfl) (by kernel_rfl) (by kernel_rfl)) ?_
 intro W base args ds gs before hval0 hW hcnd _
 refine Q5 (ts:=[.cons (.int .i64) (.cons (.int .i64) (.cons .bool (.cons .bool (.cons (.int .i64) (.cons (.int .i64) (.cons (.int .i64) (.cons (.int .i64) (.cons (.int .i64) (.cons (.int .i64) .unit))))))))),.int .i64,.int .i64,.sl (.int .i64),.sl (.int .i64)]) ad2 (by kernel_rfl) (show Tryz.f11.resultTypes=#[4] by kernel_rfl) Tryz.underlying4 rfl ?_ ?_ W base args ds gs before hval0 hW
 ·intro ds hds
  match ds,hds with
  | [_,_,_,_,_],_=>rfl
 ·intro x wx
  obtain⟨N,hN⟩:=(⟨200000,aw5 x.1.1 x.1.2.1 x.1.2.2.1 x.1.2.2.2.1 x.1.2.2.2.2.1 x.1.2.2.2.2.2.1 x.1.2.2.2.2.2.2.1 x.1.2.2.2.2.2.2.2.1 x.1.2.2.2.2.2.2.2.2.1 x.1.2.2.2.2.2.2.2.2.2.1 TS x.2.1 x.2.2.1 x.2.2.2.1 x.2.2.2.2.1⟩:∃N,F11 N (x.1.1,x.1.2.1,x.1.2.2.1,x.1.2.2.2.1,x.1.2.2.2.2.1,x.1.2.2.2.2.2.1,x.1.2.2.2.2.2.2.1,x.1.2.2.2.2.2.2.2.1,x.1.2.2.2.2.2.2.2.2.1,x.1.2.2.2.2.2.2.2.2.2.1,x.2.1,x.2.2.1,x.2.2.2.1,x.2.2.2.2.1)=some true)
  exact⟨⟨[.v (.bool true)],[]⟩,(ak4 N).call (by decide +kernel) (show(ah s11 w11 (F11 N) _).to _ from TT (I:=s11.I) (F:=F11 N) (O:=pO w11) (x:=(x.1.1,x.1.2.1,x.1.2.2.1,x.1.2.2.2.1,x.1.2.2.2.2.1,x.1.2.2.2.2.2.1,x.1.2.2.2.2.2.2.1,x.1.2.2.2.2.2.2.2.1,x.1.2.2.2.2.2.2.2.2.1,x.1.2.2.2.2.2.2.2.2.2.1,x.2.1,x.2.2.1,x.2.2.2.1,x.2.2.2.2.1)) rfl hN rfl),rfl⟩
set_option maxRecDepth 100000 in
theorem Q7:joinedFacts Tryz.prog 11 Tryz.f11 Rows.zrlePartsSpec Rows.zrlePartsRow=true:=by
 unfold joinedFacts
 exact(cX (cX (cX (cX (cX (cX (cX (cX (cX (cX (cX (cX (cX (cX (cX (cX (cX (cX (cX (cX (cX (cX (cX (cX (cX (cX (cX (cX (cX (cX (cX ae2 ae1) ae0) ad9) ad8) ad7) ad6) ad5) ad4) ad3) US) UR) UQ) UP) UO) UN) UM) UL) UK) UJ) UI) UH) UG) UF) UE) UD) UC) UB) UA) Uz) Uy) Ux)
theorem ac7:Rows.zrlePartsRow.holds Tryz.pinned (OpenSpec.ofChange Rows.zrlePartsSpec) :=
 OpenClaim.holds_of_wide 11 Tryz.f11 rfl rfl rfl rfl rfl rfl rfl ⟨rfl,rfl,rfl,rfl,rfl⟩ rfl rfl rfl rfl rfl (by kernel_rfl) Tryz.func11 Q7
  (of_decide_eq_true (by kernel_rfl)) (by unfold Func.isWrapper;first|(rw[if_pos (by decide +kernel)];kernel_rfl)|(rw[if_neg (by decide +kernel)];exact⟨rfl,rfl⟩))
  (fun os started H enc _=>QY os started H enc)
theorem zrleParts_holds:Rows.ZrlePartsSaid:=ac7
end Go.Proofs.YtfcamlibbfnldaaGreat.Am
