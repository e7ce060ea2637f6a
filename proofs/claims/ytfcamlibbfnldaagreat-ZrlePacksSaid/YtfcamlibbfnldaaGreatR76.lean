/- ZrlePacks answers true at every input, and its arguments read behind the call as they read before. -/
import Derived.Test.YtfcamlibbfnldaaGreatSD
import Derived.Test.YtfcamlibbfnldaaGreatRows
import Derived.WalkKit
import Derived.ProofKit
import Derived.OpenShut
import Derived.Test.YtfcamlibbfnldaaGreatPB
import Derived.Test.YtfcamlibbfnldaaGreatPD
set_option linter.unusedSimpArgs false
set_option linter.unusedVariables false
set_option linter.unusedSectionVars false
namespace Go.Proofs.YtfcamlibbfnldaaGreat.Am
open Go.Am
open Go.ChangeShapes Go.WideShapes Go.ChangeAt Go.RowKit
theorem cT {a b:Bool} (h:a=true) (k:b=true):(a&&b)=true:=by rw[h,k];rfl
theorem aK1:Rows.zrlePacksRow.wf (OpenSpec.ofChange Rows.zrlePacksSpec)=true:=by kernel_rfl
theorem aK0:laidOutB Tryz.prog=true:=by kernel_rfl
theorem aJ9:mapsRowed Tryz.prog=true:=by kernel_rfl
theorem aJ8:Tryz.f8.params.all (Tryz.prog.readableRec ·)=true:=by kernel_rfl
theorem aJ7:namedTie Tryz.prog Rows.zrlePacksRow.named Rows.zrlePacksSpec.vars=true:=by kernel_rfl
theorem aJ6:(Rows.zrlePacksRow.stops==[])=true:=by kernel_rfl
theorem aJ5:(Tryz.prog.stops==[])=true:=by kernel_rfl
theorem aJ4:(Rows.zrlePacksRow.knobs==[])=true:=by kernel_rfl
theorem aJ3:(Tryz.prog.stopKnobs==[])=true:=by kernel_rfl
theorem aJ2:(Rows.zrlePacksRow.inPlace==Tryz.prog.inPlace 8)=true:=by kernel_rfl
theorem aq0:(Rows.zrlePacksRow.unfollowed==Tryz.prog.unfollowed 8)=true:=by kernel_rfl
theorem ap9:(Rows.zrlePacksRow.recurses==Tryz.prog.recurses 8)=true:=by kernel_rfl
theorem ap8:(Rows.zrlePacksRow.named==Tryz.prog.varsNamed 8)=true:=by kernel_rfl
theorem ap7:(Rows.zrlePacksRow.maps==(Tryz.f8.params.toList++Rows.zrlePacksSpec.plain.varTypes Tryz.prog).any (Tryz.prog.mapsRec ·))=true:=by kernel_rfl
theorem ap6:(Rows.zrlePacksRow.ifaces==(Tryz.f8.params.toList++Rows.zrlePacksSpec.plain.varTypes Tryz.prog).any (Tryz.prog.ifacesRec ·))=true:=by kernel_rfl
theorem ap5:(Rows.zrlePacksRow.mapsOut==Tryz.prog.mapsAmong Tryz.f8.resultTypes.toList)=true:=by kernel_rfl
theorem ap4:(Rows.zrlePacksRow.loops==(Tryz.f8.params.toList++Rows.zrlePacksSpec.plain.varTypes Tryz.prog).any (Tryz.prog.loopsFrom ·))=true:=by kernel_rfl
theorem ap3:(Rows.zrlePacksRow.wideKeys==(Tryz.f8.params.toList++Rows.zrlePacksSpec.plain.varTypes Tryz.prog++Tryz.f8.resultTypes.toList).any (Tryz.prog.wideKeysFrom ·))=true:=by kernel_rfl
theorem ap2:Rows.zrlePacksSpec.vars.all (Tryz.prog.varReadable ·)=true:=by kernel_rfl
theorem ap1:Tryz.f8.resultTypes.all (fun t=>Tryz.prog.readableRec t&&decide (t<Tryz.prog.types.size))=true:=by kernel_rfl
theorem ap0:(Rows.zrlePacksRow.ifacesOut==Tryz.f8.resultTypes.toList.any (Tryz.prog.ifacesRec ·))=true:=by kernel_rfl
theorem ao9:(Rows.zrlePacksRow.loopsOut==Tryz.f8.resultTypes.toList.any (Tryz.prog.loopsFrom ·))=true:=by kernel_rfl
theorem ao8:(Rows.zrlePacksRow.plainKeys==Tryz.prog.plainKeys)=true:=by kernel_rfl
theorem ao7:Rows.zrlePacksRow.shortTexts.isNone=true:=by kernel_rfl
theorem ao6:Tryz.prog.stopsHeard=true:=by kernel_rfl
theorem ao5:Tryz.prog.mayEnter=true:=by kernel_rfl
theorem ao4:(Rows.zrlePacksRow.lifted==Tryz.prog.liftsFinal)=true:=by kernel_rfl
theorem ao3:(Tryz.prog.make==some Rows.zrlePacksRow.make)=true:=by kernel_rfl
theorem ao2:(Rows.zrlePacksRow.kinds==(if Rows.zrlePacksRow.domain.isEmpty then [] else Tryz.f8.params.toList.map fun t=>match Tryz.prog.underlying t with|some (.int k)=>some k|_=>none))=true:=by kernel_rfl
theorem ao1:(Rows.zrlePacksRow.pinned==Rows.zrlePacksRow.pinnedBy)=true:=by kernel_rfl
theorem ao0:(Rows.zrlePacksRow.veiled==(Tryz.f8.params.toList++Rows.zrlePacksSpec.plain.varTypes Tryz.prog++Tryz.f8.resultTypes.toList).any (Tryz.prog.veiledRec ·))=true:=by kernel_rfl
theorem an9:Rows.zrlePacksRow.veiledFits Tryz.prog Tryz.f8.params.toList (Tryz.f8.params.toList++Rows.zrlePacksSpec.plain.varTypes Tryz.prog++Tryz.f8.resultTypes.toList)=true:=by kernel_rfl
open Go.ChangeShapes Go.WideShapes Go.ChangeAt Go.RowKit
theorem aZ0:ownKnob Tryz.prog.godebug=none:=by kernel_rfl
theorem aJ1:laidOutB Tryz.prog=true:=by kernel_rfl
set_option maxRecDepth 100000 in
theorem V1 (os:Os) (started:os.Started) (H:Type) (enc:TypeId×Value→H) :
  ReturnsInHanded {} Tryz.checked os 8 .any (Rows.zrlePacksSpec.pre6 enc Tryz.prog Tryz.f8 Rows.zrlePacksRow.domain false) (Rows.zrlePacksSpec.post enc Tryz.prog Tryz.f8 false true false false):=by
 refine returnsInHanded_of_change (C:=Tryz.checked) aZ0 started (by kernel_rfl) Tryz.func8
  (ChangeSpec.witness6 (enc:=enc) (C:=Tryz.checked) false ⟨#[],#[.agg #[.int .i64 0,.int .i64 0,.bool false,.bool false,.int .i64 0,.int .i64 0,.int .i64 0,.int .i64 0,.int .i64 0,.int .i64 0],.int .i64 0,.int .i64 0,.slice none 0 0],[]⟩ 8 (by kernel_rfl) (by kernel_rfl) (by kernel_rfl) (by kernel_rfl)) ?_
 intro W base args ds gs before hval0 hW hcnd _
 refine SH (ts:=[.cons (.int .i64) (.cons (.int .i64) (.cons .bool (.cons .bool (.cons (.int .i64) (.cons (.int .i64) (.cons (.int .i64) (.cons (.int .i64) (.cons (.int .i64) (.cons (.int .i64) .unit))))))))),.int .i64,.int .i64,.sl (.int .i64)]) aJ1 (by kernel_rfl) (show Tryz.f8.resultTypes=#[4] by kernel_rfl) Tryz.underlying4 rfl ?_ ?_ W base args ds gs before hval0 hW
 ·intro ds hds
  match ds,hds with
  | [_,_,_,_],_=>rfl
 ·intro x wx
  obtain⟨N,hN⟩:=(⟨200000,aZ2 x.1.1 x.1.2.1 x.1.2.2.1 x.1.2.2.2.1 x.1.2.2.2.2.1 x.1.2.2.2.2.2.1 x.1.2.2.2.2.2.2.1 x.1.2.2.2.2.2.2.2.1 x.1.2.2.2.2.2.2.2.2.1 x.1.2.2.2.2.2.2.2.2.2.1 Vx x.2.1 x.2.2.1 x.2.2.2.1⟩:∃N,F8 N (x.1.1,x.1.2.1,x.1.2.2.1,x.1.2.2.2.1,x.1.2.2.2.2.1,x.1.2.2.2.2.2.1,x.1.2.2.2.2.2.2.1,x.1.2.2.2.2.2.2.2.1,x.1.2.2.2.2.2.2.2.2.1,x.1.2.2.2.2.2.2.2.2.2.1,x.2.1,x.2.2.1,x.2.2.2.1)=some true)
  exact⟨⟨[.v (.bool true)],[]⟩,(aL9 N).call (by decide +kernel) (show(ah s8 w8 (F8 N) _).to _ from Vy (I:=s8.I) (F:=F8 N) (O:=pO w8) (x:=(x.1.1,x.1.2.1,x.1.2.2.1,x.1.2.2.2.1,x.1.2.2.2.2.1,x.1.2.2.2.2.2.1,x.1.2.2.2.2.2.2.1,x.1.2.2.2.2.2.2.2.1,x.1.2.2.2.2.2.2.2.2.1,x.1.2.2.2.2.2.2.2.2.2.1,x.2.1,x.2.2.1,x.2.2.2.1)) rfl hN rfl),rfl⟩
set_option maxRecDepth 100000 in
theorem V3:joinedFacts Tryz.prog 8 Tryz.f8 Rows.zrlePacksSpec Rows.zrlePacksRow=true:=by
 unfold joinedFacts
 exact(cT (cT (cT (cT (cT (cT (cT (cT (cT (cT (cT (cT (cT (cT (cT (cT (cT (cT (cT (cT (cT (cT (cT (cT (cT (cT (cT (cT (cT (cT (cT aK1 aK0) aJ9) aJ8) aJ7) aJ6) aJ5) aJ4) aJ3) aJ2) aq0) ap9) ap8) ap7) ap6) ap5) ap4) ap3) ap2) ap1) ap0) ao9) ao8) ao7) ao6) ao5) ao4) ao3) ao2) ao1) ao0) an9)
theorem aI4:Rows.zrlePacksRow.holds Tryz.pinned (OpenSpec.ofChange Rows.zrlePacksSpec) :=
 OpenClaim.holds_of_wide 8 Tryz.f8 rfl rfl rfl rfl rfl rfl rfl ⟨rfl,rfl,rfl,rfl,rfl⟩ rfl rfl rfl rfl rfl (by kernel_rfl) Tryz.func8 V3
  (of_decide_eq_true (by kernel_rfl)) (by unfold Func.isWrapper;first|(rw[if_pos (by decide +kernel)];kernel_rfl)|(rw[if_neg (by decide +kernel)];exact⟨rfl,rfl⟩))
  (fun os started H enc _=>V1 os started H enc)
theorem zrlePacks_holds:Rows.ZrlePacksSaid:=aI4
end Go.Proofs.YtfcamlibbfnldaaGreat.Am
