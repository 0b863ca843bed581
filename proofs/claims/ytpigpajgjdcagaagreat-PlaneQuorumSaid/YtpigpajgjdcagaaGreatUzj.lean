/- Parts. -/
import Derived.Test.YtpigpajgjdcagaaGreatUx
set_option linter.unusedSimpArgs false
set_option linter.unusedVariables false
set_option maxRecDepth 100000
set_option maxHeartbeats 60000000
namespace Go.Proofs.YtpigpajgjdcagaaGreat
open Go.ChangeShapes Go.WideShapes Go.ChangeAt Go.RowKit
theorem zvz:(Rows.planeQuorumRow.inPlace == Tryz.prog.inPlace 8)=true:=by kernel_rfl
theorem zvy:(Rows.planeQuorumRow.unfollowed == Tryz.prog.unfollowed 8)=true:=by kernel_rfl
theorem zvx:(Rows.planeQuorumRow.recurses == Tryz.prog.recurses 8)=true:=by kernel_rfl
theorem zvw:(Rows.planeQuorumRow.named == Tryz.prog.varsNamed 8)=true:=by kernel_rfl
theorem zvv:(Rows.planeQuorumRow.lifted == Tryz.prog.liftsFinal)=true:=by kernel_rfl
theorem zvu:(Tryz.prog.make == some Rows.planeQuorumRow.make)=true:=by kernel_rfl
theorem zvt:(Rows.planeQuorumRow.plainKeys == Tryz.prog.plainKeys)=true:=by kernel_rfl
theorem zmx:joinedFacts Tryz.prog 8 Tryz.f8 Rows.planeQuorumSpec Rows.planeQuorumRow=true:=by
 unfold joinedFacts;rw [qce,qcd,zvz,zvy,zvx,zvw,zvv,zvu,zvt,zzr,zzs]
 kernel_rfl
theorem zmw:Tryz.prog.funcNamed Rows.planeQuorumRow.func=some 8:=by kernel_rfl
theorem zo0:Tryz.f8.isInstance Tryz.prog Rows.planeQuorumRow.origin Rows.planeQuorumRow.targs:=of_decide_eq_true (by kernel_rfl)
theorem zoz:Tryz.f8.isWrapper Tryz.prog Rows.planeQuorumRow.wrapper Rows.planeQuorumRow.mainSum:=by unfold Func.isWrapper;rw [if_neg (by decide +kernel)];exact ⟨rfl,rfl⟩
end Go.Proofs.YtpigpajgjdcagaaGreat
