/- PlaneLoses returns true for every input and leaves its arguments as they were; no condition. -/
import Derived.Test.YtpigpajgjdcagaaGreatVx
import Derived.Test.YtpigpajgjdcagaaGreatVma
import Derived.Test.YtpigpajgjdcagaaGreatVm5
set_option linter.unusedSimpArgs false
set_option linter.unusedVariables false
set_option maxRecDepth 100000
set_option maxHeartbeats 60000000
namespace Go.Proofs.YtpigpajgjdcagaaGreat
open Go.ChangeShapes Go.WideShapes Go.ChangeAt Go.RowKit
theorem qal:(Rows.planeLosesRow.inPlace == Tryz.prog.inPlace 6)=true:=by kernel_rfl
theorem qak:(Rows.planeLosesRow.unfollowed == Tryz.prog.unfollowed 6)=true:=by kernel_rfl
theorem qaj:(Rows.planeLosesRow.recurses == Tryz.prog.recurses 6)=true:=by kernel_rfl
theorem qai:(Rows.planeLosesRow.named == Tryz.prog.varsNamed 6)=true:=by kernel_rfl
theorem qah:(Rows.planeLosesRow.lifted == Tryz.prog.liftsFinal)=true:=by kernel_rfl
theorem qag:(Tryz.prog.make == some Rows.planeLosesRow.make)=true:=by kernel_rfl
theorem qaf:(Rows.planeLosesRow.plainKeys == Tryz.prog.plainKeys)=true:=by kernel_rfl
theorem zpj:joinedFacts Tryz.prog 6 Tryz.f6 Rows.planeLosesSpec Rows.planeLosesRow=true:=by
 unfold joinedFacts;rw [zxc,zxb,qal,qak,qaj,qai,qah,qag,qaf,zqz,zq0]
 kernel_rfl
theorem zpi:Tryz.prog.funcNamed Rows.planeLosesRow.func=some 6:=by kernel_rfl
theorem zsr:Tryz.f6.isInstance Tryz.prog Rows.planeLosesRow.origin Rows.planeLosesRow.targs:=of_decide_eq_true (by kernel_rfl)
theorem zsq:Tryz.f6.isWrapper Tryz.prog Rows.planeLosesRow.wrapper Rows.planeLosesRow.mainSum:=by unfold Func.isWrapper;rw [if_neg (by decide +kernel)];exact ⟨rfl,rfl⟩
end Go.Proofs.YtpigpajgjdcagaaGreat
namespace Go.Proofs.YtpigpajgjdcagaaGreat
open Go.ChangeShapes Go.WideShapes Go.ChangeAt Go.RowKit Go.Joins Eng
theorem zne (os:Os) (started:os.Started) (H:Type) (enc:TypeId × Value→H) :
 ReturnsInHanded {} Tryz.checked os 6 .any (Rows.planeLosesSpec.pre6 enc Tryz.prog Tryz.f6 Rows.planeLosesRow.domain false) (Rows.planeLosesSpec.post enc Tryz.prog Tryz.f6 false true false false):=by
 refine returnsInHanded_of_change (C:=Tryz.checked) Tryz.own started (by kernel_rfl) Tryz.func6
  (ChangeSpec.witness6 (enc:=enc) (C:=Tryz.checked) false ⟨#[],#[.slice none 0 0,.int .i64 0],[]⟩ 8 (by kernel_rfl) (by kernel_rfl) (by kernel_rfl) (by kernel_rfl)) ?_
 intro W base args ds gs before hval0 hW hcnd _
 have hval:∀ (j:Nat) t v,Tryz.f6.params[j]?=some t→args[j]?=some v→Value.okWide Tryz.prog W .any base t v:=hval0
 have hW':DataW.Whole enc Tryz.prog Tryz.f6.params.toList Rows.planeLosesSpec.vars false W args.toList ds gs before:=hW
 have fin:∀ W',Below W.heap.size W W'→Rows.planeLosesSpec.post enc Tryz.prog Tryz.f6 false true false false W args (.bool true) W':=fun W' hb =>
  zqy Tryz.laidOut (by kernel_rfl) (tb:=4) rfl Tryz.underlying4 rfl (fun xs hx=>by
   match xs,hx with
   | [_,_],_=>rfl) hW' hb
 obtain ⟨p,q,hA0,hV,rfl,hfz,hnd⟩:=hW
 have hA:DataW.TrodAll enc Tryz.prog W 0 (fun _=>true) true Tryz.f6.params.toList args.toList ds p:=hA0
 rw [Tryz.params6] at hA hval;obtain ⟨v0,v1,d0,d1,p0,p1,rfl,rfl,rfl,h0,h1⟩:=trodAll_two hA
 obtain ⟨A0,l0,c0,rfl,hlc0,hcm0,hR0⟩:=zir Tryz.underlying22 Tryz.underlying3 (by kernel_rfl) (hval 0 22 v0 rfl rfl) h0
 obtain ⟨q0,hq0,hB0,hb0⟩:=qcz l0 hlc0 (zxh Tryz.underlying22 (hval 0 22 _ rfl rfl)) hR0;obtain ⟨x,rfl,_,_,_⟩:=open_int Tryz.underlying3 (hval 1 3 v1 rfl rfl) h1;rw [hq0] at fin;rw [hq0]
 refine (law1i (zr5 zqo l0.length l0 rfl x) hB0 hb0).mono fun e W' ⟨he,hb⟩=>?_
 subst he;exact ⟨_,rfl,fin W' hb⟩
theorem loses_holds:Rows.PlaneLosesSaid :=
 OpenClaim.holds_of_wide 6 Tryz.f6 rfl rfl rfl rfl rfl rfl rfl ⟨rfl,rfl,rfl,rfl,rfl⟩ rfl rfl rfl rfl rfl zpi Tryz.func6 zpj zsr zsq
  (fun os started H enc _=>zne os started H enc)
end Go.Proofs.YtpigpajgjdcagaaGreat
