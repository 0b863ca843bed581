/- PlaneQuorum returns true for every input and leaves its arguments as they were; no condition. -/
import Derived.Test.YtpigpajgjdcagaaGreatUz1
import Derived.Test.YtpigpajgjdcagaaGreatUms
import Derived.Test.YtpigpajgjdcagaaGreatUx
import Derived.Test.YtpigpajgjdcagaaGreatUzj
set_option linter.unusedSimpArgs false
set_option linter.unusedVariables false
set_option maxRecDepth 100000
set_option maxHeartbeats 60000000
namespace Go.Proofs.YtpigpajgjdcagaaGreat
open Go.ChangeShapes Go.WideShapes Go.ChangeAt Go.RowKit Go.Joins Eng
theorem zky (os:Os) (started:os.Started) (H:Type) (enc:TypeId × Value→H) :
 ReturnsInHanded {} Tryz.checked os 8 .any (Rows.planeQuorumSpec.pre6 enc Tryz.prog Tryz.f8 Rows.planeQuorumRow.domain false) (Rows.planeQuorumSpec.post enc Tryz.prog Tryz.f8 false true false false):=by
 refine returnsInHanded_of_change (C:=Tryz.checked) Tryz.own started (by kernel_rfl) Tryz.func8
  (ChangeSpec.witness6 (enc:=enc) (C:=Tryz.checked) false ⟨#[],#[.slice none 0 0,.slice none 0 0],[]⟩ 8 (by kernel_rfl) (by kernel_rfl) (by kernel_rfl) (by kernel_rfl)) ?_
 intro W base args ds gs before hval0 hW hcnd _
 have hval:∀ (j:Nat) t v,Tryz.f8.params[j]?=some t→args[j]?=some v→Value.okWide Tryz.prog W .any base t v:=hval0
 have hW':DataW.Whole enc Tryz.prog Tryz.f8.params.toList Rows.planeQuorumSpec.vars false W args.toList ds gs before:=hW
 have fin:∀ W',Below W.heap.size W W'→Rows.planeQuorumSpec.post enc Tryz.prog Tryz.f8 false true false false W args (.bool true) W':=fun W' hb =>
  zzo Tryz.laidOut (by kernel_rfl) (tb:=4) rfl Tryz.underlying4 rfl (fun xs hx=>by
   match xs,hx with
   | [_,_],_=>rfl) hW' hb
 obtain ⟨p,q,hA0,hV,rfl,hfz,hnd⟩:=hW
 have hA:DataW.TrodAll enc Tryz.prog W 0 (fun _=>true) true Tryz.f8.params.toList args.toList ds p:=hA0
 rw [Tryz.params8] at hA hval;obtain ⟨v0,v1,d0,d1,p0,p1,rfl,rfl,rfl,h0,h1⟩:=trodAll_two hA
 obtain ⟨A0,l0,c0,rfl,hlc0,hcm0,hR0⟩:=zm1 Tryz.underlying22 Tryz.underlying3 (by kernel_rfl) (hval 0 22 v0 rfl rfl) h0
 obtain ⟨q0,hq0,hB0,hb0⟩:=qc5 l0 hlc0 (qay Tryz.underlying22 (hval 0 22 _ rfl rfl)) hR0
 obtain ⟨A1,l1,c1,rfl,hlc1,hcm1,hR1⟩:=zm1 Tryz.underlying22 Tryz.underlying3 (by kernel_rfl) (hval 1 22 v1 rfl rfl) h1
 obtain ⟨q1,hq1,hB1,hb1⟩:=qc5 l1 hlc1 (qay Tryz.underlying22 (hval 1 22 _ rfl rfl)) hR1;rw [hq0,hq1] at fin;rw [hq0,hq1]
 refine (law2 (zoq zza l0.length l0 rfl l1.length l1 rfl) hB0 hb0 hB1 hb1).mono fun e W' ⟨he,hb⟩=>?_
 subst he;exact ⟨_,rfl,fin W' hb⟩
theorem quorum_holds:Rows.PlaneQuorumSaid :=
 OpenClaim.holds_of_wide 8 Tryz.f8 rfl rfl rfl rfl rfl rfl rfl ⟨rfl,rfl,rfl,rfl,rfl⟩ rfl rfl rfl rfl rfl zmw Tryz.func8 zmx zo0 zoz
  (fun os started H enc _=>zky os started H enc)
end Go.Proofs.YtpigpajgjdcagaaGreat
