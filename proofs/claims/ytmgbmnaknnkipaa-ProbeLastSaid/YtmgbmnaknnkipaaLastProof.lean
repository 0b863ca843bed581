/- ProbeLast returns true for every input and leaves its arguments as they were; no condition. -/
import Derived.Test.YtmgbmnaknnkipaaProbeE
import Derived.Test.YtmgbmnaknnkipaaOpen
namespace Go.Proofs.Ytmgbmnaknnkipaa
open Go.ChangeShapes Go.WideShapes Go.ChangeAt Go.RowKit Go.Joins

set_option maxRecDepth 100000 in
theorem last_lifted (os : Os) (started : os.Started) (H : Type) (enc : TypeId × Value → H) :
    ReturnsInHanded {} Try.checked os 5 .any (Rows.probeLastSpec.pre6 enc Try.prog Try.f5 Rows.probeLastRow.domain false) (Rows.probeLastSpec.post enc Try.prog Try.f5 false true false false) := by
  refine returnsInHanded_of_change (C := Try.checked) Try.own started (by kernel_rfl) Try.func5
    (ChangeSpec.witness6 (enc := enc) (C := Try.checked) false ⟨#[], #[.slice none 0 0], []⟩ 8 (by kernel_rfl) (by kernel_rfl) (by kernel_rfl) (by kernel_rfl)) ?_
  intro W base args ds gs before hval0 hW hcnd _
  have hval : ∀ (j : Nat) t v, Try.f5.params[j]? = some t → args[j]? = some v → Value.okWide Try.prog W .any base t v := hval0
  have hW' : DataW.Whole enc Try.prog Try.f5.params.toList Rows.probeLastSpec.vars false W args.toList ds gs before := hW
  have fin : ∀ W', Below W.heap.size W W' → Rows.probeLastSpec.post enc Try.prog Try.f5 false true false false W args (.bool true) W' := fun W' hb =>
    law_post Try.laidOut (by kernel_rfl) (tb := 4) rfl Try.underlying4 rfl (fun xs hx => by
      match xs, hx with
      | [_], _ => rfl) hW' hb
  obtain ⟨p, q, hA0, hV, rfl, hfz, hnd⟩ := hW
  have hA : DataW.TrodAll enc Try.prog W 0 (fun _ => true) true Try.f5.params.toList args.toList ds p := hA0
  rw [Try.params5] at hA hval
  obtain ⟨v0, d0, rfl, rfl, h0⟩ := trodAll_one hA
  obtain ⟨A, l, c, rfl, hlc0, hcm0, hR0⟩ := open_bools Try.underlying24 Try.underlying4 (by kernel_rfl) (hval 0 24 v0 rfl rfl) h0
  unfold maxLen at hcm0
  refine (lawLast A c l W (by omega) hR0).mono fun e W' ⟨he, hb⟩ => ?_
  subst he
  exact ⟨_, rfl, fin W' hb⟩

theorem last_holds : Rows.ProbeLastSaid :=
  OpenClaim.holds_of_wide 5 Try.f5 rfl rfl rfl rfl rfl rfl rfl ⟨rfl, rfl, rfl, rfl, rfl⟩ rfl rfl rfl rfl rfl (by kernel_rfl) Try.func5 (by kernel_rfl)
    (of_decide_eq_true (by kernel_rfl)) (by unfold Func.isWrapper; rw [if_neg (by decide +kernel)]; exact ⟨rfl, rfl⟩)
    (fun os started H enc _ => last_lifted os started H enc)

end Go.Proofs.Ytmgbmnaknnkipaa
