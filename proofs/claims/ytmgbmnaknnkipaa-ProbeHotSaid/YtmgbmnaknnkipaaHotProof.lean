/- ProbeHot returns true for every input and leaves its arguments as they were; no condition. -/
import Derived.Test.YtmgbmnaknnkipaaProbeF
import Derived.Test.YtmgbmnaknnkipaaOpen
namespace Go.Proofs.Ytmgbmnaknnkipaa
open Go.ChangeShapes Go.WideShapes Go.ChangeAt Go.RowKit Go.Joins

set_option maxRecDepth 100000 in
theorem hot_lifted (os : Os) (started : os.Started) (H : Type) (enc : TypeId × Value → H) :
    ReturnsInHanded {} Try.checked os 4 .any (Rows.probeHotSpec.pre6 enc Try.prog Try.f4 Rows.probeHotRow.domain false) (Rows.probeHotSpec.post enc Try.prog Try.f4 false true false false) := by
  refine returnsInHanded_of_change (C := Try.checked) Try.own started (by kernel_rfl) Try.func4
    (ChangeSpec.witness6 (enc := enc) (C := Try.checked) false ⟨#[], #[.int .i64 0, .int .i64 0, .slice none 0 0, .bool false], []⟩ 8 (by kernel_rfl) (by kernel_rfl) (by kernel_rfl) (by kernel_rfl)) ?_
  intro W base args ds gs before hval0 hW hcnd _
  have hval : ∀ (j : Nat) t v, Try.f4.params[j]? = some t → args[j]? = some v → Value.okWide Try.prog W .any base t v := hval0
  have hW' : DataW.Whole enc Try.prog Try.f4.params.toList Rows.probeHotSpec.vars false W args.toList ds gs before := hW
  have fin : ∀ W', Below W.heap.size W W' → Rows.probeHotSpec.post enc Try.prog Try.f4 false true false false W args (.bool true) W' := fun W' hb =>
    law_post Try.laidOut (by kernel_rfl) (tb := 4) rfl Try.underlying4 rfl (fun xs hx => by
      match xs, hx with
      | [_, _, _, _], _ => rfl) hW' hb
  obtain ⟨p, q, hA0, hV, rfl, hfz, hnd⟩ := hW
  have hA : DataW.TrodAll enc Try.prog W 0 (fun _ => true) true Try.f4.params.toList args.toList ds p := hA0
  rw [Try.params4] at hA hval
  obtain ⟨v0, v1, v2, v3, d0, d1, d2, d3, p0, p1, p2, p3, rfl, rfl, rfl, h0, h1, h2, h3⟩ := trodAll_four hA
  obtain ⟨high, rfl, _, _, _⟩ := open_int Try.underlying3 (hval 0 3 v0 rfl rfl) h0
  obtain ⟨low, rfl, _, _, _⟩ := open_int Try.underlying3 (hval 1 3 v1 rfl rfl) h1
  obtain ⟨A, l, c, rfl, hlc2, hcm2, hR2⟩ := open_i64s Try.underlying32 Try.underlying3 (by kernel_rfl) (hval 2 32 v2 rfl rfl) h2
  unfold maxLen at hcm2
  obtain ⟨small, rfl, _, _⟩ := open_bool Try.underlying4 (hval 3 4 v3 rfl rfl) h3
  refine (lawHot high low A c l small W (by omega) hR2).mono fun e W' ⟨he, hb⟩ => ?_
  subst he
  exact ⟨_, rfl, fin W' hb⟩

theorem hot_holds : Rows.ProbeHotSaid :=
  OpenClaim.holds_of_wide 4 Try.f4 rfl rfl rfl rfl rfl rfl rfl ⟨rfl, rfl, rfl, rfl, rfl⟩ rfl rfl rfl rfl rfl (by kernel_rfl) Try.func4 (by kernel_rfl)
    (of_decide_eq_true (by kernel_rfl)) (by unfold Func.isWrapper; rw [if_neg (by decide +kernel)]; exact ⟨rfl, rfl⟩)
    (fun os started H enc _ => hot_lifted os started H enc)

end Go.Proofs.Ytmgbmnaknnkipaa
