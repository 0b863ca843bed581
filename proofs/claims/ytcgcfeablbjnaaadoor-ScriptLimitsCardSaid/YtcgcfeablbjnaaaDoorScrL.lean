/- The laws ScriptNames and ScriptReplies, walked. -/
import Derived.Test.YtcgcfeablbjnaaaDoorScrK
namespace Go.Proofs.YtcgcfeablbjnaaaDoor
open Go.RowKit Go.BigFrame

theorem name_ref (kind : Int) (w : World) :
    Calls Tryd.prog 10 #[.int .i64 kind] w fun e w' => e = .returned (.string ⟨(refName kind).toArray⟩) ∧ Below w.heap.size w w' := by
  rw [← name_same]
  exact name_any kind w

set_option maxHeartbeats 4000000 in
theorem lawNames (kind : Int) (w : World) (he : Env w) : Calls Tryd.prog 4 #[.int .i64 kind] w fun e w' => e = .returned (.bool true) ∧ Below w.heap.size w w' := by
  go_enter Tryd.func4, Tryd.ntmps4
  go_wp2_with fail
  refine (awake_any w he).mono ?_
  rintro e w1 ⟨rfl, hb1⟩
  have HB1 := Lib.hid hb1
  clear hb1
  go_wp2_with fail
  go_loopw [3] (fun i wr => ∃ k : Int, -1 ≤ k ∧ k ≤ 20 ∧ i = .int .i64 k ∧ Below w.heap.size w wr) (fun i _ => (20 - intOf i).toNat)
  case atStart => exact ⟨-1, by omega, by omega, rfl, HB1.out⟩
  case round =>
    obtain ⟨k, hk0, hk, rfl, hbw⟩ := hrel
    have HBW := Lib.hid hbw
    clear hbw
    by_cases hlt : k < 20
    · have d0 : decide (k < 20) = true := by simp; omega
      go_wp2_with fail
      refine (name_ref k _).mono ?_
      rintro e w2 ⟨rfl, hb2⟩
      have HB2 := Lib.hid (HBW.out.trans (hb2.mono HBW.out.size))
      clear hb2
      go_wp2_with fail
      refine (rname_any k _).mono ?_
      rintro e w3 ⟨rfl, hb3⟩
      have HB3 := Lib.hid (HB2.out.trans (hb3.mono HB2.out.size))
      clear hb3
      go_wp2_with fail
      go_roundw
      case rel => exact ⟨k + 1, by omega, by omega, by go_num, HB3.out⟩
      case measure => simp [intOf]; omega
    · have d0 : decide (k < 20) = false := by simp; omega
      go_wp2_with fail
      refine (name_ref kind _).mono ?_
      rintro e w2 ⟨rfl, hb2⟩
      have HB2 := Lib.hid (HBW.out.trans (hb2.mono HBW.out.size))
      clear hb2
      go_wp2_with fail
      refine (rname_any kind _).mono ?_
      rintro e w3 ⟨rfl, hb3⟩
      have HB3 := Lib.hid (HB2.out.trans (hb3.mono HB2.out.size))
      clear hb3
      go_wp2_with fail
      go_ret
      exact ⟨rfl, HB3.out⟩

end Go.Proofs.YtcgcfeablbjnaaaDoor
