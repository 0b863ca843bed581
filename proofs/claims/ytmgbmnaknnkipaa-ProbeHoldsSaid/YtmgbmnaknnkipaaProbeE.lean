/- The laws ProbeLast and ProbeBetween. -/
import Derived.Test.YtmgbmnaknnkipaaProbeD
namespace Go.Proofs.Ytmgbmnaknnkipaa
open Go.RowKit Go.BigFrame

theorem last_step (l : List Bool) (k : Nat) (h : k < l.length) : (stAt (pstep 1 1) l (k + 1)).1 = !l[k] := by
  rw [stAt_succ _ _ _ h]
  have := (stAt_ok 1 1 (by omega) (by omega) l k (by omega)).1.1
  generalize stAt (pstep 1 1) l k = s at *
  generalize l[k] = g
  obtain ⟨s1, s2⟩ := s
  have hp : (1 : Int) ≤ s2 + 1 := by simp at this; omega
  cases g <;> cases s1 <;> simp [pstep, hp]

theorem verd_get (step : Bool → Int → Bool → Bool × Int) (l : List Bool) (n k : Nat) (h : k < n) : (verd step l n)[k]? = some (stAt step l (k + 1)).1 := by
  simp [verd, h]

set_option maxHeartbeats 2000000 in
theorem lawLast (A : Option Addr) (c : Nat) (l : List Bool) (w : World) (hl : l.length ≤ 9223372036854775807) (hA : Rd w w.heap.size A (l.map Value.bool)) :
    Calls Try.prog 5 #[.slice A l.length c] w fun e w' => e = .returned (.bool true) ∧ Below w.heap.size w w' := by
  by_cases hbig : 500 < l.length
  · go_enter Try.func5, Try.ntmps5
    go_wp2_with (go_at_call 9; refine (awake_any _).mono ?_; rintro e w' ⟨rfl, hb⟩)
    go_ret
    exact ⟨rfl, hb⟩
  have hne : ((l.length : Int) != (l.length : Int)) = false := by simp
  go_enter Try.func5, Try.ntmps5
  go_wp2_with fail
  refine (verdicts_yes 1 1 A c l w (by omega) (by omega) (by omega) (by omega) (by omega) hA).mono ?_
  rintro e w1 ⟨g, rfl, hb1, hbw1⟩
  have HB1 := Lib.hid hb1
  have HBW1 := Lib.hid hbw1
  clear hb1 hbw1
  go_wp2_with fail
  refine (awake_any _).mono ?_
  rintro e w2 ⟨rfl, hbw2⟩
  have HB2 := Lib.hid (HB1.out.below hbw2 HB1.out.lt)
  have HBW2 := Lib.hid (HBW1.out.trans (hbw2.mono HBW1.out.size))
  have HA := Lib.hid (hA.below HBW2.out)
  clear hbw2 hA HB1 HBW1
  go_wp2_with fail
  go_loopw [5] (fun i wr => ∃ k n : Nat, k ≤ l.length ∧ i = .int .i64 k ∧ wr = w2.drewN n) (fun i _ => l.length - (intOf i).toNat)
  case atStart => exact ⟨0, 0, Nat.zero_le _, rfl, rfl⟩
  case round =>
    obtain ⟨k, n, hk, rfl, rfl⟩ := hrel
    by_cases hlt : k < l.length
    · obtain ⟨ad, rfl, _, hcell⟩ := HA.out k (.bool l[k]) (by simp [hlt])
      have hc2 : w2.cell? ⟨g, k, none⟩ = some (.bool (!l[k])) := by
        rw [HB2.out.cell k, ← last_step l k hlt]
        simp [verd_get _ _ _ _ hlt]
      generalize l[k] = x0 at *
      cases x0 <;> simp only [Bool.not_true, Bool.not_false] at hc2
      all_goals
        go_wp2
        go_quiet (fail)
        go_wp2
        go_roundw
        case rel => exact ⟨k + 1, _, hlt, by go_num, rfl⟩
        case measure => simp [intOf]; omega
    · go_wp2
      go_ret
      exact ⟨rfl, below_drewN HBW2.out n⟩

theorem hots_get (high low : Int) (l : List Int) (n k : Nat) (h : k < n) : (hots high low l n)[k]? = some (hotAt high low l (k + 1)) := by
  simp [hots, h]

set_option maxRecDepth 100000 in
set_option maxHeartbeats 4000000 in
theorem lawBetween (high low : Int) (A : Option Addr) (c : Nat) (l : List Int) (w : World) (hl : l.length ≤ 9223372036854775807) (hA : Rd w w.heap.size A (l.map (Value.int .i64))) :
    Calls Try.prog 7 #[.int .i64 high, .int .i64 low, .slice A l.length c] w fun e w' => e = .returned (.bool true) ∧ Below w.heap.size w w' := by
  by_cases hbig : 500 < l.length ∨ high < low
  · have hb2 : decide ((500 : Int) < (l.length : Int)) = true ∨ (decide ((500 : Int) < (l.length : Int)) = false ∧ decide (high < low) = true) := by simp; omega
    rcases hb2 with h1 | ⟨h1, h2⟩
    all_goals
      go_enter Try.func7, Try.ntmps7
      go_wp2_with (go_at_call 9; refine (awake_any _).mono ?_; rintro e w' ⟨rfl, hb⟩)
      go_ret
      exact ⟨rfl, hb⟩
  have hb0 : decide ((500 : Int) < (l.length : Int)) = false := by simp; omega
  have hb00 : decide (high < low) = false := by simp; omega
  have hb1 : low ≤ high := by omega
  have hne : ((l.length : Int) != (l.length : Int)) = false := by simp
  go_enter Try.func7, Try.ntmps7
  go_wp2_with fail
  refine (hot_yes high low A c l w hb1 (by omega) hA).mono ?_
  rintro e w1 ⟨g, rfl, hb1, hbw1⟩
  have HB1 := Lib.hid hb1
  have HBW1 := Lib.hid hbw1
  clear hb1 hbw1
  go_wp2_with fail
  refine (awake_any _).mono ?_
  rintro e w2 ⟨rfl, hbw2⟩
  have HB2 := Lib.hid (HB1.out.below hbw2 HB1.out.lt)
  have HBW2 := Lib.hid (HBW1.out.trans (hbw2.mono HBW1.out.size))
  have HA := Lib.hid (hA.below HBW2.out)
  clear hbw2 hA HB1 HBW1
  go_wp2_with fail
  go_loop [9] (fun i => ∃ k : Nat, k ≤ l.length ∧ i = .int .i64 k) (fun i => l.length - (intOf i).toNat)
  case atStart => exact ⟨0, Nat.zero_le _, rfl⟩
  case round =>
    obtain ⟨k, hk, rfl⟩ := hrel
    by_cases hlt : k < l.length
    · obtain ⟨ad, rfl, _, hcell⟩ := HA.out k (.int .i64 l[k]) (by simp [hlt])
      have hs := hotAt_succ high low l k hlt
      have hc2 : w2.cell? ⟨g, k, none⟩ = some (.bool (hotAt high low l (k + 1))) := by
        rw [HB2.out.cell k]
        simp [hots_get _ _ _ _ _ hlt]
      have hwas : (0 < k ∧ w2.cell? ⟨g, k - 1, none⟩ = some (.bool (hotAt high low l k))) ∨ (k = 0 ∧ hotAt high low l k = false) := by
        rcases Nat.eq_zero_or_pos k with h0 | h0
        · exact .inr ⟨h0, by rw [h0]; rfl⟩
        · refine .inl ⟨h0, ?_⟩
          rw [HB2.out.cell (k - 1)]
          simp [hots_get _ _ _ _ _ (show k - 1 < l.length by omega), show k - 1 + 1 = k by omega]
      generalize hotAt high low l k = b0 at *
      generalize hotAt high low l (k + 1) = b1 at *
      generalize l[k] = x0 at *
      have hcase : (high < x0 ∧ b1 = true) ∨ (x0 ≤ high ∧ x0 < low ∧ b1 = false) ∨ (x0 ≤ high ∧ low ≤ x0 ∧ b1 = b0) := by
        unfold hstep at hs
        by_cases q1 : high < x0
        · rw [if_pos q1] at hs; exact .inl ⟨q1, hs⟩
        · rw [if_neg q1] at hs
          by_cases q2 : x0 < low
          · rw [if_pos q2] at hs; exact .inr (.inl ⟨by omega, q2, hs⟩)
          · rw [if_neg q2] at hs; exact .inr (.inr ⟨by omega, by omega, hs⟩)
      clear hs
      have hd : (decide (0 < k) = true ∧ w2.cell? ⟨g, k - 1, none⟩ = some (.bool b0) ∧ 1 ≤ k) ∨ (k < 1 ∧ decide (0 < k) = false ∧ b0 = false) := by
        rcases hwas with ⟨h0, hc0⟩ | ⟨h0, hb⟩
        · exact .inl ⟨by simp; omega, hc0, by omega⟩
        · exact .inr ⟨by omega, by simp; omega, hb⟩
      clear hwas
      have hx : (decide (high < x0) = true ∧ decide (x0 < low) = false ∧ decide (x0 ≤ high) = false ∧ b1 = true) ∨ (decide (high < x0) = false ∧ decide (x0 < low) = true ∧ decide (x0 ≤ high) = true ∧ decide (low ≤ x0) = false ∧ b1 = false) ∨
          (decide (high < x0) = false ∧ decide (x0 < low) = false ∧ decide (x0 ≤ high) = true ∧ decide (low ≤ x0) = true ∧ b1 = b0) := by
        rcases hcase with ⟨q, r⟩ | ⟨q1, q2, r⟩ | ⟨q1, q2, r⟩
        · exact .inl ⟨by simp; omega, by simp; omega, by simp; omega, r⟩
        · exact .inr (.inl ⟨by simp; omega, by simp; omega, by simp; omega, by simp; omega, r⟩)
        · exact .inr (.inr ⟨by simp; omega, by simp; omega, by simp; omega, by simp; omega, r⟩)
      clear hcase
      rcases hd with ⟨hk0, hc0, hk1⟩ | ⟨hk1, hk0, rfl⟩
      · cases b0 <;> rcases hx with ⟨q1, q2, q3, rfl⟩ | ⟨q1, q2, q3, q4, rfl⟩ | ⟨q1, q2, q3, q4, rfl⟩
        all_goals
          go_wp2
          go_round
          case rel => exact ⟨k + 1, hlt, by go_num⟩
          case measure => simp [intOf]; omega
      · rcases hx with ⟨q1, q2, q3, rfl⟩ | ⟨q1, q2, q3, q4, rfl⟩ | ⟨q1, q2, q3, q4, rfl⟩
        all_goals
          go_wp2
          go_round
          case rel => exact ⟨k + 1, hlt, by go_num⟩
          case measure => simp [intOf]; omega
    · go_wp2
      go_ret
      exact ⟨rfl, HBW2.out⟩

end Go.Proofs.Ytmgbmnaknnkipaa
