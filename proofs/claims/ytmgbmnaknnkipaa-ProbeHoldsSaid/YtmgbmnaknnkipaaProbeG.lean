/- The law ProbeHolds. -/
import Derived.Test.YtmgbmnaknnkipaaProbeE
namespace Go.Proofs.Ytmgbmnaknnkipaa
open Go.RowKit Go.BigFrame

/-- The last s.2 of the first k results are all s.1. -/
def Runs (l : List Bool) (k : Nat) (s : Bool × Int) : Prop := ∀ j : Nat, (j : Int) < s.2 → j < k ∧ l[k - 1 - j]? = some s.1

theorem runs_step (a b : Int) (l : List Bool) (k : Nat) (h : k < l.length) (s : Bool × Int) (hr : Runs l k s) : Runs l (k + 1) (pstep a b s.1 s.2 l[k]) := by
  unfold pstep
  generalize (if s.1 = true then b else a) = lim
  by_cases hne : (!l[k] == s.1) = true
  · rw [if_pos hne]; intro j hj; simp at hj; omega
  · rw [if_neg hne]
    by_cases hlim : lim ≤ s.2 + 1
    · rw [if_pos hlim]; intro j hj; simp at hj; omega
    · rw [if_neg hlim]
      intro j hj
      have hg : l[k] = s.1 := by
        generalize l[k] = g at *
        generalize s.1 = q at *
        revert hne
        cases g <;> cases q <;> simp
      rcases Nat.eq_zero_or_pos j with h0 | h0
      · subst h0
        exact ⟨by omega, by simp [h, hg]⟩
      · obtain ⟨h1, h2⟩ := hr (j - 1) (by simp at hj; omega)
        refine ⟨by omega, ?_⟩
        rw [show k + 1 - 1 - j = k - 1 - (j - 1) by omega]
        exact h2

theorem stAt_runs (a b : Int) (l : List Bool) : ∀ k, k ≤ l.length → Runs l k (stAt (pstep a b) l k)
  | 0, _ => fun j hj => by simp [stAt_zero] at hj; omega
  | k + 1, h => by rw [stAt_succ _ _ _ (by omega)]; exact runs_step a b l k (by omega) _ (stAt_runs a b l k (by omega))

/-- Where the verdict changes, the last results are the old verdict. -/
theorem holds_at (a b : Int) (l : List Bool) (k : Nat) (h : k < l.length) (hne : (stAt (pstep a b) l (k + 1)).1 ≠ (stAt (pstep a b) l k).1) :
    ∀ j : Nat, (j : Int) < (if (stAt (pstep a b) l k).1 = true then b else a) → j ≤ k ∧ l[k - j]? = some (stAt (pstep a b) l k).1 := by
  have hr := stAt_runs a b l k (by omega)
  rw [stAt_succ _ _ _ h] at hne
  generalize stAt (pstep a b) l k = s at *
  unfold pstep at hne
  generalize (if s.1 = true then b else a) = lim at *
  by_cases hg : (!l[k] == s.1) = true
  · rw [if_pos hg] at hne; exact absurd rfl hne
  · rw [if_neg hg] at hne
    by_cases hlim : lim ≤ s.2 + 1
    · intro j hj
      have hlk : l[k] = s.1 := by
        generalize l[k] = g at *
        generalize s.1 = q at *
        revert hg
        cases g <;> cases q <;> simp
      rcases Nat.eq_zero_or_pos j with h0 | h0
      · subst h0
        exact ⟨by omega, by simp [h, hlk]⟩
      · obtain ⟨h1, h2⟩ := hr (j - 1) (by omega)
        refine ⟨by omega, ?_⟩
        rw [show k - j = k - 1 - (j - 1) by omega]
        exact h2
    · rw [if_neg hlim] at hne; exact absurd rfl hne

set_option maxRecDepth 100000 in
set_option maxHeartbeats 4000000 in
theorem lawHolds (a b : Int) (A : Option Addr) (c : Nat) (l : List Bool) (w : World) (hl : l.length ≤ 9223372036854775807) (hA : Rd w w.heap.size A (l.map Value.bool)) :
    Calls Try.prog 6 #[.agg #[.int .i64 a, .int .i64 b], .slice A l.length c] w fun e w' => e = .returned (.bool true) ∧ Below w.heap.size w w' := by
  by_cases hbig : 500 < l.length
  · go_enter Try.func6, Try.ntmps6
    go_wp2_with (go_at_call 9; refine (awake_any _).mono ?_; rintro e w' ⟨rfl, hb⟩)
    go_ret
    exact ⟨rfl, (below1 _ _).trans (hb.mono (by simp))⟩
  have hne : ((l.length : Int) != (l.length : Int)) = false := by simp
  obtain ⟨na1, na2⟩ := nearI_bd a
  obtain ⟨nb1, nb2⟩ := nearI_bd b
  go_enter Try.func6, Try.ntmps6
  go_wp2_with fail
  refine (near_any a b _).mono ?_
  rintro e w1 ⟨rfl, hb1⟩
  generalize nearI a = a1 at *
  generalize nearI b = b1 at *
  have B1 := (Blk.newAt w 23 #[.int .i64 a, .int .i64 b] w.heap.size rfl).below hb1 (by simp)
  have c0 := B1.cell 0
  have c1 := B1.cell 1
  have f0 := B1.free 0
  have f1 := B1.free 1
  simp at c0 c1
  have HB1 := Lib.hid ((below1 w (.cells #[.int .i64 a, .int .i64 b] 23)).trans (hb1.mono (by simp)))
  have HBL := Lib.hid B1
  clear B1 hb1
  go_wp2_with fail
  have HB2 := Lib.hid ((HB1.out.setCell (p := ⟨w.heap.size, 0, none⟩) (Nat.le_refl _) (.int .i64 a1)).setCell (p := ⟨w.heap.size, 1, none⟩) (Nat.le_refl _) (.int .i64 b1))
  have HBL2 := Lib.hid (show Blk ((w1.setCell ⟨w.heap.size, 0, none⟩ (.int .i64 a1)).setCell ⟨w.heap.size, 1, none⟩ (.int .i64 b1)) w.heap.size 23 #[.int .i64 a1, .int .i64 b1] from (HBL.out.put 0 _).put 1 _)
  refine (verdicts_yes a1 b1 A c l _ na1 (by omega) nb1 (by omega) (by omega) ((hA.below HB2.out).more HB2.out.size)).mono ?_
  rintro e w2 ⟨g, rfl, hg2, hb2⟩
  have HBL3 := Lib.hid (HBL2.out.below hb2 HBL2.out.lt)
  have HB3 := Lib.hid (HB2.out.trans (hb2.mono HB2.out.size))
  have HG2 := Lib.hid hg2
  clear hg2 hb2 HBL2 HBL HB1 HB2
  go_wp2_with fail
  refine (awake_any _).mono ?_
  rintro e w3 ⟨rfl, hb3⟩
  have HBL4 := Lib.hid (HBL3.out.below hb3 HBL3.out.lt)
  have HB4 := Lib.hid (HB3.out.trans (hb3.mono HB3.out.size))
  have HG3 := Lib.hid (HG2.out.below hb3 HG2.out.lt)
  have HA := Lib.hid (hA.below HB4.out)
  clear hb3 HBL3 HB3 HG2 hA c0 c1 f0 f1
  have c0 := HBL4.out.cell 0
  have c1 := HBL4.out.cell 1
  simp at c0 c1
  go_wp2_with fail
  go_loop [7, 8] (fun t i => ∃ k : Nat, k ≤ l.length ∧ i = .int .i64 k ∧ t = .bool (stAt (pstep a1 b1) l k).1) (fun _ i => l.length - (intOf i).toNat)
  case atStart => exact ⟨0, Nat.zero_le _, rfl, rfl⟩
  case round =>
    obtain ⟨k, hk, rfl, rfl⟩ := hrel
    by_cases hlt : k < l.length
    · have hx : w3.cell? ⟨g, k, none⟩ = some (.bool (stAt (pstep a1 b1) l (k + 1)).1) := by
        rw [HG3.out.cell k]
        simp [verd_get _ _ _ _ hlt]
      have hh := holds_at a1 b1 l k hlt
      generalize hq : (stAt (pstep a1 b1) l k).1 = q at *
      generalize hq1 : (stAt (pstep a1 b1) l (k + 1)).1 = q1 at *
      have HQ1 := Lib.hid hq1
      have HQ := Lib.hid hq
      have HH := Lib.hid hh
      clear hq hq1 hh
      cases q <;> cases q1
      · go_wp2
        go_round
        case rel => exact ⟨k + 1, hlt, by go_num, by rw [HQ1.out]⟩
        case measure => simp [intOf]; omega
      · go_wp2
        go_loop [10] (fun t => ∃ j : Nat, (j : Int) ≤ a1 ∧ t = .int .i64 j) (fun t => a1.toNat - (intOf t).toNat)
        case atStart => exact ⟨0, by omega, rfl⟩
        case round =>
          obtain ⟨j, hj, rfl⟩ := hrel
          by_cases hjl : (j : Int) < a1
          · obtain ⟨hjk, hlj⟩ := HH.out (by simp) j (by simpa using hjl)
            obtain ⟨ad, rfl, _, hcell⟩ := HA.out (k - j) (.bool false) (by simp [hlj])
            have HLJ := Lib.hid hlj
            clear hlj
            have d1 : decide (k < j) = false := by simp; omega
            go_wp2
            go_round
            case rel => exact ⟨j + 1, by omega, by go_num⟩
            case measure => simp [intOf]; omega
          · go_wp2
            go_round
            case rel => exact ⟨k + 1, hlt, by go_num, by rw [HQ1.out]⟩
            case measure => simp [intOf]; omega
      · go_wp2
        go_loop [10] (fun t => ∃ j : Nat, (j : Int) ≤ b1 ∧ t = .int .i64 j) (fun t => b1.toNat - (intOf t).toNat)
        case atStart => exact ⟨0, by omega, rfl⟩
        case round =>
          obtain ⟨j, hj, rfl⟩ := hrel
          by_cases hjl : (j : Int) < b1
          · obtain ⟨hjk, hlj⟩ := HH.out (by simp) j (by simpa using hjl)
            obtain ⟨ad, rfl, _, hcell⟩ := HA.out (k - j) (.bool true) (by simp [hlj])
            have HLJ := Lib.hid hlj
            clear hlj
            have d1 : decide (k < j) = false := by simp; omega
            go_wp2
            go_round
            case rel => exact ⟨j + 1, by omega, by go_num⟩
            case measure => simp [intOf]; omega
          · go_wp2
            go_round
            case rel => exact ⟨k + 1, hlt, by go_num, by rw [HQ1.out]⟩
            case measure => simp [intOf]; omega
      · go_wp2
        go_round
        case rel => exact ⟨k + 1, hlt, by go_num, by rw [HQ1.out]⟩
        case measure => simp [intOf]; omega
    · go_wp2
      go_ret
      exact ⟨rfl, HB4.out⟩

end Go.Proofs.Ytmgbmnaknnkipaa
