/- The law ProbeHot. -/
import Derived.Test.YtmgbmnaknnkipaaProbeD
namespace Go.Proofs.Ytmgbmnaknnkipaa
open Go.RowKit Go.BigFrame

def hspec (high low : Int) (l : List Int) : List Bool := if low ≤ high then hots high low l l.length else []
def hcode (high low : Int) : Int := if low ≤ high then 0 else 1
theorem hspec_length (high low : Int) (l : List Int) : (hspec high low l).length ≤ l.length := by
  unfold hspec
  split
  · rw [hots_length]; omega
  · simp

theorem hot_all (high low : Int) (A : Option Addr) (n c : Nat) (l : List Int) (w : World) (hn : n = l.length) (hl : l.length ≤ 1000) (hA : Rd w w.heap.size A (l.map (Value.int .i64))) :
    Calls Try.prog 15 #[.int .i64 high, .int .i64 low, .slice A n c] w fun e w' => Back w' e (hspec high low l) (hcode high low) ∧ Below w.heap.size w w' := by
  subst hn
  by_cases h : low ≤ high
  · refine (hot_yes high low A c l w h hl hA).mono ?_
    rintro e w1 ⟨g, rfl, hb, hbw⟩
    exact ⟨⟨_, _, by rw [hspec, if_pos h, hcode, if_pos h, hots_length], by rw [hspec, if_pos h]; simpa using Rd.of_blk hb⟩, hbw⟩
  · refine (hot_no high low A l.length c w (by omega)).mono ?_
    rintro e w1 ⟨rfl, rfl⟩
    exact ⟨⟨none, 0, by rw [hspec, if_neg h, hcode, if_neg h]; rfl, by rw [hspec, if_neg h]; exact Rd.nil⟩, Below.refl _ _⟩

theorem rhot_all (high low : Int) (A : Option Addr) (n c : Nat) (l : List Int) (w : World) (hn : n = l.length) (hl : l.length ≤ 1000) (hA : Rd w w.heap.size A (l.map (Value.int .i64))) :
    Calls Try.prog 16 #[.int .i64 high, .int .i64 low, .slice A n c] w fun e w' => Back w' e (hspec high low l) (hcode high low) ∧ Below w.heap.size w w' := by
  subst hn
  by_cases h : low ≤ high
  · refine (rhot_yes high low A c l w h hl hA).mono ?_
    rintro e w1 ⟨v, rfl, hown, hbw⟩
    obtain ⟨A2, c2, rfl⟩ := own_form hown
    exact ⟨⟨A2, c2, by rw [hspec, if_pos h, hcode, if_pos h, hots_length], by rw [hspec, if_pos h]; exact Rd.of_own hown⟩, hbw⟩
  · refine (rhot_no high low A l.length c w (by omega)).mono ?_
    rintro e w1 ⟨rfl, rfl⟩
    exact ⟨⟨none, 0, by rw [hspec, if_neg h, hcode, if_neg h]; rfl, by rw [hspec, if_neg h]; exact Rd.nil⟩, Below.refl _ _⟩

theorem etI : ElemT Try.prog 32 3 (.int .i64 0) 1 8 := ElemT.mk' Try.underlying32 (by kernel_rfl) rfl (by decide)

/-- The first k elements modulo 8. -/
def mix (l : List Int) (k : Nat) : List Int := (l.take k).map (· % 8) ++ l.drop k
theorem mix_zero (l : List Int) : mix l 0 = l := by simp [mix]
theorem mix_length (l : List Int) (k : Nat) : (mix l k).length = l.length := by simp [mix]; omega
theorem mix_get (l : List Int) (k : Nat) (h : k < l.length) : (mix l k)[k]? = some l[k] := by
  unfold mix
  rw [List.getElem?_append_right (by simp; omega)]
  simp [Nat.min_eq_left (Nat.le_of_lt h), h]
theorem mix_set (l : List Int) (k : Nat) (h : k < l.length) : (mix l k).set k (l[k] % 8) = mix l (k + 1) := by
  unfold mix
  rw [List.set_append_right _ _ (by simp; omega), List.take_succ_eq_append_getElem h, List.map_append, List.append_assoc]
  congr 1
  rw [List.drop_eq_getElem_cons h, List.length_map, List.length_take, Nat.min_eq_left (Nat.le_of_lt h), Nat.sub_self]
  rfl

set_option maxRecDepth 100000 in
set_option maxHeartbeats 4000000 in
theorem lawHot (high low : Int) (A : Option Addr) (c : Nat) (l : List Int) (small : Bool) (w : World) (hl : l.length ≤ 9223372036854775807) (hA : Rd w w.heap.size A (l.map (Value.int .i64))) :
    Calls Try.prog 4 #[.int .i64 high, .int .i64 low, .slice A l.length c, .bool small] w fun e w' => e = .returned (.bool true) ∧ Below w.heap.size w w' := by
  by_cases hbig : 500 < l.length
  · go_enter Try.func4, Try.ntmps4
    go_wp2_with (go_at_call 9; refine (awake_any _).mono ?_; rintro e w' ⟨rfl, hb⟩)
    go_ret
    exact ⟨rfl, hb⟩
  have hown0 : (w.alloc (.cells #[] 3)).ownsRow w.heap.size 3 1 (.slice (some ⟨w.heap.size, 0, none⟩) 0 0) 0 [] := World.ownsRow_made w #[] 0 (Nat.le_refl _) (by simp [maxLen]) rfl
  have hA1 := hA.alloc (Nat.le_refl _) (.cells #[] 3)
  go_enter Try.func4, Try.ntmps4
  go_wp2_with (at_builtin; refine wpList_appsrc etI rfl _ _ rfl w.heap.size _ 0 [] rfl hown0 w.heap.size A l.length c (l.map (Value.int .i64)) rfl (by simp) hA1 (by simp [Value.oneCell']) (by simp; omega) (by omega) (by simp) ?_; intro v1 w1 hown1 hg1 hat1)
  simp only [List.length_map, Nat.zero_add, List.nil_append] at hown1
  have hb1 : Below w.heap.size w w1 := below_app hown0 (below1 _ _) (Nat.le_refl _) (by simp) hg1
  clear hown0 hA1 hg1 hat1
  cases small
  · go_loopw [10] (fun i wr => i = .int .i64 0 ∧ wr = w1) (fun _ _ => 0)
    case atStart => exact ⟨rfl, rfl⟩
    case round =>
      obtain ⟨rfl, rfl⟩ := hrel
      have HO := Lib.hid hown1
      have HBW := Lib.hid hb1
      clear hown1 hb1 hA
      have hz : decide (0 < l.length) = true ∨ decide (0 < l.length) = false := by cases decide (0 < l.length) <;> simp
      rcases hz with hz | hz
      all_goals
        obtain ⟨A2, c2, rfl⟩ := own_form HO.out
        have HR := Lib.hid (Rd.of_own HO.out)
        have hsl := hspec_length high low (l)
        have hee : (hcode high low == hcode high low) = true := by simp
        go_wp2_with fail
        refine (hot_all high low A2 _ c2 (l) _ rfl (by omega) HR.out).mono ?_
        rintro e w2 ⟨⟨A3, c3, rfl, R3⟩, hbw2⟩
        have HR2 := Lib.hid ((HR.out.below hbw2).more hbw2.size)
        have HR3 := Lib.hid R3
        have HB2 := Lib.hid (HBW.out.trans (hbw2.mono HBW.out.size))
        clear R3 hbw2
        go_wp2_with fail
        refine (rhot_all high low A2 _ c2 (l) _ rfl (by omega) HR2.out).mono ?_
        rintro e w3 ⟨⟨A4, c4, rfl, R4⟩, hbw3⟩
        have HR3 := Lib.hid ((HR3.out.below hbw3).more hbw3.size)
        have HR4 := Lib.hid R4
        have HB3 := Lib.hid (HB2.out.trans (hbw3.mono HB2.out.size))
        clear R4 hbw3
        go_wp2_with fail
        refine (awake_any _).mono ?_
        rintro e w4 ⟨rfl, hbw4⟩
        have HR3 := Lib.hid ((HR3.out.below hbw4).more hbw4.size)
        have HR4 := Lib.hid ((HR4.out.below hbw4).more hbw4.size)
        have HB4 := Lib.hid (HB3.out.trans (hbw4.mono HB3.out.size))
        clear hbw4
        go_wp2_with fail
        refine (same_true A3 A4 _ _ _ _ (hspec high low (l)) _ HR3.out HR4.out (by omega) rfl rfl).mono ?_
        rintro e w5 ⟨rfl, n5, rfl⟩
        go_wp2
        go_ret
        exact ⟨rfl, below_drewN HB4.out n5⟩
  · go_loopw [10] (fun i wr => ∃ k : Nat, k ≤ l.length ∧ i = .int .i64 k ∧ wr.ownsRow w.heap.size 3 1 v1 l.length ((mix l k).map (Value.int .i64)) ∧ Below w.heap.size w wr) (fun i _ => l.length - (intOf i).toNat)
    case atStart => exact ⟨0, Nat.zero_le _, rfl, by rw [mix_zero]; exact hown1, hb1⟩
    case round =>
      obtain ⟨k, hk, rfl, hown, hbw⟩ := hrel
      have HO := Lib.hid hown
      have HBW := Lib.hid hbw
      clear hown hbw hown1 hb1
      by_cases hlt : k < l.length
      · obtain ⟨g, cap, hv⟩ : ∃ g cap, v1 = .slice (some ⟨g, 0, none⟩) l.length cap := by
          rcases HO.out.2 with ⟨_, h0⟩ | ⟨g, cap, cur, h, _⟩
          · omega
          · exact ⟨g, cap, h⟩
        subst hv
        have c1 := (HO.out.cellAt k (by omega))
        rw [List.getElem?_map, mix_get l k hlt] at c1
        simp at c1
        have f1 := HO.out.frozenAt k
        go_wp2_with (go_at_call 14; refine (mod_any _ _ _ (by omega) (by omega)).mono ?_; rintro e w' ⟨rfl, rfl⟩)
        go_roundw
        case rel =>
          obtain ⟨h1, h2⟩ := HO.out.stored k (.int .i64 (l[k] % 8))
          refine ⟨k + 1, hlt, by go_num, ?_, HBW.out.setCell (HO.out.lt g rfl).1 _⟩
          rw [← mix_set l k hlt, List.map_set]
          exact h1
        case measure => simp [intOf]; omega
      · have e : k = l.length := by omega
        subst e
        clear hA
        obtain ⟨A2, c2, rfl⟩ := own_form HO.out
        have HR := Lib.hid (Rd.of_own HO.out)
        have hxl : (mix l l.length).length = l.length := by exact mix_length _ _
        have HXL := Lib.hid hxl
        clear hxl
        have hsl := hspec_length (high % 8) (low % 8) (mix l l.length)
        have hee : (hcode (high % 8) (low % 8) == hcode (high % 8) (low % 8)) = true := by simp
        go_wp2_with fail
        refine (mod_any _ _ _ (by omega) (by omega)).mono ?_
        rintro e w' ⟨rfl, rfl⟩
        go_wp2_with fail
        refine (mod_any _ _ _ (by omega) (by omega)).mono ?_
        rintro e w' ⟨rfl, rfl⟩
        go_wp2_with fail
        refine (hot_all (high % 8) (low % 8) A2 _ c2 (mix l l.length) _ HXL.out.symm (by rw [HXL.out]; omega) HR.out).mono ?_
        rintro e w2 ⟨⟨A3, c3, rfl, R3⟩, hbw2⟩
        have HR2 := Lib.hid ((HR.out.below hbw2).more hbw2.size)
        have HR3 := Lib.hid R3
        have HB2 := Lib.hid (HBW.out.trans (hbw2.mono HBW.out.size))
        clear R3 hbw2
        go_wp2_with fail
        refine (rhot_all (high % 8) (low % 8) A2 _ c2 (mix l l.length) _ HXL.out.symm (by rw [HXL.out]; omega) HR2.out).mono ?_
        rintro e w3 ⟨⟨A4, c4, rfl, R4⟩, hbw3⟩
        have HR3 := Lib.hid ((HR3.out.below hbw3).more hbw3.size)
        have HR4 := Lib.hid R4
        have HB3 := Lib.hid (HB2.out.trans (hbw3.mono HB2.out.size))
        clear R4 hbw3
        go_wp2_with fail
        refine (awake_any _).mono ?_
        rintro e w4 ⟨rfl, hbw4⟩
        have HR3 := Lib.hid ((HR3.out.below hbw4).more hbw4.size)
        have HR4 := Lib.hid ((HR4.out.below hbw4).more hbw4.size)
        have HB4 := Lib.hid (HB3.out.trans (hbw4.mono HB3.out.size))
        clear hbw4
        go_wp2_with fail
        refine (same_true A3 A4 _ _ _ _ (hspec (high % 8) (low % 8) (mix l l.length)) _ HR3.out HR4.out (by have := HXL.out; omega) rfl rfl).mono ?_
        rintro e w5 ⟨rfl, n5, rfl⟩
        go_wp2
        go_ret
        exact ⟨rfl, below_drewN HB4.out n5⟩

end Go.Proofs.Ytmgbmnaknnkipaa
