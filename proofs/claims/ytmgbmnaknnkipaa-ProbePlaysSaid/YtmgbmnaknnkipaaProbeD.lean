/- awake and the first laws of chapter 22. -/
import Derived.Test.YtmgbmnaknnkipaaProbeC
namespace Go.Proofs.Ytmgbmnaknnkipaa
open Go.RowKit Go.BigFrame

set_option maxHeartbeats 1000000 in
theorem awake_any (w : World) : Calls Try.prog 9 #[] w fun e w' => e = .returned (.bool true) ∧ Below w.heap.size w w' := by
  go_enter Try.func9, Try.ntmps9
  go_wp2_with fail
  refine (verdicts_yes 2 1 _ 4 [false, true, false, false] _ (by omega) (by omega) (by omega) (by omega) (by simp) (Rd.of_blk (Blk.new _ _ _))).mono ?_
  rintro e w1 ⟨g, rfl, hb1, hbw1⟩
  have hb1' : Blk w1 g 4 #[.bool false, .bool false, .bool false, .bool true] := hb1
  clear hb1
  simp only [List.length_cons, List.length_nil]
  go_wp2_with fail
  refine (hot_yes 5 3 _ 3 [6, 4, 2] _ (by omega) (by simp) (Rd.of_blk (Blk.new _ _ _))).mono ?_
  rintro e w2 ⟨g2, rfl, hb2, hbw2⟩
  have hb2' : Blk w2 g2 4 #[.bool true, .bool true, .bool false] := hb2
  have hb1'' := (hb1'.alloc _).below hbw2 (by have := hb1'.lt; simp; omega)
  clear hb2 hb1'
  simp only [List.length_cons, List.length_nil]
  have c0 := hb1''.cell 0
  have c2 := hb1''.cell 2
  have c3 := hb1''.cell 3
  have d0 := hb2'.cell 0
  have d1 := hb2'.cell 1
  have d2 := hb2'.cell 2
  simp at c0 c2 c3 d0 d1 d2
  go_wp2
  go_ret
  refine ⟨rfl, ?_⟩
  have s1 := hbw1.size
  simp at s1
  exact ((below1 _ _).trans (hbw1.mono (by simp))).trans ((below1 _ _).mono (by omega) |>.trans (hbw2.mono (by simp; omega)))

theorem same_true (A B : Option Addr) (c d n m : Nat) (xs : List Bool) (w : World) (hA : Rd w w.heap.size A (xs.map Value.bool)) (hB : Rd w w.heap.size B (xs.map Value.bool)) (hx : xs.length ≤ 1000) (hn : n = xs.length) (hm : m = xs.length) :
    Calls Try.prog 12 #[.slice A n c, .slice B m d] w fun e w' => e = .returned (.bool true) ∧ ∃ n, w' = w.drewN n := by
  subst hn hm
  exact (same_any A B c d xs xs w hA hB hx).mono fun e w' h => ⟨by rw [h.1]; simp, h.2⟩

/-- Which numbers are a hysteresis; the verdicts, and the code. -/
def vOk (a b : Int) : Prop := 1 ≤ a ∧ a ≤ 100 ∧ 1 ≤ b ∧ b ≤ 100
instance (a b : Int) : Decidable (vOk a b) := by unfold vOk; infer_instance
def vspec (a b : Int) (l : List Bool) : List Bool := if vOk a b then verd (pstep a b) l l.length else []
def vcode (a b : Int) : Int := if vOk a b then 0 else 1

/-- A slice that has been handed back: its list of bools. -/
def Back (w : World) (e : Ending) (vs : List Bool) (code : Int) : Prop := ∃ A c, e = .returned (.tuple #[.slice A vs.length c, .int .i64 code]) ∧ Rd w w.heap.size A (vs.map Value.bool)

theorem verdicts_all (a b : Int) (A : Option Addr) (c : Nat) (l : List Bool) (w : World) (hl : l.length ≤ 1000) (hA : Rd w w.heap.size A (l.map Value.bool)) :
    Calls Try.prog 10 #[.agg #[.int .i64 a, .int .i64 b], .slice A l.length c] w fun e w' => Back w' e (vspec a b l) (vcode a b) ∧ Below w.heap.size w w' := by
  by_cases h : vOk a b
  · refine (verdicts_yes a b A c l w h.1 h.2.1 h.2.2.1 h.2.2.2 hl hA).mono ?_
    rintro e w1 ⟨g, rfl, hb, hbw⟩
    exact ⟨⟨_, _, by rw [vspec, if_pos h, vcode, if_pos h, verd_length], by rw [vspec, if_pos h]; simpa using Rd.of_blk hb⟩, hbw⟩
  · refine (verdicts_no a b A l.length c w h).mono ?_
    rintro e w1 ⟨rfl, hbw⟩
    exact ⟨⟨none, 0, by rw [vspec, if_neg h, vcode, if_neg h]; rfl, by rw [vspec, if_neg h]; exact Rd.nil⟩, hbw⟩

theorem own_form {w : World} {base : Nat} {e : TypeId} {size n : Nat} {v : Value} {xs : List Value} (h : w.ownsRow base e size v n xs) : ∃ A c, v = .slice A n c := by
  rcases h.2 with ⟨h, h0⟩ | ⟨g, cap, cur, h, _⟩
  · exact ⟨none, 0, by rw [h, h0]⟩
  · exact ⟨_, _, h⟩

theorem rverdicts_all (a b : Int) (A : Option Addr) (c : Nat) (l : List Bool) (w : World) (hl : l.length ≤ 1000) (hA : Rd w w.heap.size A (l.map Value.bool)) :
    Calls Try.prog 11 #[.agg #[.int .i64 a, .int .i64 b], .slice A l.length c] w fun e w' => Back w' e (vspec a b l) (vcode a b) ∧ Below w.heap.size w w' := by
  by_cases h : vOk a b
  · refine (rverdicts_yes a b A c l w h.1 h.2.1 h.2.2.1 h.2.2.2 hl hA).mono ?_
    rintro e w1 ⟨v, rfl, hown, hbw⟩
    obtain ⟨A2, c2, rfl⟩ := own_form hown
    exact ⟨⟨A2, c2, by rw [vspec, if_pos h, vcode, if_pos h, verd_length], by rw [vspec, if_pos h]; exact Rd.of_own hown⟩, hbw⟩
  · refine (rverdicts_no a b A l.length c w h).mono ?_
    rintro e w1 ⟨rfl, hbw⟩
    exact ⟨⟨none, 0, by rw [vspec, if_neg h, vcode, if_neg h]; rfl, by rw [vspec, if_neg h]; exact Rd.nil⟩, hbw⟩

theorem vspec_length (a b : Int) (l : List Bool) : (vspec a b l).length ≤ l.length := by
  unfold vspec
  split
  · rw [verd_length]; omega
  · simp

set_option maxHeartbeats 2000000 in
theorem lawVerdicts (a b : Int) (A : Option Addr) (c : Nat) (l : List Bool) (w : World) (hl : l.length ≤ 9223372036854775807) (hA : Rd w w.heap.size A (l.map Value.bool)) :
    Calls Try.prog 3 #[.agg #[.int .i64 a, .int .i64 b], .slice A l.length c] w fun e w' => e = .returned (.bool true) ∧ Below w.heap.size w w' := by
  by_cases hbig : 500 < l.length
  · go_enter Try.func3, Try.ntmps3
    go_wp2_with (go_at_call 9; refine (awake_any _).mono ?_; rintro e w' ⟨rfl, hb⟩)
    go_ret
    exact ⟨rfl, (below1 _ _).trans (hb.mono (by simp))⟩
  go_enter Try.func3, Try.ntmps3
  go_wp2_with fail
  go_loopw [5] (fun i wr => ∃ (k : Nat) (a b : Int), k ≤ 2 ∧ i = .int .i64 k ∧ Blk wr w.heap.size 23 #[.int .i64 a, .int .i64 b] ∧ Below w.heap.size w wr) (fun i _ => 2 - (intOf i).toNat)
  case atStart => exact ⟨0, a, b, by omega, rfl, Blk.newAt _ _ _ _ rfl, below1 _ _⟩
  case round =>
    obtain ⟨k, a, b, hk, rfl, hbl, hbw⟩ := hrel
    by_cases hlt : k < 2
    · have c0 := hbl.cell 0
      have c1 := hbl.cell 1
      simp at c0 c1
      have hsz := hbl.lt
      have HB := Lib.hid hbl
      have HBW := Lib.hid hbw
      have HA := Lib.hid ((hA.below hbw).more (Nat.le_of_lt hsz))
      clear hbl hbw hA
      go_wp2_with fail
      refine (verdicts_all a b A c l wr (by omega) HA.out).mono ?_
      rintro e w1 ⟨⟨A1, c1', rfl, R1⟩, hbw1⟩
      have B1 := HB.out.below hbw1 hsz
      have HA1 := (HA.out.below hbw1).more hbw1.size
      have c0 := B1.cell 0
      have c1 := B1.cell 1
      simp at c0 c1
      have s1 := B1.lt
      have HR1 := Lib.hid R1
      have HBW1 := Lib.hid hbw1
      have HBB1 := Lib.hid B1
      clear R1 hbw1 B1
      go_wp2_with fail
      refine (rverdicts_all a b A c l w1 (by omega) HA1).mono ?_
      rintro e w2 ⟨⟨A2, c2', rfl, R2⟩, hbw2⟩
      have B2 := HBB1.out.below hbw2 s1
      have c0 := B2.cell 0
      have c1 := B2.cell 1
      simp at c0 c1
      have s2 := B2.lt
      have R1 := (HR1.out.below hbw2).more hbw2.size
      have HBW2 := Lib.hid hbw2
      have HBB2 := Lib.hid B2
      have vl := vspec_length a b l
      have hne : (vcode a b != vcode a b) = false := by simp
      clear hbw2 B2
      go_wp2_with fail
      refine (same_true A1 A2 _ _ _ _ (vspec a b l) _ R1 R2 (by omega) rfl rfl).mono ?_
      rintro e w3 ⟨rfl, n3, rfl⟩
      go_wp2_with fail
      refine (near_any a b _).mono ?_
      rintro e w4 ⟨rfl, hbw4'⟩
      have hbw4 := below_of_drawn hbw4'
      clear hbw4'
      have B4 := HBB2.out.below hbw4 s2
      have c0 := B4.cell 0
      have c1 := B4.cell 1
      have f0 := B4.free 0
      have f1 := B4.free 1
      simp at c0 c1
      have HBW4 := Lib.hid hbw4
      have HBB4 := Lib.hid B4
      clear hbw4 B4
      go_wp2
      go_roundw
      case rel =>
        refine ⟨k + 1, nearI a, nearI b, by omega, by go_num, (HBB4.out.put 0 _).put 1 _, ?_⟩
        refine Below.setCell ?_ (by simp) _
        refine Below.setCell ?_ (by simp) _
        exact HBW.out.trans ((HBW1.out.mono (by omega)).trans ((HBW2.out.mono (by omega)).trans (HBW4.out.mono (by omega))))
      case measure => simp [intOf]; omega
    · go_wp2_with (go_at_call 9; refine (awake_any _).mono ?_; rintro e w' ⟨rfl, hb⟩)
      go_ret
      exact ⟨rfl, hbw.trans (hb.mono hbw.size)⟩

end Go.Proofs.Ytmgbmnaknnkipaa
