/- The law ProbePlays. -/
import Derived.Test.YtmgbmnaknnkipaaProbeD
import Derived.Deep.RegionHeld3
namespace Go.Proofs.Ytmgbmnaknnkipaa
open Go.RowKit Go.BigFrame

/-- A new probe lies at g, in memory of its own. -/
def NewP (w : World) (t : TypeId) (a b : Int) (e : Ending) (w' : World) : Prop := ∃ g, e = .returned (.tuple #[.pointer (some ⟨g, 0, none⟩), .int .i64 0]) ∧ w.heap.size ≤ g ∧ Pr w' g t a b (false, 0) ∧ Below w.heap.size w w'

theorem new_some (a b : Int) (w : World) (h1 : 1 ≤ a) (h2 : a ≤ 100) (h3 : 1 ≤ b) (h4 : b ≤ 100) :
    Calls Try.prog 17 #[.agg #[.int .i64 a, .int .i64 b]] w (NewP w 51 a b) := by
  refine (new_yes a b w h1 h2 h3 h4).mono ?_
  rintro e w' ⟨rfl, rfl⟩
  exact ⟨_, rfl, by omega, Blk.newAt _ _ _ _ (by simp), below_alloc2 _ _ _⟩
theorem rnew_some (a b : Int) (w : World) (h1 : 1 ≤ a) (h2 : a ≤ 100) (h3 : 1 ≤ b) (h4 : b ≤ 100) :
    Calls Try.prog 18 #[.agg #[.int .i64 a, .int .i64 b]] w (NewP w 46 a b) := by
  refine (rnew_yes a b w h1 h2 h3 h4).mono ?_
  rintro e w' ⟨rfl, rfl⟩
  exact ⟨_, rfl, by omega, Blk.newAt _ _ _ _ (by simp), below_alloc2 _ _ _⟩

theorem add_to (good bad : Bool) (a b r : Int) (g : Nat) (w : World) (q : Bool) (r' : Int) (hp : Pr w g 51 a b (bad, r)) (hr : 0 ≤ r) (hr2 : r ≤ 1000) (hs : pstep a b bad r good = (q, r')) :
    Calls Try.prog 19 #[.pointer (some ⟨g, 0, none⟩), .bool good] w fun e w' => e = .returned (.bool q) ∧ Pr w' g 51 a b (q, r') ∧ w.grownBy w' (some g) := by
  have := add_any good bad a b r g w hp hr hr2
  rw [hs] at this
  exact this
theorem radd_to (good bad : Bool) (a b r : Int) (g : Nat) (w : World) (q : Bool) (r' : Int) (hp : Pr w g 46 a b (bad, r)) (hr : 0 ≤ r) (hr2 : r ≤ 1000) (hs : rstep a b bad r good = (q, r')) :
    Calls Try.prog 20 #[.pointer (some ⟨g, 0, none⟩), .bool good] w fun e w' => e = .returned (.bool q) ∧ Pr w' g 46 a b (q, r') ∧ w.grownBy w' (some g) := by
  have := radd_any good bad a b r g w hp hr hr2
  rw [hs] at this
  exact this

set_option maxRecDepth 100000 in
set_option maxHeartbeats 4000000 in
theorem lawPlays (a b : Int) (A : Option Addr) (c : Nat) (l : List Bool) (small : Bool) (w : World) (hl : l.length ≤ 9223372036854775807) (hA : Rd w w.heap.size A (l.map Value.bool)) :
    Calls Try.prog 8 #[.agg #[.int .i64 a, .int .i64 b], .slice A l.length c, .bool small] w fun e w' => e = .returned (.bool true) ∧ Below w.heap.size w w' := by
  by_cases hbig : 500 < l.length
  · go_enter Try.func8, Try.ntmps8
    go_wp2_with (go_at_call 9; refine (awake_any _).mono ?_; rintro e w' ⟨rfl, hb⟩)
    go_ret
    exact ⟨rfl, (below1 _ _).trans (hb.mono (by simp))⟩
  cases small
  · by_cases hv : vOk a b
    · obtain ⟨h1, h2, h3, h4⟩ := hv
      go_enter Try.func8, Try.ntmps8
      go_wp2_with fail
      refine (new_some a b _ h1 h2 h3 h4).mono ?_
      rintro e w1 ⟨g1, rfl, hg1, hp1, hb1⟩
      have B1 := (Blk.newAt w 23 #[.int .i64 a, .int .i64 b] w.heap.size rfl).below hb1 (by simp)
      have c0 := B1.cell 0
      have c1 := B1.cell 1
      simp at c0 c1 hg1
      have HB1 := Lib.hid ((below1 w (.cells #[.int .i64 a, .int .i64 b] 23)).trans (hb1.mono (by simp)))
      have HP0 := Lib.hid hp1
      clear hb1 hp1 B1
      go_wp2_with fail
      refine (rnew_some a b _ h1 h2 h3 h4).mono ?_
      rintro e w2 ⟨g2, rfl, hg2, hp2, hb2⟩
      have HP1 := Lib.hid (Blk.below HP0.out hb2 HP0.out.lt)
      have HP2 := Lib.hid hp2
      have HBW := Lib.hid (HB1.out.trans (hb2.mono HB1.out.size))
      have hne12 : g1 ≠ g2 := by have := HP0.out.lt; omega
      have hg1 : w.heap.size ≤ g1 := by omega
      have hg2 : w.heap.size ≤ g2 := by have := HB1.out.size; omega
      clear hb2 hp2 HB1 HP0 c0 c1
      go_wp2_with fail
      have bdk : ∀ k, k ≤ l.length → 0 ≤ (stAt (pstep a b) l k).2 ∧ (stAt (pstep a b) l k).2 ≤ 1000 := fun k hk => stAt_bd a b h1 h3 h2 h4 l k hk
      have HBD := Lib.hid bdk
      clear bdk
      go_loopw [11] (fun i wr => ∃ k : Nat, k ≤ l.length ∧ i = .int .i64 k ∧ Pr wr g1 51 a b (stAt (pstep a b) l k) ∧ Pr wr g2 46 a b (stAt (pstep a b) l k) ∧ Below w.heap.size w wr) (fun i _ => l.length - (intOf i).toNat)
      case atStart => exact ⟨0, Nat.zero_le _, rfl, HP1.out, HP2.out, HBW.out⟩
      case round =>
        obtain ⟨k, hk, rfl, hp1, hp2, hbw⟩ := hrel
        obtain ⟨bd1, bd2⟩ := HBD.out k hk
        have HQ1 := Lib.hid hp1
        have HQ2 := Lib.hid hp2
        have HBWr := Lib.hid hbw
        have HA := Lib.hid (hA.below hbw)
        clear hp1 hp2 hbw
        by_cases hlt : k < l.length
        · obtain ⟨ad, rfl, hadb, hcell⟩ := HA.out k (.bool l[k]) (by simp [hlt])
          have HS := Lib.hid (stAt_succ (pstep a b) l k hlt)
          have HR := Lib.hid ((pstep_ok a b _ l[k] h1 h3 (stAt_ok a b h1 h3 l k hk).1).2)
          generalize hs0 : stAt (pstep a b) l k = s at *
          have HS0 := Lib.hid hs0
          clear hs0
          generalize hx0 : l[k] = x0 at *
          have HX0 := Lib.hid hx0
          clear hx0
          have hk1 : ∀ (W W' : World) (g : Nat), W.grownBy W' (some g) → w.heap.size ≤ g → ad.block < W.heap.size → W.cell? (ad.add k) = some (.bool x0) → W'.cell? (ad.add k) = some (.bool x0) := fun W W' g hg h hb hc => hg.cell hc (by rw [block_add]; intro e; injection e; omega)
          have HK1 := Lib.hid hk1
          clear hk1
          obtain ⟨q, r', hss⟩ : ∃ q r', pstep a b s.1 s.2 x0 = (q, r') := ⟨_, _, rfl⟩
          have HSS := Lib.hid hss
          clear hss
          have hrr : (r' != r') = false := by simp
          have hsz := HBWr.out.size
          go_wp2_with fail
          go_region_held3 (fun w' => w'.cell? (ad.add k) = some (.bool x0)) (first | exact hcell | exact HK1.out _ _ g1 hgr1 hg1 (show ad.block < wr.heap.size by omega) hcell | exact HK1.out _ _ g2 hgr2 hg2 (Nat.lt_of_lt_of_le (show ad.block < wr.heap.size by omega) hgr1.size) (HK1.out _ _ g1 hgr1 hg1 (show ad.block < wr.heap.size by omega) hcell)) (first | (go_at_call 19; refine (add_to x0 s.1 a b s.2 g1 _ q r' (by exact HQ1.out) bd1 bd2 HSS.out).mono ?_; rintro e w1 ⟨rfl, hp1, hgr1⟩) | (go_at_call 20; refine (radd_to x0 s.1 a b s.2 g2 _ q r' (by exact Blk.grown (w := wr.drew) HQ2.out hgr1 (fun e => hne12 (by injection e with e; exact e.symm))) bd1 bd2 (HR.out.trans HSS.out)).mono ?_; rintro e w2 ⟨rfl, hp2, hgr2⟩))
          have hp1' := Blk.grown hp1 hgr2 (fun e => hne12 (by injection e))
          have HE1 := Lib.hid hp1'
          have HE2 := Lib.hid hp2
          have d2 := Blk.cell hp2 2
          have d3 := Blk.cell hp2 3
          simp at d2 d3
          have HG1 := Lib.hid hgr1
          have HG2 := Lib.hid hgr2
          clear hp1 hp2 hp1' hgr1 hgr2
          cases q
          all_goals
            go_wp2_with fail
            go_quiet (first | (go_at_call 21; exact quiet_same (bad_any _ a b r' g1 _ (by exact HE1.out))) | (go_at_call 22; exact quiet_same (run_any _ a b r' g1 _ (by exact HE1.out))))
            go_wp2
            go_roundw
            case rel => exact ⟨k + 1, hlt, by go_num, by rw [HS.out, HSS.out]; exact HE1.out, by rw [HS.out, HSS.out]; exact HE2.out, below_drewN ((HBWr.out.drew.grown HG1.out HBWr.out.size (by simp; omega)).grown HG2.out (Nat.le_trans HBWr.out.size HG1.out.size) (by simp; omega)) _⟩
            case measure => simp [intOf]; omega
        · go_wp2_with (go_at_call 9; refine (awake_any _).mono ?_; rintro e w' ⟨rfl, hb⟩)
          go_ret
          exact ⟨rfl, HBWr.out.trans (hb.mono HBWr.out.size)⟩
    · go_enter Try.func8, Try.ntmps8
      go_wp2_with fail
      refine (new_no a b _ hv).mono ?_
      rintro e w1 ⟨rfl, hb1⟩
      have B1 := (Blk.newAt w 23 #[.int .i64 a, .int .i64 b] w.heap.size rfl).below hb1 (by simp)
      have c0 := B1.cell 0
      have c1 := B1.cell 1
      simp at c0 c1
      have HB1 := Lib.hid ((below1 w (.cells #[.int .i64 a, .int .i64 b] 23)).trans (hb1.mono (by simp)))
      clear hb1 B1
      go_wp2_with fail
      refine (rnew_no a b _ hv).mono ?_
      rintro e w2 ⟨rfl, hb2⟩
      have HBW := Lib.hid (HB1.out.trans (hb2.mono HB1.out.size))
      clear hb2 c0 c1
      go_wp2_with fail
      go_loopw [11] (fun i wr => i = .int .i64 0 ∧ wr = w2) (fun _ _ => 0)
      case atStart => exact ⟨rfl, rfl⟩
      case round =>
        obtain ⟨rfl, rfl⟩ := hrel
        have hz : decide (0 < l.length) = true ∨ decide (0 < l.length) = false := by cases decide (0 < l.length) <;> simp
        rcases hz with hz | hz
        all_goals
          go_wp2_with (go_at_call 9; refine (awake_any _).mono ?_; rintro e w' ⟨rfl, hb⟩)
          go_ret
          exact ⟨rfl, HBW.out.trans (hb.mono HBW.out.size)⟩
  · obtain ⟨na1, na2⟩ := nearI_bd a
    obtain ⟨nb1, nb2⟩ := nearI_bd b
    go_enter Try.func8, Try.ntmps8
    go_wp2_with fail
    refine (near_any a b _).mono ?_
    rintro e w0 ⟨rfl, hb0⟩
    generalize nearI a = a1 at *
    generalize nearI b = b1 at *
    have h1 : 1 ≤ a1 := by omega
    have h2 : a1 ≤ 100 := by omega
    have h3 : 1 ≤ b1 := by omega
    have h4 : b1 ≤ 100 := by omega
    have B1 := (Blk.newAt w 23 #[.int .i64 a, .int .i64 b] w.heap.size rfl).below hb0 (by simp)
    have c0 := B1.cell 0
    have c1 := B1.cell 1
    have f0 := B1.free 0
    have f1 := B1.free 1
    simp at c0 c1
    have HB0 := Lib.hid ((below1 w (.cells #[.int .i64 a, .int .i64 b] 23)).trans (hb0.mono (by simp)))
    have HBL := Lib.hid B1
    clear B1 hb0
    go_wp2_with fail
    have HB1 := Lib.hid ((HB0.out.setCell (p := ⟨w.heap.size, 0, none⟩) (Nat.le_refl _) (.int .i64 a1)).setCell (p := ⟨w.heap.size, 1, none⟩) (Nat.le_refl _) (.int .i64 b1))
    have HBL1 := Lib.hid (show Blk ((w0.setCell ⟨w.heap.size, 0, none⟩ (.int .i64 a1)).setCell ⟨w.heap.size, 1, none⟩ (.int .i64 b1)) w.heap.size 23 #[.int .i64 a1, .int .i64 b1] from (HBL.out.put 0 _).put 1 _)
    refine (new_some a1 b1 _ h1 h2 h3 h4).mono ?_
    rintro e w1 ⟨g1, rfl, hg1, hp1, hb1⟩
    have B2 := HBL1.out.below hb1 HBL1.out.lt
    have c0 := B2.cell 0
    have c1 := B2.cell 1
    simp at c0 c1
    have HB2 := Lib.hid (HB1.out.trans (hb1.mono HB1.out.size))
    have hg1 : w.heap.size ≤ g1 := Nat.le_trans HB1.out.size hg1
    have HP0 := Lib.hid hp1
    clear hb1 hp1 B2 HBL1 HB1 HB0 HBL f0 f1
    go_wp2_with fail
    refine (rnew_some a1 b1 _ h1 h2 h3 h4).mono ?_
    rintro e w2 ⟨g2, rfl, hg2, hp2, hb2⟩
    have HP1 := Lib.hid (Blk.below HP0.out hb2 HP0.out.lt)
    have HP2 := Lib.hid hp2
    have HBW := Lib.hid (HB2.out.trans (hb2.mono HB2.out.size))
    have hne12 : g1 ≠ g2 := by have := HP0.out.lt; omega
    have hg2 : w.heap.size ≤ g2 := by have := HB2.out.size; omega
    clear hb2 hp2 HB2 HP0 c0 c1
    go_wp2_with fail
    have bdk : ∀ k, k ≤ l.length → 0 ≤ (stAt (pstep a1 b1) l k).2 ∧ (stAt (pstep a1 b1) l k).2 ≤ 1000 := fun k hk => stAt_bd a1 b1 h1 h3 h2 h4 l k hk
    have HBD := Lib.hid bdk
    clear bdk
    go_loopw [11] (fun i wr => ∃ k : Nat, k ≤ l.length ∧ i = .int .i64 k ∧ Pr wr g1 51 a1 b1 (stAt (pstep a1 b1) l k) ∧ Pr wr g2 46 a1 b1 (stAt (pstep a1 b1) l k) ∧ Below w.heap.size w wr) (fun i _ => l.length - (intOf i).toNat)
    case atStart => exact ⟨0, Nat.zero_le _, rfl, HP1.out, HP2.out, HBW.out⟩
    case round =>
      obtain ⟨k, hk, rfl, hp1, hp2, hbw⟩ := hrel
      obtain ⟨bd1, bd2⟩ := HBD.out k hk
      have HQ1 := Lib.hid hp1
      have HQ2 := Lib.hid hp2
      have HBWr := Lib.hid hbw
      have HA := Lib.hid (hA.below hbw)
      clear hp1 hp2 hbw
      by_cases hlt : k < l.length
      · obtain ⟨ad, rfl, hadb, hcell⟩ := HA.out k (.bool l[k]) (by simp [hlt])
        have HS := Lib.hid (stAt_succ (pstep a1 b1) l k hlt)
        have HR := Lib.hid ((pstep_ok a1 b1 _ l[k] h1 h3 (stAt_ok a1 b1 h1 h3 l k hk).1).2)
        generalize hs0 : stAt (pstep a1 b1) l k = s at *
        have HS0 := Lib.hid hs0
        clear hs0
        generalize hx0 : l[k] = x0 at *
        have HX0 := Lib.hid hx0
        clear hx0
        have hk1 : ∀ (W W' : World) (g : Nat), W.grownBy W' (some g) → w.heap.size ≤ g → ad.block < W.heap.size → W.cell? (ad.add k) = some (.bool x0) → W'.cell? (ad.add k) = some (.bool x0) := fun W W' g hg h hb hc => hg.cell hc (by rw [block_add]; intro e; injection e; omega)
        have HK1 := Lib.hid hk1
        clear hk1
        obtain ⟨q, r', hss⟩ : ∃ q r', pstep a1 b1 s.1 s.2 x0 = (q, r') := ⟨_, _, rfl⟩
        have HSS := Lib.hid hss
        clear hss
        have hrr : (r' != r') = false := by simp
        have hsz := HBWr.out.size
        go_wp2_with fail
        go_region_held3 (fun w' => w'.cell? (ad.add k) = some (.bool x0)) (first | exact hcell | exact HK1.out _ _ g1 hgr1 hg1 (show ad.block < wr.heap.size by omega) hcell | exact HK1.out _ _ g2 hgr2 hg2 (Nat.lt_of_lt_of_le (show ad.block < wr.heap.size by omega) hgr1.size) (HK1.out _ _ g1 hgr1 hg1 (show ad.block < wr.heap.size by omega) hcell)) (first | (go_at_call 19; refine (add_to x0 s.1 a1 b1 s.2 g1 _ q r' (by exact HQ1.out) bd1 bd2 HSS.out).mono ?_; rintro e w1 ⟨rfl, hp1, hgr1⟩) | (go_at_call 20; refine (radd_to x0 s.1 a1 b1 s.2 g2 _ q r' (by exact Blk.grown (w := wr.drew) HQ2.out hgr1 (fun e => hne12 (by injection e with e; exact e.symm))) bd1 bd2 (HR.out.trans HSS.out)).mono ?_; rintro e w2 ⟨rfl, hp2, hgr2⟩))
        have hp1' := Blk.grown hp1 hgr2 (fun e => hne12 (by injection e))
        have HE1 := Lib.hid hp1'
        have HE2 := Lib.hid hp2
        have d2 := Blk.cell hp2 2
        have d3 := Blk.cell hp2 3
        simp at d2 d3
        have HG1 := Lib.hid hgr1
        have HG2 := Lib.hid hgr2
        clear hp1 hp2 hp1' hgr1 hgr2
        cases q
        all_goals
          go_wp2_with fail
          go_quiet (first | (go_at_call 21; exact quiet_same (bad_any _ a1 b1 r' g1 _ (by exact HE1.out))) | (go_at_call 22; exact quiet_same (run_any _ a1 b1 r' g1 _ (by exact HE1.out))))
          go_wp2
          go_roundw
          case rel => exact ⟨k + 1, hlt, by go_num, by rw [HS.out, HSS.out]; exact HE1.out, by rw [HS.out, HSS.out]; exact HE2.out, below_drewN ((HBWr.out.drew.grown HG1.out HBWr.out.size (by simp; omega)).grown HG2.out (Nat.le_trans HBWr.out.size HG1.out.size) (by simp; omega)) _⟩
          case measure => simp [intOf]; omega
      · go_wp2_with (go_at_call 9; refine (awake_any _).mono ?_; rintro e w' ⟨rfl, hb⟩)
        go_ret
        exact ⟨rfl, HBWr.out.trans (hb.mono HBWr.out.size)⟩

end Go.Proofs.Ytmgbmnaknnkipaa
