/- Contracts of Same and of the two Hots; awake. -/
import Derived.Test.YtmgbmnaknnkipaaProbeB
namespace Go.Proofs.Ytmgbmnaknnkipaa
open Go.RowKit Go.BigFrame

theorem ret_bool {a b : Bool} (h : a = b) : Ending.returned (.bool a) = .returned (.bool b) := by rw [h]

set_option maxHeartbeats 1000000 in
theorem same_any (A B : Option Addr) (c d : Nat) (xs ys : List Bool) (w : World) (hA : Rd w w.heap.size A (xs.map Value.bool)) (hB : Rd w w.heap.size B (ys.map Value.bool)) (hx : xs.length ≤ 1000) :
    Calls Try.prog 12 #[.slice A xs.length c, .slice B ys.length d] w fun e w' => e = .returned (.bool (decide (xs = ys))) ∧ ∃ n, w' = w.drewN n := by
  by_cases hlen : xs.length = ys.length
  · go_enter Try.func12, Try.ntmps12
    have HL := Lib.hid hlen
    have hne : ((xs.length : Int) != (ys.length : Int)) = false := by simp [hlen]
    clear hlen
    go_wp2
    go_loopw [5] (fun i wr => ∃ k : Nat, k ≤ xs.length ∧ i = .int .i64 k ∧ xs.take k = ys.take k ∧ ∃ n, wr = w.drewN n) (fun i _ => xs.length - (intOf i).toNat)
    case atStart => exact ⟨0, Nat.zero_le _, rfl, rfl, 0, rfl⟩
    case round =>
      obtain ⟨k, hk, rfl, heq, n, rfl⟩ := hrel
      have HE := Lib.hid heq
      clear heq
      by_cases hlt : k < xs.length
      · have hlt' : k < ys.length := by have := HL.out; omega
        obtain ⟨ad, rfl, _, hcell⟩ := hA k (.bool xs[k]) (by simp [hlt])
        obtain ⟨bd, rfl, _, dcell⟩ := hB k (.bool ys[k]) (by simp [hlt'])
        clear hA hB
        generalize hx0 : xs[k] = x0 at *
        generalize hy0 : ys[k] = y0 at *
        have HX := Lib.hid hx0
        have HY := Lib.hid hy0
        clear hx0 hy0
        cases x0 <;> cases y0
        all_goals
          go_wp2
          go_quiet (fail)
          go_wp2
        · go_roundw
          case rel => exact ⟨k + 1, hlt, by go_num, by rw [List.take_succ_eq_append_getElem hlt, List.take_succ_eq_append_getElem hlt', HE.out, HX.out, HY.out], _, rfl⟩
          case measure => simp [intOf]; omega
        · go_ret
          refine ⟨ret_bool ?_, _, World.drewN_drewN _ _ _⟩
          symm
          rw [decide_eq_false_iff_not]
          rintro rfl
          have := HX.out.symm.trans HY.out
          cases this
        · go_ret
          refine ⟨ret_bool ?_, _, World.drewN_drewN _ _ _⟩
          symm
          rw [decide_eq_false_iff_not]
          rintro rfl
          have := HX.out.symm.trans HY.out
          cases this
        · go_roundw
          case rel => exact ⟨k + 1, hlt, by go_num, by rw [List.take_succ_eq_append_getElem hlt, List.take_succ_eq_append_getElem hlt', HE.out, HX.out, HY.out], _, rfl⟩
          case measure => simp [intOf]; omega
      · go_wp2
        go_ret
        refine ⟨ret_bool ?_, _, rfl⟩
        symm
        have h1 := HL.out
        have := HE.out
        rw [List.take_of_length_le (by omega), List.take_of_length_le (by omega)] at this
        simpa using this
  · have hne : ((xs.length : Int) != (ys.length : Int)) = true := by simp; omega
    have HL := Lib.hid (show decide (xs = ys) = false by simp; intro h; exact hlen (by rw [h]))
    clear hlen
    go_enter Try.func12, Try.ntmps12
    go_wp2
    go_ret
    exact ⟨ret_bool HL.out.symm, 0, rfl⟩

/-- One element of a load signal. -/
def hstep (high low : Int) (hot : Bool) (x : Int) : Bool := if high < x then true else if x < low then false else hot
def hotAt (high low : Int) (l : List Int) (k : Nat) : Bool := (l.take k).foldl (hstep high low) false
def hots (high low : Int) (l : List Int) (k : Nat) : List Bool := (List.range k).map fun i => hotAt high low l (i + 1)
theorem hotAt_succ (high low : Int) (l : List Int) (k : Nat) (h : k < l.length) : hotAt high low l (k + 1) = hstep high low (hotAt high low l k) l[k] := by
  unfold hotAt
  rw [List.take_succ_eq_append_getElem h, List.foldl_append]
  rfl
theorem hots_succ (high low : Int) (l : List Int) (k : Nat) : hots high low l (k + 1) = hots high low l k ++ [hotAt high low l (k + 1)] := by
  unfold hots
  rw [List.range_succ, List.map_append]
  rfl
theorem hots_length (high low : Int) (l : List Int) (k : Nat) : (hots high low l k).length = k := by simp [hots]

set_option maxHeartbeats 400000 in
theorem hot_no (high low : Int) (A : Option Addr) (n c : Nat) (w : World) (h : high < low) :
    Calls Try.prog 15 #[.int .i64 high, .int .i64 low, .slice A n c] w fun e w' => e = .returned (.tuple #[.slice none 0 0, .int .i64 1]) ∧ w = w' := by
  go_enter Try.func15, Try.ntmps15
  go_wp2
  go_ret2
  exact ⟨rfl, rfl⟩

set_option maxHeartbeats 400000 in
theorem rhot_no (high low : Int) (A : Option Addr) (n c : Nat) (w : World) (h : high < low) :
    Calls Try.prog 16 #[.int .i64 high, .int .i64 low, .slice A n c] w fun e w' => e = .returned (.tuple #[.slice none 0 0, .int .i64 1]) ∧ w = w' := by
  go_enter Try.func16, Try.ntmps16
  go_wp2
  go_ret2
  exact ⟨rfl, rfl⟩

set_option maxHeartbeats 1000000 in
theorem hot_yes (high low : Int) (A : Option Addr) (c : Nat) (l : List Int) (w : World) (h : low ≤ high) (hl : l.length ≤ 1000) (hA : Rd w w.heap.size A (l.map (Value.int .i64))) :
    Calls Try.prog 15 #[.int .i64 high, .int .i64 low, .slice A l.length c] w fun e w' =>
      ∃ g, e = .returned (.tuple #[.slice (some ⟨g, 0, none⟩) l.length l.length, .int .i64 0]) ∧ Blk w' g 4 ((hots high low l l.length).map Value.bool).toArray ∧ Below w.heap.size w w' := by
  have hmk := fun W => etB.make rfl l.length (by omega) (by omega) W
  go_enter Try.func15, Try.ntmps15
  go_wp2
  go_loopw [9, 20] (fun v i wr => ∃ k : Nat, k ≤ l.length ∧ i = .int .i64 k ∧ v = .bool (hotAt high low l k) ∧ Blk wr w.heap.size 4 (curB l.length k (hots high low l k)) ∧ Below w.heap.size w wr)
    (fun _ i _ => l.length - (intOf i).toNat)
  case atStart =>
    refine ⟨0, Nat.zero_le _, rfl, rfl, ?_, below1 _ _⟩
    have e : curB l.length 0 (hots high low l 0) = Array.replicate l.length (Value.bool false) := by simp [curB, hots]
    rw [e]
    exact Blk.newAt _ _ _ _ rfl
  case round =>
    obtain ⟨k, hk, rfl, rfl, hbl, hbw⟩ := hrel
    have HB := Lib.hid hbl
    have HBW := Lib.hid hbw
    have HA := Lib.hid (hA.below hbw)
    by_cases hlt : k < l.length
    · obtain ⟨ad, rfl, hadb, hcell⟩ := HA.out k (.int .i64 l[k]) (by simp [hlt])
      have c1 := (hbl.cell k).trans (curB_at l.length k _ (hots_length high low l k) hlt)
      have f1 := hbl.free k
      have HS := Lib.hid (hotAt_succ high low l k hlt)
      clear hbl hbw hmk hadb hA
      generalize hx0 : l[k] = x0 at *
      have HX := Lib.hid hx0
      clear hx0
      have fin : ∀ b, hotAt high low l (k + 1) = b → (∃ k' : Nat, k' ≤ l.length ∧ Value.int .i64 ((k : Int) + 1) = .int .i64 k' ∧ Value.bool b = .bool (hotAt high low l k') ∧
          Blk (wr.setCell ⟨w.heap.size, k, none⟩ (.bool b)) w.heap.size 4 (curB l.length k' (hots high low l k')) ∧ Below w.heap.size w (wr.setCell ⟨w.heap.size, k, none⟩ (.bool b))) := fun b hb => by
        refine ⟨k + 1, hlt, by go_num, by rw [hb], ?_, HBW.out.setCell (by simp) _⟩
        rw [hots_succ, hb, ← curB_set _ _ _ _ (hots_length _ _ _ _) hlt]
        exact HB.out.put k _
      have FIN := Lib.hid fin
      clear fin
      rcases (show high < x0 ∨ (x0 ≤ high ∧ x0 < low) ∨ (x0 ≤ high ∧ low ≤ x0) by omega) with h1 | ⟨h1, h2⟩ | ⟨h1, h2⟩
      all_goals
        go_wp2
        go_roundw
        case rel => exact FIN.out _ (by rw [HS.out]; simp only [hstep]; (repeat (first | rw [if_pos (by omega)] | rw [if_neg (by omega)])))
        case measure => simp [intOf]; omega
    · have e : k = l.length := by omega
      subst e
      clear hbl hbw hmk
      go_wp2
      go_ret2
      refine ⟨_, rfl, ?_, HBW.out⟩
      have := HB.out
      rw [show curB l.length l.length (hots high low l l.length) = ((hots high low l l.length).map Value.bool).toArray from by simp [curB]] at this
      exact this

set_option maxHeartbeats 1000000 in
theorem rhot_yes (high low : Int) (A : Option Addr) (c : Nat) (l : List Int) (w : World) (h : low ≤ high) (hl : l.length ≤ 1000) (hA : Rd w w.heap.size A (l.map (Value.int .i64))) :
    Calls Try.prog 16 #[.int .i64 high, .int .i64 low, .slice A l.length c] w fun e w' =>
      ∃ v, e = .returned (.tuple #[v, .int .i64 0]) ∧ w'.ownsRow w.heap.size 4 1 v l.length ((hots high low l l.length).map Value.bool) ∧ Below w.heap.size w w' := by
  go_enter Try.func16, Try.ntmps16
  go_wp2
  go_loopw [8, 9, 10] (fun v t i wr => ∃ k : Nat, k ≤ l.length ∧ i = .int .i64 k ∧ t = .bool (hotAt high low l k) ∧ wr.ownsRow w.heap.size 4 1 v k ((hots high low l k).map Value.bool) ∧ Below w.heap.size w wr)
    (fun _ _ i _ => l.length - (intOf i).toNat)
  case atStart => exact ⟨0, Nat.zero_le _, rfl, rfl, World.ownsRow_nil _ _ _ _, Below.refl _ _⟩
  case round =>
    obtain ⟨k, hk, rfl, rfl, hown, hbw⟩ := hrel
    have HO := Lib.hid hown
    have HBW := Lib.hid hbw
    have HA := Lib.hid (hA.below hbw)
    have hsz := hbw.size
    clear hown hbw
    by_cases hlt : k < l.length
    · obtain ⟨ad, rfl, hadb, hcell⟩ := HA.out k (.int .i64 l[k]) (by simp [hlt])
      have HS := Lib.hid (hotAt_succ high low l k hlt)
      clear hadb hA
      generalize hx0 : l[k] = x0 at *
      have HX := Lib.hid hx0
      clear hx0
      generalize hb0 : hotAt high low l k = b0 at *
      have HB0 := Lib.hid hb0
      clear hb0
      have hsplit : high < x0 ∨ (x0 ≤ high ∧ b0 = true ∧ low ≤ x0) ∨ (x0 ≤ high ∧ b0 = true ∧ x0 < low) ∨ (x0 ≤ high ∧ b0 = false) := by cases b0 <;> simp <;> omega
      rcases hsplit with h1 | ⟨h1, rfl, h2⟩ | ⟨h1, rfl, h2⟩ | ⟨h1, rfl⟩
      · have d1 : decide (high < x0) = true := by simp; omega
        go_wp2_with (at_builtin; refine wpList_app etB rfl _ _ rfl w.heap.size _ k _ rfl HO.out #[.bool true] rfl (by simp [Value.oneCell']) rfl (by omega) (by omega) (by omega) ?_; intro v' w2 hown2 hg2 hat2)
        have e1 : hotAt high low l (k + 1) = true := by rw [HS.out]; simp only [hstep]; rw [if_pos (by omega)]
        go_roundw
        case rel => exact ⟨k + 1, hlt, by go_num, by rw [e1], by rw [hots_succ, e1]; simpa using hown2, below_app HO.out HBW.out (by omega) hsz hg2⟩
        case measure => simp [intOf]; omega
      · have d1 : decide (high < x0) = false := by simp; omega
        have d2 : decide (low ≤ x0) = true := by simp; omega
        go_wp2_with (at_builtin; refine wpList_app etB rfl _ _ rfl w.heap.size _ k _ rfl HO.out #[.bool true] rfl (by simp [Value.oneCell']) rfl (by omega) (by omega) (by omega) ?_; intro v' w2 hown2 hg2 hat2)
        have e1 : hotAt high low l (k + 1) = true := by rw [HS.out]; simp only [hstep]; rw [if_neg (by omega), if_neg (by omega)]
        go_roundw
        case rel => exact ⟨k + 1, hlt, by go_num, by rw [e1], by rw [hots_succ, e1]; simpa using hown2, below_app HO.out HBW.out (by omega) hsz hg2⟩
        case measure => simp [intOf]; omega
      · have d1 : decide (high < x0) = false := by simp; omega
        have d2 : decide (low ≤ x0) = false := by simp; omega
        go_wp2_with (at_builtin; refine wpList_app etB rfl _ _ rfl w.heap.size _ k _ rfl HO.out #[.bool false] rfl (by simp [Value.oneCell']) rfl (by omega) (by omega) (by omega) ?_; intro v' w2 hown2 hg2 hat2)
        have e1 : hotAt high low l (k + 1) = false := by rw [HS.out]; simp only [hstep]; rw [if_neg (by omega), if_pos (by omega)]
        go_roundw
        case rel => exact ⟨k + 1, hlt, by go_num, by rw [e1], by rw [hots_succ, e1]; simpa using hown2, below_app HO.out HBW.out (by omega) hsz hg2⟩
        case measure => simp [intOf]; omega
      · have d1 : decide (high < x0) = false := by simp; omega
        go_wp2_with (at_builtin; refine wpList_app etB rfl _ _ rfl w.heap.size _ k _ rfl HO.out #[.bool false] rfl (by simp [Value.oneCell']) rfl (by omega) (by omega) (by omega) ?_; intro v' w2 hown2 hg2 hat2)
        have e1 : hotAt high low l (k + 1) = false := by rw [HS.out]; simp only [hstep]; rw [if_neg (by omega), ite_self]
        go_roundw
        case rel => exact ⟨k + 1, hlt, by go_num, by rw [e1], by rw [hots_succ, e1]; simpa using hown2, below_app HO.out HBW.out (by omega) hsz hg2⟩
        case measure => simp [intOf]; omega
    · have e : k = l.length := by omega
      subst e
      go_wp2
      go_ret2
      exact ⟨_, rfl, HO.out, HBW.out⟩

end Go.Proofs.Ytmgbmnaknnkipaa
