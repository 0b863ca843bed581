/- Contracts of the small functions of cellplanemake and of the two probes: each returns what its Lean twin computes. -/
import Derived.Test.YtmgbmnaknnkipaaLib
import Derived.Test.YtmgbmnaknnkipaaRegion
import Derived.Lib.Hide
import Derived.WalkSpells
import Derived.WalkLawsBesides
namespace Go.Proofs.Ytmgbmnaknnkipaa
open Go.RowKit Go.BigFrame

theorem wrap_mod (v n : Int) (h1 : 1 ≤ n) (h2 : n ≤ 1073741824) : (wrap64 (v.tmod n + n)).tmod n = v % n := by
  have a1 := Int.tmod_lt_of_pos v (show 0 < n by omega)
  have a2 : -n < v.tmod n := by
    have := Int.tmod_lt_of_pos (-v) (show 0 < n by omega)
    rw [Int.neg_tmod] at this
    omega
  rw [IntWalk.wrap64_in _ ⟨by omega, by omega⟩, Int.tmod_eq_emod_of_nonneg (by omega)]
  have e : v.tmod n = v - n * (v.tdiv n) := by have := Int.tmod_add_mul_tdiv v n; omega
  rw [e, show v - n * v.tdiv n + n = v + n * (1 - v.tdiv n) by rw [Int.mul_sub]; omega, Int.add_mul_emod_self_left]

set_option maxHeartbeats 400000 in
theorem mod_any (v n : Int) (w : World) (h1 : 1 ≤ n) (h2 : n ≤ 1073741824) :
    Calls Try.prog 14 #[.int .i64 v, .int .i64 n] w fun e w' => e = .returned (.int .i64 (v % n)) ∧ w = w' := by
  have HW := Lib.hid (wrap_mod v n h1 h2)
  go_enter Try.func14, Try.ntmps14
  go_wp2
  go_ret
  exact ⟨congrArg (fun x => Ending.returned (.int .i64 x)) HW.out, rfl⟩

set_option maxHeartbeats 400000 in
theorem between_any (v low high : Int) (w : World) (h0 : 0 ≤ low) (h1 : low ≤ high) (h2 : high ≤ 1000000) :
    Calls Try.prog 23 #[.int .i64 v, .int .i64 low, .int .i64 high] w fun e w' => e = .returned (.int .i64 (low + v % (high - low + 1))) ∧ w = w' := by
  have b1 := Int.emod_nonneg v (show high - low + 1 ≠ 0 by omega)
  have b2 := Int.emod_lt_of_pos v (show 0 < high - low + 1 by omega)
  go_enter Try.func23, Try.ntmps23
  go_wp2_with (go_at_call 14; refine (mod_any _ _ _ (by omega) (by omega)).mono ?_; rintro e w' ⟨rfl, rfl⟩)
  go_ret
  exact ⟨rfl, rfl⟩

theorem below1 (w : World) (o : Obj) : Below w.heap.size w (w.alloc o) := (Below.refl _ _).alloc (Nat.le_refl _) o
theorem below_alloc2 (w : World) (o o' : Obj) : Below w.heap.size w ((w.alloc o).alloc o') := (below1 w o).alloc (by simp) o'

/-- What near makes of a number. -/
def nearI (a : Int) : Int := 1 + a % 4
theorem nearI_bd (a : Int) : 1 ≤ nearI a ∧ nearI a ≤ 4 := by unfold nearI; omega

set_option maxHeartbeats 400000 in
theorem near_any (a b : Int) (w : World) :
    Calls Try.prog 13 #[.agg #[.int .i64 a, .int .i64 b]] w fun e w' => e = .returned (.agg #[.int .i64 (nearI a), .int .i64 (nearI b)]) ∧ Below w.heap.size w w' := by
  go_enter Try.func13, Try.ntmps13
  go_wp2_with fail
  refine wp_region_drawn 7 (by kernel_rfl) (by kernel_rfl) ?_
  simp only [List.take_succ_cons, List.take_zero, List.drop_succ_cons, List.drop_zero]
  repeat (go_big_quiet_step ((go_at_call 23; exact quiet_same (between_any _ 1 4 _ (by omega) (by omega) (by omega)))))
  refine wpQuiet_nil ?_
  rintro _ ⟨nq, rfl⟩
  go_wp2
  refine bodyPost_ret (v := .agg #[.int .i64 (nearI a), .int .i64 (nearI b)]) ?_ rfl ⟨rfl, ?_⟩
  · simp [results, Try.results13, go_sem, nearI]
  · repeat (first | exact Below.refl _ _ | refine Below.setCell ?_ (by simp) _ | refine below_drewN ?_ _ | refine Below.alloc ?_ (by simp) _)


set_option maxHeartbeats 400000 in
theorem new_no (a b : Int) (w : World) (h : ¬ (1 ≤ a ∧ a ≤ 100 ∧ 1 ≤ b ∧ b ≤ 100)) :
    Calls Try.prog 17 #[.agg #[.int .i64 a, .int .i64 b]] w fun e w' => e = .returned (.tuple #[.pointer none, .int .i64 1]) ∧ Below w.heap.size w w' := by
  go_enter Try.func17, Try.ntmps17
  go_wp2
  all_goals (go_ret2; exact ⟨rfl, below1 _ _⟩)

set_option maxHeartbeats 400000 in
theorem new_yes (a b : Int) (w : World) (h1 : 1 ≤ a) (h2 : a ≤ 100) (h3 : 1 ≤ b) (h4 : b ≤ 100) :
    Calls Try.prog 17 #[.agg #[.int .i64 a, .int .i64 b]] w fun e w' => e = .returned (.tuple #[.pointer (some ⟨w.heap.size + 1, 0, none⟩), .int .i64 0]) ∧ (w.alloc (.cells #[.int .i64 a, .int .i64 b] 23)).alloc (.cells #[.int .i64 a, .int .i64 b, .bool false, .int .i64 0] 51) = w' := by
  go_enter Try.func17, Try.ntmps17
  go_wp2
  go_ret2
  exact ⟨rfl, rfl⟩

set_option maxHeartbeats 400000 in
theorem rnew_no (a b : Int) (w : World) (h : ¬ (1 ≤ a ∧ a ≤ 100 ∧ 1 ≤ b ∧ b ≤ 100)) :
    Calls Try.prog 18 #[.agg #[.int .i64 a, .int .i64 b]] w fun e w' => e = .returned (.tuple #[.pointer none, .int .i64 1]) ∧ Below w.heap.size w w' := by
  go_enter Try.func18, Try.ntmps18
  go_wp2
  all_goals (go_ret2; exact ⟨rfl, below1 _ _⟩)

set_option maxHeartbeats 400000 in
theorem rnew_yes (a b : Int) (w : World) (h1 : 1 ≤ a) (h2 : a ≤ 100) (h3 : 1 ≤ b) (h4 : b ≤ 100) :
    Calls Try.prog 18 #[.agg #[.int .i64 a, .int .i64 b]] w fun e w' => e = .returned (.tuple #[.pointer (some ⟨w.heap.size + 1, 0, none⟩), .int .i64 0]) ∧ (w.alloc (.cells #[.int .i64 a, .int .i64 b] 23)).alloc (.cells #[.int .i64 a, .int .i64 b, .bool false, .int .i64 0] 46) = w' := by
  go_enter Try.func18, Try.ntmps18
  go_wp2
  go_ret2
  exact ⟨rfl, rfl⟩

/-- One result: the verdict and the run behind it (the program's test is '>='). -/
def pstep (a b : Int) (bad : Bool) (r : Int) (good : Bool) : Bool × Int :=
  if (!good == bad) = true then (bad, 0) else if (if bad = true then b else a) ≤ r + 1 then (!bad, 0) else (bad, r + 1)
/-- One result, as the reference has it (its test is '=='). -/
def rstep (a b : Int) (bad : Bool) (r : Int) (good : Bool) : Bool × Int :=
  if (!good == bad) = true then (bad, 0) else if r + 1 = (if bad = true then b else a) then (!bad, 0) else (bad, r + 1)

/-- A probe in memory. -/
def Pr (w : World) (g : Nat) (t : TypeId) (a b : Int) (s : Bool × Int) : Prop := Blk w g t #[.int .i64 a, .int .i64 b, .bool s.1, .int .i64 s.2]

set_option maxHeartbeats 800000 in
theorem add_any (good bad : Bool) (a b r : Int) (g : Nat) (w : World) (hp : Pr w g 51 a b (bad, r)) (hr : 0 ≤ r) (hr2 : r ≤ 1000) :
    Calls Try.prog 19 #[.pointer (some ⟨g, 0, none⟩), .bool good] w fun e w' => e = .returned (.bool (pstep a b bad r good).1) ∧ Pr w' g 51 a b (pstep a b bad r good) ∧ w.grownBy w' (some g) := by
  have c0 := Blk.cell hp 0
  have c1 := Blk.cell hp 1
  have c2 := Blk.cell hp 2
  have c3 := Blk.cell hp 3
  have f2 := Blk.free hp 2
  have f3 := Blk.free hp 3
  simp at c0 c1 c2 c3
  have HP := Lib.hid hp
  clear hp
  cases good <;> cases bad
  · by_cases h : a ≤ r + 1
    · have E := Lib.hid (show pstep a b false r false = (true, 0) by simp [pstep, h])
      go_enter Try.func19, Try.ntmps19
      go_wp2
      go_ret
      rw [E.out]
      refine ⟨rfl, ?_, ?_⟩
      · exact ((Blk.put HP.out 3 _).put 2 _).put 3 _
      · repeat (first | exact World.grownBy.refl _ _ | refine only_set ?_ (Or.inl rfl) _)
    · have E := Lib.hid (show pstep a b false r false = (false, r + 1) by simp [pstep, h])
      go_enter Try.func19, Try.ntmps19
      go_wp2
      go_ret
      rw [E.out]
      refine ⟨rfl, ?_, ?_⟩
      · exact Blk.put HP.out 3 _
      · repeat (first | exact World.grownBy.refl _ _ | refine only_set ?_ (Or.inl rfl) _)
  · have E := Lib.hid (show pstep a b true r false = (true, 0) by simp [pstep])
    go_enter Try.func19, Try.ntmps19
    go_wp2
    go_ret
    rw [E.out]
    refine ⟨rfl, ?_, ?_⟩
    · exact Blk.put HP.out 3 _
    · repeat (first | exact World.grownBy.refl _ _ | refine only_set ?_ (Or.inl rfl) _)
  · have E := Lib.hid (show pstep a b false r true = (false, 0) by simp [pstep])
    go_enter Try.func19, Try.ntmps19
    go_wp2
    go_ret
    rw [E.out]
    refine ⟨rfl, ?_, ?_⟩
    · exact Blk.put HP.out 3 _
    · repeat (first | exact World.grownBy.refl _ _ | refine only_set ?_ (Or.inl rfl) _)
  · by_cases h : b ≤ r + 1
    · have E := Lib.hid (show pstep a b true r true = (false, 0) by simp [pstep, h])
      go_enter Try.func19, Try.ntmps19
      go_wp2
      go_ret
      rw [E.out]
      refine ⟨rfl, ?_, ?_⟩
      · exact ((Blk.put HP.out 3 _).put 2 _).put 3 _
      · repeat (first | exact World.grownBy.refl _ _ | refine only_set ?_ (Or.inl rfl) _)
    · have E := Lib.hid (show pstep a b true r true = (true, r + 1) by simp [pstep, h])
      go_enter Try.func19, Try.ntmps19
      go_wp2
      go_ret
      rw [E.out]
      refine ⟨rfl, ?_, ?_⟩
      · exact Blk.put HP.out 3 _
      · repeat (first | exact World.grownBy.refl _ _ | refine only_set ?_ (Or.inl rfl) _)

set_option maxHeartbeats 800000 in
theorem radd_any (good bad : Bool) (a b r : Int) (g : Nat) (w : World) (hp : Pr w g 46 a b (bad, r)) (hr : 0 ≤ r) (hr2 : r ≤ 1000) :
    Calls Try.prog 20 #[.pointer (some ⟨g, 0, none⟩), .bool good] w fun e w' => e = .returned (.bool (rstep a b bad r good).1) ∧ Pr w' g 46 a b (rstep a b bad r good) ∧ w.grownBy w' (some g) := by
  have c0 := Blk.cell hp 0
  have c1 := Blk.cell hp 1
  have c2 := Blk.cell hp 2
  have c3 := Blk.cell hp 3
  have f2 := Blk.free hp 2
  have f3 := Blk.free hp 3
  simp at c0 c1 c2 c3
  have HP := Lib.hid hp
  clear hp
  cases good <;> cases bad
  · by_cases h : r + 1 = a
    · have E := Lib.hid (show rstep a b false r false = (true, 0) by simp [rstep, h])
      go_enter Try.func20, Try.ntmps20
      go_wp2
      go_ret
      rw [E.out]
      refine ⟨rfl, ?_, ?_⟩
      · exact ((Blk.put HP.out 3 _).put 2 _).put 3 _
      · repeat (first | exact World.grownBy.refl _ _ | refine only_set ?_ (Or.inl rfl) _)
    · have E := Lib.hid (show rstep a b false r false = (false, r + 1) by simp [rstep, h])
      go_enter Try.func20, Try.ntmps20
      go_wp2
      go_ret
      rw [E.out]
      refine ⟨rfl, ?_, ?_⟩
      · exact Blk.put HP.out 3 _
      · repeat (first | exact World.grownBy.refl _ _ | refine only_set ?_ (Or.inl rfl) _)
  · have E := Lib.hid (show rstep a b true r false = (true, 0) by simp [rstep])
    go_enter Try.func20, Try.ntmps20
    go_wp2
    go_ret
    rw [E.out]
    refine ⟨rfl, ?_, ?_⟩
    · exact Blk.put HP.out 3 _
    · repeat (first | exact World.grownBy.refl _ _ | refine only_set ?_ (Or.inl rfl) _)
  · have E := Lib.hid (show rstep a b false r true = (false, 0) by simp [rstep])
    go_enter Try.func20, Try.ntmps20
    go_wp2
    go_ret
    rw [E.out]
    refine ⟨rfl, ?_, ?_⟩
    · exact Blk.put HP.out 3 _
    · repeat (first | exact World.grownBy.refl _ _ | refine only_set ?_ (Or.inl rfl) _)
  · by_cases h : r + 1 = b
    · have E := Lib.hid (show rstep a b true r true = (false, 0) by simp [rstep, h])
      go_enter Try.func20, Try.ntmps20
      go_wp2
      go_ret
      rw [E.out]
      refine ⟨rfl, ?_, ?_⟩
      · exact ((Blk.put HP.out 3 _).put 2 _).put 3 _
      · repeat (first | exact World.grownBy.refl _ _ | refine only_set ?_ (Or.inl rfl) _)
    · have E := Lib.hid (show rstep a b true r true = (true, r + 1) by simp [rstep, h])
      go_enter Try.func20, Try.ntmps20
      go_wp2
      go_ret
      rw [E.out]
      refine ⟨rfl, ?_, ?_⟩
      · exact Blk.put HP.out 3 _
      · repeat (first | exact World.grownBy.refl _ _ | refine only_set ?_ (Or.inl rfl) _)

set_option maxHeartbeats 400000 in
theorem bad_any (bad : Bool) (a b r : Int) (g : Nat) (w : World) (hp : Pr w g 51 a b (bad, r)) :
    Calls Try.prog 21 #[.pointer (some ⟨g, 0, none⟩)] w fun e w' => e = .returned (.bool bad) ∧ w = w' := by
  have c2 := Blk.cell hp 2
  simp at c2
  go_enter Try.func21, Try.ntmps21
  go_wp2
  go_ret
  exact ⟨rfl, rfl⟩

set_option maxHeartbeats 400000 in
theorem run_any (bad : Bool) (a b r : Int) (g : Nat) (w : World) (hp : Pr w g 51 a b (bad, r)) :
    Calls Try.prog 22 #[.pointer (some ⟨g, 0, none⟩)] w fun e w' => e = .returned (.int .i64 r) ∧ w = w' := by
  have c3 := Blk.cell hp 3
  simp at c3
  go_enter Try.func22, Try.ntmps22
  go_wp2
  go_ret
  exact ⟨rfl, rfl⟩

end Go.Proofs.Ytmgbmnaknnkipaa
