/- The law ScriptReplies, walked. -/
import Derived.Test.YtcgcfeablbjnaaaDoorScrK
namespace Go.Proofs.YtcgcfeablbjnaaaDoor
open Go.RowKit Go.BigFrame

theorem emod_of_tmod (v n : Int) (hn : 1 ≤ n) : (if v.tmod n < 0 then v.tmod n + n else v.tmod n) = v % n := by
  have a1 := Int.tmod_lt_of_pos v (show 0 < n by omega)
  have e : v.tmod n = v - n * (v.tdiv n) := by have := Int.tmod_add_mul_tdiv v n; omega
  have a2 : -n < v.tmod n := by
    have := Int.tmod_lt_of_pos (-v) (show 0 < n by omega)
    rw [Int.neg_tmod] at this
    omega
  have b1 : (v - n * (v.tdiv n)) % n = v % n := by rw [Int.sub_mul_emod_self_left]
  split
  · rw [← b1, ← e, ← Int.add_emod_right, Int.emod_eq_of_lt (by omega) (by omega)]
  · rw [← b1, ← e, Int.emod_eq_of_lt (by omega) (by omega)]

set_option maxHeartbeats 1000000 in
theorem mod_any (v n : Int) (w : World) (h1 : 1 ≤ n) (h2 : n ≤ 1000000000) :
    Calls Tryd.prog 7 #[.int .i64 v, .int .i64 n] w fun e w' => e = .returned (.int .i64 (v % n)) ∧ w = w' := by
  have HM := Lib.hid (emod_of_tmod v n h1)
  have a1 := Int.tmod_lt_of_pos v (show 0 < n by omega)
  have a2 : -n < v.tmod n := by
    have := Int.tmod_lt_of_pos (-v) (show 0 < n by omega)
    rw [Int.neg_tmod] at this
    omega
  have n0 : n ≠ 0 := by omega
  have w1 : IntKind.i64.wrap (v.tmod n) = v.tmod n := IntWalk.i64_in _ (by omega)
  by_cases h : v.tmod n < 0
  · rw [if_pos h] at HM
    have d0 : decide (v.tmod n < 0) = true := by simpa using h
    have w2 : IntKind.i64.wrap (v.tmod n + n) = v.tmod n + n := IntWalk.i64_in _ (by omega)
    go_enter Tryd.func7, Tryd.ntmps7
    go_wp2_with fail
    go_ret
    exact ⟨congrArg (fun x => Ending.returned (.int .i64 x)) HM.out, rfl⟩
  · rw [if_neg h] at HM
    have d0 : decide (v.tmod n < 0) = false := by simpa using h
    go_enter Tryd.func7, Tryd.ntmps7
    go_wp2_with fail
    go_ret
    exact ⟨congrArg (fun x => Ending.returned (.int .i64 x)) HM.out, rfl⟩

theorem tmod_i64 (v : Int) : -1000000 < v.tmod 1000000 ∧ v.tmod 1000000 < 1000000 := by
  have a1 := Int.tmod_lt_of_pos v (show 0 < (1000000 : Int) by omega)
  have a2 := Int.tmod_lt_of_pos (-v) (show 0 < (1000000 : Int) by omega)
  rw [Int.neg_tmod] at a2
  omega

set_option maxHeartbeats 8000000 in
theorem lawReplies (a : ActD) (err0 seq0 item0 : Int) (val : ByteArray) (kind seq item bad : Int) (w : World) (he : Env w) :
    Calls Tryd.prog 3 #[.agg a.cells, repV err0 seq0 item0 val, .int .i64 kind, .int .i64 seq, .int .i64 item, .int .i64 bad] w fun e w' => e = .returned (.bool true) ∧ Below w.heap.size w w' := by
  have hsq := tmod_i64 seq
  have hit := tmod_i64 item
  have hbd : 0 ≤ bad % 45 ∧ bad % 45 < 45 := by omega
  have ws : IntKind.i64.wrap (seq.tmod 1000000) = seq.tmod 1000000 := IntWalk.i64_in _ (by omega)
  have wi : IntKind.i64.wrap (item.tmod 1000000) = item.tmod 1000000 := IntWalk.i64_in _ (by omega)
  simp only [ActD.cells, repV]
  go_enter Tryd.func3, Tryd.ntmps3
  go_wp2_with fail
  generalize hWe : (w.alloc (Obj.cells _ 25)).alloc (Obj.cells _ 28) = W
  have hbW : Below w.heap.size w W := by rw [← hWe]; exact (Below.refl _ _).alloc (Nat.le_refl _) _ |>.alloc (by simp) _
  have hWs : W.heap.size = w.heap.size + 2 := by rw [← hWe]; simp
  have BA : Blk W w.heap.size 25 a.cells := by rw [← hWe]; exact (Blk.new w _ _).alloc _
  have BR : Blk W (w.heap.size + 1) 28 #[.int .i64 err0, .int .i64 seq0, .int .i64 item0, .string val] := by rw [← hWe]; exact Blk.newAt _ _ _ _ (by simp)
  refine (awake_any W (he.below hbW)).mono ?_
  rintro e w1 ⟨rfl, hb1⟩
  have HB1 := Lib.hid (hbW.trans (hb1.mono hbW.size))
  have HA1 := Lib.hid (BA.below hb1 (by omega))
  have HR1 := Lib.hid (BR.below hb1 (by omega))
  clear hb1 hbW hWe BA BR hWs
  have c3 : w1.cell? ⟨w.heap.size + 1, 3, none⟩ = some (.string val) := HR1.out.cell 3
  by_cases hv : 300 < val.size
  · have d0 : decide (300 < val.size) = true := by simpa using hv
    go_wp2_with fail
    go_ret
    exact ⟨rfl, HB1.out⟩
  have d0 : decide (300 < val.size) = false := by simpa using hv
  have c0 : w1.cell? ⟨w.heap.size, 0, none⟩ = some (.int .i64 a.kind) := HA1.out.cell 0
  have f0 := HA1.out.free 0
  go_wp2_with fail
  refine (mod_any _ _ _ (by omega) (by omega)).mono ?_
  rintro e w2 ⟨rfl, rfl⟩
  go_wp2_with fail
  refine (mod_any _ _ _ (by omega) (by omega)).mono ?_
  rintro e w3 ⟨rfl, rfl⟩
  have r0 : w1.cell? ⟨w.heap.size + 1, 0, none⟩ = some (.int .i64 err0) := HR1.out.cell 0
  have r1 : w1.cell? ⟨w.heap.size + 1, 1, none⟩ = some (.int .i64 seq0) := HR1.out.cell 1
  have r2 : w1.cell? ⟨w.heap.size + 1, 2, none⟩ = some (.int .i64 item0) := HR1.out.cell 2
  have fr0 := HR1.out.free 0
  have fr1 := HR1.out.free 1
  have fr2 := HR1.out.free 2
  go_wp2_with fail
  generalize hWe : ((((w1.setCell _ _).setCell _ _).setCell _ _).setCell _ _) = W4
  have HA4 := Lib.hid (show Blk W4 w.heap.size 25 ({ a with kind := kind % 20 } : ActD).cells by
    rw [← hWe]
    exact (((HA1.out.put 0 _).far (by simp) _).far (by simp) _).far (by simp) _)
  have HR4 := Lib.hid (show Blk W4 (w.heap.size + 1) 28 #[.int .i64 (bad % 45), .int .i64 (seq.tmod 1000000), .int .i64 (item.tmod 1000000), .string val] by
    rw [← hWe]
    exact ((((HR1.out.far (by simp) _).put 1 _).put 2 _).put 0 _))
  have hb4 : Below w.heap.size w W4 := by
    rw [← hWe]
    exact (((HB1.out.setCell (by simp) _).setCell (by simp) _).setCell (by simp) _).setCell (by simp) _
  have hs4 : w.heap.size + 2 ≤ W4.heap.size := by have := HR4.out.lt; omega
  have HB4 := Lib.hid hb4
  have HE4 := Lib.hid (he.below hb4)
  clear hWe hb4 c0 c3 f0 r0 r1 r2 fr0 fr1 fr2
  have k0 : ∀ d os, (Go.Sort.grow (redrawn W4 d) os).cell? ⟨w.heap.size, 0, none⟩ = some (.int .i64 (kind % 20)) := fun d os => cell_regrown ((HA4.out).cell 0) d os
  have k1 : ∀ d os, (Go.Sort.grow (redrawn W4 d) os).cell? ⟨w.heap.size, 1, none⟩ = some (.int .i64 a.a) := fun d os => cell_regrown ((HA4.out).cell 1) d os
  have k2 : ∀ d os, (Go.Sort.grow (redrawn W4 d) os).cell? ⟨w.heap.size, 2, none⟩ = some (.int .i64 a.b) := fun d os => cell_regrown ((HA4.out).cell 2) d os
  have k3 : ∀ d os, (Go.Sort.grow (redrawn W4 d) os).cell? ⟨w.heap.size, 3, none⟩ = some (.int .i64 a.n) := fun d os => cell_regrown ((HA4.out).cell 3) d os
  have k4 : ∀ d os, (Go.Sort.grow (redrawn W4 d) os).cell? ⟨w.heap.size, 4, none⟩ = some (.int .i64 a.tenant) := fun d os => cell_regrown ((HA4.out).cell 4) d os
  have k5 : ∀ d os, (Go.Sort.grow (redrawn W4 d) os).cell? ⟨w.heap.size, 5, none⟩ = some (.int .i64 a.client) := fun d os => cell_regrown ((HA4.out).cell 5) d os
  have k6 : ∀ d os, (Go.Sort.grow (redrawn W4 d) os).cell? ⟨w.heap.size, 6, none⟩ = some (.int .i64 a.number) := fun d os => cell_regrown ((HA4.out).cell 6) d os
  have k7 : ∀ d os, (Go.Sort.grow (redrawn W4 d) os).cell? ⟨w.heap.size, 7, none⟩ = some (.int .i64 a.op) := fun d os => cell_regrown ((HA4.out).cell 7) d os
  have k8 : ∀ d os, (Go.Sort.grow (redrawn W4 d) os).cell? ⟨w.heap.size, 8, none⟩ = some (.int .i64 a.item) := fun d os => cell_regrown ((HA4.out).cell 8) d os
  have k9 : ∀ d os, (Go.Sort.grow (redrawn W4 d) os).cell? ⟨w.heap.size, 9, none⟩ = some (.string ⟨a.key.toArray⟩) := fun d os => cell_regrown ((HA4.out).cell 9) d os
  have k10 : ∀ d os, (Go.Sort.grow (redrawn W4 d) os).cell? ⟨w.heap.size, 10, none⟩ = some (.string ⟨a.value.toArray⟩) := fun d os => cell_regrown ((HA4.out).cell 10) d os
  have m0 : ∀ d os, (Go.Sort.grow (redrawn W4 d) os).cell? ⟨w.heap.size + 1, 0, none⟩ = some (.int .i64 (bad % 45)) := fun d os => cell_regrown ((HR4.out).cell 0) d os
  have m1 : ∀ d os, (Go.Sort.grow (redrawn W4 d) os).cell? ⟨w.heap.size + 1, 1, none⟩ = some (.int .i64 (seq.tmod 1000000)) := fun d os => cell_regrown ((HR4.out).cell 1) d os
  have m2 : ∀ d os, (Go.Sort.grow (redrawn W4 d) os).cell? ⟨w.heap.size + 1, 2, none⟩ = some (.int .i64 (item.tmod 1000000)) := fun d os => cell_regrown ((HR4.out).cell 2) d os
  have m3 : ∀ d os, (Go.Sort.grow (redrawn W4 d) os).cell? ⟨w.heap.size + 1, 3, none⟩ = some (.string val) := fun d os => cell_regrown ((HR4.out).cell 3) d os
  refine wp_region_quiet_below (by kernel_rfl) (by kernel_rfl) ?_
  repeat (go_big_quiet_step ((first
    | (go_at_call 8; exact Calls.regrown_of (reply_any { a with kind := kind % 20 } (bad % 45) _ _ val _ (by exact HE4.out.below (below_regrown W4 _ _)) ⟨by omega, by omega⟩ ⟨by omega, by omega⟩ ⟨by omega, by omega⟩ (by omega)))
    | (go_at_call 9; exact Calls.regrown_of (rreply_any { a with kind := kind % 20 } (bad % 45) _ _ val _ ⟨by omega, by omega⟩ ⟨by omega, by omega⟩ ⟨by omega, by omega⟩ (by omega))))))
  refine wpQuiet_nil ?_
  rintro _ ⟨⟨dq, osq⟩, rfl⟩
  have hb5 := below_regrown W4 dq osq
  have HB5 := Lib.hid (HB4.out.trans (hb5.mono HB4.out.size))
  have HA5 := Lib.hid (HA4.out.below hb5 (by omega))
  have HR5 := Lib.hid (HR4.out.below hb5 (by omega))
  clear hb5 k0 k1 k2 k3 k4 k5 k6 k7 k8 k9 k10 m0 m1 m2 m3
  generalize Go.Sort.grow (redrawn W4 dq) osq = W5 at *
  have r0 : W5.cell? ⟨w.heap.size + 1, 0, none⟩ = some (.int .i64 (bad % 45)) := HR5.out.cell 0
  have c0 : W5.cell? ⟨w.heap.size, 0, none⟩ = some (.int .i64 (kind % 20)) := HA5.out.cell 0
  have f0 := HA5.out.free 0
  have fr0 := HR5.out.free 0
  go_wp2_with fail
  generalize hWe : ((W5.setCell _ _).setCell _ _) = W6
  have HA6 := Lib.hid (show Blk W6 w.heap.size 25 ({ a with kind := 2 } : ActD).cells by
    rw [← hWe]
    exact (HA5.out.far (by simp) _).put 0 _)
  have HR6 := Lib.hid (show Blk W6 (w.heap.size + 1) 28 #[.int .i64 0, .int .i64 (seq.tmod 1000000), .int .i64 (item.tmod 1000000), .string val] by
    rw [← hWe]
    exact (HR5.out.put 0 _).far (by simp) _)
  have hb6 : Below w.heap.size w W6 := by
    rw [← hWe]
    exact (HB5.out.setCell (by simp) _).setCell (by simp) _
  have HB6 := Lib.hid hb6
  have HE6 := Lib.hid (he.below hb6)
  clear hWe hb6 c0 f0 r0 fr0
  have k0 : ∀ d os, (Go.Sort.grow (redrawn W6 d) os).cell? ⟨w.heap.size, 0, none⟩ = some (.int .i64 2) := fun d os => cell_regrown ((HA6.out).cell 0) d os
  have k1 : ∀ d os, (Go.Sort.grow (redrawn W6 d) os).cell? ⟨w.heap.size, 1, none⟩ = some (.int .i64 a.a) := fun d os => cell_regrown ((HA6.out).cell 1) d os
  have k2 : ∀ d os, (Go.Sort.grow (redrawn W6 d) os).cell? ⟨w.heap.size, 2, none⟩ = some (.int .i64 a.b) := fun d os => cell_regrown ((HA6.out).cell 2) d os
  have k3 : ∀ d os, (Go.Sort.grow (redrawn W6 d) os).cell? ⟨w.heap.size, 3, none⟩ = some (.int .i64 a.n) := fun d os => cell_regrown ((HA6.out).cell 3) d os
  have k4 : ∀ d os, (Go.Sort.grow (redrawn W6 d) os).cell? ⟨w.heap.size, 4, none⟩ = some (.int .i64 a.tenant) := fun d os => cell_regrown ((HA6.out).cell 4) d os
  have k5 : ∀ d os, (Go.Sort.grow (redrawn W6 d) os).cell? ⟨w.heap.size, 5, none⟩ = some (.int .i64 a.client) := fun d os => cell_regrown ((HA6.out).cell 5) d os
  have k6 : ∀ d os, (Go.Sort.grow (redrawn W6 d) os).cell? ⟨w.heap.size, 6, none⟩ = some (.int .i64 a.number) := fun d os => cell_regrown ((HA6.out).cell 6) d os
  have k7 : ∀ d os, (Go.Sort.grow (redrawn W6 d) os).cell? ⟨w.heap.size, 7, none⟩ = some (.int .i64 a.op) := fun d os => cell_regrown ((HA6.out).cell 7) d os
  have k8 : ∀ d os, (Go.Sort.grow (redrawn W6 d) os).cell? ⟨w.heap.size, 8, none⟩ = some (.int .i64 a.item) := fun d os => cell_regrown ((HA6.out).cell 8) d os
  have k9 : ∀ d os, (Go.Sort.grow (redrawn W6 d) os).cell? ⟨w.heap.size, 9, none⟩ = some (.string ⟨a.key.toArray⟩) := fun d os => cell_regrown ((HA6.out).cell 9) d os
  have k10 : ∀ d os, (Go.Sort.grow (redrawn W6 d) os).cell? ⟨w.heap.size, 10, none⟩ = some (.string ⟨a.value.toArray⟩) := fun d os => cell_regrown ((HA6.out).cell 10) d os
  have m0 : ∀ d os, (Go.Sort.grow (redrawn W6 d) os).cell? ⟨w.heap.size + 1, 0, none⟩ = some (.int .i64 0) := fun d os => cell_regrown ((HR6.out).cell 0) d os
  have m1 : ∀ d os, (Go.Sort.grow (redrawn W6 d) os).cell? ⟨w.heap.size + 1, 1, none⟩ = some (.int .i64 (seq.tmod 1000000)) := fun d os => cell_regrown ((HR6.out).cell 1) d os
  have m2 : ∀ d os, (Go.Sort.grow (redrawn W6 d) os).cell? ⟨w.heap.size + 1, 2, none⟩ = some (.int .i64 (item.tmod 1000000)) := fun d os => cell_regrown ((HR6.out).cell 2) d os
  have m3 : ∀ d os, (Go.Sort.grow (redrawn W6 d) os).cell? ⟨w.heap.size + 1, 3, none⟩ = some (.string val) := fun d os => cell_regrown ((HR6.out).cell 3) d os
  refine wp_region_quiet_below (by kernel_rfl) (by kernel_rfl) ?_
  repeat (go_big_quiet_step ((first
    | (go_at_call 8; exact Calls.regrown_of (reply_any { a with kind := 2 } 0 _ _ val _ (by exact HE6.out.below (below_regrown W6 _ _)) ⟨by omega, by omega⟩ ⟨by omega, by omega⟩ ⟨by omega, by omega⟩ (by omega)))
    | (go_at_call 9; exact Calls.regrown_of (rreply_any { a with kind := 2 } 0 _ _ val _ ⟨by omega, by omega⟩ ⟨by omega, by omega⟩ ⟨by omega, by omega⟩ (by omega))))))
  refine wpQuiet_nil ?_
  rintro _ ⟨⟨dq2, osq2⟩, rfl⟩
  have HB7 := Lib.hid (HB6.out.trans ((below_regrown W6 dq2 osq2).mono HB6.out.size))
  clear k0 k1 k2 k3 k4 k5 k6 k7 k8 k9 k10 m0 m1 m2 m3
  generalize Go.Sort.grow (redrawn W6 dq2) osq2 = W7 at *
  go_wp2_with fail
  go_ret
  exact ⟨rfl, HB7.out⟩

end Go.Proofs.YtcgcfeablbjnaaaDoor
