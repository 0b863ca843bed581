/- awake. -/
import Derived.Test.YtcgcfeablbjnaaaDoorScrJ
namespace Go.Proofs.YtcgcfeablbjnaaaDoor
open Go.RowKit Go.BigFrame

def txt1 : ByteArray := { data := #[116, 105, 99, 107, 32, 51, 10, 112, 117, 116, 32, 48, 32, 48, 32, 49, 32, 49, 32, 54, 49, 32, 46, 10] }
def txt2 : ByteArray := { data := #[116, 105, 99, 107, 32, 48, 51] }
def actTick3 : ActD := ⟨1, 0, 0, 3, 0, 0, 0, 0, 0, [], []⟩
def actPut : ActD := ⟨2, 0, 0, 0, 0, 1, 1, 2, 0, [97], []⟩
theorem parse1 : parseRes txt1.data.toList = ([actTick3, actPut], 2, 0) := by kernel_rfl
theorem parse2 : parseRes txt2.data.toList = ([], 0, 1) := by kernel_rfl
theorem reply1 : replyL 2 0 1 0 [] = [111, 107, 32, 49, 32, 48, 32, 46, 10] := by kernel_rfl

theorem rows_of_own {w : World} {A : Option Addr} {xs : List Value} {base : Nat} {e : TypeId} {m n c : Nat} (h : w.ownsRow base e m (.slice A n c) n xs) (hp : 0 < n) : ∃ g, A = some ⟨g, 0, none⟩ ∧ g < w.heap.size ∧ ∀ j u, xs[j]? = some u → w.cell? ⟨g, j, none⟩ = some u := by
  rcases h.2 with ⟨h1, h2⟩ | ⟨g, cap, cur, h1, _, hh, _⟩
  · omega
  · have hA : A = some ⟨g, 0, none⟩ := by injection h1
    subst hA
    exact ⟨g, rfl, Blk.lt (t := e) hh, fun j u hu => by
      have := h.cells (g := g) rfl j u hu
      rwa [show (⟨g, 0, none⟩ : Addr).add j = ⟨g, j, none⟩ by cases j <;> simp [Addr.add]] at this⟩

theorem rep1 (w : World) (he : Env w) : Calls Tryd.prog 8 #[.agg #[.int .i64 2, .int .i64 0, .int .i64 0, .int .i64 0, .int .i64 0, .int .i64 1, .int .i64 1, .int .i64 2, .int .i64 0, .string { data := #[97] }, .string { data := #[] }], .agg #[.int .i64 0, .int .i64 1, .int .i64 0, .string { data := #[] }]] w fun e w' => e = .returned (.string { data := #[111, 107, 32, 49, 32, 48, 32, 46, 10] }) ∧ Below w.heap.size w w' := by
  have := reply_any actPut 0 1 0 ⟨#[]⟩ w he ⟨by decide, by decide⟩ ⟨by decide, by decide⟩ ⟨by decide, by decide⟩ (by decide)
  rw [show actPut.kind = 2 from rfl, show (⟨#[]⟩ : ByteArray).data.toList = [] from rfl, reply1] at this
  exact this

set_option maxHeartbeats 4000000 in
theorem awake_any (w : World) (he : Env w) : Calls Tryd.prog 6 #[] w fun e w' => e = .returned (.bool true) ∧ Below w.heap.size w w' := by
  have P1 := fun W (h : MaxOk W) => parse_any txt1 W h
  have P2 := fun W (h : MaxOk W) => parse_any txt2 W h
  rw [parse1] at P1
  rw [parse2] at P2
  unfold txt1 at P1
  unfold txt2 at P2
  have HP1 := Lib.hid P1
  have HP2 := Lib.hid P2
  clear P1 P2
  go_enter Tryd.func6, Tryd.ntmps6
  go_wp2_with fail
  refine (HP1.out _ he.max).mono ?_
  rintro e w1 ⟨v1, rfl, ho1, hb1⟩
  have HO1 := Lib.hid ho1
  have HB1 := Lib.hid hb1
  clear ho1 hb1
  obtain ⟨A1, c1, rfl⟩ := own_form HO1.out
  go_wp2_with fail
  refine (HP2.out _ (he.max.below HB1.out)).mono ?_
  rintro e w2 ⟨v2, rfl, ho2, hb2⟩
  have HO2 := Lib.hid (own_below HO1.out hb2)
  have HB2 := Lib.hid (HB1.out.trans (hb2.mono HB1.out.size))
  obtain ⟨A2, c2, rfl⟩ := own_form ho2
  clear ho2 hb2
  go_wp2_with fail
  generalize hWe : w2.alloc (Obj.cells _ 25) = W
  obtain ⟨g, hge, hgl, hR⟩ := rows_of_own HO2.out (by decide)
  subst hge
  have HF := Lib.hid (show ∀ (i : Nat) (v : Value), (actsCells [actTick3, actPut])[i]? = some v → W.cell? ⟨g, i, none⟩ = some v by
    intro i v hi
    rw [← hWe]
    exact (((Below.refl w2.heap.size w2).alloc (Nat.le_refl _) _).cell hgl).trans (hR i v hi))
  have HFP := Lib.hid (show ∀ (i : Nat) (v : Value), actPut.cells[i]? = some v → W.cell? ⟨w2.heap.size, i, none⟩ = some v by
    intro i v hi
    rw [← hWe]
    exact ((Blk.new w2 25 actPut.cells).cell i).trans hi)
  have hbW : Below w.heap.size w W := by rw [← hWe]; exact HB2.out.alloc HB2.out.size _
  have HEW := Lib.hid (he.below hbW)
  have HBW := Lib.hid hbW
  clear hbW hWe hR
  have k0 : ∀ d os, (Go.Sort.grow (redrawn W d) os).cell? ⟨g, 0, none⟩ = some (.int .i64 1) := fun d os => cell_regrown (HF.out 0 _ rfl) d os
  have k1 : ∀ d os, (Go.Sort.grow (redrawn W d) os).cell? ⟨g, 1, none⟩ = some (.int .i64 0) := fun d os => cell_regrown (HF.out 1 _ rfl) d os
  have k2 : ∀ d os, (Go.Sort.grow (redrawn W d) os).cell? ⟨g, 2, none⟩ = some (.int .i64 0) := fun d os => cell_regrown (HF.out 2 _ rfl) d os
  have k3 : ∀ d os, (Go.Sort.grow (redrawn W d) os).cell? ⟨g, 3, none⟩ = some (.int .i64 3) := fun d os => cell_regrown (HF.out 3 _ rfl) d os
  have k4 : ∀ d os, (Go.Sort.grow (redrawn W d) os).cell? ⟨g, 4, none⟩ = some (.int .i64 0) := fun d os => cell_regrown (HF.out 4 _ rfl) d os
  have k5 : ∀ d os, (Go.Sort.grow (redrawn W d) os).cell? ⟨g, 5, none⟩ = some (.int .i64 0) := fun d os => cell_regrown (HF.out 5 _ rfl) d os
  have k6 : ∀ d os, (Go.Sort.grow (redrawn W d) os).cell? ⟨g, 6, none⟩ = some (.int .i64 0) := fun d os => cell_regrown (HF.out 6 _ rfl) d os
  have k7 : ∀ d os, (Go.Sort.grow (redrawn W d) os).cell? ⟨g, 7, none⟩ = some (.int .i64 0) := fun d os => cell_regrown (HF.out 7 _ rfl) d os
  have k8 : ∀ d os, (Go.Sort.grow (redrawn W d) os).cell? ⟨g, 8, none⟩ = some (.int .i64 0) := fun d os => cell_regrown (HF.out 8 _ rfl) d os
  have k9 : ∀ d os, (Go.Sort.grow (redrawn W d) os).cell? ⟨g, 9, none⟩ = some (.string { data := #[] }) := fun d os => cell_regrown (HF.out 9 _ rfl) d os
  have k10 : ∀ d os, (Go.Sort.grow (redrawn W d) os).cell? ⟨g, 10, none⟩ = some (.string { data := #[] }) := fun d os => cell_regrown (HF.out 10 _ rfl) d os
  have k11 : ∀ d os, (Go.Sort.grow (redrawn W d) os).cell? ⟨g, 11, none⟩ = some (.int .i64 2) := fun d os => cell_regrown (HF.out 11 _ rfl) d os
  have k12 : ∀ d os, (Go.Sort.grow (redrawn W d) os).cell? ⟨g, 12, none⟩ = some (.int .i64 0) := fun d os => cell_regrown (HF.out 12 _ rfl) d os
  have k13 : ∀ d os, (Go.Sort.grow (redrawn W d) os).cell? ⟨g, 13, none⟩ = some (.int .i64 0) := fun d os => cell_regrown (HF.out 13 _ rfl) d os
  have k14 : ∀ d os, (Go.Sort.grow (redrawn W d) os).cell? ⟨g, 14, none⟩ = some (.int .i64 0) := fun d os => cell_regrown (HF.out 14 _ rfl) d os
  have k15 : ∀ d os, (Go.Sort.grow (redrawn W d) os).cell? ⟨g, 15, none⟩ = some (.int .i64 0) := fun d os => cell_regrown (HF.out 15 _ rfl) d os
  have k16 : ∀ d os, (Go.Sort.grow (redrawn W d) os).cell? ⟨g, 16, none⟩ = some (.int .i64 1) := fun d os => cell_regrown (HF.out 16 _ rfl) d os
  have k17 : ∀ d os, (Go.Sort.grow (redrawn W d) os).cell? ⟨g, 17, none⟩ = some (.int .i64 1) := fun d os => cell_regrown (HF.out 17 _ rfl) d os
  have k18 : ∀ d os, (Go.Sort.grow (redrawn W d) os).cell? ⟨g, 18, none⟩ = some (.int .i64 2) := fun d os => cell_regrown (HF.out 18 _ rfl) d os
  have k19 : ∀ d os, (Go.Sort.grow (redrawn W d) os).cell? ⟨g, 19, none⟩ = some (.int .i64 0) := fun d os => cell_regrown (HF.out 19 _ rfl) d os
  have k20 : ∀ d os, (Go.Sort.grow (redrawn W d) os).cell? ⟨g, 20, none⟩ = some (.string { data := #[97] }) := fun d os => cell_regrown (HF.out 20 _ rfl) d os
  have k21 : ∀ d os, (Go.Sort.grow (redrawn W d) os).cell? ⟨g, 21, none⟩ = some (.string { data := #[] }) := fun d os => cell_regrown (HF.out 21 _ rfl) d os
  have p0 : ∀ d os, (Go.Sort.grow (redrawn W d) os).cell? ⟨w2.heap.size, 0, none⟩ = some (.int .i64 2) := fun d os => cell_regrown (HFP.out 0 _ rfl) d os
  have p1 : ∀ d os, (Go.Sort.grow (redrawn W d) os).cell? ⟨w2.heap.size, 1, none⟩ = some (.int .i64 0) := fun d os => cell_regrown (HFP.out 1 _ rfl) d os
  have p2 : ∀ d os, (Go.Sort.grow (redrawn W d) os).cell? ⟨w2.heap.size, 2, none⟩ = some (.int .i64 0) := fun d os => cell_regrown (HFP.out 2 _ rfl) d os
  have p3 : ∀ d os, (Go.Sort.grow (redrawn W d) os).cell? ⟨w2.heap.size, 3, none⟩ = some (.int .i64 0) := fun d os => cell_regrown (HFP.out 3 _ rfl) d os
  have p4 : ∀ d os, (Go.Sort.grow (redrawn W d) os).cell? ⟨w2.heap.size, 4, none⟩ = some (.int .i64 0) := fun d os => cell_regrown (HFP.out 4 _ rfl) d os
  have p5 : ∀ d os, (Go.Sort.grow (redrawn W d) os).cell? ⟨w2.heap.size, 5, none⟩ = some (.int .i64 1) := fun d os => cell_regrown (HFP.out 5 _ rfl) d os
  have p6 : ∀ d os, (Go.Sort.grow (redrawn W d) os).cell? ⟨w2.heap.size, 6, none⟩ = some (.int .i64 1) := fun d os => cell_regrown (HFP.out 6 _ rfl) d os
  have p7 : ∀ d os, (Go.Sort.grow (redrawn W d) os).cell? ⟨w2.heap.size, 7, none⟩ = some (.int .i64 2) := fun d os => cell_regrown (HFP.out 7 _ rfl) d os
  have p8 : ∀ d os, (Go.Sort.grow (redrawn W d) os).cell? ⟨w2.heap.size, 8, none⟩ = some (.int .i64 0) := fun d os => cell_regrown (HFP.out 8 _ rfl) d os
  have p9 : ∀ d os, (Go.Sort.grow (redrawn W d) os).cell? ⟨w2.heap.size, 9, none⟩ = some (.string { data := #[97] }) := fun d os => cell_regrown (HFP.out 9 _ rfl) d os
  have p10 : ∀ d os, (Go.Sort.grow (redrawn W d) os).cell? ⟨w2.heap.size, 10, none⟩ = some (.string { data := #[] }) := fun d os => cell_regrown (HFP.out 10 _ rfl) d os
  refine wp_region_quiet_below (by kernel_rfl) (by kernel_rfl) ?_
  repeat (go_big_quiet_step ((go_at_call 8; exact Calls.regrown_of (rep1 _ (by exact HEW.out.below (below_regrown W _ _))))))
  refine wpQuiet_nil ?_
  rintro _ ⟨⟨dq, osq⟩, rfl⟩
  have HB3 := Lib.hid (HBW.out.trans ((below_regrown W dq osq).mono HBW.out.size))
  clear k0 k1 p1
  go_wp2_with fail
  go_ret
  exact ⟨rfl, HB3.out⟩

end Go.Proofs.YtcgcfeablbjnaaaDoor
